/- Part of the proofs: an abstract program logic, plain models and contracts of functions. -/
import Derived.Test.YtboammbpdaoojaaGreatPg
import Derived.Test.YtboammbpdaoojaaGreatPd
import Derived.Test.YtboammbpdaoojaaGreatPe
import Derived.Test.YtboammbpdaoojaaGreatPb
set_option linter.unusedVariables false
set_option linter.unusedSimpArgs false
set_option maxRecDepth 100000
namespace Go.Proofs.YtboammbpdaoojaaGreat
open Go.Abs Go.Eu
theorem S7:∀(t:FJ) (nm:ByteArray),(t.branches.length<2000000)→Ec Tryz.prog 97 [.agg ((Ct t).map .p),.p (.str nm)] (.tup [.agg ((Ct ((bM nm t.branches).1)).map .p),.p (.bool ((bM nm t.branches).2))]):=by
 intro t nm h1;refine A6 Tryz.func97 O qv (n:=28) O O (Az (BG O (BP O) fun b2=>BG O (BP O) fun b3=>BG O (A8 Vc O) fun b4=>As Ay 1 [] O (Az (Ar O (A0 FP O O) (Ar O (A3 (i:=2) KE O O (CG _)) (Ar O (Ef O O) (Ar O (B8 [1] O (.inl ⟨O,O,O⟩) (lf b3 nm t.branches h1) ⟨_,_,O,O,O⟩ An O (.inl O)) (As Ay 1 [] O (Au (Az (Ax Ay 3 [] O (BL 13 O (fun g=>?_) (fun g=>?_)))))))))))))
 ·(try simp only[sd,se] at g);have hbn:=eD (by simpa using g);refine As Ay 7 [] O ?_;refine Aw O (fun c=>?_) (fun c=>by cases c);refine Av Ay 3 [0,0] O (BI (BT (i:=0) O) (A1 (⟨O,_,_,⟨_,_,O,(BB (i:=0) Iv O O O),⟨_,_,O,O,O⟩⟩,(List.nil_sublist _),?_⟩)))
  all_goals exact⟨by show (.tup [.agg [.p (I 0),.p (I 0),.p (I 0),.p (.str ⟨#[]⟩),.p (.lst []),.p (.lst []),.p (I 0),.p (.lst [])],.p (.bool false)]:AV)=_;rw[cr hbn];rfl,rfl⟩
 (try simp only[sd,se] at g);obtain⟨bx,hbx,hbr⟩:=lC (nm:=nm) (l:=t.branches) (by simpa using g);refine BC O (A0 FP O O) (BC O (A3 (i:=2) KE O O (CG _)) (BC O (BZ O) (BC O (A5 Jb O O Ao (FZ hbx) (DT _)) (BC O (Bv IU O O) (BC O (C0 ml O (GM _)) (As Ay 1 [] O (Aw O (fun c=>?_) (fun c=>?_))))))))
 ·(try simp only[sd,se] at c);refine Av Ay 3 [0,0] O (BI (BT (i:=0) O) (A1 (⟨O,_,_,⟨_,_,O,(BB (i:=0) Iv O O O),⟨_,_,O,O,O⟩⟩,(List.nil_sublist _),?_⟩)))
  all_goals exact⟨by show (.tup [.agg [.p (I 0),.p (I 0),.p (I 0),.p (.str ⟨#[]⟩),.p (.lst []),.p (.lst []),.p (I 0),.p (.lst [])],.p (.bool false)]:AV)=_;rw[cr (by rw[hbr,if_pos (by simpa using c)])];rfl,rfl⟩
 (try simp only[sd,se] at c);refine A2 (Az (Ar O (A0 FP O O) (Ar O (A3 (i:=2) KE O O (CG _)) (Bt O (Ar O (A5 Jb O O Ao (FZ hbx) (DT _)) (Ar O (Bv IU O O) (Ar O (DA Iv O (Ft _) (Cn _)) (As Ay 2 [0,1] O (A1 (⟨O,_,_,⟨_,_,O,(BB (i:=0) Iv O O (by simp[Cn])),⟨_,_,O,O,O⟩⟩,(List.nil_sublist _),?_⟩))))))))))
 all_goals exact⟨by show (.tup [.agg ((Ct bx.tree).map .p),.p (.bool true)]:AV)=_;rw[e6 (by rw[hbr,if_neg (by simpa using c)])],rfl⟩
theorem Zw:∀(t:FJ) (nm:ByteArray),(t.branches.length<2000000)→Ec Tryz.prog 87 [.agg ((Ct t).map .p),.p (.str nm)] (.tup [.agg ((Ct ((YL nm t.branches).1)).map .p),.p (.bool ((YL nm t.branches).2))]):=by
 intro t nm h1;refine A6 Tryz.func87 O sL (n:=36) O O (Az (BG O (BP O) fun b2=>BG O (A8 Vc O) fun b4=>As Ay 1 [] O (Au (Av Ay 1 [] O (BA (Be (α:=Nat) (fun i=>⟨36,mk [(1,.p (.str nm)),(2,.ptr b2 0),(4,.ptr b4 0),(6,.p (I (i:Int)))],[.box b4 [.p (I 0),.p (I 0),.p (I 0),.p (.str ⟨#[]⟩),.p (.nils),.p (.nils),.p (I 0),.p (.nils)],.box b2 ((Ct t).map .p)],[]⟩) (fun i=>t.branches.length - i) (fun i=>i≤t.branches.length∧(YL nm (t.branches.drop i)=YL nm t.branches)) 0 (⟨by omega,rfl⟩) ?_ ?_))))))
 ·exact BY ⟨we O,we O,we O,we O,Aq⟩ (leH (is:=[0,1]) O (wl (oe O) (wl (oe O) (C7))))
 rintro i hC
 try simp only at hC
 obtain⟨hi,hC⟩:=hC;refine Au (Az (Ax Ay 2 [] O (Ar O (A3 (i:=1) KE O O (CG _)) (Ar O (BM Jb O (F6 _)) (As Ay 1 [] O (Aw O (fun c=>?_) (fun c=>?_)))))))
 ·(try simp only[sd,se] at c);refine A2 (Au (BA (Az (Ar O (A0 FP O O) (Ar O (A3 (i:=1) KE O O (CG _)) (Bt O ?_))))));obtain⟨x,hx⟩:=A7 (l:=t.branches) (i:=i) Ao;refine Ar O (A5 Jb O O Ao (FZ hx) (DT _)) (Ar O (Bv IU O O) (Ar O (C0 Lu O (GZ _)) (Bt O (Ar O (F7 O O) (Bj O (Aw O (fun c1=>?_) (fun c1=>?_)))))))
  ·(try simp only[sd,se] at c1);refine Au (Bu (fun k=>false) Dt (BH O (fun _=>A0 FP O O) Aq (CX (j:=1) O O O (fun H i hi=>A3 (i:=i) KE O hi (CG _)) AB Aq (BH O (fun _=>BZ O) Aq (BH O (fun _=>A5 Jb O O Ao (FZ hx) (DT _)) Aq (BH O (fun _=>Bv IU O O) Aq (BH O (fun _=>DA Iv O (Ft _) (Cn _)) Aq (BH O (fun _=>A0 FP O O) Aq (CX (j:=1) O O O (fun H i hi=>A3 (i:=i) KE O hi (CG _)) AB Aq (BH O (fun _=>BZ O) Aq (BH O (fun _=>A5 Jb O O Ao (FZ hx) (DT _)) Aq (BH O (fun _=>Bv IU O O) Aq (BH O (fun _=>C0 ml O (GM _)) Aq (Bn Ay 3 [0,1] O (A1 ?_)))))))))))))));refine⟨O,_,_,⟨_,_,O,(BB (i:=0) Iv O O (by simp[Cn])),⟨_,_,O,O,O⟩⟩,(List.nil_sublist _),?_⟩
   all_goals exact⟨by show (.tup [.agg ((Ct x.tree).map .p),.p (.bool (!x.absurd))]:AV)=_;rw[←hC,ek hx,if_pos (Gq (by simpa using c1))],rfl⟩
  (try simp only[sd,se] at c1);refine A2 (A4 (As Ay 3 [] O ?_));refine⟨(i+1),AU,⟨by omega,by rw[←hC,ek hx,if_neg (fun e=>by simp[e] at c1)]⟩,BY ⟨we rfl,we rfl,we rfl,we rfl,trivial⟩ (leH (is:=[0,1]) rfl (wl (oe rfl) (wl (oe rfl) (C7))))⟩
 (try simp only[sd,se] at c);refine Bg (Av Ay 3 [0,0] O (BI (BT (i:=0) O) (A1 (⟨O,_,_,⟨_,_,O,(BB (i:=0) Iv O O O),⟨_,_,O,O,O⟩⟩,(List.nil_sublist _),?_⟩))))
 all_goals exact⟨by show (.tup [.agg [.p (I 0),.p (I 0),.p (I 0),.p (.str ⟨#[]⟩),.p (.lst []),.p (.lst []),.p (I 0),.p (.lst [])],.p (.bool false)]:AV)=_;rw[←hC,List.drop_eq_nil_of_le Ao];rfl,rfl⟩
theorem H8:∀(b:Nat) (c:EL) (t:Tm) (e:Int),(Nd t)→Bq Tryz.prog 40 [.ptr b 0,.agg ((BO t).map .p),.p (I e)] [.box b ((G6 c).map .p)] (GW (.agg ((BO t).map .p)) [.box b ((G6 (c.result t e)).map .p)]):=by
 intro b c t e h1;refine A6 Tryz.func40 O q8 (n:=28) O O (Az (BG O (BP O) fun b4=>BG O (A8 Bz O) fun b6=>Bj O (Az (Ax Ay 4 [2] O (Ar O (ED O O) (As Ay 3 [2,0] O (Au (Bu (fun k=>false) Dt (BQ Ay 5 [2,1] O (BH O (fun _=>BF O O (MS _ t (Nat.le_refl _) h1) O) Aq (BH O (fun _=>ED O O) Aq (Bn Ay 3 [2,0] O (Az (Ax Ay 3 [1] O (Ar O (B8 [2] O (.inl ⟨O,O,O⟩) (iZ b (EL.mk (wr ((c.steps:Int)+(1:Int))) (wr ((c.nodes:Int)+(Eo t:Int))) c.forms c.limit c.over) t e h1) ⟨_,_,O,O,O⟩ An O (.inl O)) (Bj O (Av Ay 2 [1,0,1] O (A1 (⟨O,_,_,⟨_,_,O,(BB (i:=0) Ba O O Ah),O⟩,(B4 (is:=[2]) O),?_⟩)))))))))))))))))))
 all_goals exact⟨rfl,rfl⟩
def qX (ds:List CK) (n:Nat):Prop:=∀(b:Nat) (t:Tm) (c c2:EL) (r:Tm),EF ds DD n c t= .ok (r,c2)→Bq Tryz.prog 14 [.p (.lst (List.map Bk ds)),.agg ((BO t).map .p),.ptr b 0] [.box b ((G6 c).map .p)] (GW (.agg ((BO r).map .p)) [.box b ((G6 c2).map .p)])
theorem _root_.Go.AO {α:Prop}(h:α:=by first | omega | (simp_all;done) | (simp_all;omega)):α:=h
theorem _root_.Go.AH {α:Prop}(h:α:=by first | (simp only[List.length_map,BS];omega) | (simp_all;done) | (simp_all;omega)):α:=h
theorem Wh:∀(n k:Nat) (ds:List CK) (t:FJ) (vs:List Tm) (b:Nat) (c c2:EL) (q:Option (Tm×List Tm)×Tm),(qX ds n)→(Ja ds)→(SO t vs)→(Ds ds DD (EF ds DD n) k t vs Bi c= .ok (q,c2))→Bq Tryz.prog 54 [.p (.lst (List.map Bk ds)),.agg ((Ct t).map .p),.p (.lst (BE vs)),.ptr b 0] [.box b ((G6 c).map .p)] (GW (.tup [.agg ((BO (I9 q)).map .p),.p (.lst (BE (ML q))),.p (.bool q.1.isSome),.agg ((BO q.2).map .p)]) [.box b ((G6 c2).map .p)]):=by
 intro n k ds t vs b c c2 q hW h2 h3 h4;have h3l:=h3.len;refine A6 Tryz.func54 O p9 (n:=87) O O (Az (BG O (BP O) fun b5=>BG O (A8 Bz O) fun b8=>Ax Ay 2 [] O (BG O (A8 Bz O) fun b11=>Bj O (Az (VV O (B3 (EG (t:=12) (sz:=5) O) (Bj O (Az (Ax Ay 2 [] O (FF O O (CQ (i:=0) (rows':=BE vs) Bf Bf Bz O O O O O O (Bw _) (by simp only[BS,List.length_nil];omega) (Jl [] vs)) fun o cp=>As Ay 1 [] O (Az (Ar O (CO G8 Bz O) (BG O (A8 Bz O) fun b13=>As Ay 1 [0,0] O (Au (BA ?_)))))))))))))));refine Be (α:=Nat×FJ×List Tm×Tm×EL×Option Nat×Nat) (fun(m,w,us,l,d,o1,cp1)=>⟨87,mk [(0,.p (.lst (List.map Bk ds))),(3,.ptr b 0),(5,.ptr b5 0),(8,.ptr b8 0),(11,.ptr b11 0),(12,.vs o1 (BE us).length cp1),(13,.ptr b13 0)],[.box b13 ((BO l).map .p),.vec o1 5 (BE us) cp1,.box b11 [.p (I 0),.p (I 0),.p (.str ⟨#[]⟩),.p (.nils),.p (.nils)],.box b8 [.p (I 0),.p (I 0),.p (.str ⟨#[]⟩),.p (.nils),.p (.nils)],.box b5 ((Ct w).map .p),.box b ((G6 d).map .p)],[]⟩) (fun(m,w,us,l,d,o1,cp1)=>m) (fun(m,w,us,l,d,o1,cp1)=>Ds ds DD (EF ds DD n) m w us l d= .ok (q,c2)∧SO w us) ⟨k,t,vs,Bi,c,o,cp⟩ (⟨h4,h3⟩) ?_ ?_
 ·exact BY ⟨we O,we O,we O,we O,we O,we O,we O,Aq⟩ (leH (is:=[0,1,2,3,4,5]) O (wl (on (O)) (wl (oe O) (wl (oe O) (wl (oe O) (wl (oe O) (wl (oe O) (C7))))))))
 rintro⟨m,w,us,l,d,o1,cp1⟩ hC
 try simp only at hC
 obtain⟨hC,hL⟩:=hC;obtain⟨k1,rfl⟩:=Tv hC Ap;refine Au (Az (Ar O (A0 FP O O) (Ar O (A3 (i:=4) DH O O (Gc _)) (As Ay 1 [] O (Aw O (fun c1=>?_) (fun c1=>?_))))))
 ·(try simp only[sd,se] at c1);have hk1:=c1;refine A2 (BA (Au (Au (BR [0,3,5,8,11,12,13] 41 (fun y=>y= .p (.bool (((decide ((w.var:Int)<(0:Int)))||(decide ((w.var:Int)≥((us.length:Nat):Int))))||d.over))) ?_ ?_))))
  ·refine A4 (Ar O (A0 FP O O) (Ar O (A3 (i:=4) DH O O (DK _)) (Ax Ay 2 [] O (BL 29 O (fun g=>?_) (fun g=>?_)))))
   ·(try simp only[sd,se] at g);exact As Ay 12 [] O (⟨O,O,AK,AI,⟨O,O,O,O,O,O,O,Aq⟩⟩)
   (try simp only[sd,se] at g);refine BC O (A0 FP O O) (BC O (A3 (i:=4) DH O O (DK _)) (BC O (BZ O) (BC O (KA Bf O (BS _)) (Ax Ay 3 [] O (BL 36 O (fun g1=>?_) (fun g1=>?_))))))
   ·(try simp only[sd,se] at g1);exact As Ay 5 [] O (⟨O,O,AK,AI,⟨O,O,O,O,O,O,O,Aq⟩⟩)
   (try simp only[sd,se] at g1);exact As Ay 5 [5] O (⟨O,O,AK,AI,⟨O,O,O,O,O,O,O,Aq⟩⟩)
  rintro _ rfl;refine Aw O (fun c3=>?_) (fun c3=>?_)
  ·(try simp only[sd,se] at c3);have hb:=(IL hk1 (by simpa [or_assoc,DD] using c3)).symm.trans hC;cases hb;refine Au (Bu (fun k=>false) Dt (Bn Ay 6 [0,3,0,2,1] O (BI (BT (i:=3) O) (BI (EB 9) (A1 (⟨O,_,_,⟨_,_,O,(BB (i:=3) Ba O O O),⟨_,_,O,O,⟨_,_,O,O,⟨_,_,O,(BB (i:=2) Ba O O Ah),O⟩⟩⟩⟩,(B4 (is:=[5]) O),?_⟩))))))
   all_goals exact⟨rfl,rfl⟩
  (try simp only[sd,se] at c3);have hcb:=c3;refine A2 (Az (Ax Ay 3 [] O (Ar O (A3 (i:=4) DH O O (DK _)) (MX (i:=1) O AZ fun b1 hb=>?_))));subst hb;refine Ar O (Cz Bf O O Ao AH) ?_;obtain⟨y,hy⟩:=A7 (l:=us) (i:=(w.var:Int).toNat) AO;refine Ar O (Ei (i:=1) Ba O O (Bc hy)) (Bt O ?_);obtain⟨⟨r,d2⟩,hr1,hr2,hr3⟩:=He ((Jf hk1 (by simpa [or_assoc,and_assoc,DD] using hcb) hy).symm.trans hC);refine Ar O (B8 [5] O (.inl ⟨O,O,O⟩) (hW b y (EL.mk d.steps d.nodes d.forms d.limit d.over) d2 r hr1) ⟨_,_,O,O,O⟩ An O (.inl O)) (As Ay 1 [0,1] O (Az (Ax Ay 2 [0] O (Ar O (BF O O (Vt ds r h2 hr2) O) (Ax Ay 5 [] O (BG O (A8 JK O) fun b14=>As Ay 4 [0,1] O (Au (Av Ay 2 [] O (Aw O (fun c4=>?_) (fun c4=>?_))))))))))
  ·(try simp only[sd,se] at c4);have hcn:=OB c4;rw[Fp hcn] at hr3;cases hr3;refine Au (Bu (fun k=>false) Dt (Bn Ay 6 [1,4,0,3,1] O (BI (BT (i:=4) O) (BI (EB 9) (A1 (⟨O,_,_,⟨_,_,O,(BB (i:=4) Ba O O O),⟨_,_,O,O,⟨_,_,O,O,⟨_,_,O,(BB (i:=3) Ba O O Ah),O⟩⟩⟩⟩,(B4 (is:=[6]) O),?_⟩))))))
   all_goals exact⟨rfl,rfl⟩
  (try simp only[sd,se] at c4);have hcs:=MK c4;have hcf:=Fs hcs;have hlo:=hcf.lo;have hhi:=hcf.hi;have hfl:=JI h2 hcs;refine A2 (Au (Bu (fun k=>Nat.beq k 11) Dt (BQ Ay 2 [5] O (CX (j:=0) O O O (fun H i hi=>A3 (i:=i) Hl O hi (CB _)) AB Aq (BH O (fun _=>BZ O) Aq ?_)))));obtain⟨x,hx⟩:=A7 (l:=((CL ds r).1).ctors) (i:=((CL ds r).2.1:Int).toNat) Ao;refine BH O (fun _=>A5 HN O O Ao (EX hx) (D8 _)) Aq (BH O (fun _=>Bv Ir O O) Aq (BH O (fun _=>C0 Lu O (Fl _)) Aq (BH O (fun _=>BF O O (Zw w x.name hL.tin.bl) O) Aq (BQ Ay 3 [] O (G9 [] O O (A8 Vc O) Ak fun b18=>⟨AB,Aq,?_⟩)))));refine Bn Ay 2 [0,1] O (Au (Av Ay 2 [] O (Aw O (fun c5=>?_) (fun c5=>?_))))
  ·(try simp only[sd,se] at c5);have hbn:=cA c5;rw[HV hcs (by rw[Ed,CJ hx];exact hbn)] at hr3;cases hr3;refine Au (Bu (fun k=>false) Dt (Bn Ay 6 [2,5,0,4,1] O (BI (BT (i:=5) O) (BI (EB 9) (A1 (⟨O,_,_,⟨_,_,O,(BB (i:=5) Ba O O O),⟨_,_,O,O,⟨_,_,O,O,⟨_,_,O,(BB (i:=4) Ba O O Ah),O⟩⟩⟩⟩,(B4 (is:=[7]) O),?_⟩))))))
   all_goals exact⟨rfl,rfl⟩
  (try simp only[sd,se] at c5);have hbs:=cJ c5;rw[Hc hcs (by rw[Ed,CJ hx];exact hbs)] at hr3;refine A2 (Av Ay 2 [0,6,1] O (A4 (Ax Ay 2 [] O (FF O O (CQ (i:=3) (rows':=BE ((CL ds r).2.2.1)) Bf Bf Bz O O O O O O (Bw _) (by have:=hL.len;simp only[BS,List.length_append];omega) (Jl us ((CL ds r).2.2.1))) fun o2 cp2=>As Ay 1 [] O (⟨⟨k1,(YL x.name w.branches).1,us++(CL ds r).2.2.1,r,d2,o2,cp2⟩,AU,⟨hr3,hL.next h2 hr2 hcs hbs⟩,BY ⟨we O,we O,we O,we O,we O,we O,we O,Aq⟩ (leH (is:=[2,3,4,5,6,7]) O (wl (oe O) (wl (oe O) (wl (oe O) (wl (oe O) (wl (oe O) (wl (oe O) (C7))))))))⟩)))))
 (try simp only[sd,se] at c1);have hk1:=c1;rw[HM hk1] at hC;cases hC;refine Bg (Az (Ar O (A0 FP O O) (Ar O (By (i:=4) Ba O O (E9 _) (BD _)) (As Ay 6 [3,1,2,0] O (BI (Cj (i:=1) [12,85,9] O (D6 ⟨O,O,O,Aq⟩)) (BI (BT (i:=1) O) (A1 (⟨O,_,_,⟨_,_,O,(BB (i:=2) Ba O O Ah),⟨_,_,O,O,⟨_,_,O,O,⟨_,_,O,(BB (i:=1) Ba O O O),O⟩⟩⟩⟩,(B4 (is:=[4]) O),?_⟩))))))))
 all_goals exact⟨rfl,rfl⟩
end Go.Proofs.YtboammbpdaoojaaGreat
namespace Go.Eu
open Go.Abs
section
variable {E:List CK}{σ:Type}{S:Sys σ}{W:σ→Tm→Out (Tm×σ)}{n:Nat}{h m:Tm}{a:List Tm}{s:σ}{d:CK}{x:GV}
theorem aG {a b:ByteArray}(h:¬a.toList=b.toList):a≠b:=fun e=>h (by rw[e])
theorem WB (hc:((CL E m).2.2.2=false∨¬(CL E m).1.name.toList=d.name.toList)∨(d.recs.rules.length:Int)≤(CL E m).2.1):E4 E S d h a m s= .ok (none,s):=by
 cases hk:(CL E m).2.2.2 with
 | false=>exact Mf (OB hk)
 | true =>
  refine QK (MK hk) ?_;rcases hc with (hc | hc) | hc
  ·rw[hk] at hc;cases hc
  ·exact .inl (aG hc)
  exact .inr hc
theorem Tf (hc:((CL E m).2.2.2=true∧(CL E m).1.name.toList=d.name.toList)∧(CL E m).2.1<(d.recs.rules.length:Int)):DE E m=some ((CL E m).1,(CL E m).2.1,(CL E m).2.2.1)∧¬((CL E m).1.name≠d.name∨(CL E m).2.1≥(d.recs.rules.length:Int))∧0≤(CL E m).2.1:=by
 have h1:=MK hc.1.1;refine⟨h1,fun h=>?_,(Fs h1).lo⟩;rcases h with h | h
 ·exact h (Gq hc.1.2)
 omega
end
theorem Gz {d:CK}(h:DG d):0≤d.fixed∧d.fixed+1+d.ctors.length≤CR d∧CR d≤4000001:=by
 have h1:=Fj h.din h.fx;have h2:=h.fx;have h3:=h.din.cl;unfold CR;omega
section
variable {E:List CK}{σ:Type}{S:Sys σ}{W:σ→Tm→Out (Tm×σ)}{n:Nat}{h m:Tm}{a:List Tm}{s:σ}{d:CK}{x:GV}
theorem JY {f:Hi}{q:Option (Tm×List Tm)×Tm}(hq:q.1.isSome=false∨S.over s=true):Pf S f h a (q,s)= .ok (none,s):=by
 unfold Pf;obtain⟨q1,q2⟩:=q;cases q1 with
 | none=>rfl
 | some bv =>
  obtain⟨b,v⟩:=bv;rcases hq with hq | hq
  ·cases hq
  simp only[hq,if_true]
theorem Kp {f:Hi}{q:Option (Tm×List Tm)×Tm}(hq:q.1.isSome=true) (ho:S.over s=false):Pf S f h a (q,s)=HL S h (I9 q) (ML q) (a.drop f.arity.toNat) s:=by
 unfold Pf;obtain⟨q1,q2⟩:=q;cases q1 with
 | none=>cases hq
 | some bv=>obtain⟨b,v⟩:=bv;simp only[ho,Bool.false_eq_true,if_false];rfl
theorem RR (hE:Ja E):∀(k:Nat) (t:FJ) (vs:List Tm) (l:Tm) (s s':σ) (q:Option (Tm×List Tm)×Tm),SO t vs→Ds E S W k t vs l s= .ok (q,s')→okB (I9 q)=true∧(∀v∈ML q,okB v=true)∧(ML q).length≤100000000
 | 0,t,vs,l,s,s',q,hl,h=>by rw[Ds] at h;cases h
 | k+1,t,vs,l,s,s',q,hl,h=>by
  have hnone:∀l',okB (I9 (none,l'))=true∧(∀v∈ML (none,l'),okB v=true)∧(ML (none,l')).length≤100000000:=fun l'=>⟨HR,fun v hv=>by simp[ML] at hv,Nat.zero_le _⟩;by_cases hk:t.kind=1
  ·by_cases hb:t.var<0∨t.var≥(vs.length:Int)∨S.over s=true
   ·rw[IL hk hb] at h;cases h;exact hnone _
   have hlt:t.var.toNat<vs.length:=by omega
   rw[Jf hk hb (List.getElem?_eq_getElem hlt)] at h;obtain⟨⟨r,s1⟩,h1,h2,h3⟩:=He h;cases hc:DE E r with
   | none=>rw[Fp hc] at h3;cases h3;exact hnone _
   | some p =>
    obtain⟨d,j,f⟩:=p;cases hbr:Cp (Ed d j).name t.branches with
    | none=>rw[HV hc hbr] at h3;cases h3;exact hnone _
    | some t'=>rw[Hc hc hbr] at h3;exact RR hE k t' _ _ _ _ _ (hl.next hE h2 hc hbr) h3
  rw[HM hk] at h;cases h;obtain⟨kk,b,v,l2⟩:=t;have:=hl.tok;simp only[Fg] at this;exact⟨this.1,hl.ok,by have:=hl.len;show vs.length≤_;omega⟩
end
theorem Tc:∀(l:List Tm),Bb l.reverse=Bb l
 | []=>rfl
 | a::l=>by rw[List.reverse_cons,I3,Tc l];simp only[Bb];omega
theorem fG {l:List Tm}(h:∀v∈l,okB v=true):∀v∈l.reverse,okB v=true:=fun v hv=>h v (List.mem_reverse.1 hv)
theorem OP {E:List CK}{d:CK}{f:Hi}{a:List Tm}(hE:HQ E) (hd:d∈E) (hf:f∈d.funs) (ha:∀x∈a,okB x=true):SO f.tree (a.take f.arity.toNat):=by
 have h1:=hE.g.all d hd;have h2:=h1.fu f hf;have h3:=hE.fu d hd f hf;exact⟨(h1.din.fs f hf).tr,h2.2.2,by rw[List.length_take];omega,fun v hv=>ha v (List.mem_of_mem_take hv)⟩
theorem lM {E:List CK}{nm:ByteArray}{x:CK}(h:(Bh E nm).2=0) (h3:(Bh E nm).1.kind=5) (hx:E[(Bh E nm).1.decl.toNat]?=some x):(Cg E nm).1=x:=by rw[fI h h3 hx]
theorem im {E:List CK}{h:Tm}(hu:QG E h=true):(Bh E h.name).2=0:=by
 simp only[QG,Bool.and_eq_true,decide_eq_true_eq] at hu;exact hu.1
end Go.Eu
namespace Go.Proofs.YtboammbpdaoojaaGreat
open Go.Abs Go.Eu
theorem ZD:∀(a b:CZ),(M4 a)→(M4 b)→Ec Tryz.prog 189 [.agg ((B0 a).map .p),.agg ((B0 b).map .p)] (.agg ((B0 (Is a b)).map .p)):=by
 intro a b h1 h2;have hl:=h1.vars;have hl2:=h2.vars;simp only[Dd] at hl hl2;refine A6 Tryz.func189 O nk (n:=138) O O (Az (BG O (BP O) fun b2=>BG O (BP O) fun b3=>BG O (A8 ER O) fun b4=>Bj O (Az (Ax Ay 4 [2,1] O (Ar O (FR O O) (Ar O (CO Tz ER O) (BG O (A8 ER O) fun b5=>As Ay 1 [0,0] O (Az (B3 (H5 (i:=0) O (XY (aw (we O) (aw (I4) (Et))))) (B3 (Hu (sz:=2)) (As Ay 2 [] O (Av Ay 1 [] O (Au (BA ?_))))))))))))));refine Be (α:=Nat×Nat×List CE×Int×Option Nat×Nat) (fun(i,k,vs,m,o,cp)=>⟨138,mk [(2,.ptr b2 0),(3,.ptr b3 0),(4,.ptr b4 0),(5,.ptr b5 0),(6,.p (I (i:Int))),(7,.p (I (k:Int))),(8,.p (I m))],[.vec o 2 (List.map D1 vs) cp,.box b5 [.p (I (max (a.const:Int) (b.const:Int))),.vs o (List.map D1 vs).length cp],.box b4 [.p (I 0),.p (.nils)],.box b3 [.p (I b.const),.p (.lst (List.map D1 b.vars))],.box b2 [.p (I a.const),.p (.lst (List.map D1 a.vars))]],[]⟩) (fun(i,k,vs,m,o,cp)=>(a.vars.length - i)+(b.vars.length - k)) (fun(i,k,vs,m,o,cp)=>NR a.vars b.vars i k vs m) ⟨0,0,[],0,none,0⟩ (NR.zero) ?_ ?_
 ·exact BY ⟨we O,we O,we O,we O,we O,we O,we O,Aq⟩ (leH (is:=[0,1,2,3,4]) O (wl (oe O) (wl (oe O) (wl (oe O) (wl (oe O) (wl (oe O) (C7)))))))
 rintro⟨i,k,vs,m,o,cp⟩ hC
 try simp only at hC
 have hi0:=hC.hi;have hk0:=hC.hk;refine Au (Au (BR [2,3,4,5,6,7,8] 27 (fun y=>y= .p (.bool ((decide (((i:Int):Int)<((a.vars.length:Nat):Int)))||(decide (((k:Int):Int)<((b.vars.length:Nat):Int)))))) ?_ ?_))
 ·refine A4 (Ax Ay 3 [4] O (Ar O (BM CW O (List.length_map _)) (Ax Ay 2 [] O (BL 21 O (fun g=>?_) (fun g=>?_)))))
  ·(try simp only[sd,se] at g);exact As Ay 6 [] O (⟨O,O,AK,AI,⟨O,O,O,O,O,O,O,Aq⟩⟩)
  (try simp only[sd,se] at g);exact Ax Ay 3 [3] O (BC O (BM CW O (List.length_map _)) (As Ay 2 [] O (⟨O,O,AK,AI,⟨O,O,O,O,O,O,O,Aq⟩⟩)))
 rintro _ rfl;refine Aw O (fun c=>?_) (fun c=>?_)
 ·(try simp only[sd,se] at c);refine A2 (BA (Az (Ar O (CO jo Fy O) (BG O (A8 Fy O) fun b9=>As Ay 1 [0,0] O (Au (BA (Au (BR [2,3,4,5,6,7,8,9] 53 (fun y=>y= .p (.bool (QB a.vars b.vars i k))) ?_ ?_))))))))
  ·refine Bu (fun k=>false) Dt (BQ Ay 3 [4] O (BH O (fun _=>BM CW O (List.length_map _)) Aq (BQ Ay 2 [] O (Dx 59 O (fun g=>?_) (fun g=>?_)))))
   ·(try simp only[sd,se] at g);exact Bn Ay 22 [] O (⟨O,O,AK,(by first | exact pB (N7 Ao) | exact pB (QH Ao Ao) | exact pB (Nu hx hx1)),⟨O,O,O,O,O,O,O,O,Aq⟩⟩)
   (try simp only[sd,se] at g);refine BQ Ay 3 [5] O (Cc O (fun _=>BM CW O (List.length_map _)) Aq (BQ Ay 2 [] O (Dx 65 O (fun g1=>?_) (fun g1=>?_))))
   ·(try simp only[sd,se] at g1);refine BQ Ay 3 [5] O ?_;obtain⟨x,hx⟩:=A7 (l:=a.vars) (i:=i) Ao;refine Cc O (fun _=>A5 CW O O Ao (Ci hx) (O)) Aq (BQ Ay 5 [4] O ?_);obtain⟨x1,hx1⟩:=A7 (l:=b.vars) (i:=k) Ao;exact Cc O (fun _=>A5 CW O O Ao (Ci hx1) (O)) Aq (Bn Ay 6 [] O (⟨O,O,AK,(by first | exact pB (N7 Ao) | exact pB (QH Ao Ao) | exact pB (Nu hx hx1)),⟨O,O,O,O,O,O,O,O,Aq⟩⟩))
   (try simp only[sd,se] at g1);exact Bn Ay 16 [] O (⟨O,O,AK,(by first | exact pB (N7 Ao) | exact pB (QH Ao Ao) | exact pB (Nu hx hx1)),⟨O,O,O,O,O,O,O,O,Aq⟩⟩)
  rintro _ rfl;refine Aw O (fun c1=>?_) (fun c1=>?_)
  ·(try simp only[sd,se] at c1);have hi:=iO c1 (by simpa using c);refine Az (Ax Ay 3 [5] O ?_);obtain⟨x,hx⟩:=A7 (l:=a.vars) (i:=i) Ao;refine Ar O (A5 CW O O Ao (Ci hx) (O)) (As Ay 2 [0,1] O (A4 (As Ay 3 [] O (Az (Ax Ay 3 [0] O (Ar O (FR O O) (As Ay 1 [] O (A4 (Ax Ay 3 [2,0] O (Ar O (Bo CW Fy O O O O O) (FF O O (CQ (i:=1) (rows':=List.map D1 [(CE.mk x.index x.plus)]) CW CW Fy O O O O O O (GK _) (by have:=hC.ln;have:=hC.hi;have:=hC.hk;simp only[List.length_map,List.length_append,List.length_cons,List.length_nil];omega) (GJ (f:=D1) vs [(CE.mk x.index x.plus)])) fun o1 cp1=>As Ay 2 [2,0] O ?_)))))))))));refine⟨⟨i+1,k,vs++[(CE.mk x.index x.plus)],max (m:Int) (x.plus:Int),o1,cp1⟩,AU,(by first | exact hC.left hx c1 | exact hC.right hx c1 c2 | exact hC.both hx hx1 c1 c2),BY ⟨we O,we O,we O,we O,we O,we O,we O,Aq⟩ (leH (is:=[1,2,3,4,5]) O (wl (oe O) (wl (oe O) (wl (oe O) (wl (oe O) (wl (oe O) (C7)))))))⟩
  (try simp only[sd,se] at c1);have hk:=gG c1 hC.hk;refine Au (BR [2,3,4,5,6,7,8,9] 88 (fun y=>y= .p (.bool (VF a.vars b.vars i k))) ?_ ?_)
  ·refine Bu (fun k=>false) Dt (BQ Ay 3 [5] O (BH O (fun _=>BM CW O (List.length_map _)) Aq (BQ Ay 2 [] O (Dx 94 O (fun g=>?_) (fun g=>?_)))))
   ·(try simp only[sd,se] at g);exact Bn Ay 15 [] O (⟨O,O,AK,(by first | exact pB (Ql Ao) | exact pB (MU hx1 hx) | exact pB (MU hx hx1)),⟨O,O,O,O,O,O,O,O,Aq⟩⟩)
   (try simp only[sd,se] at g);refine BQ Ay 3 [4] O ?_;obtain⟨x,hx⟩:=A7 (l:=b.vars) (i:=k) Ao;refine Cc O (fun _=>A5 CW O O Ao (Ci hx) (O)) Aq (BQ Ay 5 [5] O ?_);obtain⟨x1,hx1⟩:=A7 (l:=a.vars) (i:=i) Ao;exact Cc O (fun _=>A5 CW O O Ao (Ci hx1) (O)) Aq (Bn Ay 5 [] O (⟨O,O,AK,(by first | exact pB (Ql Ao) | exact pB (MU hx1 hx) | exact pB (MU hx hx1)),⟨O,O,O,O,O,O,O,O,Aq⟩⟩))
  rintro _ rfl;refine Aw O (fun c2=>?_) (fun c2=>?_)
  ·(try simp only[sd,se] at c2);refine Az (Ax Ay 3 [4] O ?_);obtain⟨x,hx⟩:=A7 (l:=b.vars) (i:=k) Ao;refine Ar O (A5 CW O O Ao (Ci hx) (O)) (As Ay 2 [0,1] O (A4 (As Ay 3 [] O (Az (Ax Ay 3 [0] O (Ar O (FR O O) (As Ay 1 [] O (A4 (Ax Ay 3 [2,0] O (Ar O (Bo CW Fy O O O O O) (FF O O (CQ (i:=1) (rows':=List.map D1 [(CE.mk x.index x.plus)]) CW CW Fy O O O O O O (GK _) (by have:=hC.ln;have:=hC.hi;have:=hC.hk;simp only[List.length_map,List.length_append,List.length_cons,List.length_nil];omega) (GJ (f:=D1) vs [(CE.mk x.index x.plus)])) fun o1 cp1=>As Ay 2 [2,0] O ?_)))))))))));refine⟨⟨i,k+1,vs++[(CE.mk x.index x.plus)],max (m:Int) (x.plus:Int),o1,cp1⟩,AU,(by first | exact hC.left hx c1 | exact hC.right hx c1 c2 | exact hC.both hx hx1 c1 c2),BY ⟨we O,we O,we O,we O,we O,we O,we O,Aq⟩ (leH (is:=[1,2,3,4,5]) O (wl (oe O) (wl (oe O) (wl (oe O) (wl (oe O) (wl (oe O) (C7)))))))⟩
  (try simp only[sd,se] at c2);have hi:=jO c2 hC.hi;refine Au (Bu (fun k=>false) Dt (BQ Ay 3 [5] O ?_));obtain⟨x,hx⟩:=A7 (l:=a.vars) (i:=i) Ao;refine BH O (fun _=>A5 CW O O Ao (Ci hx) (O)) Aq (BQ Ay 5 [5] O (BH O (fun _=>A5 CW O O Ao (Ci hx) (O)) Aq (BQ Ay 5 [4] O ?_)));obtain⟨x1,hx1⟩:=A7 (l:=b.vars) (i:=k) Ao;refine BH O (fun _=>A5 CW O O Ao (Ci hx1) (O)) Aq (BQ Ay 2 [] O (BH O (fun _=>FR O O) Aq (Bn Ay 2 [0,0] O (Av Ay 3 [] O (A4 (As Ay 3 [] O (Az (Ax Ay 3 [0] O (Ar O (FR O O) (As Ay 1 [] O (A4 (Ax Ay 3 [2,0] O (Ar O (Bo CW Fy O O O O O) (FF O O (CQ (i:=1) (rows':=List.map D1 [(CE.mk x.index (max (x.plus:Int) (x1.plus:Int)))]) CW CW Fy O O O O O O (GK _) (by have:=hC.ln;have:=hC.hi;have:=hC.hk;simp only[List.length_map,List.length_append,List.length_cons,List.length_nil];omega) (GJ (f:=D1) vs [(CE.mk x.index (max (x.plus:Int) (x1.plus:Int)))])) fun o1 cp1=>As Ay 2 [2,0] O ?_))))))))))))));refine⟨⟨i+1,k+1,vs++[(CE.mk x.index (max (x.plus:Int) (x1.plus:Int)))],max (m:Int) (max (x.plus:Int) (x1.plus:Int):Int),o1,cp1⟩,AU,(by first | exact hC.left hx c1 | exact hC.right hx c1 c2 | exact hC.both hx hx1 c1 c2),BY ⟨we O,we O,we O,we O,we O,we O,we O,Aq⟩ (leH (is:=[1,2,3,4,5]) O (wl (oe O) (wl (oe O) (wl (oe O) (wl (oe O) (wl (oe O) (C7)))))))⟩
 (try simp only[sd,se] at c);refine Bg (Au (Au (BR [4,5] 135 (fun y=>y= .p (.bool ((decide (((vs.length:Nat):Int) > (0:Int)))&&(decide ((max (a.const:Int) (b.const:Int):Int)≤(m:Int)))))) ?_ ?_)))
 ·refine A4 (Ax Ay 2 [1] O (Ar O (KA CW O (List.length_map _)) (Ax Ay 2 [] O (BL 130 O (fun g=>?_) (fun g=>?_)))))
  ·(try simp only[sd,se] at g);exact As Ay 5 [1] O (⟨O,O,AK,AI,⟨O,O,Aq⟩⟩)
  (try simp only[sd,se] at g);exact As Ay 5 [] O (⟨O,O,AK,AI,⟨O,O,Aq⟩⟩)
 rintro _ rfl;refine Aw O (fun c1=>?_) (fun c1=>?_)
 ·(try simp only[sd,se] at c1);refine A4 (B3 (DQ (i:=0) (j:=1) (q:=1) [] O O O (D6 Aq)) (As Ay 2 [0,0] O (Av Ay 2 [0,1,0] O (A1 (⟨O,_,_,⟨_,_,O,(BB (i:=1) Dc O O O),O⟩,(List.nil_sublist _),?_⟩)))))
  all_goals exact⟨by show (.agg [.p (I 0),.p (.lst (List.map D1 vs))]:AV)=_;rw[s9 (hC.fin Ao) Ao c1.2];rfl,rfl⟩
 (try simp only[sd,se] at c1);refine A2 (Az (B3 (DQ (i:=0) (j:=1) (q:=1) [] O O O (D6 Aq)) (As Ay 2 [0,1,0] O (A1 (⟨O,_,_,⟨_,_,O,(BB (i:=1) Dc O O O),O⟩,(List.nil_sublist _),?_⟩)))))
 all_goals exact⟨by show (.agg [.p (I (max (a.const:Int) (b.const:Int))),.p (.lst (List.map D1 vs))]:AV)=_;rw[s8 (hC.fin Ao) Ao];rfl,rfl⟩
theorem gZ:∀(l:CZ) (ps:List CZ),(CA l=true)→(ps.length<Dd)→(∀p∈ps,CA p=true)→Ec Tryz.prog 169 [.agg ((B0 l).map .p),.p (.lst (List.map B0 ps)),.p (.bool false)] (.tup [.agg ((B0 ((GN ps ⟨l.const,[]⟩ l.vars).1)).map .p),.p (I ((GN ps ⟨l.const,[]⟩ l.vars).2))]):=by
 intro l ps h1 h2 h3;have hL:=I7.of h1;have hl:=hL.len;simp only[Dd] at h2;refine A6 Tryz.func169 O mO (n:=69) O O (Az (BG O (BP O) fun b3=>BG O (A8 ER O) fun b6=>As Ay 1 [] O (Az (Ax Ay 2 [1] O (Ar O (BF O O (Z1 l.const) O) (BG O (A8 ER O) fun b8=>As Ay 1 [0,1] O (Au (Av Ay 1 [] O (BA (Be (α:=Nat×CZ) (fun(i,q)=>⟨69,mk [(1,.p (.lst (List.map B0 ps))),(2,.p (.bool false)),(3,.ptr b3 0),(6,.ptr b6 0),(8,.ptr b8 0),(9,.p (I (i:Int)))],[.box b8 ((B0 q).map .p),.box b6 [.p (I 0),.p (.nils)],.box b3 [.p (I l.const),.p (.lst (List.map D1 l.vars))]],[]⟩) (fun(i,q)=>l.vars.length - i) (fun(i,q)=>i≤l.vars.length∧(I7 q∧GN ps q (l.vars.drop i)=GN ps ⟨l.const,[]⟩ l.vars)) ⟨0,(⟨l.const,[]⟩:CZ)⟩ (⟨by omega,I7.num hL.c,rfl⟩) ?_ ?_))))))))))
 ·exact BY ⟨we O,we O,we O,we O,we O,we O,Aq⟩ (leH (is:=[0,1,2]) O (wl (oe O) (wl (oe O) (wl (oe O) (C7)))))
 rintro⟨i,q⟩ hC
 try simp only at hC
 obtain⟨hi,hC⟩:=hC;refine Au (Az (Ax Ay 3 [2] O (Ar O (BM CW O (List.length_map _)) (As Ay 1 [] O (Aw O (fun c=>?_) (fun c=>?_))))))
 ·(try simp only[sd,se] at c);refine A2 (Au (BA (Az (Ax Ay 3 [2] O ?_))));obtain⟨x,hx⟩:=A7 (l:=l.vars) (i:=i) Ao;have hv:=Ke h1 hx;refine Ar O (A5 CW O O Ao (Ci hx) (O)) (Ar O (BN Mw O (O)) (BG O (A8 Fy O) fun b10=>As Ay 1 [0,1] O (Av Ay 3 [0] O (Au (Av Ay 1 [] O ?_)))));refine Aw O (fun c1=>by cases c1) (fun c1=>?_);refine A2 (Az (Ar O (BU (i:=0) Mw O O O) (Ar O (Bo CW Fy O O O O O) (Ar O (CO Tz ER O) (BG O (A8 ER O) fun b12=>As Ay 1 [0,0] O (Au (Au (BR [1,2,3,6,8,9,10,11,12] 49 (fun y=>y= .p (.bool (((decide ((x.index:Int)<(0:Int)))==false)&&(decide ((x.index:Int)<((ps.length:Nat):Int)))))) ?_ ?_))))))))
  ·refine A4 (Ax Ay 4 [1] O (Ar O (R8 sB O O) (Bt O (BL 44 O (fun g=>?_) (fun g=>?_)))))
   ·(try simp only[sd,se] at g);exact Ax Ay 2 [] O (BC O (BM EZ O (List.length_map _)) (As Ay 2 [] O (⟨O,O,AK,AI,⟨O,O,O,O,O,O,O,O,O,Aq⟩⟩)))
   (try simp only[sd,se] at g);exact As Ay 5 [] O (⟨O,O,AK,AI,⟨O,O,O,O,O,O,O,O,O,Aq⟩⟩)
  rintro _ rfl;refine Aw O (fun c2=>?_) (fun c2=>?_)
  ·(try simp only[sd,se] at c2);refine Au (Bu (fun k=>Nat.beq k 10) Dt (BQ Ay 2 [] O ?_));obtain⟨x1,hx1⟩:=A7 (l:=ps) (i:=(x.index:Int).toNat) Ao;have hv:=Ke h1 hx;refine BH O (fun _=>A5 EZ O O Ao (Fz hx1) (Dm _)) Aq (BQ Ay 3 [1] O (BH O (fun _=>BF O O (iR x1 x.plus (I7.of (h3 _ (List.mem_of_getElem? hx1))).nd) O) Aq (BQ Ay 3 [] O (G9 [] O O (A8 ER O) Ak fun b13=>⟨AB,Aq,?_⟩))));refine Bn Ay 2 [0,1] O (Au (Av Ay 2 [] O (Aw O (fun c3=>?_) (fun c3=>?_))))
   ·(try simp only[sd,se] at c3);refine Av Ay 4 [4,0] O (BI (BT (i:=4) O) (A1 (⟨O,_,_,⟨_,_,O,(BB (i:=4) Dc O O O),⟨_,_,O,O,O⟩⟩,(List.nil_sublist _),?_⟩)))
    all_goals exact⟨by show (.tup [.agg [.p (I 0),.p (.lst [])],.p (I ((E3 x1 x.plus).2))]:AV)=_;rw[show GN ps ⟨l.const,[]⟩ l.vars=_ from hC.2.symm.trans (tp hx c2.1 c2.2 hx1 c3)];rfl,rfl⟩
   (try simp only[sd,se] at c3);refine A2 (A4 (As Ay 2 [0,1,1] O (A4 (Ax Ay 2 [3,1] O (Ar O (BF O O (ZD q ((E3 x1 x.plus).1) hC.1.nd (by first | exact(I7.one hv).nd | exact(I7.plus (h3 _ (List.mem_of_getElem? hx1)) hv.1.1 hv.1.2 c3).nd)) O) (As Ay 1 [3,1] O (A4 (As Ay 3 [] O ?_))))))));refine⟨⟨i+1,Is q ((E3 x1 x.plus).1)⟩,AU,⟨by omega,(by first | exact⟨hC.1.join (I7.plus (h3 _ (List.mem_of_getElem? hx1)) hv.1.1 hv.1.2 c3),(si hx c2.1 c2.2 hx1 c3).symm.trans hC.2⟩ | exact⟨hC.1.join (I7.one hv),(p5 hx Ao).symm.trans hC.2⟩ | exact⟨hC.1.join (I7.one hv),(p5 hx (fun hh=>by have:=c2 hh.1;omega)).symm.trans hC.2⟩)⟩,BY ⟨we rfl,we rfl,we rfl,we rfl,we rfl,we rfl,trivial⟩ (leH (is:=[3,4,5]) rfl (wl (oe rfl) (wl (oe rfl) (wl (oe rfl) (C7)))))⟩
  (try simp only[sd,se] at c2);refine A2 (A4 (Ax Ay 2 [2,0] O (Ar O (BF O O (ZD q (CZ.mk 0 [(CE.mk x.index x.plus)]) hC.1.nd (by first | exact(I7.one hv).nd | exact(I7.plus (h3 _ (List.mem_of_getElem? hx1)) hv.1.1 hv.1.2 c3).nd)) O) (As Ay 1 [2,1] O (A4 (As Ay 3 [] O ?_))))));refine⟨⟨i+1,Is q (CZ.mk 0 [(CE.mk x.index x.plus)])⟩,AU,⟨by omega,(by first | exact⟨hC.1.join (I7.plus (h3 _ (List.mem_of_getElem? hx1)) hv.1.1 hv.1.2 c3),(si hx c2.1 c2.2 hx1 c3).symm.trans hC.2⟩ | exact⟨hC.1.join (I7.one hv),(p5 hx Ao).symm.trans hC.2⟩ | exact⟨hC.1.join (I7.one hv),(p5 hx (fun hh=>by have:=c2 hh.1;omega)).symm.trans hC.2⟩)⟩,BY ⟨we rfl,we rfl,we rfl,we rfl,we rfl,we rfl,trivial⟩ (leH (is:=[2,3,4]) rfl (wl (oe rfl) (wl (oe rfl) (wl (oe rfl) (C7)))))⟩
 (try simp only[sd,se] at c);refine Bg (Av Ay 3 [0,1,1] O (A1 (⟨O,_,_,⟨_,_,O,(BB (i:=1) Dc O O Ag),⟨_,_,O,O,O⟩⟩,(List.nil_sublist _),?_⟩)))
 all_goals exact⟨by show (.tup [.agg ((B0 q).map .p),.p (I 0)]:AV)=_;rw[←hC.2,List.drop_eq_nil_of_le Ao];rfl,rfl⟩
theorem bT:∀(l:CZ) (ps:List CZ),(M4 l)→(ps.length<Dd)→(∀p∈ps,M4 p)→Ec Tryz.prog 139 [.agg ((B0 l).map .p),.p (.lst (List.map B0 ps))] (.tup [.agg ((B0 ((Cv l ps).1)).map .p),.p (I ((Cv l ps).2))]):=by
 intro l ps h1 h2 h3;have hl:=h1.vars;have hl2:=h2;simp only[Dd] at hl hl2;refine A6 Tryz.func139 O mI (n:=26) O O (Az (BG O (BP O) fun b2=>BG O (A8 ER O) fun b4=>As Ay 1 [] O (Au (Au (BR [1,2,4] 13 (fun y=>y= .p (.bool ((!(CA l))||(!(ps.all CA))))) ?_ ?_)))))
 ·refine A4 (Ar O (BU (i:=1) Dc O O Ag) (Ar O (BF O O (N6 l h1) O) (Ax Ay 2 [] O (BL 9 O (fun g=>?_) (fun g=>?_)))))
  ·(try simp only[sd,se] at g);exact As Ay 4 [] O (⟨O,O,AK,AI,⟨O,O,O,Aq⟩⟩)
  (try simp only[sd,se] at g);exact BC O (BZ O) (BC O (BF O O (WA ps h2 h3) O) (As Ay 2 [] O (⟨O,O,AK,AI,⟨O,O,O,Aq⟩⟩)))
 rintro _ rfl;refine Aw O (fun c=>?_) (fun c=>?_)
 ·(try simp only[sd,se] at c);refine Av Ay 3 [0,0] O (BI (BT (i:=0) O) (A1 (⟨O,_,_,⟨_,_,O,(BB (i:=0) Dc O O O),⟨_,_,O,O,O⟩⟩,(List.nil_sublist _),?_⟩)))
  all_goals exact⟨by show (.tup [.agg [.p (I 0),.p (.lst [])],.p (I 3)]:AV)=_;rw[show Cv l ps=(Fa,3) by rw[Cv,if_pos (by simpa using c)]];rfl,rfl⟩
 (try simp only[sd,se] at c);have hv:CA l=true∧ps.all CA=true:=by simpa using c
 refine A2 (Au (Az (Ar O (BU (i:=1) Dc O O Ag) (Ar O (BF O O (Ze l h1) O) (Bt O (Ar O (BM EZ O (List.length_map _)) (As Ay 1 [] O (Aw O (fun c1=>?_) (fun c1=>?_)))))))))
 ·(try simp only[sd,se] at c1);refine Av Ay 3 [0,0] O (BI (BT (i:=0) O) (A1 (⟨O,_,_,⟨_,_,O,(BB (i:=0) Dc O O O),⟨_,_,O,O,O⟩⟩,(List.nil_sublist _),?_⟩)))
  all_goals exact⟨by show (.tup [.agg [.p (I 0),.p (.lst [])],.p (I 24)]:AV)=_;rw[show Cv l ps=(Fa,24) by rw[Cv,if_neg (by simp[hv]),if_pos c1]];rfl,rfl⟩
 (try simp only[sd,se] at c1);refine A2 (Az (Ax Ay 2 [1] O (Ar O (BF O O (gZ l ps hv.1 h2 (List.all_eq_true.1 hv.2)) O) (As Ay 4 [0,1] O (A1 (⟨O,_,_,⟨_,_,O,(BB (i:=0) Dc O O Ag),⟨_,_,O,O,O⟩⟩,(List.nil_sublist _),?_⟩))))))
 all_goals exact⟨by show (.tup [.agg ((B0 ((GN ps ⟨l.const,[]⟩ l.vars).1)).map .p),.p (I ((GN ps ⟨l.const,[]⟩ l.vars).2))]:AV)=_;rw[show Cv l ps=GN ps ⟨l.const,[]⟩ l.vars by rw[Cv,if_neg (by simp[hv]),if_neg Ao]],rfl⟩
theorem aL:∀(n:Nat) (t:Tm) (ps:List CZ) (b:Nat) (er nd:Int),(size t≤n)→(Nd t)→(ps.length<Dd)→(∀p∈ps,M4 p)→Bq Tryz.prog 109 [.ptr b 0,.agg ((BO t).map .p),.p (.lst (List.map B0 ps)),.p (.bool false)] [.box b [.p (I er),.p (I nd)]] (GW (.agg ((BO ((Hn ps er t).1)).map .p)) [.box b [.p (I ((Hn ps er t).2)),.p (I nd)]]):=by
 intro n
 induction n with
 | zero=>intro t ps b er nd h;cases t;simp[size] at h
 | succ n ih =>
  intro t ps b er nd h1 h2 h3 h4;obtain⟨tk,ti,tn,tl,ts⟩:=t;simp only[size] at h1;have h2n:=h2;simp only[Nd,Dd] at h2;refine A6 Tryz.func109 O oY (n:=76) O O (Az (BG O (BP O) fun b5=>BG O (A8 Bz O) fun b8=>Bj O (Av Ay 1 [] O (Au (Av Ay 1 [] O (BA (BI (EG (t:=9) (sz:=2) O) ?_)))))));refine Be (α:=Nat×List CZ×Int×Option Nat×Nat) (fun(i,ys,e,o,cp)=>⟨76,mk [(0,.ptr b 0),(2,.p (.lst (List.map B0 ps))),(3,.p (.bool false)),(5,.ptr b5 0),(8,.ptr b8 0),(9,.vs o (List.map B0 ys).length cp),(10,.p (I (i:Int)))],[.vec o 2 (List.map B0 ys) cp,.box b8 [.p (I 0),.p (I 0),.p (.str ⟨#[]⟩),.p (.nils),.p (.nils)],.box b5 [.p (I tk),.p (I ti),.p (.str tn),.p (.lst (List.map B0 tl)),.p (.lst (BE ts))],.box b [.p (I e),.p (I nd)]],[]⟩) (fun(i,ys,e,o,cp)=>tl.length - i) (fun(i,ys,e,o,cp)=>i≤tl.length∧(ys.length=i∧(ys++(FK ps e (tl.drop i)).1,(FK ps e (tl.drop i)).2)=FK ps er tl)) ⟨0,[],er,none,0⟩ (⟨by omega,by simp⟩) ?_ ?_
  ·exact BY ⟨we O,we O,we O,we O,we O,we O,we O,Aq⟩ (leH (is:=[0,1,2,3]) O (wl (oe O) (wl (oe O) (wl (oe O) (wl (oe O) (C7))))))
  rintro⟨i,ys,e,o,cp⟩ hC
  try simp only at hC
  obtain⟨hi,hl,hC⟩:=hC;refine Au (Az (Ax Ay 3 [2] O (Ar O (BM EZ O (List.length_map _)) (As Ay 1 [] O (Aw O (fun c=>?_) (fun c=>?_))))))
  ·(try simp only[sd,se] at c);refine A2 (Au (BA (Az (Ax Ay 3 [2] O ?_))));obtain⟨x,hx⟩:=A7 (l:=tl) (i:=i) Ao;refine Ar O (A5 EZ O O Ao (Fz hx) (Dm _)) (Ax Ay 2 [] O (Ar O (BF O O (bT x ps (h2.2.2.1 _ (List.mem_of_getElem? hx)) h3 h4) O) (Ax Ay 3 [] O (BG O (A8 ER O) fun b11=>As Ay 2 [0,1] O (Au (Av Ay 1 [] O ?_))))));refine Aw O (fun c1=>by cases c1) (fun c1=>?_);refine A2 (Au (Av Ay 2 [] O (Aw O (fun c2=>?_) (fun c2=>?_))))
   ·(try simp only[sd,se] at c2);refine A4 (Ax Ay 2 [] O (Ar O (B8 [4] O (.inl ⟨O,O,O⟩) (XB b e nd ((Cv x ps).2)) ⟨_,_,O,O,O⟩ An O (.inl O)) (Bj O (A4 (Ax Ay 2 [0] O (Ar O (Bo EZ ER O O O O O) (FF O O (CQ (i:=1) (rows':=List.map B0 [(CZ.mk (((Cv x ps).1).const) (((Cv x ps).1).vars))]) EZ EZ ER O O O O O O (MQ _) AD (GJ (f:=B0) ys [(CZ.mk (((Cv x ps).1).const) (((Cv x ps).1).vars))])) fun o1 cp1=>As Ay 1 [] O (A4 (As Ay 3 [] O ?_)))))))));refine⟨⟨i+1,ys++[(Cv x ps).1],Gg e ((Cv x ps).2),o1,cp1⟩,AU,⟨by omega,⟨by simp[hl],by rw[←hC,Ch hx];first | (simp[FK];done) | (simp[FK,YE,c2];done)⟩⟩,BY ⟨we rfl,we rfl,we rfl,we rfl,we rfl,we rfl,we rfl,trivial⟩ (leH (is:=[1,2,3,4]) rfl (wl (oe rfl) (wl (oe rfl) (wl (oe rfl) (wl (oe rfl) (C7))))))⟩
   (try simp only[sd,se] at c2);refine A2 (A4 (Ax Ay 2 [0] O (Ar O (Bo EZ ER O O O O O) (FF O O (CQ (i:=1) (rows':=List.map B0 [(CZ.mk (((Cv x ps).1).const) (((Cv x ps).1).vars))]) EZ EZ ER O O O O O O (MQ _) AD (GJ (f:=B0) ys [(CZ.mk (((Cv x ps).1).const) (((Cv x ps).1).vars))])) fun o1 cp1=>As Ay 1 [] O (A4 (As Ay 3 [] O ?_))))));refine⟨⟨i+1,ys++[(Cv x ps).1],e,o1,cp1⟩,AU,⟨by omega,⟨by simp[hl],by rw[←hC,Ch hx];first | (simp[FK];done) | (simp[FK,YE,c2];done)⟩⟩,BY ⟨we rfl,we rfl,we rfl,we rfl,we rfl,we rfl,we rfl,trivial⟩ (leH (is:=[1,2,3,4]) rfl (wl (oe rfl) (wl (oe rfl) (wl (oe rfl) (wl (oe rfl) (C7))))))⟩
  (try simp only[sd,se] at c);refine Bg (Az (Ax Ay 2 [] O (B3 (Cj (i:=0) [9,52] O (D6 ⟨O,O,Aq⟩)) (As Ay 1 [1,0] O (Av Ay 1 [] O (Au (Av Ay 1 [] O (BA (BI (EG (t:=13) (sz:=5) O) ?_)))))))));refine Be (α:=Nat×List Tm×Int×Option Nat×Nat) (fun(i,zs,e2,o1,cp1)=>⟨76,mk [(0,.ptr b 0),(2,.p (.lst (List.map B0 ps))),(3,.p (.bool false)),(5,.ptr b5 0),(8,.ptr b8 0),(13,.vs o1 (BE zs).length cp1),(14,.p (I (i:Int)))],[.vec o1 5 (BE zs) cp1,.box b8 [.p (I 0),.p (I 0),.p (.str ⟨#[]⟩),.p (.nils),.p (.nils)],.box b5 [.p (I tk),.p (I ti),.p (.str tn),.p (.lst (List.map B0 ys)),.p (.lst (BE ts))],.box b [.p (I e2),.p (I nd)]],[]⟩) (fun(i,zs,e2,o1,cp1)=>ts.length - i) (fun(i,zs,e2,o1,cp1)=>i≤ts.length∧(zs.length=i∧(zs++(Ge ps e2 (ts.drop i)).1,(Ge ps e2 (ts.drop i)).2)=Ge ps e ts)) ⟨0,[],e,none,0⟩ (⟨by omega,by simp⟩) ?_ ?_
  ·exact BY ⟨we O,we O,we O,we O,we O,we O,we O,Aq⟩ (leH (is:=[0,1,2,3]) O (wl (oe O) (wl (oe O) (wl (oe O) (wl (oe O) (C7))))))
  rintro⟨i,zs,e2,o1,cp1⟩ hC1
  try simp only at hC1
  obtain⟨hi,hl2,hC2⟩:=hC1;refine Au (Az (Ax Ay 3 [2] O (Ar O (BM Bf O (BS _)) (As Ay 1 [] O (Aw O (fun c1=>?_) (fun c1=>?_))))))
  ·(try simp only[sd,se] at c1);refine A2 (Au (BA (A4 (Ax Ay 5 [2] O ?_))));obtain⟨x,hx⟩:=A7 (l:=ts) (i:=i) Ao;refine Ar O (A5 Bf O O Ao (Bc hx) (BD _)) (Ax Ay 3 [] O (Ar O (B8 [3] O (.inl ⟨O,O,O⟩) (ih x ps b e2 nd (by have:=Ce hx;omega) (DW h2.2.2.2.2.1 hx) h3 h4) ⟨_,_,O,O,O⟩ An O (.inl O)) ?_));generalize hz:(Hn ps e2 x).1=z;obtain⟨zk,zi,zn,zl,zs1⟩:=z;refine Ar O (Bo Bf Bz O O O O O) (FF O O (CQ (i:=0) (rows':=BE [(.mk zk zi zn zl zs1:Tm)]) Bf Bf Bz O O O O O O (Bw _) AD (Jl zs [(.mk zk zi zn zl zs1:Tm)])) fun o2 cp2=>As Ay 1 [] O (A4 (As Ay 3 [] O ?_)));refine⟨⟨i+1,zs++[(Hn ps e2 x).1],(Hn ps e2 x).2,o2,cp2⟩,AU,⟨by omega,⟨by simp[hl2],by rw[←hC2,Ch hx];simp[Ge]⟩⟩,BY ⟨we rfl,we rfl,we rfl,we rfl,we rfl,we (Lk (zs++[(.mk zk zi zn zl zs1:Tm)]) (by rw[hz])),we rfl,trivial⟩ (leH (is:=[0,1,2,3]) rfl (wl (J5 (zs++[(.mk zk zi zn zl zs1:Tm)]) (by rw[hz])) (wl (oe rfl) (wl (oe rfl) (wl (oe rfl) (C7))))))⟩
  (try simp only[sd,se] at c1);refine Bg (Az (Ax Ay 2 [] O (B3 (Cj (i:=0) [13,73] O (D6 ⟨O,O,Aq⟩)) (As Ay 1 [1,0] O (Av Ay 2 [1,0,0] O (A1 (⟨O,_,_,⟨_,_,O,(BB (i:=0) Ba O O O),O⟩,(B4 (is:=[2]) O),?_⟩)))))));refine⟨by show (.agg [.p (I tk),.p (I ti),.p (.str tn),.p (.lst (List.map B0 ys)),.p (.lst (BE zs))]:AV)=_;rw[Y8 (dg hC Ao) (eb hC2 Ao)];rfl,?_⟩;show ([.box b [.p (I e2),.p (I nd)]]:List BJ)=_;rw[Y8 (dg hC Ao) (eb hC2 Ao)]
theorem NS:∀(t:Tm) (ps:List CZ),(Nd t)→(ps.length<Dd)→(∀p∈ps,M4 p)→Ec Tryz.prog 79 [.agg ((BO t).map .p),.p (.lst (List.map B0 ps))] (.tup [.agg ((BO ((Bp t ps).1)).map .p),.p (I ((Bp t ps).2))]):=by
 intro t ps h1 h2 h3;refine A6 Tryz.func79 O sO (n:=25) O O (Az (BG O (BP O) fun b2=>BG O (A8 Bz O) fun b4=>As Ay 1 [] O (Az (Ar O (CO eW eU O) (BG O (BP O) fun b9=>As Ay 1 [] O (Az (Ax Ay 3 [2] O (Ar O (B8 [0] O (.inl ⟨O,O,O⟩) (aL _ t ps b9 0 0 (Nat.le_refl _) h1 h2 h3) ⟨_,_,O,O,O⟩ An O (.inl O)) (BG O (A8 Bz O) fun b7=>As Ay 1 [0,1] O (Au (Av Ay 5 [1] O (Aw O (fun c=>?_) (fun c=>?_)))))))))))))
 ·(try simp only[sd,se] at c);refine Au (Bu (fun k=>false) Dt (Bn Ay 7 [1,2,0] O (BI (BT (i:=2) O) (A1 (⟨O,_,_,⟨_,_,O,(BB (i:=2) Ba O O O),⟨_,_,O,O,O⟩⟩,(List.nil_sublist _),?_⟩)))))
  all_goals exact⟨by show (.tup [.agg [.p (I 0),.p (I 0),.p (.str ⟨#[]⟩),.p (.lst []),.p (.lst [])],.p (I ((Hn ps 0 t).2))]:AV)=_;rw[show Bp t ps=(Bi,(Hn ps 0 t).2) by rw[Bp,if_pos c]];rfl,rfl⟩
 (try simp only[sd,se] at c);refine A2 (Av Ay 3 [0,2,1] O (A1 (⟨O,_,_,⟨_,_,O,(BB (i:=2) Ba O O Ah),⟨_,_,O,O,O⟩⟩,(List.nil_sublist _),?_⟩)))
 all_goals exact⟨by show (.tup [.agg ((BO ((Hn ps 0 t).1)).map .p),.p (I 0)]:AV)=_;rw[show Bp t ps=((Hn ps 0 t).1,0) by rw[Bp,if_neg Ao]],rfl⟩
theorem _root_.Go.AS {α:Prop}(h:α:=by simp only[Dd,List.length_drop];omega):α:=h
theorem db:∀(ds:List CK) (g:Tm) (a:List Tm) (m:Tm) (b:Nat) (c c2:EL) (q:Option Tm),(Ja ds)→((Cg ds g.name).1∈ds)→(okB g=true)→(okB m=true)→(CR (Cg ds g.name).1<a.length)→(a.length<549755813888)→(E4 ds DD (Cg ds g.name).1 g a m c= .ok (q,c2))→Bq Tryz.prog 50 [.p (.lst (List.map Bk ds)),.agg ((BO g).map .p),.p (.lst (BE a)),.agg ((BO m).map .p),.ptr b 0] [.box b ((G6 c).map .p)] (GW (.tup [.agg ((BO (q.getD Bi)).map .p),.p (.bool q.isSome)]) [.box b ((G6 c2).map .p)]):=by
 intro ds g a m b c c2 q h1 h2 h3 h4 h5 h6 h7;obtain⟨gk,gi,gn,gl,gs⟩:=g;simp only[Tm.name] at h2 h5 h7;have hdg:=h1.all _ h2;have hnr:=Gz hdg;have hgo:=CP.1 h3;have hgl:=hgo.nd;simp only[Nd,Dd] at hgl;have hcl:=hdg.din.cl;have hrl:=hdg.din.rl;have hfx:=hdg.fx;have hir:=Fj hdg.din hdg.fx;refine A6 Tryz.func50 O rE (n:=93) O O (Az (BG O (BP O) fun b6=>BG O (BP O) fun b8=>BG O (A8 Bz O) fun b10=>As Ay 1 [] O (Az (Ax Ay 3 [2] O (Ar O (BF O O (Qy ds gn h1.env) O) (Ax Ay 4 [] O (BG O (A8 JK O) fun b12=>As Ay 3 [0,1] O (Az (Ax Ay 2 [2] O (Ar O (BF O O (Vt ds m h1 h4) O) (Ax Ay 5 [] O (BG O (A8 JK O) fun b15=>As Ay 4 [0,1] O (Au (Au (BR [2,4,6,10,12,16,17] 54 (fun y=>y= .p (.bool (((!((CL ds m).2.2.2))||(!((((CL ds m).1).name).toList==(((Cg ds gn).1).name).toList)))||(decide (((CL ds m).2.1:Int)≥(((((Cg ds gn).1).recs.rules).length:Nat):Int)))))) ?_ ?_)))))))))))))))
 ·refine A4 (Ax Ay 3 [] O (BL 40 O (fun g1=>?_) (fun g1=>?_)))
  ·(try simp only[sd,se] at g1);exact As Ay 14 [] O (⟨O,O,AK,AI,⟨O,O,O,O,O,O,O,Aq⟩⟩)
  (try simp only[sd,se] at g1);refine BC O (A0 Cy O O) (BC O (A3 (i:=0) Lu O O (DP _)) (BC O (A0 Cy O O) (BC O (A3 (i:=1) Lu O O (DP _)) (BC O (JB O O) (Ax Ay 2 [] O (BL 47 O (fun g2=>?_) (fun g2=>?_)))))))
  ·(try simp only[sd,se] at g2);exact As Ay 7 [] O (⟨O,O,AK,AI,⟨O,O,O,O,O,O,O,Aq⟩⟩)
  (try simp only[sd,se] at g2);exact Ax Ay 3 [] O (BC O (A3 (i:=1) Gk O O (Ck _)) (BC O (BM Bf O (BS _)) (As Ay 2 [] O (⟨O,O,AK,AI,⟨O,O,O,O,O,O,O,Aq⟩⟩))))
 rintro _ rfl;refine Aw O (fun c1=>?_) (fun c1=>?_)
 ·(try simp only[sd,se] at c1);have hq:=(WB (S:=DD) (h:= .mk gk gi gn gl gs) (a:=a) (s:=c) c1).symm.trans h7;cases hq;refine Av Ay 3 [2,0] O (BI (BT (i:=2) O) (A1 (⟨O,_,_,⟨_,_,O,(BB (i:=2) Ba O O O),⟨_,_,O,O,O⟩⟩,(B4 (is:=[5]) O),?_⟩)))
  all_goals exact⟨rfl,rfl⟩
 (try simp only[sd,se] at c1);obtain⟨hg1,hg2,hg3⟩:=Tf c1;have hg4:=c1.2;have hfl:=JI h1 hg1;refine A2 (Au (Bu (fun k=>Nat.beq k 12) Dt (BQ Ay 2 [] O (CX (j:=1) O O O (fun H i hi=>A3 (i:=i) Gk O hi (Ck _)) AB Aq (BH O (fun _=>BZ O) Aq ?_)))));obtain⟨x,hx⟩:=A7 (l:=((Cg ds gn).1).recs.rules) (i:=((CL ds m).2.1:Int).toNat) Ao;have hro:=CP.1 (hdg.ru _ (List.mem_of_getElem? hx));refine BH O (fun _=>A5 Bf O O Ao (Bc hx) (BD _)) Aq (BQ Ay 3 [4] O (BH O (fun _=>BF O O (NS x gl hro.nd hgl.2.1 hgl.2.2.1) O) Aq (BQ Ay 3 [] O (G9 [] O O (A8 Bz O) Ak fun b19=>⟨AB,Aq,?_⟩))));refine Bn Ay 2 [0,1] O (Au (Av Ay 2 [] O (Aw O (fun c3=>?_) (fun c3=>?_))))
 ·(try simp only[sd,se] at c3);have hq:=(Lv (S:=DD) (h:= .mk gk gi gn gl gs) (a:=a) (s:=c) hg1 hg2 hx c3).symm.trans h7;cases hq;refine Av Ay 3 [3,0] O (BI (BT (i:=3) O) (A1 (⟨O,_,_,⟨_,_,O,(BB (i:=3) Ba O O O),⟨_,_,O,O,O⟩⟩,(B4 (is:=[6]) O),?_⟩)))
  all_goals exact⟨rfl,rfl⟩
 (try simp only[sd,se] at c3);have hq:=(Me (S:=DD) (h:= .mk gk gi gn gl gs) (a:=a) (s:=c) hg1 hg2 hx c3).symm.trans h7;obtain⟨hpo,hpe⟩:=K3 (h:=(by rw[hq];simp));rw[hpe] at hq;cases hq;refine A2 (Au (Bu (fun k=>Nat.beq k 11) Dt (BQ Ay 3 [0] O (CX (j:=2) O O O (fun H i hi=>A3 (i:=i) DH O hi (Co _)) AB Aq (BQ Ay 2 [] O (CX (j:=2) O O O (fun H i hi=>A3 (i:=i) Hl O hi (CB _)) AB Aq (BH O (fun _=>BM HN O (List.length_map _)) Aq (BH O (fun _=>LA O O Ao Ao) Aq (BH O (fun _=>Ca (lo:=0) (hi:=(((((Cg ds gn).1).fixed:Int)+(1:Int):Int)+(((((Cg ds gn).1).ctors).length:Nat):Int):Int).toNat) Bf O (CF (Bw _)) O ⟨_,pI Ao⟩ (Nat.zero_le _) AR (My a ((((((Cg ds gn).1).fixed:Int)+(1:Int):Int)+(((((Cg ds gn).1).ctors).length:Nat):Int):Int).toNat))) Aq ?_)))))))));refine BH O (fun _=>BF O O (GQ ((Bp x gl).1) (a.take ((((((Cg ds gn).1).fixed:Int)+(1:Int):Int)+(((((Cg ds gn).1).ctors).length:Nat):Int):Int).toNat)) (by simp only[Dd,List.length_take];omega)) O) Aq (G9 [] O O (A8 Bz O) Ak fun b21=>⟨AB,Aq,?_⟩);refine Bn Ay 1 [0,1] O (Au (Bu (fun k=>false) Dt (BQ Ay 3 [0] O (BH O (fun _=>BF O O (GQ (apply ((Bp x gl).1) (a.take ((((((Cg ds gn).1).fixed:Int)+(1:Int):Int)+(((((Cg ds gn).1).ctors).length:Nat):Int):Int).toNat))) ((CL ds m).2.2.1) Aa) O) Aq (GP O O (B8 [7] O (.inl ⟨O,O,O⟩) (H8 b c (apply (apply ((Bp x gl).1) (a.take ((((((Cg ds gn).1).fixed:Int)+(1:Int):Int)+(((((Cg ds gn).1).ctors).length:Nat):Int):Int).toNat))) ((CL ds m).2.2.1)) 0 (CP.1 hpo).nd) ⟨_,_,O,O,O⟩ An O (.inl O)) AB Aq (BQ Ay 2 [3] O (BH O (fun _=>BF O O (L8 ((Cg ds gn).1) hdg.din hdg.fx) O) Aq (BH O (fun _=>LA O O Ao Ao) Aq ?_))))))));refine BH O (fun _=>Ca (lo:=((CR ((Cg ds gn).1):Int)+(1:Int):Int).toNat) Bf O (CF (Bw _)) ⟨_,pI Ao⟩ O AR (Nat.le_refl _) (Ju a (((CR ((Cg ds gn).1):Int)+(1:Int):Int).toNat))) Aq (BH O (fun _=>BF O O (GQ (apply (apply ((Bp x gl).1) (a.take ((((((Cg ds gn).1).fixed:Int)+(1:Int):Int)+(((((Cg ds gn).1).ctors).length:Nat):Int):Int).toNat))) ((CL ds m).2.2.1)) (a.drop (((CR ((Cg ds gn).1):Int)+(1:Int):Int).toNat)) AS) O) Aq (Bn Ay 2 [4,1] O (A1 (⟨O,_,_,⟨_,_,O,(BB (i:=4) Ba O O Ah),⟨_,_,O,O,O⟩⟩,(B4 (is:=[7]) O),?_⟩))))
 all_goals exact⟨rfl,rfl⟩
theorem _root_.Go.AX {α:Prop}(h:α:=by first | rfl | simp[BD]):α:=h
theorem bF:∀(n:Nat) (ds:List CK) (g:Tm) (a:List Tm) (b:Nat) (c c2:EL) (q:Option Tm),(qX ds n)→(HQ ds)→(okB g=true)→(∀x∈a,okB x=true)→(a.length<549755813888)→(EY ds DD (EF ds DD n) n g a c= .ok (q,c2))→Bq Tryz.prog 41 [.p (.lst (List.map Bk ds)),.agg ((BO g).map .p),.p (.lst (BE a)),.ptr b 0] [.box b ((G6 c).map .p)] (GW (.tup [.agg ((BO (q.getD Bi)).map .p),.p (.bool q.isSome)]) [.box b ((G6 c2).map .p)]):=by
 intro n ds g a b c c2 q hW h2 h3 h4 h5 h6;obtain⟨gk,gi,gn,gl,gs⟩:=g;have hgo:=CP.1 h3;have hgl:=hgo.nd;simp only[Nd,Dd] at hgl;refine A6 Tryz.func41 O rF (n:=143) O O (Az (BG O (BP O) fun b5=>BG O (A8 Bz O) fun b8=>As Ay 1 [] O (Az (Ax Ay 2 [1] O (Ar O (BF O O (RQ ds (.mk gk gi gn gl gs:Tm) h2.g.env) O) (Ax Ay 3 [] O (BG O (A8 Hk O) fun b10=>As Ay 2 [0,1] O (Au (Av Ay 2 [] O (Aw O (fun c1=>?_) (fun c1=>?_)))))))))))
 ·(try simp only[sd,se] at c1);have hq:=(JF (E:=ds) (S:=DD) (W:=EF ds DD n) (n:=n) (h:=(.mk gk gi gn gl gs:Tm)) (a:=a) (s:=c) c1).symm.trans h6;cases hq;refine Av Ay 3 [1,0] O (BI (BT (i:=1) O) (A1 (⟨O,_,_,⟨_,_,O,(BB (i:=1) Ba O O O),⟨_,_,O,O,O⟩⟩,(B4 (is:=[3]) O),?_⟩)))
  all_goals exact⟨rfl,rfl⟩
 (try simp only[sd,se] at c1);have hu:=c1;obtain⟨ix,dd,e1,e2,e3,e4⟩:=Hh hu;have hde:=e2.decl;have hdg:=h2.g.all _ e3;have hel:=h2.g.env.len;have hil:=(List.getElem?_eq_some_iff.1 e1).1;have hfx:=hdg.fx;have hnr:=Gz hdg;have hcl:=hdg.din.cl;have hfl:=hdg.din.fl;refine A2 (Az (Ax Ay 2 [] O (Ar O (A3 (i:=0) DH O O (DR _)) (Ar O (A5 Hj O O Ao (D4 e4) (Cl _)) (Ar O (BN FM O (Cl _)) (BG O (A8 JK O) fun b12=>As Ay 1 [0,1] O (Au (Az (Ar O (A0 Fe O O) (Ar O (A3 (i:=1) DH O O (DB _)) (Bj O (BA (Av Ay 2 [] O (Aw O (fun c3=>?_) (fun c3=>?_)))))))))))))))
 ·(try simp only[sd,se] at c3);have hk1:=c3;refine Az (Ar O (A0 Cy O O) (Ar O (By (i:=0) Ba O O (FD _) (BD _)) (Ax Ay 2 [3] O (Ar O (BF O O (NS dd.value gl (CP.1 hdg.vl).nd hgl.2.1 hgl.2.2.1) O) (Ax Ay 3 [] O (BG O (A8 Bz O) fun b13=>As Ay 2 [0,1] O (Au (Av Ay 2 [] O (Aw O (fun c4=>?_) (fun c4=>?_))))))))))
  ·(try simp only[sd,se] at c4);have hq:=((I6 (E:=ds) (S:=DD) (W:=EF ds DD n) (n:=n) (h:=(.mk gk gi gn gl gs:Tm)) (a:=a) (s:=c) (d:=dd) hu e4 hk1).trans (Kc (h:=(.mk gk gi gn gl gs:Tm)) c4)).symm.trans h6;cases hq;refine Av Ay 3 [3,0] O (BI (BT (i:=3) O) (A1 (⟨O,_,_,⟨_,_,O,(BB (i:=3) Ba O O O),⟨_,_,O,O,O⟩⟩,(B4 (is:=[5]) O),?_⟩)))
   all_goals exact⟨rfl,rfl⟩
  (try simp only[sd,se] at c4);have hq:=((I6 (E:=ds) (S:=DD) (W:=EF ds DD n) (n:=n) (h:=(.mk gk gi gn gl gs:Tm)) (a:=a) (s:=c) (d:=dd) hu e4 hk1).trans (KB (h:=(.mk gk gi gn gl gs:Tm)) c4)).symm.trans h6;obtain⟨hpo,hpe⟩:=K3 (h:=(by rw[hq];simp));rw[hpe] at hq;cases hq;refine A2 (Az (Ax Ay 2 [0] O (Ar O (B8 [5] O (.inl ⟨O,O,O⟩) (H8 b c ((Bp dd.value gl).1) 0 (CP.1 hpo).nd) ⟨_,_,O,O,O⟩ An O (.inl O)) (Bt O (Ar O (BF O O (GQ ((Bp dd.value gl).1) a Aa) O) (As Ay 2 [3,1] O (A1 (⟨O,_,_,⟨_,_,O,(BB (i:=3) Ba O O Ah),⟨_,_,O,O,O⟩⟩,(B4 (is:=[5]) O),?_⟩))))))))
  all_goals exact⟨rfl,rfl⟩
 (try simp only[sd,se] at c3);have hk1:=c3;refine Av Ay 2 [] O (Aw O (fun c4=>?_) (fun c4=>?_))
 ·(try simp only[sd,se] at c4);have hk5:=c4;refine Au (Az (Bt O (Ar O (BM Bf O (BS _)) (Ar O (BU (i:=0) FM O O Ae) (Ar O (BF O O (L8 dd hdg.din hdg.fx) O) (As Ay 1 [] O (Aw O (fun c5=>?_) (fun c5=>?_))))))))
  ·(try simp only[sd,se] at c5);have hq:=((IC (E:=ds) (S:=DD) (W:=EF ds DD n) (n:=n) (h:=(.mk gk gi gn gl gs:Tm)) (a:=a) (s:=c) (d:=dd) hu e4 hk5).trans (ON Ao)).symm.trans h6;cases hq;refine Av Ay 3 [2,0] O (BI (BT (i:=2) O) (A1 (⟨O,_,_,⟨_,_,O,(BB (i:=2) Ba O O O),⟨_,_,O,O,O⟩⟩,(B4 (is:=[4]) O),?_⟩)))
   all_goals exact⟨rfl,rfl⟩
  (try simp only[sd,se] at c5);refine A2 (Au (Bu (fun k=>false) Dt (BQ Ay 6 [3,0] O (BH O (fun _=>BF O O (L8 dd hdg.din hdg.fx) O) Aq ?_))));obtain⟨x,hx⟩:=A7 (l:=a) (i:=(CR dd:Int).toNat) Ao;obtain⟨⟨r,d2⟩,hr1,hr2,hr3⟩:=He (((IC (E:=ds) (S:=DD) (W:=EF ds DD n) (n:=n) (h:=(.mk gk gi gn gl gs:Tm)) (a:=a) (s:=c) (d:=dd) hu e4 hk5).trans (Qs Ao hx)).symm.trans h6);have hfd:=lM (im hu) hk5 e4;refine BH O (fun _=>A5 Bf O O Ao (Bc hx) (BD _)) Aq (BQ Ay 2 [] O (GP O O (B8 [4] O (.inl ⟨O,O,O⟩) (hW b x c d2 r hr1) ⟨_,_,O,O,O⟩ An O (.inl O)) AB Aq (BH O (fun _=>BZ O) Aq (GP O O (B8 [4] O (.inl ⟨O,O,O⟩) (db ds (.mk gk gi gn gl gs:Tm) a r b d2 c2 q h2.g (hfd▸e3) h3 hr2 (by rw[hfd];omega) h5 (by rw[hfd];exact hr3)) ⟨_,_,O,O,O⟩ An O (.inl O)) AB Aq (Bn Ay 4 [2,1] O (A1 (⟨O,_,_,⟨_,_,O,(BB (i:=2) Ba O O Ah),⟨_,_,O,O,O⟩⟩,(B4 (is:=[4]) O),?_⟩)))))))
  all_goals exact⟨rfl,rfl⟩
 (try simp only[sd,se] at c4);have hk5:=c4;refine Av Ay 2 [] O (Aw O (fun c5=>?_) (fun c5=>?_))
 ·(try simp only[sd,se] at c5);have hk6:=c5;obtain⟨fk,ff,f1,f2⟩:=e2.func hk6;have hfi:=(List.getElem?_eq_some_iff.1 f1).1;have hff:dd.funs[(Bh ds (Tm.mk gk gi gn gl gs).name).1.item.toNat]?=some ff:=by rw[f2];simpa using f1
  have hfm:=List.mem_of_getElem? f1;have hfa:=hdg.fu ff hfm;refine Az (Ar O (A0 Cy O O) (Ar O (A3 (i:=0) Gj O O (B6 _)) (Ar O (A0 Fe O O) (Ar O (A3 (i:=1) DH O O (Dq _)) (Ar O (A5 Gn O O Ao (D7 hff) (DF _)) (Ar O (BN fW O (DF _)) (BG O (A8 aq O) fun b15=>As Ay 1 [0,1] O (Au (Az (Bt O (Ar O (BM Bf O (BS _)) (Ar O (A0 GX O O) (Ar O (A3 (i:=0) DH O O (CI _)) (As Ay 1 [] O (Aw O (fun c6=>?_) (fun c6=>?_))))))))))))))))
  ·(try simp only[sd,se] at c6);have hq:=((HK (E:=ds) (S:=DD) (W:=EF ds DD n) (n:=n) (h:=(.mk gk gi gn gl gs:Tm)) (a:=a) (s:=c) (d:=dd) (f:=ff) hu e4 hk6 hff).trans (J6 Ao)).symm.trans h6;cases hq;refine Av Ay 3 [3,0] O (BI (BT (i:=3) O) (A1 (⟨O,_,_,⟨_,_,O,(BB (i:=3) Ba O O O),⟨_,_,O,O,O⟩⟩,(B4 (is:=[5]) O),?_⟩)))
   all_goals exact⟨rfl,rfl⟩
  (try simp only[sd,se] at c6);have hl0:¬(a.length:Int)<ff.arity:=by omega
  refine A2 (Au ?_);obtain⟨⟨lq,d2⟩,hl1,hl2⟩:=IH (((HK (E:=ds) (S:=DD) (W:=EF ds DD n) (n:=n) (h:=(.mk gk gi gn gl gs:Tm)) (a:=a) (s:=c) (d:=dd) (f:=ff) hu e4 hk6 hff).trans (KP hl0)).symm.trans h6);have hlo:=RR h2.g _ _ _ _ _ _ _ (OP h2 e3 hfm h4) hl1;refine HZ [.box b15 ((Em ff).map .p),.box b12 ((Bk dd).map .p),.box b10 ((DN ((Bh ds (.mk gk gi gn gl gs:Tm).name).1)).map .p),.box b8 [.p (I 0),.p (I 0),.p (.str ⟨#[]⟩),.p (.nils),.p (.nils)],.box b5 [.p (I gk),.p (I gi),.p (.str gn),.p (.lst (List.map B0 gl)),.p (.lst (BE gs))],.box b ((G6 d2).map .p)] 8 [.val (.p (.lst (List.map Bk ds))),.val (.ptr b15 (0+7)),.val (.agg ((Ct ff.tree).map .p)),.val (.p (.lst (BE a))),.val (.ptr b15 (0+6)),.val (.p (I ff.arity)),.val (.p (.lst (BE (a.take ((ff.arity:Int).toNat))))),.val (.ptr b 0),.val (.tup [.agg ((BO (I9 lq)).map .p),.p (.lst (BE (ML lq))),.p (.bool lq.1.isSome),.agg ((BO lq.2).map .p)]),.val (.tup [.agg ((BO (I9 lq)).map .p),.p (.lst (BE (ML lq))),.p (.bool lq.1.isSome),.agg ((BO lq.2).map .p)]),.val (.agg ((BO (I9 lq)).map .p)),.val (.p (.lst (BE (ML lq)))),.val (.p (.bool lq.1.isSome)),.val (.agg ((BO lq.2).map .p)),.new [.p (I 0),.p (I 0),.p (.str ⟨#[]⟩),.p (.nils),.p (.nils)],.new [.p (I 0),.p (I 0),.p (.str ⟨#[]⟩),.p (.nils),.p (.nils)]] [.p .any,.p (.lst (BE (ML lq))),.p (.bool lq.1.isSome),.p .any] [11,12,13] Dt O Ak Ak Ak O ?_ ?_
  ·exact Aq
  refine Bd O O (fun Bs=>BZ O) (Bd O O (fun Bs=>A0 GX O O) (Ew O O O (fun Bs=>By (i:=Bs.length+0) Iv O (CS O) (Dn _) (Cn _)) (fun Bs=>By (i:=Bs.length+0) Iv O (CS O) (Dn _) (Cn _)) (Bd O O (fun Bs=>BZ O) (Bd O O (fun Bs=>A0 GX O O) (Ew O O O (fun Bs=>A3 (i:=Bs.length+0) DH O (CS O) (CI _)) (fun Bs=>A3 (i:=Bs.length+0) DH O (CS O) (CI _)) (Bd O O (fun Bs=>Ca (lo:=0) (hi:=(ff.arity:Int).toNat) Bf O (CF (Bw _)) O ⟨_,pI Ao⟩ (Nat.zero_le _) AR (My a ((ff.arity:Int).toNat))) (Bd O O (fun Bs=>BZ O) ?_)))))));refine JP O (fun Bs=>GF [5] O (.inl ⟨O,O,O⟩) (Wh n n ds ff.tree (a.take ((ff.arity:Int).toNat)) b c d2 lq hW h2.g (OP h2 e3 hfm h4) hl1) ⟨_,_,O,O,O⟩ An O (aw (we O) (aw (we O) (aw (we O) (aw (we O) (Et)))))) (Bd O O (fun Bs=>BZ O) (Bd O O (fun Bs=>Cx O O) (Bd O O (fun Bs=>Cx O O) (Bd O O (fun Bs=>Cx O O) (Bd O O (fun Bs=>Cx O O) (Lq O O (fun Bs=>A8 Bz O) fun b16=>Lq O O (fun Bs=>A8 Bz O) fun b19=>JJ ?_))))));refine DV [.box b16 ((BO (I9 lq)).map .p),.box b19 [.p (I 0),.p (I 0),.p (.str ⟨#[]⟩),.p (.nils),.p (.nils)],.box b15 ((Em ff).map .p),.box b12 ((Bk dd).map .p),.box b10 ((DN ((Bh ds (.mk gk gi gn gl gs:Tm).name).1)).map .p),.box b8 [.p (I 0),.p (I 0),.p (.str ⟨#[]⟩),.p (.nils),.p (.nils)],.box b5 [.p (I gk),.p (I gi),.p (.str gn),.p (.lst (List.map B0 gl)),.p (.lst (BE gs))],.box b ((G6 d2).map .p)] O (CY (i:=0) Ba O O O Ah AX (E0 _)) ?_;refine DV [.box b16 ((BO (I9 lq)).map .p),.box b19 [.p (I 0),.p (I 0),.p (.str ⟨#[]⟩),.p (.nils),.p (.nils)],.box b15 ((Em ff).map .p),.box b12 ((Bk dd).map .p),.box b10 ((DN ((Bh ds (.mk gk gi gn gl gs:Tm).name).1)).map .p),.box b8 [.p (I 0),.p (I 0),.p (.str ⟨#[]⟩),.p (.nils),.p (.nils)],.box b5 [.p (I gk),.p (I gi),.p (.str gn),.p (.lst (List.map B0 gl)),.p (.lst (BE gs))],.box b ((G6 d2).map .p)] O (Du O) ?_;refine DV [.box b16 ((BO (I9 lq)).map .p),.box b19 [.p (I 0),.p (I 0),.p (.str ⟨#[]⟩),.p (.nils),.p (.nils)],.box b15 ((Em ff).map .p),.box b12 ((Bk dd).map .p),.box b10 ((DN ((Bh ds (.mk gk gi gn gl gs:Tm).name).1)).map .p),.box b8 [.p (I 0),.p (I 0),.p (.str ⟨#[]⟩),.p (.nils),.p (.nils)],.box b5 [.p (I gk),.p (I gi),.p (.str gn),.p (.lst (List.map B0 gl)),.p (.lst (BE gs))],.box b ((G6 d2).map .p)] O (Du O) ?_
  refine DV [.box b16 ((BO (I9 lq)).map .p),.box b19 ((BO lq.2).map .p),.box b15 ((Em ff).map .p),.box b12 ((Bk dd).map .p),.box b10 ((DN ((Bh ds (.mk gk gi gn gl gs:Tm).name).1)).map .p),.box b8 [.p (I 0),.p (I 0),.p (.str ⟨#[]⟩),.p (.nils),.p (.nils)],.box b5 [.p (I gk),.p (I gi),.p (.str gn),.p (.lst (List.map B0 gl)),.p (.lst (BE gs))],.box b ((G6 d2).map .p)] O (CY (i:=1) Ba O O O Ah AX (E0 _)) (JZ (Au (Au (BR [2,3,5,8,15,16,17] 114 (fun y=>y= .p (.bool ((!lq.1.isSome)||d2.over))) ?_ ?_))))
  ·refine A4 (Ax Ay 3 [] O (BL 109 O (fun g1=>?_) (fun g1=>?_)))
   ·(try simp only[sd,se] at g1);exact As Ay 5 [] O (⟨O,O,AK,AI,⟨O,O,O,O,O,O,O,Aq⟩⟩)
   (try simp only[sd,se] at g1);exact As Ay 5 [7] O (⟨O,O,AK,AI,⟨O,O,O,O,O,O,O,Aq⟩⟩)
  rintro _ rfl;refine Aw O (fun c7=>?_) (fun c7=>?_)
  ·(try simp only[sd,se] at c7);rw[JY (by simpa [DD] using c7)] at hl2;cases hl2;refine Av Ay 3 [5,0] O (BI (BT (i:=5) O) (A1 (⟨O,_,_,⟨_,_,O,(BB (i:=5) Ba O O O),⟨_,_,O,O,O⟩⟩,(B4 (is:=[7]) O),?_⟩)))
   all_goals exact⟨rfl,rfl⟩
  (try simp only[sd,se] at c7);rw[Kp (by simpa using c7.1) (by simpa [DD] using c7.2)] at hl2;refine A2 (Az (Ax Ay 3 [0,6] O (Ar O (BF O O (NS (I9 lq) gl (CP.1 hlo.1).nd hgl.2.1 hgl.2.2.1) O) (Ax Ay 3 [] O (BG O (A8 Bz O) fun b20=>As Ay 2 [0,1] O (Au (Av Ay 2 [] O (Aw O (fun c8=>?_) (fun c8=>?_)))))))))
  ·(try simp only[sd,se] at c8);rw[KO (h:=(.mk gk gi gn gl gs:Tm)) c8] at hl2;cases hl2;refine Av Ay 3 [6,0] O (BI (BT (i:=6) O) (A1 (⟨O,_,_,⟨_,_,O,(BB (i:=6) Ba O O O),⟨_,_,O,O,O⟩⟩,(B4 (is:=[8]) O),?_⟩)))
   all_goals exact⟨rfl,rfl⟩
  (try simp only[sd,se] at c8);obtain⟨hb1,hb2,hb3,hb4⟩:=Uh (by rw[hl2];simp) c8;rw[hb4] at hl2;obtain⟨hpo,hpe⟩:=K3 (h:=(by rw[hl2];simp));rw[hpe] at hl2;cases hl2;refine A2 (Au (Bu (fun k=>false) Dt (BQ Ay 2 [0] O (BH O (fun _=>BF O O (U0 (ML lq) Aa) O) Aq ?_))));refine BH O (fun _=>BF O O (Rs ((Bp (I9 lq) gl).1) ((ML lq).reverse) (by have:=F9 (t:=(Bp (I9 lq) gl).1) hb1;omega) (CP.1 hb1).nd (FI (fG hb2)).1 (by rw[Tc];omega)) O) Aq ?_;refine Bn Ay 5 [0,1] O (Au (Bu (fun k=>false) Dt (BQ Ay 3 [0] O (GP O O (B8 [8] O (.inl ⟨O,O,O⟩) (H8 b (EL.mk d2.steps d2.nodes d2.forms d2.limit d2.over) ((CT ((Bp (I9 lq) gl).1) ((ML lq).reverse) 0).1) ((CT ((Bp (I9 lq) gl).1) ((ML lq).reverse) 0).2) (CP.1 hpo).nd) ⟨_,_,O,O,O⟩ An O (.inl O)) AB Aq (BQ Ay 2 [] O (CX (j:=3) O O O (fun H i hi=>A3 (i:=i) DH O hi (CI _)) AB Aq (BH O (fun _=>Ca (lo:=(ff.arity:Int).toNat) Bf O (CF (Bw _)) ⟨_,pI Ao⟩ O AR (Nat.le_refl _) (Ju a ((ff.arity:Int).toNat))) Aq (BH O (fun _=>BF O O (GQ ((CT ((Bp (I9 lq) gl).1) ((ML lq).reverse) 0).1) (a.drop ((ff.arity:Int).toNat)) AS) O) Aq (Bn Ay 2 [6,1] O (A1 ?_))))))))));refine⟨O,_,_,⟨_,_,O,(BB (i:=6) Ba O O Ah),⟨_,_,O,O,O⟩⟩,(B4 (is:=[8]) O),?_⟩
  all_goals exact⟨rfl,rfl⟩
 (try simp only[sd,se] at c5);have hq:=(IS (E:=ds) (S:=DD) (W:=EF ds DD n) (n:=n) (h:=(.mk gk gi gn gl gs:Tm)) (a:=a) (s:=c) hu hk1 hk5 c5).symm.trans h6;cases hq;refine A2 (Av Ay 3 [2,0] O (BI (BT (i:=2) O) (A1 (⟨O,_,_,⟨_,_,O,(BB (i:=2) Ba O O O),⟨_,_,O,O,O⟩⟩,(B4 (is:=[4]) O),?_⟩))))
 all_goals exact⟨rfl,rfl⟩
end Go.Proofs.YtboammbpdaoojaaGreat
namespace Go.Eu
open Go.Abs
theorem IN {k i:Int}{n:ByteArray}{l:List CZ}{ks:List Tm}(h:okB (.mk k i n l ks)=true):(k=5→ks.length=2)∧(k=11→ks.length=3)∧(k=9∨k=10→ks.length=1)∧(k=8→ks.length=3):=by
 have hw:=(CP.1 h).wt;simp only[Wt] at hw;have h1:=hw.1;unfold arity at h1;refine⟨fun e=>?_,fun e=>?_,fun e=>?_,fun e=>?_⟩
 ·rw[if_pos Ao] at h1;omega
 ·rw[if_neg Ao,if_pos Ao] at h1;omega
 ·rw[if_neg Ao,if_neg Ao,if_pos Ao] at h1;omega
 rw[if_neg Ao,if_pos Ao] at h1;omega
theorem XR {l:List Tm}{v:Tm}(h:l[1]?=some v):(l.take 2).drop 1=[v]:=by
 cases l with
 | nil=>simp at h
 | cons a l =>
  cases l with
  | nil=>simp at h
  | cons b l=>simp at h;subst h;rfl
section
variable {E:List CK}{σ:Type}{S:Sys σ}{n:Nat}{t:Tm}{s:σ}
theorem Qx {q:Option Tm}(h:q.isSome=false):Yr E S n t (q,s)= .ok (t,s):=by
 cases q with
 | none=>rfl
 | some x=>cases h
theorem RJ {q:Option Tm}(h:q.isSome=true):Yr E S n t (q,s)=EF E S n s (q.getD Bi):=by
 cases q with
 | none=>cases h
 | some x=>rfl
end
structure lA (w:Tm):Prop where
 ok:okB w=true
 nd:Nd w
 sz:size w<549755813888
 len:(A9 w).2.length<549755813888
 head:okB (A9 w).1=true
 args:∀x∈(A9 w).2,okB x=true
 asz:Bb (A9 w).2+(A9 w).2.length<size w
theorem TZ {w:Tm}(h:okB w=true):lA w:=by
 have h1:=F9 h;have h2:=Fm w;have h3:=size_pos (A9 w).1;exact⟨h,(CP.1 h).nd,h1,by omega,(Ga h).1,(Ga h).2,by omega⟩
theorem Z8 {l:List Tm}(h:∀x∈l,okB x=true):Ld (l.take 1):=(FI fun v hv=>h v (List.mem_of_mem_take hv)).1
end Go.Eu
namespace Go.Proofs.YtboammbpdaoojaaGreat
open Go.Abs Go.Eu
set_option maxHeartbeats 4000000 in
theorem VI:∀(ds:List CK) (hE:HQ ds) (n:Nat),qX ds n:=by
 intro ds hE n
 induction n using Nat.strongRecOn with
 | ind n ih =>
  intro b t c c2 r h1;refine A6 Tryz.func14 O qT (n:=118) O O (Az (BG O (BP O) fun b4=>BG O (A8 Bz O) fun b6=>Bj O (Au (BA (Be (α:=Nat×Tm×EL) (fun(m,w,d)=>⟨118,mk [(0,.p (.lst (List.map Bk ds))),(2,.ptr b 0),(4,.ptr b4 0),(6,.ptr b6 0)],[.box b6 [.p (I 0),.p (I 0),.p (.str ⟨#[]⟩),.p (.nils),.p (.nils)],.box b4 ((BO w).map .p),.box b ((G6 d).map .p)],[]⟩) (fun(m,w,d)=>m) (fun(m,w,d)=>EF ds DD m d w= .ok (r,c2)∧m≤n) ⟨n,t,c⟩ (⟨h1,Nat.le_refl _⟩) ?_ ?_)))))
  ·exact BY ⟨we O,we O,we O,we O,Aq⟩ (leH (is:=[0,1,2]) O (wl (oe O) (wl (oe O) (wl (oe O) (C7)))))
  rintro⟨m,w,d⟩ hC
  try simp only at hC
  obtain⟨hC,hmn⟩:=hC;obtain⟨k,rfl⟩:=ZB hC Ap;have hwo:=Xl hC Ap;have hsp:=TZ hwo;have hsl:=hsp.len;have hss:=hsp.sz;have hsa:=hsp.asz;refine Au (Av Ay 5 [2] O (Aw O (fun c1=>?_) (fun c1=>?_)))
  ·(try simp only[sd,se] at c1);have hov:DD.over d=false:=by simpa [DD] using c1
   refine A2 (BA (Az (Ar O (BU (i:=1) Ba O O Ah) (Ar O (BF O O (SI _ w (Nat.le_refl _) Aa) O) (Ax Ay 3 [] O (BG O (A8 Bz O) fun b7=>As Ay 2 [0,1] O (Az (Ar O (A0 G8 O O) ?_))))))));generalize hz:(A9 w).1=z;obtain⟨zk,zi,zn,zl,zs⟩:=z;have hzo:okB (.mk zk zi zn zl zs)=true:=hz▸hsp.head;have hzl:=IN hzo;have hzn:=(CP.1 hzo).nd;refine As Ay 1 [0] O (BA (Av Ay 2 [] O (Aw O (fun c3=>?_) (fun c3=>?_))))
   ·(try simp only[sd,se] at c3);have hk:=(congrArg Tm.kind hz).trans c3;refine Au (Az (Bt O (Ar O (BM Bf O (BS _)) (As Ay 1 [] O (Aw O (fun c4=>?_) (fun c4=>?_))))))
    ·(try simp only[sd,se] at c4);have hq:=(Ol hwo hov rfl hk Ao).symm.trans hC;cases hq;refine Av Ay 2 [2,1,1] O (A1 (⟨O,_,_,⟨_,_,O,(BB (i:=1) Ba O O Ah),O⟩,(B4 (is:=[3]) O),?_⟩))
     all_goals exact⟨rfl,rfl⟩
    (try simp only[sd,se] at c4);refine A2 (Au (Bu (fun k=>Nat.beq k 10) Dt (BQ Ay 2 [0] O ?_)));obtain⟨x,hx⟩:=A7 (l:=zs) (i:=1) Ao;have hxo:=GA hzo (i:=1) hx;have hq:=(Q4 hwo hov rfl hk Ao (by rw[hz];exact hx)).symm.trans hC;obtain⟨hpo,hpe⟩:=K3 (h:=(by rw[hq];simp));rw[hpe] at hq;refine BH O (fun _=>A5 Bf O O Ao (Bc hx) (BD _)) Aq (BQ Ay 2 [] O (BH O (fun _=>Ca (lo:=0) (hi:=1) Bf O (CF (Bw _)) O ⟨_,O⟩ (Nat.zero_le _) AR (My ((A9 w).2) 1)) Aq (BH O (fun _=>BF O O (Rs x (((A9 w).2).take 1) (by have:=F9 hxo;omega) (CP.1 hxo).nd (Z8 hsp.args) (by have:=Db (A9 w).2 1;omega)) O) Aq (BQ Ay 3 [] O (G9 [] O O (A8 Bz O) Ak fun b9=>⟨AB,Aq,?_⟩)))));refine Bn Ay 2 [0,1] O (Bu (fun k=>false) Dt (BQ Ay 3 [0] O (GP O O (B8 [4] O (.inl ⟨O,O,O⟩) (H8 b (EL.mk d.steps d.nodes d.forms d.limit d.over) ((CT x (((A9 w).2).take 1) 0).1) ((CT x (((A9 w).2).take 1) 0).2) (CP.1 hpo).nd) ⟨_,_,O,O,O⟩ An O (.inl O)) AB Aq (BH O (fun _=>BZ O) Aq (BH O (fun _=>Ca (lo:=1) Bf O (CF (Bw _)) ⟨_,O⟩ O AR (Nat.le_refl _) (Ju ((A9 w).2) 1)) Aq (BH O (fun _=>BF O O (GQ ((CT x (((A9 w).2).take 1) 0).1) (((A9 w).2).drop 1) AS) O) Aq (Bn Ay 1 [3,1] O ?_)))))));refine⟨⟨k,(apply ((CT x (((A9 w).2).take 1) 0).1) (((A9 w).2).drop 1)),((EL.mk d.steps d.nodes d.forms d.limit d.over).result ((CT x (((A9 w).2).take 1) 0).1) ((CT x (((A9 w).2).take 1) 0).2))⟩,AU,⟨hq,by omega⟩,BY ⟨we rfl,we rfl,we rfl,we rfl,trivial⟩ (leH (is:=[2,3,4]) rfl (wl (oe rfl) (wl (oe rfl) (wl (oe rfl) (C7)))))⟩
   (try simp only[sd,se] at c3);refine Av Ay 2 [] O (Aw O (fun c4=>?_) (fun c4=>?_))
   ·(try simp only[sd,se] at c4);have hk:=(congrArg Tm.kind hz).trans c4;refine Au (Bu (fun k=>Nat.beq k 11) Dt (BQ Ay 2 [0] O ?_));obtain⟨x,hx⟩:=A7 (l:=zs) (i:=2) Ao;have hxo:=GA hzo (i:=2) hx;obtain⟨v,hv⟩:=A7 (l:=zs) (i:=1) Ao;have hvo:=GA hzo (i:=1) hv;have hq:=(R0 hwo hov rfl hk (by rw[hz];exact hv) (by rw[hz];exact hx)).symm.trans hC;rw[←XR hv] at hq;obtain⟨hpo,hpe⟩:=K3 (h:=(by rw[hq];simp));rw[hpe] at hq;refine BH O (fun _=>A5 Bf O O Ao (Bc hx) (BD _)) Aq (BQ Ay 3 [0] O (BH O (fun _=>Ca (lo:=1) (hi:=2) Bf O (CF (Bw _)) ⟨_,O⟩ ⟨_,O⟩ (by first | decide | (simp only[BS];omega)) (by first | decide | (simp only[BS];omega)) (lU zs 1 2)) Aq (BH O (fun _=>BF O O (Rs x ((zs.take 2).drop 1) (by have:=F9 hxo;omega) (CP.1 hxo).nd (by rw[XR hv];exact⟨(CP.1 hvo).nd,trivial⟩) (by rw[XR hv];have:=F9 hvo;simp only[Bb];omega)) O) Aq (BQ Ay 3 [] O (G9 [] O O (A8 Bz O) Ak fun b11=>⟨AB,Aq,?_⟩)))));refine Bn Ay 2 [0,1] O (A4 (Ax Ay 3 [0] O (Ar O (B8 [4] O (.inl ⟨O,O,O⟩) (H8 b (EL.mk d.steps d.nodes d.forms d.limit d.over) ((CT x ((zs.take 2).drop 1) 0).1) ((CT x ((zs.take 2).drop 1) 0).2) (CP.1 hpo).nd) ⟨_,_,O,O,O⟩ An O (.inl O)) (Bt O (Ar O (BF O O (GQ ((CT x ((zs.take 2).drop 1) 0).1) ((A9 w).2) AS) O) (As Ay 1 [3,1] O ?_))))));refine⟨⟨k,(apply ((CT x ((zs.take 2).drop 1) 0).1) ((A9 w).2)),((EL.mk d.steps d.nodes d.forms d.limit d.over).result ((CT x ((zs.take 2).drop 1) 0).1) ((CT x ((zs.take 2).drop 1) 0).2))⟩,AU,⟨hq,by omega⟩,BY ⟨we rfl,we rfl,we rfl,we rfl,trivial⟩ (leH (is:=[2,3,4]) rfl (wl (oe rfl) (wl (oe rfl) (wl (oe rfl) (C7)))))⟩
   (try simp only[sd,se] at c4);refine Au (Av Ay 2 [] O (BR [0,2,4,6,7,8,27] 71 (fun y=>y= .p (.bool (decide (zk=9∨zk=10)))) ?_ ?_))
   ·refine Aw O (fun c5=>?_) (fun c5=>?_)
    ·(try simp only[sd,se] at c5);exact A2 (⟨O,O,(List.Sublist.refl _),(by refine pB (Bool.eq_iff_iff.2 ?_);simp only[beq_iff_eq,decide_eq_true_eq];omega),⟨O,O,O,O,O,O,O,Aq⟩⟩)
    (try simp only[sd,se] at c5);exact A4 (As Ay 2 [] O (⟨O,O,(List.Sublist.refl _),(by refine pB (Bool.eq_iff_iff.2 ?_);simp only[beq_iff_eq,decide_eq_true_eq];omega),⟨O,O,O,O,O,O,O,Aq⟩⟩))
   rintro _ rfl;refine Aw O (fun c5=>?_) (fun c5=>?_)
   ·(try simp only[sd,se] at c5);have hk9:zk=9∨zk=10:=by simpa using c5
    refine Az (Ax Ay 3 [0] O ?_);obtain⟨x,hx⟩:=A7 (l:=zs) (i:=0) Ao;obtain⟨⟨pr,d2⟩,hr1,hr2,hr3⟩:=He ((OR hwo hov rfl (by rw[hz];exact hk9) (by rw[hz];exact hx)).symm.trans hC);refine Ar O (A5 Bf O O Ao (Bc hx) (BD _)) (Ax Ay 2 [] O (Ar O (B8 [3] O (.inl ⟨O,O,O⟩) (ih k Ao b x (EL.mk d.steps d.nodes d.forms d.limit d.over) d2 pr hr1) ⟨_,_,O,O,O⟩ An O (.inl O)) (BG O (A8 Bz O) fun b13=>As Ay 1 [0,1] O (Au (Az (Ar O (A0 G8 O O) ?_))))));obtain⟨prk,pri,prn,prl,prs⟩:=pr;have hprl:=IN hr2;refine As Ay 2 [0] O (Aw O (fun c6=>?_) (fun c6=>?_))
    ·(try simp only[sd,se] at c6);rw[Lm (r:=(Tm.mk prk pri prn prl prs,d2)) c6] at hr3;cases hr3;refine Az (Ax Ay 3 [1,0] O (Ar O (Bo Bf Bz O O O O O) (Ax Ay 2 [] O (Ar O (GU O O (GQ (.mk zk 0 ⟨#[]⟩ [] [(.mk prk pri prn prl prs:Tm)]:Tm) ((A9 w).2) AS) (aw (Df O) (aw (we O) (Et)))) (As Ay 1 [2,1] O (A1 (⟨O,_,_,⟨_,_,O,(BB (i:=2) Ba O O Ah),O⟩,(B4 (is:=[4]) O),?_⟩)))))))
     all_goals exact⟨by show (.agg ((BO (apply (.mk zk 0 ⟨#[]⟩ [] [(.mk prk pri prn prl prs:Tm)]:Tm) ((A9 w).2))).map .p):AV)=_;rw[hz];rfl,rfl⟩
    (try simp only[sd,se] at c6);have hp8:=c6;refine A2 (A4 (Ax Ay 7 [0,1] O ?_));obtain⟨x1,hx1⟩:=A7 (l:=prs) (i:=(((1:Int)+(zk:Int):Int) - (9:Int):Int).toNat) Ao;have hxo:=GA hr2 (i:=(1+zk - 9).toNat) hx1;have hq:=(OC (r:=(Tm.mk prk pri prn prl prs,d2)) (h:=(A9 w).1) hp8 (by rw[hz];exact hx1)).symm.trans hr3;obtain⟨hpo,hpe⟩:=K3 (h:=(by rw[hq];simp));rw[hpe] at hq;refine Ar O (A5 Bf O O Ao (Bc hx1) (BD _)) (Ar O (BN Ba O (BD _)) (Ar O (B8 [4] O (.inl ⟨O,O,O⟩) (H8 b d2 x1 0 (CP.1 hpo).nd) ⟨_,_,O,O,O⟩ An O (.inl O)) (Bt O (Ar O (BF O O (GQ x1 ((A9 w).2) AS) O) (As Ay 1 [3,1] O ?_)))));refine⟨⟨k,(apply x1 ((A9 w).2)),(d2.result x1 0)⟩,AU,⟨hq,by omega⟩,BY ⟨we rfl,we rfl,we rfl,we rfl,trivial⟩ (leH (is:=[2,3,4]) rfl (wl (oe rfl) (wl (oe rfl) (wl (oe rfl) (C7)))))⟩
   (try simp only[sd,se] at c5);refine Av Ay 2 [] O (Aw O (fun c6=>?_) (fun c6=>?_))
   ·(try simp only[sd,se] at c6);have hk:=(congrArg Tm.kind hz).trans c6;refine Az (Ax Ay 4 [0] O ?_);obtain⟨⟨q,d2⟩,hc1,hc2⟩:=IH ((Ka hwo hov rfl hk).symm.trans hC);refine Ar O (B8 [3] O (.inl ⟨O,O,O⟩) (bF k ds (.mk zk zi zn zl zs:Tm) ((A9 w).2) b (EL.mk d.steps d.nodes d.forms d.limit d.over) d2 q (ih k Ao) hE hzo hsp.args Ao (by rw[←hz];exact hc1)) ⟨_,_,O,O,O⟩ An O (.inl O)) (Ax Ay 3 [] O (BG O (A8 Bz O) fun b14=>As Ay 2 [0,1] O (Au (Av Ay 2 [] O (Aw O (fun c7=>?_) (fun c7=>?_))))))
    ·(try simp only[sd,se] at c7);rw[Qx (by simpa using c7)] at hc2;cases hc2;refine Av Ay 2 [3,2,1] O (A1 (⟨O,_,_,⟨_,_,O,(BB (i:=2) Ba O O Ah),O⟩,(B4 (is:=[4]) O),?_⟩))
     all_goals exact⟨rfl,rfl⟩
    (try simp only[sd,se] at c7);rw[RJ (by simpa using c7)] at hc2;have hq:=hc2;refine A2 (A4 (As Ay 2 [0,3,1] O ?_));refine⟨⟨k,(q.getD Bi),d2⟩,AU,⟨hq,by omega⟩,BY ⟨we rfl,we rfl,we rfl,we rfl,trivial⟩ (leH (is:=[2,3,4]) rfl (wl (oe rfl) (wl (oe rfl) (wl (oe rfl) (C7)))))⟩
   (try simp only[sd,se] at c6);have hq:=(V3 hwo hov rfl (by rw[hz];assumption) (by rw[hz];assumption) (by rw[hz];show ¬zk=9;omega) (by rw[hz];show ¬zk=10;omega) (by rw[hz];assumption)).symm.trans hC;cases hq;refine Av Ay 2 [2,1,1] O (A1 (⟨O,_,_,⟨_,_,O,(BB (i:=1) Ba O O Ah),O⟩,(B4 (is:=[3]) O),?_⟩))
   all_goals exact⟨rfl,rfl⟩
  (try simp only[sd,se] at c1);have hq:=(Y5 (S:=DD) (E:=ds) (n:=k) hwo (by simpa [DD] using c1)).symm.trans hC;cases hq;refine Bg (Av Ay 2 [1,0,1] O (A1 (⟨O,_,_,⟨_,_,O,(BB (i:=0) Ba O O Ah),O⟩,(B4 (is:=[2]) O),?_⟩)))
  all_goals exact⟨rfl,rfl⟩
end Go.Proofs.YtboammbpdaoojaaGreat
namespace Go.Eu
open Go.Abs
section
variable {E:List CK}{σ:Type}{S:Sys σ}{R:σ→σ→Prop}
structure Yd (S:Sys σ) (R:σ→σ→Prop):Prop where
 rf:∀s,R s s
 tr:∀{a b c},R a b→R b c→R a c
 rs:∀{s t e s'},S.res s t e=some s'→R s s'
variable (h:Yd S R)
include h
theorem Ki {α:Type}{s:σ}{x:Tm×Int}{k:Tm→σ→Out (α×σ)}{q:α×σ}(hk:∀t s' q,k t s'= .ok q→R s' q.2) (hq:S.put s x k= .ok q):R s q.2:=by
 unfold Sys.put at hq;split at hq
 ·cases hs:S.res s x.1 x.2 with
  | none=>rw[hs] at hq;cases hq
  | some s'=>rw[hs] at hq;exact h.tr (h.rs hs) (hk _ _ _ hq)
 cases hq
theorem Lj {W:σ→Tm→Out (Tm×σ)}(hW:∀s t q,W s t= .ok q→R s q.2):∀(k:Nat) (t:FJ) (vs:List Tm) (l:Tm) (s:σ) (q:(Option (Tm×List Tm)×Tm)×σ),Ds E S W k t vs l s= .ok q→R s q.2
 | 0,t,vs,l,s,q,hq=>by rw[Ds] at hq;cases hq
 | k+1,t,vs,l,s,q,hq=>by
  by_cases hk:t.kind=1
  ·by_cases hb:t.var<0∨t.var≥(vs.length:Int)∨S.over s=true
   ·rw[IL hk hb] at hq;cases hq;exact h.rf _
   have hlt:t.var.toNat<vs.length:=by omega
   rw[Jf hk hb (List.getElem?_eq_getElem hlt)] at hq;obtain⟨r,h1,h2,h3⟩:=He hq;have hr:=hW _ _ _ h1;cases hc:DE E r.1 with
   | none=>rw[Fp hc] at h3;cases h3;exact hr
   | some p =>
    obtain⟨d,j,f⟩:=p;cases hbr:Cp (Ed d j).name t.branches with
    | none=>rw[HV hc hbr] at h3;cases h3;exact hr
    | some t'=>rw[Hc hc hbr] at h3;exact h.tr hr (Lj hW k t' _ _ _ _ h3)
  rw[HM hk] at hq;cases hq;exact h.rf _
theorem We {d:CK}{g m:Tm}{a:List Tm}{s:σ}{q:Option Tm×σ}(hq:E4 E S d g a m s= .ok q):R s q.2:=by
 unfold E4 at hq;split at hq
 ·cases hq;exact h.rf _
 split at hq
 ·cases hq;exact h.rf _
 split at hq
 ·cases hq;exact h.rf _
 exact Ki h (fun t s' q e=>by cases e;exact h.rf _) hq
theorem fH {g b:Tm}{vs rest:List Tm}{s:σ}{q:Option Tm×σ}(hq:HL S g b vs rest s= .ok q):R s q.2:=by
 unfold HL at hq;split at hq
 ·cases hq;exact h.rf _
 split at hq
 ·cases hq
 exact Ki h (fun t s' q e=>by cases e;exact h.rf _) hq
theorem ZZ {d:CK}{g:Tm}{a:List Tm}{s:σ}{q:Option Tm×σ}(hq:E1 S d g a s= .ok q):R s q.2:=by
 unfold E1 at hq;split at hq
 ·cases hq;exact h.rf _
 exact Ki h (fun t s' q e=>by cases e;exact h.rf _) hq
theorem TK {W:σ→Tm→Out (Tm×σ)}(hW:∀s t q,W s t= .ok q→R s q.2) {n:Nat}{g:Tm}{a:List Tm}{s:σ}{q:Option Tm×σ}(hq:EY E S W n g a s= .ok q):R s q.2:=by
 unfold EY at hq;split at hq
 ·cases hq;exact h.rf _
 split at hq
 ·exact ZZ h hq
 split at hq
 ·unfold RV at hq;split at hq
  ·cases hq;exact h.rf _
  obtain⟨r,h1,h2,h3⟩:=He hq;exact h.tr (hW _ _ _ h1) (We h h3)
 split at hq
 ·unfold JO at hq;split at hq
  ·cases hq;exact h.rf _
  obtain⟨r,h1,h2⟩:=IH hq;have hr:=Lj h hW _ _ _ _ _ _ h1;split at h2
  ·cases h2;exact hr
  split at h2
  ·cases h2;exact hr
  exact h.tr hr (fH h h2)
 cases hq;exact h.rf _
theorem NH:∀(n:Nat) (s:σ) (t:Tm) (q:Tm×σ),EF E S n s t= .ok q→R s q.2
 | 0,s,t,q,hq=>by rw[EF] at hq;cases hq
 | n+1,s,t,q,hq=>by
  have ih:=NH n;rw[EF] at hq;split at hq
  ·cases hq
  split at hq
  ·cases hq;exact h.rf _
  split at hq
  ·cases hq
  split at hq
  ·split at hq
   ·cases hq;exact h.rf _
   unfold Nw at hq;split at hq
   ·cases hq
   exact Ki h (fun t s' q e=>ih _ _ _ e) hq
  split at hq
  ·unfold Ua at hq;split at hq
   ·exact Ki h (fun t s' q e=>ih _ _ _ e) hq
   cases hq
  split at hq
  ·split at hq
   ·cases hq
   obtain⟨r,h1,h2,h3⟩:=He hq;have hr:=ih _ _ _ h1;split at h3
   ·cases h3;exact hr
   unfold Ms at h3;split at h3
   ·cases h3
   exact h.tr hr (Ki h (fun t s' q e=>ih _ _ _ e) h3)
  split at hq
  ·obtain⟨r,h1,h2⟩:=IH hq;have hr:=TK h ih h1;split at h2
   ·cases h2;exact hr
   exact h.tr hr (ih _ _ _ h2)
  cases hq;exact h.rf _
end
theorem KS:Yd B5 (fun a b=>b≤a∧(0≤a→0≤b)):=by
 refine⟨fun s=>⟨Int.le_refl _,fun h=>h⟩,fun h1 h2=>⟨by omega,fun h=>h2.2 (h1.2 h)⟩,fun h=>?_⟩;simp only[B5] at h;split at h
 ·cases h
 cases h;omega
theorem Qf {E:List CK}{n:Nat}{s s':Int}{t r:Tm}(h:HE s) (hq:EF E B5 n s t= .ok (r,s')):HE s':=by
 have h1:=NH KS n s t _ hq;have h2:=h.1;have h3:=h.2;exact⟨h1.2 h2,by have:=h1.1;simp only at this;omega⟩
def Ly (n:Int):Except Int Unit:=if n - 1<0 then .error 0 else .ok ()
def JQ (n:Int) (x:Tm×Int):Except Int (Tm×Int):=if n - 1<0∨x.2≠0 then .error 0 else .ok (x.1,n - 1)
theorem oV {n:Int}(h:0≤n - 1):Ly n= .ok ():=by rw[Ly,if_neg Ao]
theorem mM {n:Int}(h:n - 1<0):Ly n= .error 0:=by rw[Ly,if_pos h]
end Go.Eu
namespace Go.Eu
theorem WC {t:Tm}{vs:List Tm}(ht:okB t=true) (hv:∀v∈vs,okB v=true) (hl:vs.length<549755813888):F8 t vs 0=CT t vs 0 :=
 aU (ZO hv hl) (CP.1 ht).wt (CP.1 ht).vp (by have:=F9 ht;omega)
theorem ec {n e:Int}{x:Tm×Int}(h:Ly n= .error e):JQ n x= .error e:=by
 unfold Ly at h;split at h
 ·rename_i hn;cases h;rw[JQ,if_pos (.inl hn)]
 cases h
theorem oF {n:Int}{t:Tm}{vs:List Tm}(hn:0≤n) (ht:okB t=true) (hv:∀v∈vs,okB v=true) (hl:vs.length<549755813888) (he:(F8 t vs 0).2≠0):JQ n (CT t vs 0)= .error 0:=by
 rw[WC ht hv hl] at he;rw[JQ,if_pos (.inr he)]
theorem pW {n:Int}{t:Tm}{vs:List Tm}{u:Unit}(hn:Ly n= .ok u) (ht:okB t=true) (hv:∀v∈vs,okB v=true) (hl:vs.length<549755813888) (he:(F8 t vs 0).2=0):JQ n (CT t vs 0)= .ok ((F8 t vs 0).1,n - 1):=by
 rw[WC ht hv hl] at he ⊢;unfold Ly at hn;split at hn
 ·cases hn
 rw[JQ,if_neg Ao]
end Go.Eu
namespace Go.Eu
open Go.Abs
section
variable {α:Type}{n n2 e:Int}{x:Tm×Int}{z t:Tm}{k:Tm→Int→Out α}{u:Unit}
theorem K5 (hs:B5.put n x k≠ .stuck) (h:JQ n x= .ok (z,n2)):B5.put n x k=k z n2:=by
 rw[(ZC hs).2];unfold JQ at h;split at h
 ·cases h
 rename_i hn;cases h;rw[if_neg hn]
theorem K4 (hs:B5.put n x k≠ .stuck) (h:JQ n x= .error e):(B5.put n x k).ex= .error e:=by
 rw[(ZC hs).2];unfold JQ at h;split at h
 ·rename_i hn;cases h;rw[if_pos hn];rfl
 cases h
theorem oc (h:Ly n= .ok u):JQ n (t,0)= .ok (t,n - 1):=by
 unfold Ly at h;split at h
 ·cases h
 rw[JQ,if_neg Ao]
theorem ei (hs:B5.put n (t,0) k≠ .stuck) (h:Ly n= .ok u):B5.put n (t,0) k=k t (n - 1):=K5 hs (oc h)
theorem ew (hs:B5.put n (t,0) k≠ .stuck) (h:Ly n= .error e):(B5.put n (t,0) k).ex= .error e:=K4 hs (ec h)
end
theorem Rl {n n2:Int}{x:Tm×Int}{z:Tm}(h:HE n) (hp:JQ n x= .ok (z,n2)):HE n2∧z=x.1:=by
 have h1:=h.1;have h2:=h.2;unfold JQ at hp;split at hp
 ·cases hp
 cases hp;exact⟨⟨by omega,by omega⟩,rfl⟩
section
variable {E:List CK}{g m:Tm}{a:List Tm}{s e:Int}{d:CK}{u:Unit}
theorem eo (hs:E1 B5 d g a s≠ .stuck) (he:(Bp d.value g.levels).2=0) (hn:Ly s= .ok u):E1 B5 d g a s= .ok (some (apply (Bp d.value g.levels).1 a),s - 1):=by
 rw[KB he] at hs ⊢;exact ei hs hn
theorem dj (hs:E1 B5 d g a s≠ .stuck) (he:(Bp d.value g.levels).2=0) (hn:Ly s= .error e):(E1 B5 d g a s).ex= .error e:=by
 rw[KB he] at hs ⊢;exact ew hs hn
theorem jT {c:CK}{j:Int}{f:List Tm}{r:Tm}(hs:E4 E B5 d g a m s≠ .stuck) (hc:DE E m=some (c,j,f)) (hn:¬(c.name≠d.name∨j≥(d.recs.rules.length:Int))) (hr:d.recs.rules[j.toNat]?=some r) (he:(Bp r g.levels).2=0) (hk:Ly s= .ok u) :
  E4 E B5 d g a m s= .ok (some (apply (apply (apply (Bp r g.levels).1 (a.take (d.fixed+1+d.ctors.length).toNat)) f) (a.drop (CR d+1).toNat)),s - 1):=by
 rw[Me hc hn hr he] at hs ⊢;exact ei hs hk
theorem iz {c:CK}{j:Int}{f:List Tm}{r:Tm}(hs:E4 E B5 d g a m s≠ .stuck) (hc:DE E m=some (c,j,f)) (hn:¬(c.name≠d.name∨j≥(d.recs.rules.length:Int))) (hr:d.recs.rules[j.toNat]?=some r) (he:(Bp r g.levels).2=0) (hk:Ly s= .error e) :
  (E4 E B5 d g a m s).ex= .error e:=by
 rw[Me hc hn hr he] at hs ⊢;exact ew hs hk
end
theorem Tj {E:List CK}{n k:Nat}{s s':Int}{t:FJ}{vs:List Tm}{l:Tm}{q:Option (Tm×List Tm)×Tm}(h:HE s) (hq:Ds E B5 (EF E B5 n) k t vs l s= .ok (q,s')):HE s':=by
 have h1:=Lj KS (fun s t q=>NH KS n s t q) k t vs l s _ hq;have h2:=h.1;have h3:=h.2;exact⟨h1.2 h2,by have:=h1.1;simp only at this;omega⟩
theorem XP {E:List CK}{n:Nat}{s s':Int}{g:Tm}{a:List Tm}{q:Option Tm}(h:HE s) (hq:EY E B5 (EF E B5 n) n g a s= .ok (q,s')):HE s':=by
 have h1:=TK KS (fun s t q=>NH KS n s t q) hq;have h2:=h.1;have h3:=h.2;exact⟨h1.2 h2,by have:=h1.1;simp only at this;omega⟩
end Go.Eu
namespace Go.Eu
theorem j6 {l:List Tm}{x:Tm}(h:l[0]?=some x):l.take 1=[x]:=by
 cases l with
 | nil=>simp at h
 | cons a l=>simp at h;subst h;rfl
theorem ok_one {x:Tm}(h:okB x=true):∀v∈[x],okB v=true:=fun v hv=>by rw[List.mem_singleton.1 hv];exact h
theorem Jd {x:Tm}:[x].length<549755813888:=by simp
end Go.Eu
namespace Go.Proofs.YtboammbpdaoojaaGreat
open Go.Abs Go.Eu
theorem ZN:∀(fid:Nat) (caps:List AV),Bq Tryz.prog 159 [.fn (.func fid) [] caps] [] (cQ (fun b=> .agg [.fn (.func 176) [] [.ptr b 0]]) [.fn (.func fid) [] caps]):=by
 intro fid caps;refine A6 Tryz.func159 O oA (n:=5) O O (Az (BG O (BP O) fun b1=>BG O (A8 nA O) fun b2=>Bj O (Av Ay 3 [0,0] O (A1 (⟨O,_,_,⟨_,_,O,(BB (i:=0) mu O O O),O⟩,(B4 (is:=[1]) O),?_⟩)))));exact⟨_,O,O⟩
theorem Va:∀(rep:Tm→Int→Except Int Tm) (fid:Nat) (caps:List AV) (T:List BJ) (hr:∀(t:Tm) (d:Int),Nd t→Vp t→t.kind=0→0≤d→d<Dd→Bq Tryz.prog fid ([TV t,.p (I d)]++caps) T (Ky (fun(r:Tm)=>TV r) (fun e=> .p (.iface 223 (I e))) (fun r H'=>H'=T) (rep t d))) (bR:Nat) (s:Unit) (t:Tm) (d:Int),Nd t→Vp t→0≤d→d<Dd→Bq Tryz.prog 176 [TV t,.p (I d),.ptr bR 0] (.box bR [.fn (.func fid) [] caps]::T) (Ky (fun(r:(Tm×Bool)×Unit)=> .tup [TV r.1.1,.p (.bool r.1.2)]) (fun e=> .p (.iface 223 (I e))) (fun r H'=>H'= .box bR [.fn (.func fid) [] caps]::T) (KQ rep s t d)):=by
 intro rep fid caps T hr bR s t d h1 h2 h3 h4;refine A6 Tryz.func176 O oJ (n:=16) O O (Az (BG O (BP O) fun b3=>BG O (A8 Bz O) fun b5=>As Ay 1 [] O (Au (Az (Ar O (A0 G8 O O) ?_)))));obtain⟨tk,ti,tn,tl,ts⟩:=t;refine As Ay 2 [1] O (Aw O (fun c=>?_) (fun c=>?_))
 ·(try simp only[sd,se] at c);refine Az (Ax Ay 3 [2,1] O (jt [_,_,_] O O O (.inr O) (hr (.mk tk ti tn tl ts) d h1 h2 c h3 h4) (DZ _) ?_ ?_))
  rotate_left
  ·intro e _ he;exact⟨O,_,List.nil_sublist _,⟨_,Of c he,O⟩⟩
  rintro z _ hz rfl;refine As Ay 2 [0,1] O (A1 (⟨O,_,_,⟨_,_,O,(BB (i:=0) Ba O O Ah),⟨_,_,O,O,O⟩⟩,(Gx [2] [_,_,_] O),?_⟩));exact⟨⟨⟨z,true⟩,()⟩,MH c hz,O,O⟩
 (try simp only[sd,se] at c);refine A2 (Az (Ar O (BU (i:=1) Ba O O O) (Ar O (BF O O (R3 (.mk tk ti tn tl ts:Tm) h1) O) (As Ay 2 [0,1] O (A1 (⟨O,_,_,⟨_,_,O,(BB (i:=0) Ba O O Ah),⟨_,_,O,O,O⟩⟩,(Gx [2] [_,_,_] O),?_⟩))))));exact⟨⟨⟨.mk tk ti tn tl [],false⟩,()⟩,N1 c,O,O⟩
theorem bK:∀(t:Tm) (d:Int) (bf bb:Nat) (fr b:Int),(Nd t)→(Vp t)→(t.kind=0)→(0≤d)→(d<Dd)→(-4611686018427387904≤b∧b≤4611686018427387904)→(-2305843009213693952≤fr∧fr≤2305843009213693952)→Bq Tryz.prog 177 [.agg ((BO t).map .p),.p (I d),.ptr bf 0,.ptr bb 0] [.box bf [.p (I fr)],.box bb [.p (I b)]] (Ky (fun(r:Tm)=>TV r) (fun e=> .p (.iface 223 (I e))) (fun r H'=>H'=[.box bf [.p (I fr)],.box bb [.p (I b)]]) (Yo b fr t d)):=by
 intro t d bf bb fr b h1 h2 h3 h4 h5 h6 h7;obtain⟨tk,ti,tn,tl,ts⟩:=t;have hi:=h2.1 h3;simp only[Dd] at h5;refine A6 Tryz.func177 O pU (n:=32) O O (Az (BG O (BP O) fun b4=>BG O (A8 Bz O) fun b6=>Bj O (Av Ay 5 [1] O (Au (Av Ay 3 [2] O (Aw O (fun c=>?_) (fun c=>?_)))))))
 ·(try simp only[sd,se] at c);refine Az (Ar O (BU (i:=1) Ba O O O) (Ar O (BF O O (R3 (.mk tk ti tn tl ts:Tm) h1) O) (As Ay 1 [0,1] O (A1 (⟨O,_,_,⟨_,_,O,(BB (i:=0) Ba O O Ah),O⟩,(B4 (is:=[2,3]) O),?_⟩)))));exact⟨(.mk tk ti tn tl []),Ya c,O,O⟩
 (try simp only[sd,se] at c);refine A2 (Au (Au (BR [3,4,6] 25 (fun y=>y= .p (.bool ((decide ((b:Int)<(0:Int)))&&(decide (((ti:Int) - (d:Int):Int)<((fr:Int) - (b:Int):Int)))))) ?_ ?_)))
 ·refine A4 (Ax Ay 3 [3] O (BL 19 O (fun g=>?_) (fun g=>?_)))
  ·(try simp only[sd,se] at g);exact As Ay 6 [2,3] O (⟨O,O,AK,AI,⟨O,O,O,Aq⟩⟩)
  (try simp only[sd,se] at g);exact As Ay 6 [] O (⟨O,O,AK,AI,⟨O,O,O,Aq⟩⟩)
 rintro _ rfl;refine Aw O (fun c1=>?_) (fun c1=>?_)
 ·(try simp only[sd,se] at c1);exact A4 (OQ O O O (.inl ⟨O,O,O⟩) (QS 24) (aw (we O) (Et)) (⟨O,_,List.nil_sublist _,⟨_,jH Ao Ao Ao,O⟩⟩))
 (try simp only[sd,se] at c1);refine A2 (Az (Ax Ay 4 [1,3] O (Dv [] O O O (.inl ⟨O,O,O⟩) (WH ((ti:Int)+(b:Int))) O An (aw (we O) (Et)) (fun _ _ h=>(congrArg List.length h).trans O) ?_ ?_)))
 rotate_left
 ·intro e _ he;exact⟨O,_,List.nil_sublist _,⟨_,by rw[YM Ao Ao,he],rfl⟩⟩
 rintro z _ hz rfl;refine As Ay 1 [0,1] O (A1 (⟨O,_,_,⟨_,_,O,(BB (i:=0) Ba O O Ah),O⟩,(B4 (is:=[2,3]) O),?_⟩));exact⟨z,by rw[YM Ao Ao,hz],rfl,rfl⟩
theorem _root_.Go.AN {α:Prop}(h:α:=by repeat' first | exact trivial | rfl | refine And.intro ?_ ?_):α:=h
theorem YO:∀(t:Tm) (b fr:Int),(Nd t)→(Vp t)→(size t<Dd)→(-4611686018427387904≤b∧b≤4611686018427387904)→(-2305843009213693952≤fr∧fr≤2305843009213693952)→Bq Tryz.prog 161 [.agg ((BO t).map .p),.p (I b),.p (I fr)] [] (Ky (fun(r:Tm)=>TV r) (fun e=> .p (.iface 223 (I e))) (fun r H'=>H'=[]) (Kd b fr t)):=by
 intro t b fr h1 h2 h3 h4 h5;refine A6 Tryz.func161 O nw (n:=11) O O (Az (BG O (BP O) fun b3=>BG O (BP O) fun b4=>BG O (BP O) fun b5=>BG O (A8 Bz O) fun b6=>Bj O (Au (Bu (fun k=>Nat.beq k 1||Nat.beq k 3) Dt (BH O (fun _=>Ef O O) Aq (Yx [(2,.read [.box b3 ((BO t).map .p)] (.agg ((BO t).map .p)))] O O O (.inl ⟨O,O,O⟩) (ZN 177 [.ptr b5 0,.ptr b4 0]) (.inl O) Ak fun bn=>⟨AB,Aq,?_⟩))))));refine BQ Ay 1 [4] O ?_;refine PZ [0,2,3] O O O (.inl ⟨O,O,O⟩) (Nv (KQ (Yo b fr)) (fun _ T=>T=[.box bn [.fn (.func 177) [] [.ptr b5 0,.ptr b4 0]],.box b5 [.p (I fr)],.box b4 [.p (I b)]]) 176 [.ptr bn 0] (fun s t d T hn hp h0 hb hT=>by subst hT;exact Va (Yo b fr) 177 [.ptr b5 0,.ptr b4 0] _ (fun t d g1 g2 g3 g4 g5=>bK t d b5 b4 fr b g1 g2 g3 g4 g5 h4 h5) bn s t d hn hp h0 hb) _ t 0 () _ (Nat.le_refl _) h1 h2 Ao Ao rfl) ⟨_,_,rfl,rfl,⟨_,_,rfl,rfl,⟨_,_,rfl,rfl,rfl⟩⟩⟩ An (DZ _) (fun _ _ h=>(congrArg List.length h).trans rfl) Ak Ak rfl AB ?_ ?_
 rotate_left
 ·intro e he _ _ hτ;exact⟨O,_,List.nil_sublist _,⟨_,Ot he,O⟩⟩
 rintro⟨z,_⟩ _ hz rfl;refine⟨AB,AN,?_⟩;refine Bn Ay 1 [1,1] O (A1 (⟨O,_,_,⟨_,_,O,(BB (i:=1) Ba O O Ah),O⟩,(List.nil_sublist _),?_⟩));exact⟨z,Qn hz,O,O⟩
theorem T3:∀(bo be:Nat) (co ce:List AV),Eh Tryz.prog 153 [.ptr bo 0,.ptr be 0] (.ret) [.box bo co,.box be ce] (fun H'=>H'=[.box bo co,.box be ce]):=by
 intro bo be co ce;refine IE (ty2:=0) Tryz.func153 O jx (n:=9) O O O O O O (Az (Bt O (Ar O (HI bC O O O) (Bj O ?_))));refine Aw O (fun c=>by cases c) (fun c=>?_);exact A2 ⟨.inl O,O,_,(B4 (is:=[0,1]) O),O⟩
theorem TN:∀(bo be:Nat) (e:Int),Eh Tryz.prog 153 [.ptr bo 0,.ptr be 0] (.pan (.p (.iface 223 (I e)))) [.box bo [.p (I 0),.p (I 0),.p (.str ⟨#[]⟩),.p (.nils),.p (.nils)],.box be [.p (I 0)]] (fun H'=>H'=[.box bo [.p (I 0),.p (I 0),.p (.str ⟨#[]⟩),.p (.lst []),.p (.lst [])],.box be [.p (I e)]]):=by
 intro bo be e;refine IE (ty2:=0) Tryz.func153 O jx (n:=9) O O O O O O (Az (Bt O (Ar O (HI bC O O O) (B3 (BT (i:=0) O) (Bj O ?_)))));refine Aw O (fun c=>?_) (fun c=>by cases c);exact A4 (Ax Ay 2 [] O (Ar O (BF O O (TT _) O) (Ax Ay 2 [0,0,1,0] O (B3 (BT (i:=0) O) (Bj O ⟨.inl O,O,_,(B4 (is:=[0,1]) O),O⟩)))))
theorem Th:∀(t:Tm) (d:Int) (bd bv:Nat) (dp:Int) (vs:List Tm),Bq Tryz.prog 155 [.agg ((BO t).map .p),.p (I d),.ptr bd 0,.ptr bv 0] [.box bd [.p (I dp)],.box bv [.p (.lst (BE vs))]] (GW (.p (I (JG vs dp t.index d))) [.box bd [.p (I dp)],.box bv [.p (.lst (BE vs))]]):=by
 intro t d bd bv dp vs;obtain⟨tk,ti,tn,tl,ts⟩:=t;refine A6 Tryz.func155 O mR (n:=23) O O (Az (BG O (BP O) fun b4=>As Ay 1 [] O (Au (Az (Ax Ay 3 [0] O (Ar O (JR O O) (Ar O (B7 (i:=1) DH O O O) (Ar O (JR O O) (As Ay 1 [] O (Au (BR [7] 21 (fun y=>y= .p (.bool ((decide ((wr ((wr ((ti:Int) - (d:Int)):Int) - (dp:Int)):Int)≥(0:Int)))&&(decide ((wr ((wr ((ti:Int) - (d:Int)):Int) - (dp:Int)):Int)<((vs.length:Nat):Int)))))) ?_ ?_)))))))))))
 ·refine A4 (Ax Ay 3 [] O (BL 16 O (fun g=>?_) (fun g=>?_)))
  ·(try simp only[sd,se] at g);exact Ax Ay 2 [2] O (BC O (BM Bf O (BS _)) (As Ay 2 [] O (⟨O,O,AK,AI,⟨O,Aq⟩⟩)))
  (try simp only[sd,se] at g);exact As Ay 5 [] O (⟨O,O,AK,AI,⟨O,Aq⟩⟩)
 rintro _ rfl;refine Aw O (fun c=>?_) (fun c=>?_)
 ·(try simp only[sd,se] at c);refine Av Ay 2 [] O (A1 (⟨O,_,_,⟨_,_,O,O,O⟩,(B4 (is:=[1,2]) O),?_⟩))
  all_goals exact⟨pI (dV Ao Ao).symm,rfl⟩
 (try simp only[sd,se] at c);refine A2 (Av Ay 1 [] O (A1 (⟨O,_,_,⟨_,_,O,O,O⟩,(B4 (is:=[1,2]) O),?_⟩)))
 all_goals exact⟨pI (iQ (ti:=ti) Ao).symm,rfl⟩
theorem az:∀(t:Tm) (d:Int) (bv bc bs bd bvs cb:Nat) (dp n:Int) (vs:List Tm) (sz:List Int),(sz.length=vs.length)→Bq Tryz.prog 156 [.agg ((BO t).map .p),.p (I d),.ptr bv 0,.ptr bc 0,.ptr bs 0] [.box bv [.fn (.func 155) [] [.ptr bd 0,.ptr bvs 0]],.box bc [.ptr cb 0],.box bs [.p (.lst (List.map Gl sz))],.box bd [.p (I dp)],.box bvs [.p (.lst (BE vs))],.box cb [.p (I n)]] (Ky (fun(r:(Tm×Bool)×Int)=> .tup [TV r.1.1,.p (.bool r.1.2)]) (fun e=> .p (.iface 223 (I e))) (fun r H'=>H'=[.box bv [.fn (.func 155) [] [.ptr bd 0,.ptr bvs 0]],.box bc [.ptr cb 0],.box bs [.p (.lst (List.map Gl sz))],.box bd [.p (I dp)],.box bvs [.p (.lst (BE vs))],.box cb [.p (I r.2)]]) (R1 vs sz dp n t d)):=by
 intro t d bv bc bs bd bvs cb dp n vs sz h1;obtain⟨tk,ti,tn,tl,ts⟩:=t;refine A6 Tryz.func156 O nC (n:=33) O O (Az (BG O (BP O) fun b5=>BG O (A8 Bz O) fun b7=>As Ay 1 [] O (Au (Az (Ax Ay 3 [2,1] O (Ar O (B8 [5,6] O (.inr O) (Th (.mk tk ti tn tl ts:Tm) d bd bvs dp vs) ⟨_,_,O,O,⟨_,_,O,O,O⟩⟩ An O (.inl O)) (As Ay 1 [] O (Au (BR [3,4,5,7,9] 20 (fun y=>y= .p (.bool (((tk:Int)==(0:Int))&&(decide ((JG vs dp (.mk tk ti tn tl ts:Tm).index d:Int)≥(0:Int)))))) ?_ ?_)))))))))
 ·refine A4 (Ax Ay 4 [1] O (BL 17 O (fun g=>?_) (fun g=>?_)))
  ·(try simp only[sd,se] at g);exact As Ay 3 [] O (⟨O,O,AK,AI,⟨O,O,O,O,O,Aq⟩⟩)
  (try simp only[sd,se] at g);exact As Ay 3 [] O (⟨O,O,AK,AI,⟨O,O,O,O,O,Aq⟩⟩)
 rintro _ rfl;refine Aw O (fun c=>?_) (fun c=>?_)
 ·(try simp only[sd,se] at c);have hvl:=UY (vs:=vs) (dp:=dp) (ti:=(Tm.mk tk ti tn tl ts).index) (d:=d) c.2;refine Bu (fun k=>Nat.beq k 5) Dt (BQ Ay 3 [3,4] O ?_);obtain⟨x,hx⟩:=A7 (l:=sz) (i:=(JG vs dp (.mk tk ti tn tl ts:Tm).index d:Int).toNat) Ao;refine BH O (fun _=>A5 Hp O O Ao (L9 hx) (O)) Aq (BH O (fun _=>FE DH O) Aq (PZ [7] O O O (.inl ⟨O,O,O⟩) (cm cb n x) ⟨_,_,O,O,O⟩ An (aw (we O) (aw (we O) (Et))) (fun _ _ h=>(congrArg List.length h).trans O) Ak Ak O AB ?_ ?_))
  rotate_left
  ·intro e he _ _ hτ;exact⟨O,_,List.nil_sublist _,⟨_,OY (SB c hx) he,O⟩⟩
  rintro r _ hz rfl;refine⟨AB,Aq,?_⟩;refine JN O Ak (Au (Bu (fun k=>false) Dt (Bn Ay 6 [1,0,0] O (BI (BT (i:=0) O) (A1 (⟨O,_,_,⟨_,_,O,(BB (i:=0) Ba O O O),⟨_,_,O,O,O⟩⟩,(B4 (is:=[2,3,4,5,6,7]) O),?_⟩))))));exact⟨⟨⟨Bi,decide (tk=0)⟩,r⟩,QT (SB c hx) hz,O,O⟩
 (try simp only[sd,se] at c);refine A4 (Ar O (B7 (i:=3) m8 O O O) (Dv [7] O O O (.inl ⟨O,O,O⟩) (cm cb n 1) ⟨_,_,O,O,O⟩ An (aw (we O) (aw (we O) (Et))) (fun _ _ h=>(congrArg List.length h).trans O) ?_ ?_))
 rotate_left
 ·intro e _ he;exact⟨O,_,List.nil_sublist _,⟨_,OY (QV (by simp_all [Tm.index])) he,O⟩⟩
 rintro r _ hz rfl;refine Bj O (Au (Bu (fun k=>false) Dt (Bn Ay 6 [1,0,0] O (BI (BT (i:=0) O) (A1 (⟨O,_,_,⟨_,_,O,(BB (i:=0) Ba O O O),⟨_,_,O,O,O⟩⟩,(B4 (is:=[2,3,4,5,6,7]) O),?_⟩))))));exact⟨⟨⟨Bi,decide (tk=0)⟩,r⟩,QT (QV (by simp_all [Tm.index])) hz,O,O⟩
theorem aR:∀(t:Tm) (d:Int) (bv bvs bd:Nat) (dp:Int) (vs:List Tm),(Nd t)→(Vp t)→(t.kind=0)→(0≤d)→(d<Dd)→(Ld vs)→(Sy vs)→(∀v∈vs,size v<Dd)→(0≤dp∧dp≤65536)→(vs.length<Dd)→Bq Tryz.prog 160 [.agg ((BO t).map .p),.p (I d),.ptr bv 0,.ptr bvs 0,.ptr bd 0] [.box bv [.fn (.func 155) [] [.ptr bd 0,.ptr bvs 0]],.box bvs [.p (.lst (BE vs))],.box bd [.p (I dp)]] (Ky (fun(r:Tm)=>TV r) (fun e=> .p (.iface 223 (I e))) (fun r H'=>H'=[.box bv [.fn (.func 155) [] [.ptr bd 0,.ptr bvs 0]],.box bvs [.p (.lst (BE vs))],.box bd [.p (I dp)]]) (K7 vs dp t d)):=by
 intro t d bv bvs bd dp vs h1 h2 h3 h4 h5 h6 h7 h8 h9 h10;obtain⟨tk,ti,tn,tl,ts⟩:=t;have hti:=h2.1 h3;simp only[Dd] at h5;have hw:wr (dp+d)=dp+d:=Eb (by unfold I2;omega);refine A6 Tryz.func160 O ph (n:=37) O O (Az (BG O (BP O) fun b5=>BG O (A8 Bz O) fun b7=>Bj O (Au (Az (Ax Ay 3 [2,1] O (Ar O (B8 [4,3] O (.inr O) (Th (.mk tk ti tn tl ts:Tm) d bd bvs dp vs) ⟨_,_,O,O,⟨_,_,O,O,O⟩⟩ An O (.inl O)) (As Ay 1 [] O (Av Ay 2 [] O (Aw O (fun c=>?_) (fun c=>?_))))))))))
 ·(try simp only[sd,se] at c);have hvl:=UY (vs:=vs) (dp:=dp) (ti:=(Tm.mk tk ti tn tl ts).index) (d:=d) c;refine Au (Bu (fun k=>Nat.beq k 7) Dt (BQ Ay 2 [3] O ?_));obtain⟨x,hx⟩:=A7 (l:=vs) (i:=(JG vs dp (.mk tk ti tn tl ts:Tm).index d:Int).toNat) Ao;refine BH O (fun _=>A5 Bf O O Ao (Bc hx) (BD _)) Aq (BQ Ay 3 [4] O (BH O (fun _=>ED O O) Aq (PZ [] O O O (.inl ⟨O,O,O⟩) (YO x (wr ((dp:Int)+(d:Int))) 0 (DW h6 hx) (MN h7 hx) (h8 x (List.mem_of_getElem? hx)) (by rw[hw];omega) Ao) O An (aw (we O) (aw (we O) (aw (we O) (Et)))) (fun _ _ h=>(congrArg List.length h).trans O) Ak Ak O AB ?_ ?_)))
  rotate_left
  ·intro e he _ _ hτ;exact⟨O,_,List.nil_sublist _,⟨_,(RS (i:=ti) c hx).trans he,O⟩⟩
  rintro z _ hz rfl;refine⟨AB,Aq,?_⟩;refine Bn Ay 1 [0,1] O (A1 (⟨O,_,_,⟨_,_,O,(BB (i:=0) Ba O O Ah),O⟩,(B4 (is:=[2,3,4]) O),?_⟩));exact⟨z,(RS (i:=ti) c hx).trans hz,O,O⟩
 (try simp only[sd,se] at c);refine A2 (Au (Az (Ax Ay 3 [1] O (Ar O (JR O O) (As Ay 2 [4] O (Aw O (fun c1=>?_) (fun c1=>?_)))))))
 ·(try simp only[sd,se] at c1);refine Az (Ar O (BU (i:=1) Ba O O O) (Ar O (BF O O (R3 (.mk tk ti tn tl ts:Tm) h1) O) (As Ay 1 [0,1] O (A1 (⟨O,_,_,⟨_,_,O,(BB (i:=0) Ba O O Ah),O⟩,(B4 (is:=[2,3,4]) O),?_⟩)))));exact⟨(.mk tk ti tn tl []),WM (by simpa [Tm.index] using c) Ao,O,O⟩
 (try simp only[sd,se] at c1);refine A2 (Az (Ax Ay 3 [1,3] O (Ar O (BM Bf O (BS _)) (Ar O (JR O O) (Dv [] O O O (.inl ⟨O,O,O⟩) (WH (wr ((ti:Int) - ((vs.length:Nat):Int)))) O An (aw (we O) (Et)) (fun _ _ h=>(congrArg List.length h).trans O) ?_ ?_)))))
 rotate_left
 ·intro e _ he;exact⟨O,_,List.nil_sublist _,⟨_,by rw[UL (by simpa [Tm.index] using c) Ao,he],rfl⟩⟩
 rintro z _ hz rfl;refine As Ay 1 [0,1] O (A1 (⟨O,_,_,⟨_,_,O,(BB (i:=0) Ba O O Ah),O⟩,(B4 (is:=[2,3,4]) O),?_⟩));exact⟨z,by rw[UL (by simpa [Tm.index] using c) Ao,hz],rfl,rfl⟩
theorem _root_.Go.AG {α:Prop}(h:α:=by simp only[List.length_append,List.length_map,List.length_take,List.length_replicate];omega):α:=h
set_option maxHeartbeats 2000000 in
theorem Zc:∀(t:Tm) (vs:List Tm) (dp:Int),(Nd t)→(Vp t)→(size t<1099511627776)→(Ld vs)→(Sy vs)→(∀v∈vs,size v<Dd)→(0≤dp∧dp≤65536)→(vs.length<Dd)→Ec Tryz.prog 137 [.agg ((BO t).map .p),.p (.lst (BE vs)),.p (I dp)] (.tup [.agg ((BO ((F8 t vs dp).1)).map .p),.p (I ((F8 t vs dp).2))]):=by
 intro t vs dp h1 h2 h3 h4 h5 h6 h7 h8;have h8b:=h8;simp only[Dd] at h8b;refine FT Tryz.func137 O oL (n:=49) O O (Az (BG O (BP O) fun b3=>BG O (BP O) fun b4=>BG O (BP O) fun b5=>BG O (A8 Bz O) fun b6=>BG O (A8 dM O) fun b7=>Bj O (Au (Av Ay 2 [2] O (Aw O (fun c=>?_) (fun c=>?_))))))
 ·(try simp only[sd,se] at c);exact absurd c Ao
 (try simp only[sd,se] at c);refine A2 (Az (Ar O (Ef O O) (OD O O O O (Bj O (Az (Ar O (Ef O O) (BG O (A8 np O) fun b8=>As Ay 1 [0,0] O (Az (Ar O (B7 (i:=4) Gk O O O) (Ar O (BM Bf O (BS _)) (RL O O (Lp Hp hG O O An O O O Ao Ao Ao (ke (f:=Gl) (((vs.length:Nat):Int).toNat) 0)) fun b20 cp=>BG O (A8 oP O) fun b9=>As Ay 1 [0,0] O (Au (Az (Ar O (B7 (i:=6) Gk O O O) (Ar O (BM Bf O (BS _)) (As Ay 1 [] O (BA ?_)))))))))))))))));refine Be (α:=Nat×Option Nat×Nat) (fun(i,o,cp1)=>⟨49,mk [(3,.ptr b3 0),(4,.ptr b4 0),(5,.ptr b5 0),(6,.ptr b6 0),(7,.ptr b7 0),(8,.ptr b8 0),(9,.ptr b9 0),(21,.p (.lst (BE vs))),(22,.p (I (vs.length:Nat))),(23,.p (I (i:Int)))],[.box b9 [.vs o (List.map Gl (((vs.take i).map fun v=>(size v:Int))++List.replicate (vs.length - i) 0)).length cp1],.vec o 1 (List.map Gl (((vs.take i).map fun v=>(size v:Int))++List.replicate (vs.length - i) 0)) cp1,.box b8 [.fn (.func 155) [] [.ptr b5 0,.ptr b4 0]],.box b7 [.p (I 0)],.box b6 [.p (I 0),.p (I 0),.p (.str ⟨#[]⟩),.p (.nils),.p (.nils)],.box b5 [.p (I dp)],.box b4 [.p (.lst (BE vs))],.box b3 ((BO t).map .p)],[.clo (.func 153) [.ptr b6 0,.ptr b7 0]]⟩) (fun(i,o,cp1)=>vs.length - i) (fun(i,o,cp1)=>i≤vs.length) ⟨0,(some b20),cp⟩ AQ ?_ ?_
 ·exact BY ⟨we O,we O,we O,we O,we O,we O,we O,we O,we O,we O,Aq⟩ (leH (is:=[0,1,2,3,4,5,6,7]) O (wl (XY (aw (we (Gb (f:=Gl) (List.replicate (((vs.length:Nat):Int).toNat) 0) Ap)) (Et))) (wl (Fk (f:=Gl) (List.replicate (((vs.length:Nat):Int).toNat) 0) Ap) (wl (oe O) (wl (oe O) (wl (oe O) (wl (oe O) (wl (oe O) (wl (oe O) (C7))))))))))
 rintro⟨i,o,cp1⟩ hC
 try simp only at hC
 have hi:=hC;refine Av Ay 1 [] O (Au (Aw O (fun c1=>?_) (fun c1=>?_)))
 ·(try simp only[sd,se] at c1);refine A2 (Au (BA (Az (Bt O ?_))));obtain⟨x,hx⟩:=A7 (l:=vs) (i:=i) Ao;refine Ar O (A5 Bf O O Ao (Bc hx) (BD _)) (Ar O (BN Ba O (BD _)) (BG O (A8 Bz O) fun b11=>As Ay 2 [0,1] O (L2 (i:=2) O AZ fun b hb=>?_)));subst hb;refine Bu (fun k=>false) Dt (BQ Ay 3 [1,0] O (BH O (fun _=>BF O O (Yz x (DW h4 hx) (by have:=h6 x (List.mem_of_getElem? hx);simp only[Dd] at this;omega)) O) Aq (BH O (fun _=>Cz Hp O O Ao AG) Aq (GP O O (EN (i:=2) (j:=i) DH O O O AG O O O O (df (f:=Gl) (((vs.take i).map fun v=>(size v:Int))++List.replicate (vs.length - i) 0) i (size x:Nat))) AB Aq (JN O Ak (A4 (As Ay 2 [] O ?_)))))));refine⟨⟨i+1,(some b),cp1⟩,AU,by omega,BY ⟨we rfl,we rfl,we rfl,we rfl,we rfl,we rfl,we rfl,we rfl,we rfl,we rfl,trivial⟩ (leH (is:=[1,2,3,4,5,6,7,8]) rfl (wl (XY (aw (we (Tw (f:=Gl) (((vs.take i).map fun v=>(size v:Int))++List.replicate (vs.length - i) 0) Aj)) (Et))) (wl (Fk (f:=Gl) ((((vs.take i).map fun v=>(size v:Int))++List.replicate (vs.length - i) 0).set i (size x:Nat)) (kG hx)) (wl (oe rfl) (wl (oe rfl) (wl (oe rfl) (wl (oe rfl) (wl (oe rfl) (wl (oe rfl) (C7))))))))))⟩
 (try simp only[sd,se] at c1);refine Bg (Az ?_);rw[nB (vs:=vs) (i:=i) Ao];refine B3 (DQ (i:=1) (j:=0) (q:=0) [] O O O (D6 Aq)) (Ar O (CO pJ oW O) (BG O (BP O) fun b35=>BG O (A8 nL O) fun b12=>As Ay 1 [0,0] O (Az (Ax Ay 3 [8] O ?_))));refine Dv [3,0,2,6,7,1] O O O (.inl ⟨O,O,O⟩) (Nv (R1 vs (vs.map fun v=>(size v:Int)) dp) (fun n T=>T=[.box b8 [.fn (.func 155) [] [.ptr b5 0,.ptr b4 0]],.box b12 [.ptr b35 0],.box b9 [.p (.lst (List.map Gl (vs.map fun v=>(size v:Int))))],.box b5 [.p (I dp)],.box b4 [.p (.lst (BE vs))],.box b35 [.p (I n)]]) 156 [.ptr b8 0,.ptr b12 0,.ptr b9 0] (fun n t d T hn hp h0 hb hT=>by subst hT;exact az t d b8 b12 b9 b5 b4 b35 dp n vs (vs.map fun v=>(size v:Int)) Ap) _ t 0 0 _ (Nat.le_refl _) h1 h2 Ao Aa rfl) ⟨_,_,rfl,rfl,⟨_,_,rfl,rfl,⟨_,_,rfl,rfl,⟨_,_,rfl,rfl,⟨_,_,rfl,rfl,⟨_,_,rfl,rfl,rfl⟩⟩⟩⟩⟩⟩ An (DZ _) (fun _ _ h=>(congrArg List.length h).trans rfl) ?_ ?_
 rotate_left
 ·intro e _ he;refine⟨_,_,_,O,Mj (is:=[1,0]) _ An ⟨_,_,O,O,⟨_,_,O,O,O⟩⟩,Eh.eq (TN b6 b7 _) ?_⟩;refine⟨_,[],⟨_,_,O,(BB (i:=0) Ba O O O),⟨_,_,O,(Gp (i:=1) SN O O),O⟩⟩,(List.nil_sublist _),?_⟩;rw[I0 (Py he)];exact⟨O,O⟩
 rintro⟨z,n1⟩ _ hz rfl;refine Bj O (Au (Bu (fun k=>Nat.beq k 1||Nat.beq k 3) Dt (BH O (fun _=>Ef O O) Aq (Yx [(2,.read [.box b3 ((BO t).map .p)] (.agg ((BO t).map .p)))] O O O (.inl ⟨O,O,O⟩) (ZN 160 [.ptr b8 0,.ptr b4 0,.ptr b5 0]) (.inl O) Ak fun bn=>⟨AB,Aq,?_⟩))));refine BQ Ay 1 [9] O ?_;refine PZ [0,4,8,7] O O O (.inl ⟨O,O,O⟩) (Nv (KQ (K7 vs dp)) (fun _ T=>T=[.box bn [.fn (.func 160) [] [.ptr b8 0,.ptr b4 0,.ptr b5 0]],.box b8 [.fn (.func 155) [] [.ptr b5 0,.ptr b4 0]],.box b4 [.p (.lst (BE vs))],.box b5 [.p (I dp)]]) 176 [.ptr bn 0] (fun s t d T hn hp h0 hb hT=>by subst hT;exact Va (K7 vs dp) 160 [.ptr b8 0,.ptr b4 0,.ptr b5 0] [.box b8 [.fn (.func 155) [] [.ptr b5 0,.ptr b4 0]],.box b4 [.p (.lst (BE vs))],.box b5 [.p (I dp)]] (fun t d g1 g2 g3 g4 g5=>aR t d b8 b4 b5 dp vs g1 g2 g3 g4 g5 h4 h5 h6 h7 h8) bn s t d hn hp h0 hb) _ t 0 () _ (Nat.le_refl _) h1 h2 Ao Aa rfl) ⟨_,_,rfl,rfl,⟨_,_,rfl,rfl,⟨_,_,rfl,rfl,⟨_,_,rfl,rfl,rfl⟩⟩⟩⟩ An (DZ _) (fun _ _ h=>(congrArg List.length h).trans rfl) Ak Ak rfl AB ?_ ?_
 rotate_left
 ·intro e he _ _ hτ;refine⟨_,_,_,O,Mj (is:=[4,3]) _ An ⟨_,_,O,O,⟨_,_,O,O,O⟩⟩,Eh.eq (TN b6 b7 _) ?_⟩;refine⟨_,[],⟨_,_,O,(BB (i:=0) Ba (hτ 6 (Rr Ak)) O O),⟨_,_,O,(Gp (i:=1) SN (hτ 7 (Rr Ak)) O),O⟩⟩,(List.nil_sublist _),?_⟩;rw[I0 (P1 hz he)];exact⟨O,O⟩
 rintro⟨z1,_⟩ _ hz1 rfl;refine⟨AB,AN,?_⟩;refine Bn Ay 1 [6,1] O (Au (Az (Ar O (BU (i:=6) Ba O O Ah) (Ar O (BF O O (V1 _ z1 (Nat.le_refl _) (gA h4 h5 h1 h2 hz1)) O) (As Ay 1 [] O (Aw O (fun c2=>?_) (fun c2=>?_)))))))
 ·(try simp only[sd,se] at c2);refine Az (Ar O (CO G8 Bz O) ?_);obtain⟨z1k,z1i,z1n,z1l,z1s⟩:=z1;refine As Ay 2 [6,0,5,0] O (BI (BT (i:=6) O) (A1 (⟨_,_,_,O,Da (is:=[6,5]) An ⟨_,_,O,O,⟨_,_,O,O,O⟩⟩,Eh.eq (T3 b6 b7 _ _) ?_⟩)));refine⟨_,_,⟨_,_,O,(BB (i:=0) Ba O O O),⟨_,_,O,(Gp (i:=1) SN O O),O⟩⟩,(List.nil_sublist _),?_⟩;rw[Po (MY hz hz1) Ao]
  all_goals exact⟨rfl,rfl⟩
 (try simp only[sd,se] at c2);refine A2 (Av Ay 3 [6,6,1,5,0] O (A1 (⟨_,_,_,O,Da (is:=[6,5]) An ⟨_,_,O,O,⟨_,_,O,O,O⟩⟩,Eh.eq (T3 b6 b7 _ _) ?_⟩)));refine⟨_,_,⟨_,_,O,(BB (i:=0) Ba O O Ah),⟨_,_,O,(Gp (i:=1) SN O O),O⟩⟩,(List.nil_sublist _),?_⟩;rw[TR (MY hz hz1) Ao]
 all_goals exact⟨rfl,rfl⟩
theorem bJ:∀(t:Tm) (vs:List Tm),(Nd t)→(Vp t)→(size t<1099511627776)→(Ld vs)→(Sy vs)→(∀v∈vs,size v<Dd)→(vs.length<Dd)→Ec Tryz.prog 105 [.agg ((BO t).map .p),.p (.lst (BE vs))] (.tup [.agg ((BO ((F8 t vs 0).1)).map .p),.p (I ((F8 t vs 0).2))]):=by
 intro t vs h1 h2 h3 h4 h5 h6 h7;refine A6 Tryz.func105 O nH (n:=11) O O (Az (BG O (BP O) fun b2=>BG O (A8 Bz O) fun b4=>As Ay 1 [] O (Az (Ax Ay 2 [1] O (Ar O (BF O O (Zc t vs 0 h1 h2 h3 h4 h5 h6 Ao h7) O) (As Ay 4 [0,1] O (A1 (⟨O,_,_,⟨_,_,O,(BB (i:=0) Ba O O Ah),⟨_,_,O,O,O⟩⟩,(List.nil_sublist _),?_⟩))))))))
 all_goals exact⟨rfl,rfl⟩
theorem Nz:∀(m:Nat) (ds:List CK) (n:Int),(HE n)→Bq Tryz.prog 104 [.ptr m 0] [.box m [.p (.lst (List.map Bk ds)),.p (I n)]] (Ky (fun(r:Unit)=> .tup []) (fun _=> .p (.iface 122 .unit)) (fun r H'=>H'=[.box m [.p (.lst (List.map Bk ds)),.p (I (n - 1))]]) (Ly n)):=by
 intro m ds n h1;have hn:=h1.1;have hn2:=h1.2;refine A6 Tryz.func104 O mz (n:=16) O O (Av Ay 8 [0,0,0] O (Av Ay 5 [0] O (Aw O (fun c=>?_) (fun c=>?_))))
 ·(try simp only[sd,se] at c);exact A4 (Ar O (CO eI ZG O) (Ar O (JW Ak O) (Nt O O (MZ O) (⟨O,_,List.nil_sublist _,⟨_,mM Ao,O⟩⟩))))
 (try simp only[sd,se] at c);refine A2 ⟨O,_,_,O,(B4 (is:=[0]) O),?_⟩;exact⟨(),oV Ao,O,O⟩
theorem Ku:∀(m:Nat) (ds:List CK) (n:Int) (t:Tm) (vs:List Tm),(HE n)→(okB t=true)→(∀v∈vs,okB v=true)→(vs.length<549755813888)→Bq Tryz.prog 74 [.ptr m 0,.agg ((BO t).map .p),.p (.lst (BE vs))] [.box m [.p (.lst (List.map Bk ds)),.p (I n)]] (Ky (fun(r:Tm×Int)=>TV r.1) (fun _=> .p (.iface 122 .unit)) (fun r H'=>H'=[.box m [.p (.lst (List.map Bk ds)),.p (I r.2)]]) (JQ n (CT t vs 0))):=by
 intro m ds n t vs h1 h2 h3 h4;have hn:=h1.1;have hto:=CP.1 h2;have hts:=hto.sz;have hvo:=FI h3;refine A6 Tryz.func74 O ql (n:=22) O O (Az (BG O (BP O) fun b4=>BG O (A8 Bz O) fun b6=>Bj O (Az (Bt O (Dv [2] O O O (.inl ⟨O,O,O⟩) (Nz m ds n h1) ⟨_,_,O,O,O⟩ An (aw (we O) (Et)) (fun _ _ h=>(congrArg List.length h).trans O) ?_ ?_)))))
 rotate_left
 ·intro e _ he;exact⟨O,_,List.nil_sublist _,⟨_,ec he,O⟩⟩
 rintro _ _ hz rfl;refine Bj O (Az (Ax Ay 2 [1] O ?_));refine Ar rfl (BF rfl rfl (bJ t vs hto.nd hto.vp Ao hvo.1 hvo.2.2 (fun v hv=>by have:=F9 (h3 v hv);simp only[Dd];omega) Aa) rfl) ?_;refine Ax Ay 3 [] O (BG O (A8 Bz O) fun b7=>As Ay 2 [0,1] O (Au (Av Ay 2 [] O (Aw O (fun c=>?_) (fun c=>?_)))))
 ·(try simp only[sd,se] at c);have hce:=c;exact A4 (Ar O (CO eI ZG O) (Ar O (JW Ak O) (Nt O O (MZ O) (⟨O,_,List.nil_sublist _,⟨_,oF Ao h2 h3 h4 hce,O⟩⟩))))
 (try simp only[sd,se] at c);refine A2 (Av Ay 2 [0,1,1] O (A1 (⟨O,_,_,⟨_,_,O,(BB (i:=1) Ba O O Ah),O⟩,(B4 (is:=[3]) O),?_⟩)));exact⟨⟨(F8 t vs 0).1,n - 1⟩,pW hz h2 h3 h4 c,O,O⟩
theorem KH:∀(l:List Tm),(l.length<549755813888)→Bq Tryz.prog 95 [.p (.lst (BE l))] [] (ZY (fun v=>v) 5 (BE l)):=by
 intro l h1;refine A6 Tryz.func95 O qH (n:=8) O O (Av Ay 1 [] O (Au (Az (Bt O (Dk O O (M5 Bf O O) ?_)))));rintro _ ⟨q,rfl,hq⟩;refine Bj O (Aw O (fun c=>?_) (fun c=>?_))
 ·(try simp only[sd,se] at c);refine Av Ay 1 [] O (BI (EG (t:=2) (sz:=5) O) (A1 (⟨O,_,_,⟨_,_,O,O,O⟩,(B4 (is:=[0]) O),?_⟩)));rw[show l=[] from List.length_eq_zero_iff.1 (by rw[←BS,hq c];rfl)]
  all_goals exact⟨_,_,rfl,rfl⟩
 (try simp only[sd,se] at c);refine A2 (Az (RL O O (LI Bf) fun b5 cp=>Bt O (FF O O (CQ (i:=0) (rows':=BE l) Bf Bf Bz O O O O O O (Bw _) (by simp only[BS,List.length_nil];omega) (Jl [] l)) fun o cp1=>As Ay 1 [] O (A1 (⟨O,_,_,⟨_,_,O,O,O⟩,(B4 (is:=[0]) O),?_⟩)))))
 all_goals exact⟨_,_,rfl,rfl⟩
theorem Qe:∀(m:Nat) (ds:List CK) (n:Int) (t:Tm) (vs:List Tm),(HE n)→(okB t=true)→(∀v∈vs,okB v=true)→(vs.length<549755813888)→Bq Tryz.prog 62 [.ptr m 0,.agg ((BO t).map .p),.p (.lst (BE vs))] [.box m [.p (.lst (List.map Bk ds)),.p (I n)]] (Ky (fun(r:Tm×Int)=>TV r.1) (fun _=> .p (.iface 122 .unit)) (fun r H'=>H'=[.box m [.p (.lst (List.map Bk ds)),.p (I r.2)]]) (JQ n (CT t vs.reverse 0))):=by
 intro m ds n t vs h1 h2 h3 h4;refine A6 Tryz.func62 O r8 (n:=16) O O (Az (BG O (BP O) fun b4=>BG O (A8 Bz O) fun b6=>Bj O (Az (Bt O (NB O O O (.inl ⟨O,O,O⟩) (KH vs h4) (.inl O) fun o cp=>As Ay 1 [] O (Az (Bt O (Ar O (B8 [0] O (.inl ⟨O,O,O⟩) (dZ vs o cp Aa) ⟨_,_,O,O,O⟩ An O (.inl O)) (Bj O (Az (Ax Ay 3 [2] O (B3 (C9 (t:=9) (x:= .vs o (BE vs.reverse).length cp) (DO vs (l':=vs.reverse) Ap)) (B3 (C9 (t:=7) (x:= .vs o (BE vs.reverse).length cp) (DO vs (l':=vs.reverse) Ap)) (B3 (C9 (t:=10) (x:= .vs o (BE vs.reverse).length cp) (DO vs (l':=vs.reverse) Ap)) (B3 (C9 (t:=14) (x:= .vs o (BE vs.reverse).length cp) (DO vs (l':=vs.reverse) Ap)) ?_)))))))))))))));refine B3 (Cj (i:=0) [9,7,10,14] O (D6 ⟨O,O,O,O,Aq⟩)) (Dv [2] O O O (.inl ⟨O,O,O⟩) (Ku m ds n t vs.reverse h1 h2 (fG h3) (by rw[List.length_reverse];exact h4)) ⟨_,_,O,O,O⟩ An (aw (we O) (aw (we O) (aw (we O) (Et)))) (fun _ _ h=>(congrArg List.length h).trans O) ?_ ?_)
 rotate_left
 ·intro e _ he;exact⟨O,_,List.nil_sublist _,⟨_,he,O⟩⟩
 rintro⟨z,n2⟩ _ hz rfl;refine As Ay 1 [0,1] O (A1 (⟨O,_,_,⟨_,_,O,(BB (i:=0) Ba O O Ah),O⟩,(B4 (is:=[2]) O),?_⟩));exact⟨⟨z,n2⟩,hz,O,O⟩
theorem WY:∀(m:Nat) (ds:List CK) (s:Int) (x:GV) (g:Tm) (a:List Tm) (d:CK),(HE s)→(ds[x.decl.toNat]?=some d)→(0≤x.decl)→(DG d)→(okB g=true)→(a.length<549755813888)→(E1 B5 d g a s≠ .stuck)→Bq Tryz.prog 106 [.ptr m 0,.agg ((DN x).map .p),.agg ((BO g).map .p),.p (.lst (BE a))] [.box m [.p (.lst (List.map Bk ds)),.p (I s)]] (Ky (fun(r:Option Tm×Int)=> .tup [TV (r.1.getD Bi),.p (.bool r.1.isSome)]) (fun _=> .p (.iface 122 .unit)) (fun r H'=>H'=[.box m [.p (.lst (List.map Bk ds)),.p (I r.2)]]) ((E1 B5 d g a s).ex)):=by
 intro m ds s x g a d h1 h2 h3 h4 h5 h6 h7;obtain⟨gk,gi,gn,gl,gs⟩:=g;have hgo:=CP.1 h5;have hgl:=hgo.nd;simp only[Nd,Dd] at hgl;refine A6 Tryz.func106 O m6 (n:=35) O O (Az (BG O (BP O) fun b5=>BG O (BP O) fun b6=>BG O (A8 Bz O) fun b8=>As Ay 1 [] O (Au (Bu (fun k=>Nat.beq k 15) Dt (BQ Ay 5 [3] O (CX (j:=2) O O O (fun H i hi=>A3 (i:=i) DH O hi (DR _)) AB Aq (BH O (fun _=>A5 Hj O O Ao (D4 h2) (Cl _)) Aq (BH O (fun _=>Bv Cy O O) Aq (BH O (fun _=>DA Ba O (FD _) (BD _)) Aq (BQ Ay 2 [1] O (BH O (fun _=>BF O O (Mg d.value gl (CP.1 h4.vl).nd (CP.1 h4.vl).vp (by have:=F9 h4.vl;omega) hgl.2.1 hgl.2.2.1) O) Aq (BQ Ay 3 [] O (G9 [] O O (A8 Bz O) Ak fun b10=>⟨AB,Aq,?_⟩)))))))))))));refine Bn Ay 2 [0,1] O (Au (Av Ay 2 [] O (Aw O (fun c=>?_) (fun c=>?_))))
 ·(try simp only[sd,se] at c);have hce:=c;refine Av Ay 3 [1,0] O (BI (BT (i:=1) O) (A1 (⟨O,_,_,⟨_,_,O,(BB (i:=1) Ba O O O),⟨_,_,O,O,O⟩⟩,(B4 (is:=[4]) O),?_⟩)));exact⟨⟨none,s⟩,DS (Kc hce),O,O⟩
 (try simp only[sd,se] at c);have hce:=c;refine A2 (Az (Bt O (Dv [4] O O O (.inl ⟨O,O,O⟩) (Nz m ds s h1) ⟨_,_,O,O,O⟩ An (aw (we O) (Et)) (fun _ _ h=>(congrArg List.length h).trans O) ?_ ?_)))
 rotate_left
 ·intro e _ he;exact⟨O,_,List.nil_sublist _,⟨_,dj h7 hce he,O⟩⟩
 rintro _ _ hz rfl;refine Bj O (Az (Ax Ay 2 [0] O (Ar O (BF O O (EP ((Bp d.value gl).1) a Aa) O) (As Ay 2 [1,1] O (A1 (⟨O,_,_,⟨_,_,O,(BB (i:=1) Ba O O Ah),⟨_,_,O,O,O⟩⟩,(B4 (is:=[4]) O),?_⟩))))));exact⟨⟨some (apply (Bp d.value gl).1 a),s - 1⟩,DS (eo h7 hce hz),O,O⟩
theorem UG:∀(m:Nat) (ds:List CK) (s:Int) (d:CK) (g:Tm) (a:List Tm) (mm:Tm),(HE s)→(Ja ds)→(DG d)→(okB g=true)→(a.length<549755813888)→(okB mm=true)→(CR d<a.length)→(E4 ds B5 d g a mm s≠ .stuck)→Bq Tryz.prog 110 [.ptr m 0,.agg ((Bk d).map .p),.agg ((BO g).map .p),.p (.lst (BE a)),.agg ((BO mm).map .p)] [.box m [.p (.lst (List.map Bk ds)),.p (I s)]] (Ky (fun(r:Option Tm×Int)=> .tup [TV (r.1.getD Bi),.p (.bool r.1.isSome)]) (fun _=> .p (.iface 122 .unit)) (fun r H'=>H'=[.box m [.p (.lst (List.map Bk ds)),.p (I r.2)]]) ((E4 ds B5 d g a mm s).ex)):=by
 intro m ds s d g a mm h1 h2 h3 h4 h5 h6 h7 h8;obtain⟨gk,gi,gn,gl,gs⟩:=g;have hgo:=CP.1 h4;have hgl:=hgo.nd;simp only[Nd,Dd] at hgl;have hnr:=Gz h3;have hcl:=h3.din.cl;have hrl:=h3.din.rl;have hfx:=h3.fx;have hir:=Fj h3.din h3.fx;refine A6 Tryz.func110 O nR (n:=82) O O (Az (BG O (BP O) fun b6=>BG O (BP O) fun b7=>BG O (BP O) fun b9=>BG O (A8 Bz O) fun b10=>As Ay 1 [] O (Az (Ax Ay 2 [1] O (Ar O (B8 [4] O (.inl ⟨O,O,O⟩) (QM m ds s mm h2 h6) ⟨_,_,O,O,O⟩ An O (.inl O)) (Ax Ay 5 [] O (BG O (A8 JK O) fun b12=>As Ay 4 [0,1] O (Au (Au (BR [0,3,6,7,10,13,14] 42 (fun y=>y= .p (.bool (((!((CL ds mm).2.2.2))||(!((((CL ds mm).1).name).toList==d.name.toList)))||(decide (((CL ds mm).2.1:Int)≥((d.recs.rules.length:Nat):Int)))))) ?_ ?_))))))))))
 ·refine A4 (Ax Ay 3 [] O (BL 28 O (fun g1=>?_) (fun g1=>?_)))
  ·(try simp only[sd,se] at g1);exact As Ay 14 [] O (⟨O,O,AK,AI,⟨O,O,O,O,O,O,O,Aq⟩⟩)
  (try simp only[sd,se] at g1);refine BC O (A0 Cy O O) (BC O (A3 (i:=0) Lu O O (DP _)) (BC O (A0 Cy O O) (BC O (A3 (i:=4) Lu O O (DP _)) (BC O (JB O O) (Ax Ay 2 [] O (BL 35 O (fun g2=>?_) (fun g2=>?_)))))))
  ·(try simp only[sd,se] at g2);exact As Ay 7 [] O (⟨O,O,AK,AI,⟨O,O,O,O,O,O,O,Aq⟩⟩)
  (try simp only[sd,se] at g2);exact Ax Ay 3 [] O (BC O (A3 (i:=4) Gk O O (Ck _)) (BC O (BM Bf O (BS _)) (As Ay 2 [] O (⟨O,O,AK,AI,⟨O,O,O,O,O,O,O,Aq⟩⟩))))
 rintro _ rfl;refine Aw O (fun c=>?_) (fun c=>?_)
 ·(try simp only[sd,se] at c);have hib:=WB (S:=B5) (h:=(.mk gk gi gn gl gs:Tm)) (a:=a) (s:=s) c;refine Av Ay 3 [1,0] O (BI (BT (i:=1) O) (A1 (⟨O,_,_,⟨_,_,O,(BB (i:=1) Ba O O O),⟨_,_,O,O,O⟩⟩,(B4 (is:=[5]) O),?_⟩)));exact⟨⟨none,s⟩,DS hib,O,O⟩
 (try simp only[sd,se] at c);obtain⟨hg1,hg2,hg3⟩:=Tf c;have hg4:=c.2;have hfl:=JI h2 hg1;refine A2 (Au (Bu (fun k=>Nat.beq k 12) Dt (BQ Ay 2 [] O (CX (j:=4) O O O (fun H i hi=>A3 (i:=i) Gk O hi (Ck _)) AB Aq (BH O (fun _=>BZ O) Aq ?_)))));obtain⟨x,hx⟩:=A7 (l:=d.recs.rules) (i:=((CL ds mm).2.1:Int).toNat) Ao;have hro:=h3.ru _ (List.mem_of_getElem? hx);refine BH O (fun _=>A5 Bf O O Ao (Bc hx) (BD _)) Aq (BQ Ay 3 [3] O (BH O (fun _=>BF O O (Mg x gl (CP.1 hro).nd (CP.1 hro).vp (by have:=F9 hro;omega) hgl.2.1 hgl.2.2.1) O) Aq (BQ Ay 3 [] O (G9 [] O O (A8 Bz O) Ak fun b16=>⟨AB,Aq,?_⟩))));refine Bn Ay 2 [0,1] O (Au (Av Ay 2 [] O (Aw O (fun c1=>?_) (fun c1=>?_))))
 ·(try simp only[sd,se] at c1);have hce:=c1;refine Av Ay 3 [2,0] O (BI (BT (i:=2) O) (A1 (⟨O,_,_,⟨_,_,O,(BB (i:=2) Ba O O O),⟨_,_,O,O,O⟩⟩,(B4 (is:=[6]) O),?_⟩)));exact⟨⟨none,s⟩,DS (Lv (h:=(.mk gk gi gn gl gs:Tm)) hg1 hg2 hx hce),O,O⟩
 (try simp only[sd,se] at c1);have hce:=c1;refine A2 (Az (Bt O (Dv [6] O O O (.inl ⟨O,O,O⟩) (Nz m ds s h1) ⟨_,_,O,O,O⟩ An (aw (we O) (Et)) (fun _ _ h=>(congrArg List.length h).trans O) ?_ ?_)))
 rotate_left
 ·intro e _ he;exact⟨O,_,List.nil_sublist _,⟨_,iz (g:=(.mk gk gi gn gl gs:Tm)) h8 hg1 hg2 hx hce he,O⟩⟩
 rintro _ _ hz rfl;refine Bj O (Au (Bu (fun k=>false) Dt (BQ Ay 3 [0] O (CX (j:=5) O O O (fun H i hi=>A3 (i:=i) DH O hi (Co _)) AB Aq (BQ Ay 2 [] O (CX (j:=5) O O O (fun H i hi=>A3 (i:=i) Hl O hi (CB _)) AB Aq (BH O (fun _=>BM HN O (List.length_map _)) Aq (BH O (fun _=>LA O O Ao Ao) Aq (BH O (fun _=>Ca (lo:=0) (hi:=(((d.fixed:Int)+(1:Int):Int)+((d.ctors.length:Nat):Int):Int).toNat) Bf O (CF (Bw _)) O ⟨_,pI Ao⟩ (Nat.zero_le _) AR (My a ((((d.fixed:Int)+(1:Int):Int)+((d.ctors.length:Nat):Int):Int).toNat))) Aq (BH O (fun _=>BF O O (EP ((Bp x gl).1) (a.take ((((d.fixed:Int)+(1:Int):Int)+((d.ctors.length:Nat):Int):Int).toNat)) (by simp only[Dd,List.length_take];omega)) O) Aq ?_))))))))));refine Bn Ay 1 [0,1] O (Az (Ax Ay 2 [0] O (Ar O (BF O O (EP (apply ((Bp x gl).1) (a.take ((((d.fixed:Int)+(1:Int):Int)+((d.ctors.length:Nat):Int):Int).toNat))) ((CL ds mm).2.2.1) Aa) O) (As Ay 1 [0,1] O (Au (Bu (fun k=>false) Dt (BQ Ay 3 [0,5] O (BH O (fun _=>BF O O (Nq d h3.din h3.fx) O) Aq (BH O (fun _=>LA O O Ao Ao) Aq (BH O (fun _=>Ca (lo:=((CR d:Int)+(1:Int):Int).toNat) Bf O (CF (Bw _)) ⟨_,pI Ao⟩ O AR (Nat.le_refl _) (Ju a (((CR d:Int)+(1:Int):Int).toNat))) Aq (BH O (fun _=>BF O O (EP (apply (apply ((Bp x gl).1) (a.take ((((d.fixed:Int)+(1:Int):Int)+((d.ctors.length:Nat):Int):Int).toNat))) ((CL ds mm).2.2.1)) (a.drop (((CR d:Int)+(1:Int):Int).toNat)) AS) O) Aq ?_)))))))))));refine Bn Ay 2 [2,1] O (A1 (⟨O,_,_,⟨_,_,O,(BB (i:=2) Ba O O Ah),⟨_,_,O,O,O⟩⟩,(B4 (is:=[6]) O),?_⟩));exact⟨⟨some _,s - 1⟩,DS (jT (g:=(.mk gk gi gn gl gs:Tm)) h8 hg1 hg2 hx hce hz),O,O⟩
def ma (ds:List CK) (n:Nat):Prop:=∀(m:Nat) (t:Tm) (s:Int),HE s→EF ds B5 n s t≠ .stuck→Bq Tryz.prog 39 [.ptr m 0,.agg ((BO t).map .p)] [.box m [.p (.lst (List.map Bk ds)),.p (I s)]] (Ky (fun(r:Tm×Int)=>TV r.1) (fun _=> .p (.iface 122 .unit)) (fun r H'=>H'=[.box m [.p (.lst (List.map Bk ds)),.p (I r.2)]]) ((EF ds B5 n s t).ex))
theorem Qc:∀(n k m:Nat) (ds:List CK) (t:FJ) (vs:List Tm) (s:Int),(ma ds n)→(Ja ds)→(HE s)→(SO t vs)→(Ds ds B5 (EF ds B5 n) k t vs Bi s≠ .stuck)→Bq Tryz.prog 61 [.ptr m 0,.agg ((Ct t).map .p),.p (.lst (BE vs))] [.box m [.p (.lst (List.map Bk ds)),.p (I s)]] (Ky (fun(r:(Option (Tm×List Tm)×Tm)×Int)=> .tup [TV (I9 r.1),.p (.lst (BE (ML r.1))),.p (.bool r.1.1.isSome),TV r.1.2]) (fun _=> .p (.iface 122 .unit)) (fun r H'=>H'=[.box m [.p (.lst (List.map Bk ds)),.p (I r.2)]]) ((Ds ds B5 (EF ds B5 n) k t vs Bi s).ex)):=by
 intro n k m ds t vs s hW h2 h3 h4 hns;have h4l:=h4.len;generalize hX:Ds ds B5 (EF ds B5 n) k t vs Bi s=X at hns ⊢;refine A6 Tryz.func61 O qC (n:=76) O O (Az (BG O (BP O) fun b4=>BG O (A8 Bz O) fun b6=>Ax Ay 2 [] O (BG O (A8 Bz O) fun b9=>Bj O (Az (Bt O (NB O O O (.inl ⟨O,O,O⟩) (KH vs Ao) (.inl O) fun o cp=>As Ay 1 [] O (Az (BG O (A8 Bz O) fun b11=>Bj O (Au (BA ?_))))))))));refine Be (α:=Nat×FJ×List Tm×Tm×Int×Option Nat×Nat) (fun(k2,w,us,l,d,o1,cp1)=>⟨76,mk [(0,.ptr m 0),(4,.ptr b4 0),(6,.ptr b6 0),(9,.ptr b9 0),(10,.vs o1 (BE us).length cp1),(11,.ptr b11 0)],[.box b11 ((BO l).map .p),.vec o1 5 (BE us) cp1,.box b9 [.p (I 0),.p (I 0),.p (.str ⟨#[]⟩),.p (.nils),.p (.nils)],.box b6 [.p (I 0),.p (I 0),.p (.str ⟨#[]⟩),.p (.nils),.p (.nils)],.box b4 ((Ct w).map .p),.box m [.p (.lst (List.map Bk ds)),.p (I d)]],[]⟩) (fun(k2,w,us,l,d,o1,cp1)=>k2) (fun(k2,w,us,l,d,o1,cp1)=>Ds ds B5 (EF ds B5 n) k2 w us l d=X∧SO w us∧HE d) ⟨k,t,vs,Bi,s,o,cp⟩ (⟨hX,h4,h3⟩) ?_ ?_
 ·exact BY ⟨we O,we O,we O,we O,we O,we O,Aq⟩ (leH (is:=[0,1,2,3,4,5]) O (wl (on (O)) (wl (oe O) (wl (oe O) (wl (oe O) (wl (oe O) (wl (oe O) (C7))))))))
 rintro⟨k2,w,us,l,d,o1,cp1⟩ hC
 try simp only at hC
 obtain⟨hC,hL,hJ⟩:=hC;obtain⟨k1,rfl⟩:=Tv hC hns;refine Au (Az (Ar O (A0 FP O O) (Ar O (A3 (i:=4) DH O O (Gc _)) (As Ay 1 [] O (Aw O (fun c=>?_) (fun c=>?_))))))
 ·(try simp only[sd,se] at c);have hk1:=c;refine A2 (BA (Au (Au (BR [0,4,6,9,10,11] 31 (fun y=>y= .p (.bool ((decide ((w.var:Int)<(0:Int)))||(decide ((w.var:Int)≥((us.length:Nat):Int)))))) ?_ ?_))))
  ·refine A4 (Ar O (A0 FP O O) (Ar O (A3 (i:=4) DH O O (DK _)) (Ax Ay 2 [] O (BL 25 O (fun g=>?_) (fun g=>?_)))))
   ·(try simp only[sd,se] at g);exact As Ay 6 [] O (⟨O,O,AK,AI,⟨O,O,O,O,O,O,Aq⟩⟩)
   (try simp only[sd,se] at g);exact BC O (A0 FP O O) (BC O (A3 (i:=4) DH O O (DK _)) (BC O (BZ O) (BC O (KA Bf O (BS _)) (As Ay 2 [] O (⟨O,O,AK,AI,⟨O,O,O,O,O,O,Aq⟩⟩)))))
  rintro _ rfl;refine Aw O (fun c1=>?_) (fun c1=>?_)
  ·(try simp only[sd,se] at c1);rw[IL hk1 (by simpa [B5] using c1)] at hC;refine Au (Bu (fun k=>false) Dt (Bn Ay 6 [0,3,0,2,1] O (BI (BT (i:=3) O) (BI (EB 7) (A1 (⟨O,_,_,⟨_,_,O,(BB (i:=3) Ba O O O),⟨_,_,O,O,⟨_,_,O,O,⟨_,_,O,(BB (i:=2) Ba O O Ah),O⟩⟩⟩⟩,(B4 (is:=[5]) O),?_⟩))))));exact⟨⟨(none,l),d⟩,DS hC.symm,O,O⟩
  (try simp only[sd,se] at c1);have hcb:=c1;refine A2 (Az (Ax Ay 3 [] O (Ar O (A3 (i:=4) DH O O (DK _)) (MX (i:=1) O AZ fun b hb=>?_))));subst hb;refine Ar O (Cz Bf O O Ao AH) ?_;obtain⟨y,hy⟩:=A7 (l:=us) (i:=(w.var:Int).toNat) AO;refine Ar O (Ei (i:=1) Ba O O (Bc hy)) ?_;rw[Jf hk1 (by simpa [B5] using hcb) hy] at hC;have hn0:=hns;rw[←hC] at hn0;have hn1:=UK hn0;refine Dv [5] O O O (.inl ⟨O,O,O⟩) (hW m y d hJ hn1) ⟨_,_,O,O,O⟩ An (aw (we O) (aw (we O) (Et))) (fun _ _ h=>(congrArg List.length h).trans O) ?_ ?_
  rotate_left
  ·intro e _ he;exact⟨O,_,List.nil_sublist _,⟨_,by rw[←hC];exact UF hn0 he,rfl⟩⟩
  rintro⟨z,n2⟩ _ hz rfl;obtain⟨hr2,hr3⟩:=T7 hn0 hz;rw[hr3] at hC;have hJ2:=Qf hJ (IZ hz);refine As Ay 1 [0,1] O (Az (Ax Ay 2 [0] O (Ar O (B8 [5] O (.inl ⟨O,O,O⟩) (QM m ds n2 z h2 hr2) ⟨_,_,O,O,O⟩ An O (.inl O)) (Ax Ay 5 [] O (BG O (A8 JK O) fun b12=>As Ay 4 [0,1] O (Au (Av Ay 2 [] O (Aw O (fun c2=>?_) (fun c2=>?_)))))))))
  ·(try simp only[sd,se] at c2);rw[Fp (OB c2)] at hC;refine Au (Bu (fun k=>false) Dt (Bn Ay 6 [1,4,0,3,1] O (BI (BT (i:=4) O) (BI (EB 7) (A1 (⟨O,_,_,⟨_,_,O,(BB (i:=4) Ba O O O),⟨_,_,O,O,⟨_,_,O,O,⟨_,_,O,(BB (i:=3) Ba O O Ah),O⟩⟩⟩⟩,(B4 (is:=[6]) O),?_⟩))))));exact⟨⟨(none,z),n2⟩,DS hC.symm,O,O⟩
  (try simp only[sd,se] at c2);have hcs:=MK c2;have hcf:=Fs hcs;have hlo:=hcf.lo;have hhi:=hcf.hi;have hfl:=JI h2 hcs;refine A2 (Au (Bu (fun k=>Nat.beq k 11) Dt (BQ Ay 2 [5] O (CX (j:=0) O O O (fun H i hi=>A3 (i:=i) Hl O hi (CB _)) AB Aq (BH O (fun _=>BZ O) Aq ?_)))));obtain⟨x,hx⟩:=A7 (l:=((CL ds z).1).ctors) (i:=((CL ds z).2.1:Int).toNat) Ao;refine BH O (fun _=>A5 HN O O Ao (EX hx) (D8 _)) Aq (BH O (fun _=>Bv Ir O O) Aq (BH O (fun _=>C0 Lu O (Fl _)) Aq (BH O (fun _=>BF O O (S7 w x.name hL.tin.bl) O) Aq (BQ Ay 3 [] O (G9 [] O O (A8 Vc O) Ak fun b16=>⟨AB,Aq,?_⟩)))));refine Bn Ay 2 [0,1] O (Au (Av Ay 2 [] O (Aw O (fun c3=>?_) (fun c3=>?_))))
  ·(try simp only[sd,se] at c3);rw[HV hcs (by rw[Ed,CJ hx];exact V9 c3)] at hC;refine Au (Bu (fun k=>false) Dt (Bn Ay 6 [2,5,0,4,1] O (BI (BT (i:=5) O) (BI (EB 7) (A1 (⟨O,_,_,⟨_,_,O,(BB (i:=5) Ba O O O),⟨_,_,O,O,⟨_,_,O,O,⟨_,_,O,(BB (i:=4) Ba O O Ah),O⟩⟩⟩⟩,(B4 (is:=[7]) O),?_⟩))))));exact⟨⟨(none,z),n2⟩,DS hC.symm,O,O⟩
  (try simp only[sd,se] at c3);have hbs:=Wj c3;rw[Hc hcs (by rw[Ed,CJ hx];exact hbs)] at hC;refine A2 (Av Ay 2 [0,6,1] O (A4 (Ax Ay 2 [] O (FF O O (CQ (i:=3) (rows':=BE ((CL ds z).2.2.1)) Bf Bf Bz O O O O O O (Bw _) (by have:=hL.len;simp only[BS,List.length_append];omega) (Jl us ((CL ds z).2.2.1))) fun o2 cp2=>As Ay 1 [] O (⟨⟨k1,(bM x.name w.branches).1,us++(CL ds z).2.2.1,z,n2,o2,cp2⟩,AU,⟨hC,hL.next h2 hr2 hcs hbs,hJ2⟩,BY ⟨we O,we O,we O,we O,we O,we O,Aq⟩ (leH (is:=[2,3,4,5,6,7]) O (wl (oe O) (wl (oe O) (wl (oe O) (wl (oe O) (wl (oe O) (wl (oe O) (C7))))))))⟩)))))
 (try simp only[sd,se] at c);have hk1:=c;rw[HM hk1] at hC;refine Bg (Az (Ar O (A0 FP O O) (Ar O (By (i:=4) Ba O O (E9 _) (BD _)) (As Ay 6 [3,1,2,0] O (BI (Cj (i:=1) [10,74,7] O (D6 ⟨O,O,O,Aq⟩)) (BI (BT (i:=1) O) (A1 (⟨O,_,_,⟨_,_,O,(BB (i:=2) Ba O O Ah),⟨_,_,O,O,⟨_,_,O,O,⟨_,_,O,(BB (i:=1) Ba O O O),O⟩⟩⟩⟩,(B4 (is:=[4]) O),?_⟩))))))));exact⟨⟨(some (w.body,us),Bi),d⟩,DS hC.symm,O,O⟩
theorem lr:∀(n m:Nat) (ds:List CK) (s:Int) (x:GV) (g:Tm) (a:List Tm) (d:CK),(ma ds n)→(Ja ds)→(HE s)→(ds[x.decl.toNat]?=some d)→(0≤x.decl)→(DG d)→(okB g=true)→(a.length<549755813888)→(∀y∈a,okB y=true)→(RV ds B5 (EF ds B5 n) d g a s≠ .stuck)→Bq Tryz.prog 107 [.ptr m 0,.agg ((DN x).map .p),.agg ((BO g).map .p),.p (.lst (BE a))] [.box m [.p (.lst (List.map Bk ds)),.p (I s)]] (Ky (fun(r:Option Tm×Int)=> .tup [TV (r.1.getD Bi),.p (.bool r.1.isSome)]) (fun _=> .p (.iface 122 .unit)) (fun r H'=>H'=[.box m [.p (.lst (List.map Bk ds)),.p (I r.2)]]) ((RV ds B5 (EF ds B5 n) d g a s).ex)):=by
 intro n m ds s x g a d hW h2 h3 h4 h5 h6 h7 h8 h9 hns;have hnr:=Gz h6;generalize hC:RV ds B5 (EF ds B5 n) d g a s=X at hns ⊢;refine A6 Tryz.func107 O ot (n:=40) O O (Az (BG O (BP O) fun b5=>BG O (BP O) fun b6=>BG O (A8 Bz O) fun b8=>As Ay 1 [] O (Au (Bu (fun k=>Nat.beq k 8) Dt (BQ Ay 5 [3] O (CX (j:=2) O O O (fun H i hi=>A3 (i:=i) DH O hi (DR _)) AB Aq (BH O (fun _=>A5 Hj O O Ao (D4 h4) (Cl _)) Aq (BH O (fun _=>BN FM O (Cl _)) Aq (G9 [] O O (A8 JK O) Ak fun b10=>⟨AB,Aq,?_⟩)))))))));refine Bn Ay 1 [0,1] O (Az (Ar O (BU (i:=0) FM O O Ae) (Ar O (BF O O (Nq d h6.din h6.fx) O) (As Ay 1 [] O (Au (Az (Bt O (Ar O (BM Bf O (BS _)) (As Ay 2 [] O (Aw O (fun c=>?_) (fun c=>?_)))))))))))
 ·(try simp only[sd,se] at c);rw[ON Ao] at hC;refine Av Ay 3 [1,0] O (BI (BT (i:=1) O) (A1 (⟨O,_,_,⟨_,_,O,(BB (i:=1) Ba O O O),⟨_,_,O,O,O⟩⟩,(B4 (is:=[4]) O),?_⟩)));exact⟨⟨none,s⟩,DS hC.symm,O,O⟩
 (try simp only[sd,se] at c);refine A2 (Au (Bu (fun k=>Nat.beq k 9||Nat.beq k 10) Dt (BQ Ay 7 [0,2] O ?_)));obtain⟨x1,hx1⟩:=A7 (l:=a) (i:=(CR d:Int).toNat) Ao;rw[Qs Ao hx1] at hC;have hn0:=hns;rw[←hC] at hn0;have hn1:=UK hn0;refine BH O (fun _=>A5 Bf O O Ao (Bc hx1) (BD _)) Aq (BH O (fun _=>BN Ba O (BD _)) Aq (PZ [4] O O O (.inl ⟨O,O,O⟩) (hW m x1 s h3 hn1) ⟨_,_,O,O,O⟩ An (aw (we O) (aw (we O) (Et))) (fun _ _ h=>(congrArg List.length h).trans O) Ak Ak O AB ?_ ?_))
 rotate_left
 ·intro e he _ _ hτ;exact⟨O,_,List.nil_sublist _,⟨_,by rw[←hC];exact UF hn0 he,rfl⟩⟩
 rintro⟨z,n2⟩ _ hz rfl;refine⟨AB,Aq,?_⟩;obtain⟨hr2,hr3⟩:=T7 hn0 hz;rw[hr3] at hC;simp only at hC;have hJ2:=Qf h3 (IZ hz);refine PZ [4] O O O (.inl ⟨O,O,O⟩) (UG m ds n2 d g a z hJ2 h2 h6 h7 h8 hr2 Ao (by rw[hC];exact hns)) ⟨_,_,O,O,O⟩ An (aw (we O) (aw (we O) (aw (we O) (aw (we O) (aw (we O) (Et)))))) (fun _ _ h=>(congrArg List.length h).trans O) Ak Ak O AB ?_ ?_
 rotate_left
 ·intro e he _ _ hτ;exact⟨O,_,List.nil_sublist _,⟨_,by rw[←hC];exact he,rfl⟩⟩
 rintro⟨q,n21⟩ _ hz1 rfl;refine⟨AB,Aq,?_⟩;have hfin:=hz1;refine Bn Ay 4 [1,1] O (A1 (⟨O,_,_,⟨_,_,O,(BB (i:=1) Ba O O Ah),⟨_,_,O,O,O⟩⟩,(B4 (is:=[4]) O),?_⟩));exact⟨⟨q,n21⟩,by rw[←hC];exact hfin,rfl,rfl⟩
theorem ZT:∀(m:Nat) (ds:List CK) (n:Int) (g p q:Tm),(HE n)→(g.kind=9∨g.kind=10)→(p.kids[(1+g.kind - 9).toNat]?=some q)→Bq Tryz.prog 75 [.ptr m 0,.agg ((BO g).map .p),.agg ((BO p).map .p)] [.box m [.p (.lst (List.map Bk ds)),.p (I n)]] (Ky (fun(r:Tm×Int)=>TV r.1) (fun _=> .p (.iface 122 .unit)) (fun r H'=>H'=[.box m [.p (.lst (List.map Bk ds)),.p (I r.2)]]) (JQ n (q,0))):=by
 intro m ds n g p q h1 h2 h3;obtain⟨gk,gi,gn,gl,gs⟩:=g;obtain⟨pk,pi,pn,pl,ps⟩:=p;simp only[Tm.kind,Tm.kids] at h2 h3;refine A6 Tryz.func75 O rj (n:=17) O O (Az (BG O (BP O) fun b4=>BG O (BP O) fun b5=>BG O (A8 Bz O) fun b6=>Bj O (Az (Bt O (Dv [3] O O O (.inl ⟨O,O,O⟩) (Nz m ds n h1) ⟨_,_,O,O,O⟩ An (aw (we O) (Et)) (fun _ _ h=>(congrArg List.length h).trans O) ?_ ?_)))))
 rotate_left
 ·intro e _ he;exact⟨O,_,List.nil_sublist _,⟨_,ec he,O⟩⟩
 rintro _ _ hz rfl;refine Bj O (Az (Ax Ay 6 [1,2] O (Ar O (A5 Bf O O Ao (Bc h3) (BD _)) (As Ay 2 [0,1] O (A1 (⟨O,_,_,⟨_,_,O,(BB (i:=0) Ba O O Ah),O⟩,(B4 (is:=[3]) O),?_⟩))))));exact⟨⟨q,n - 1⟩,oc hz,O,O⟩
theorem eM:∀(n m:Nat) (ds:List CK) (s:Int) (x:GV) (g:Tm) (a:List Tm) (d:CK) (f:Hi),(ma ds n)→(HQ ds)→(HE s)→(ds[x.decl.toNat]?=some d)→(0≤x.decl)→(d.funs[x.item.toNat]?=some f)→(0≤x.item)→(okB g=true)→(a.length<549755813888)→(∀y∈a,okB y=true)→(JO ds B5 (EF ds B5 n) n f g a s≠ .stuck)→Bq Tryz.prog 108 [.ptr m 0,.agg ((DN x).map .p),.agg ((BO g).map .p),.p (.lst (BE a))] [.box m [.p (.lst (List.map Bk ds)),.p (I s)]] (Ky (fun(r:Option Tm×Int)=> .tup [TV (r.1.getD Bi),.p (.bool r.1.isSome)]) (fun _=> .p (.iface 122 .unit)) (fun r H'=>H'=[.box m [.p (.lst (List.map Bk ds)),.p (I r.2)]]) ((JO ds B5 (EF ds B5 n) n f g a s).ex)):=by
 intro n m ds s x g a d f hW h2 h3 h4 h5 h6 h7 h8 h9 h10 hns;obtain⟨gk,gi,gn,gl,gs⟩:=g;have hgo:=CP.1 h8;have hgl:=hgo.nd;simp only[Nd,Dd] at hgl;have hdm:=List.mem_of_getElem? h4;have hfm:=List.mem_of_getElem? h6;have hfa:=(h2.g.all _ hdm).fu _ hfm;generalize hC:JO ds B5 (EF ds B5 n) n f (.mk gk gi gn gl gs:Tm) a s=X at hns ⊢;refine A6 Tryz.func108 O nh (n:=70) O O (Az (BG O (BP O) fun b5=>BG O (BP O) fun b6=>BG O (A8 Bz O) fun b8=>As Ay 1 [] O (Au (Bu (fun k=>Nat.beq k 13) Dt (BQ Ay 5 [3] O (CX (j:=2) O O O (fun H i hi=>A3 (i:=i) DH O hi (DR _)) AB Aq (BH O (fun _=>A5 Hj O O Ao (D4 h4) (Cl _)) Aq (BH O (fun _=>Bv Cy O O) Aq (BH O (fun _=>C0 Gj O (B6 _)) Aq (BH O (fun _=>A0 Fe O O) Aq (CX (j:=2) O O O (fun H i hi=>A3 (i:=i) DH O hi (Dq _)) AB Aq (BH O (fun _=>A5 Gn O O Ao (D7 h6) (DF _)) Aq (BH O (fun _=>BN fW O (DF _)) Aq (G9 [] O O (A8 aq O) Ak fun b10=>⟨AB,Aq,?_⟩))))))))))))));refine Bn Ay 1 [0,1] O (Au (Az (Bt O (Ar O (BM Bf O (BS _)) (Ar O (A0 GX O O) (Ar O (A3 (i:=0) DH O O (CI _)) (As Ay 1 [] O (Aw O (fun c=>?_) (fun c=>?_)))))))))
 ·(try simp only[sd,se] at c);rw[J6 Ao] at hC;refine Av Ay 3 [1,0] O (BI (BT (i:=1) O) (A1 (⟨O,_,_,⟨_,_,O,(BB (i:=1) Ba O O O),⟨_,_,O,O,O⟩⟩,(B4 (is:=[4]) O),?_⟩)));exact⟨⟨none,s⟩,DS hC.symm,O,O⟩
 (try simp only[sd,se] at c);have hl0:¬(a.length:Int)<f.arity:=by omega
 refine A2 (Au ?_);rw[KP hl0] at hC;have hn0:=hns;rw[←hC] at hn0;have hn1:=Ji hn0;obtain⟨e,he⟩ | ⟨⟨q,n2⟩,hz⟩:=F5 ((Ds ds B5 (EF ds B5 n) n f.tree (a.take ((f.arity:Int).toNat)) Bi s).ex)
 ·refine Iw ((fun _=> .p (.iface 122 .unit)) e) 7 [.val (.ptr m 0),.val (.ptr b10 (0+7)),.val (.agg ((Ct f.tree).map .p)),.val (.p (.lst (BE a))),.val (.ptr b10 (0+6)),.val (.p (I f.arity)),.val (.p (.lst (BE (a.take ((f.arity:Int).toNat))))),.val (.p .any),.val (.p .any),.val (.p .any),.val (.p .any),.val (.p .any),.val (.p .any),.new [.p (I 0),.p (I 0),.p (.str ⟨#[]⟩),.p (.nils),.p (.nils)],.new [.p (I 0),.p (I 0),.p (.str ⟨#[]⟩),.p (.nils),.p (.nils)],.val (.p .any),.val (.p .any),.val (.p .any),.val (.p .any)] Dt O Ak O Aq (fun _ _=>by exact⟨rfl,_,List.nil_sublist _,⟨_,by rw[←hC];exact Kn hn0 he,rfl⟩⟩) ?_;refine B9 O O (fun Bs=>BZ O) (B9 O O (fun Bs=>A0 GX O O) (B9 O O (fun Bs=>By (i:=Bs.length+0) Iv O (CS O) (Dn _) (Cn _)) (B9 O O (fun Bs=>BZ O) (B9 O O (fun Bs=>A0 GX O O) (B9 O O (fun Bs=>A3 (i:=Bs.length+0) DH O (CS O) (CI _)) (B9 O O (fun Bs=>Ca (lo:=0) (hi:=(f.arity:Int).toNat) Bf O (CF (Bw _)) O ⟨_,pI Ao⟩ (Nat.zero_le _) AR (My a ((f.arity:Int).toNat))) (K1 (mkp:=(fun _=> .p (.iface 122 .unit))) (e:=e) [4] he O O (.inl ⟨O,O,O⟩) (Qc n n m ds f.tree (a.take ((f.arity:Int).toNat)) s hW h2.g h3 (OP h2 hdm hfm h10) hn1) ⟨_,_,O,O,O⟩ An (aw (we O) (aw (we O) (aw (we O) (Et)))) (DC O O Ak (DC O O Ak (DC O O Ak (DC O O Ak (DC O O Ak ?_))))))))))));exact T6 O O (fun Bs=>A8 Bz O) fun _=>T6 O O (fun Bs=>A8 Bz O) fun _=>DC O O Ak (DC O O Ak (DC O O Ak (DC O O Ak LG)))
 rw[MT hz] at hC;have hlo:=RR h2.g _ _ _ _ _ _ _ (OP h2 hdm hfm h10) (IZ hz);have hJ2:=Tj h3 (IZ hz);refine HZ [.box b10 ((Em f).map .p),.box b8 [.p (I 0),.p (I 0),.p (.str ⟨#[]⟩),.p (.nils),.p (.nils)],.box b6 [.p (I gk),.p (I gi),.p (.str gn),.p (.lst (List.map B0 gl)),.p (.lst (BE gs))],.box b5 ((DN x).map .p),.box m [.p (.lst (List.map Bk ds)),.p (I n2)]] 7 [.val (.ptr m 0),.val (.ptr b10 (0+7)),.val (.agg ((Ct f.tree).map .p)),.val (.p (.lst (BE a))),.val (.ptr b10 (0+6)),.val (.p (I f.arity)),.val (.p (.lst (BE (a.take ((f.arity:Int).toNat))))),.val (.tup [.agg ((BO (I9 q)).map .p),.p (.lst (BE (ML q))),.p (.bool q.1.isSome),.agg ((BO q.2).map .p)]),.val (.tup [.agg ((BO (I9 q)).map .p),.p (.lst (BE (ML q))),.p (.bool q.1.isSome),.agg ((BO q.2).map .p)]),.val (.agg ((BO (I9 q)).map .p)),.val (.p (.lst (BE (ML q)))),.val (.p (.bool q.1.isSome)),.val (.agg ((BO q.2).map .p)),.new [.p (I 0),.p (I 0),.p (.str ⟨#[]⟩),.p (.nils),.p (.nils)],.new [.p (I 0),.p (I 0),.p (.str ⟨#[]⟩),.p (.nils),.p (.nils)]] [.p .any,.p (.lst (BE (ML q))),.p (.bool q.1.isSome),.p .any] [10,11,12] Dt O Ak Ak Ak O ?_ ?_
 ·exact Aq
 refine Bd O O (fun Bs=>BZ O) (Bd O O (fun Bs=>A0 GX O O) (Ew O O O (fun Bs=>By (i:=Bs.length+0) Iv O (CS O) (Dn _) (Cn _)) (fun Bs=>By (i:=Bs.length+0) Iv O (CS O) (Dn _) (Cn _)) (Bd O O (fun Bs=>BZ O) (Bd O O (fun Bs=>A0 GX O O) (Ew O O O (fun Bs=>A3 (i:=Bs.length+0) DH O (CS O) (CI _)) (fun Bs=>A3 (i:=Bs.length+0) DH O (CS O) (CI _)) (Bd O O (fun Bs=>Ca (lo:=0) (hi:=(f.arity:Int).toNat) Bf O (CF (Bw _)) O ⟨_,pI Ao⟩ (Nat.zero_le _) AR (My a ((f.arity:Int).toNat))) ?_))))));refine JP O (fun Bs=>GF [4] O (.inl ⟨O,O,O⟩) (Kz hz (Qc n n m ds f.tree (a.take ((f.arity:Int).toNat)) s hW h2.g h3 (OP h2 hdm hfm h10) hn1)) ⟨_,_,O,O,O⟩ An O (aw (we O) (aw (we O) (aw (we O) (Et))))) (Bd O O (fun Bs=>BZ O) (Bd O O (fun Bs=>Cx O O) (Bd O O (fun Bs=>Cx O O) (Bd O O (fun Bs=>Cx O O) (Bd O O (fun Bs=>Cx O O) (Lq O O (fun Bs=>A8 Bz O) fun b11=>Lq O O (fun Bs=>A8 Bz O) fun b14=>JJ ?_))))));refine DV [.box b11 ((BO (I9 q)).map .p),.box b14 [.p (I 0),.p (I 0),.p (.str ⟨#[]⟩),.p (.nils),.p (.nils)],.box b10 ((Em f).map .p),.box b8 [.p (I 0),.p (I 0),.p (.str ⟨#[]⟩),.p (.nils),.p (.nils)],.box b6 [.p (I gk),.p (I gi),.p (.str gn),.p (.lst (List.map B0 gl)),.p (.lst (BE gs))],.box b5 ((DN x).map .p),.box m [.p (.lst (List.map Bk ds)),.p (I n2)]] O (CY (i:=0) Ba O O O Ah AX (E0 _)) (DV [.box b11 ((BO (I9 q)).map .p),.box b14 [.p (I 0),.p (I 0),.p (.str ⟨#[]⟩),.p (.nils),.p (.nils)],.box b10 ((Em f).map .p),.box b8 [.p (I 0),.p (I 0),.p (.str ⟨#[]⟩),.p (.nils),.p (.nils)],.box b6 [.p (I gk),.p (I gi),.p (.str gn),.p (.lst (List.map B0 gl)),.p (.lst (BE gs))],.box b5 ((DN x).map .p),.box m [.p (.lst (List.map Bk ds)),.p (I n2)]] O (Du O) ?_)
 refine DV [.box b11 ((BO (I9 q)).map .p),.box b14 [.p (I 0),.p (I 0),.p (.str ⟨#[]⟩),.p (.nils),.p (.nils)],.box b10 ((Em f).map .p),.box b8 [.p (I 0),.p (I 0),.p (.str ⟨#[]⟩),.p (.nils),.p (.nils)],.box b6 [.p (I gk),.p (I gi),.p (.str gn),.p (.lst (List.map B0 gl)),.p (.lst (BE gs))],.box b5 ((DN x).map .p),.box m [.p (.lst (List.map Bk ds)),.p (I n2)]] O (Du O) (DV [.box b11 ((BO (I9 q)).map .p),.box b14 ((BO q.2).map .p),.box b10 ((Em f).map .p),.box b8 [.p (I 0),.p (I 0),.p (.str ⟨#[]⟩),.p (.nils),.p (.nils)],.box b6 [.p (I gk),.p (I gi),.p (.str gn),.p (.lst (List.map B0 gl)),.p (.lst (BE gs))],.box b5 ((DN x).map .p),.box m [.p (.lst (List.map Bk ds)),.p (I n2)]] O (CY (i:=1) Ba O O O Ah AX (E0 _)) (JZ (Au (Av Ay 2 [] O (Aw O (fun c1=>?_) (fun c1=>?_))))))
 ·(try simp only[sd,se] at c1);rw[JY (.inl (by simpa using c1))] at hC;refine Av Ay 3 [3,0] O (BI (BT (i:=3) O) (A1 (⟨O,_,_,⟨_,_,O,(BB (i:=3) Ba O O O),⟨_,_,O,O,O⟩⟩,(B4 (is:=[6]) O),?_⟩)));exact⟨⟨none,n2⟩,DS hC.symm,O,O⟩
 (try simp only[sd,se] at c1);rw[Kp (by simpa using c1) rfl] at hC;refine A2 (Az (Ax Ay 3 [0,4] O (Ar O (BF O O (Mg (I9 q) gl (CP.1 hlo.1).nd (CP.1 hlo.1).vp (by have:=F9 hlo.1;omega) hgl.2.1 hgl.2.2.1) O) (As Ay 5 [0,1] O (Au (Av Ay 2 [] O (Aw O (fun c2=>?_) (fun c2=>?_))))))))
 ·(try simp only[sd,se] at c2);rw[KO (h:=(.mk gk gi gn gl gs:Tm)) c2] at hC;refine Av Ay 3 [3,0] O (BI (BT (i:=3) O) (A1 (⟨O,_,_,⟨_,_,O,(BB (i:=3) Ba O O O),⟨_,_,O,O,O⟩⟩,(B4 (is:=[6]) O),?_⟩)));exact⟨⟨none,n2⟩,DS hC.symm,O,O⟩
 (try simp only[sd,se] at c2);obtain⟨hb1,hb2,hb3,hb4⟩:=Uh (by rw[hC];exact hns) c2;rw[hb4] at hC;have hn3:=hns;rw[←hC] at hn3;refine A2 (Au ?_);obtain⟨e,he⟩ | ⟨⟨z,n21⟩,hz1⟩:=F5 (JQ n2 (CT ((Bp (I9 q) gl).1) (ML q).reverse 0))
 ·refine Iw ((fun _=> .p (.iface 122 .unit)) e) 3 [.val (.ptr m 0),.val (.agg ((BO ((Bp (I9 q) gl).1)).map .p)),.val (.p (.lst (BE (ML q)))),.val (.p .any),.val (.p (.lst (BE a))),.val (.ptr b10 (0+6)),.val (.p (I f.arity)),.val (.p (.lst (BE (a.drop ((f.arity:Int).toNat))))),.val (.p .any),.val (.p .any),.val (.p .any)] Dt O Ak O Aq (fun _ _=>by exact⟨rfl,_,List.nil_sublist _,⟨_,by rw[←hC];exact K4 hn3 he,rfl⟩⟩) ?_;exact B9 O O (fun Bs=>BZ O) (B9 O O (fun Bs=>BU (i:=Bs.length+0) Ba O (CS O) Ah) (B9 O O (fun Bs=>BZ O) (K1 (mkp:=(fun _=> .p (.iface 122 .unit))) (e:=e) [6] he O O (.inl ⟨O,O,O⟩) (Qe m ds n2 ((Bp (I9 q) gl).1) (ML q) hJ2 hb1 hb2 Ao) ⟨_,_,O,O,O⟩ An (aw (we O) (aw (we O) (aw (we O) (Et)))) (B9 O O (fun Bs=>BZ O) (B9 O O (fun Bs=>A0 GX O O) (B9 O O (fun Bs=>A3 (i:=Bs.length+2) DH O (CS O) (CI _)) (B9 O O (fun Bs=>Ca (lo:=(f.arity:Int).toNat) Bf O (CF (Bw _)) ⟨_,pI Ao⟩ O AR (Nat.le_refl _) (Ju a ((f.arity:Int).toNat))) (DC O O Ak (DC O O Ak (DC O O Ak LG))))))))))
 rw[K5 hn3 hz1] at hC;refine HZ [.box b11 ((BO ((Bp (I9 q) gl).1)).map .p),.box b14 ((BO q.2).map .p),.box b10 ((Em f).map .p),.box b8 [.p (I 0),.p (I 0),.p (.str ⟨#[]⟩),.p (.nils),.p (.nils)],.box b6 [.p (I gk),.p (I gi),.p (.str gn),.p (.lst (List.map B0 gl)),.p (.lst (BE gs))],.box b5 ((DN x).map .p),.box m [.p (.lst (List.map Bk ds)),.p (I n21)]] 3 [.val (.ptr m 0),.val (.agg ((BO ((Bp (I9 q) gl).1)).map .p)),.val (.p (.lst (BE (ML q)))),.val (.agg ((BO z).map .p)),.val (.p (.lst (BE a))),.val (.ptr b10 (0+6)),.val (.p (I f.arity)),.val (.p (.lst (BE (a.drop ((f.arity:Int).toNat))))),.val (.agg ((BO (apply z (a.drop ((f.arity:Int).toNat)))).map .p))] [.p .any,.p (.bool true)] [] Dt O Ak Ak Ak O ?_ ?_
 ·exact Aq
 refine Bd O O (fun Bs=>BZ O) (Ew O O O (fun Bs=>BU (i:=Bs.length+0) Ba O (CS O) Ah) (fun Bs=>BU (i:=Bs.length+0) Ba O (CS O) Ah) (Bd O O (fun Bs=>BZ O) (JP O (fun Bs=>GF [6] O (.inl ⟨O,O,O⟩) (Kz hz1 (Qe m ds n2 ((Bp (I9 q) gl).1) (ML q) hJ2 hb1 hb2 Ao)) ⟨_,_,O,O,O⟩ An O (aw (we O) (aw (we O) (aw (we O) (Et))))) (Bd O O (fun Bs=>BZ O) (Bd O O (fun Bs=>A0 GX O O) (Ew O O O (fun Bs=>A3 (i:=Bs.length+2) DH O (CS O) (CI _)) (fun Bs=>A3 (i:=Bs.length+2) DH O (CS O) (CI _)) (Bd O O (fun Bs=>Ca (lo:=(f.arity:Int).toNat) Bf O (CF (Bw _)) ⟨_,pI Ao⟩ O AR (Nat.le_refl _) (Ju a ((f.arity:Int).toNat))) ?_)))))));refine Bd O O (fun Bs=>BF O O (EP z (a.drop ((f.arity:Int).toNat)) AS) O) (JJ (DV [.box b11 ((BO ((Bp (I9 q) gl).1)).map .p),.box b14 ((BO q.2).map .p),.box b10 ((Em f).map .p),.box b8 ((BO (apply z (a.drop ((f.arity:Int).toNat)))).map .p),.box b6 [.p (I gk),.p (I gi),.p (.str gn),.p (.lst (List.map B0 gl)),.p (.lst (BE gs))],.box b5 ((DN x).map .p),.box m [.p (.lst (List.map Bk ds)),.p (I n21)]] O (CY (i:=3) Ba O O O Ah AX (E0 _)) ?_));refine DV [.box b11 ((BO ((Bp (I9 q) gl).1)).map .p),.box b14 ((BO q.2).map .p),.box b10 ((Em f).map .p),.box b8 ((BO (apply z (a.drop ((f.arity:Int).toNat)))).map .p),.box b6 [.p (I gk),.p (I gi),.p (.str gn),.p (.lst (List.map B0 gl)),.p (.lst (BE gs))],.box b5 ((DN x).map .p),.box m [.p (.lst (List.map Bk ds)),.p (I n21)]] O (Du O) (JZ (A1 (⟨O,_,_,⟨_,_,O,(BB (i:=3) Ba O O Ah),⟨_,_,O,O,O⟩⟩,(B4 (is:=[6]) O),?_⟩)));exact⟨⟨some _,_⟩,DS hC.symm,O,O⟩
set_option maxHeartbeats 4000000 in
theorem fX:∀(n m:Nat) (ds:List CK) (s:Int) (g:Tm) (a:List Tm),(ma ds n)→(HQ ds)→(HE s)→(okB g=true)→(a.length<549755813888)→(∀y∈a,okB y=true)→(EY ds B5 (EF ds B5 n) n g a s≠ .stuck)→Bq Tryz.prog 76 [.ptr m 0,.agg ((BO g).map .p),.p (.lst (BE a))] [.box m [.p (.lst (List.map Bk ds)),.p (I s)]] (Ky (fun(r:Option Tm×Int)=> .tup [TV (r.1.getD Bi),.p (.bool r.1.isSome)]) (fun _=> .p (.iface 122 .unit)) (fun r H'=>H'=[.box m [.p (.lst (List.map Bk ds)),.p (I r.2)]]) ((EY ds B5 (EF ds B5 n) n g a s).ex)):=by
 intro n m ds s g a hW h2 h3 h4 h5 h6 hns;obtain⟨gk,gi,gn,gl,gs⟩:=g;have hgo:=CP.1 h4;have hgl:=hgo.nd;simp only[Nd,Dd] at hgl;generalize hC:EY ds B5 (EF ds B5 n) n (.mk gk gi gn gl gs:Tm) a s=X at hns ⊢;refine A6 Tryz.func76 O qV (n:=40) O O (Az (BG O (BP O) fun b4=>BG O (A8 Bz O) fun b6=>As Ay 1 [] O (Az (Ax Ay 2 [1] O (Ar O (B8 [2] O (.inl ⟨O,O,O⟩) (O6 m ds s (.mk gk gi gn gl gs:Tm) h2.g.env) ⟨_,_,O,O,O⟩ An O (.inl O)) (Ax Ay 3 [] O (BG O (A8 Hk O) fun b8=>As Ay 2 [0,1] O (Au (Av Ay 2 [] O (Aw O (fun c=>?_) (fun c=>?_)))))))))))
 ·(try simp only[sd,se] at c);rw[JF c] at hC;refine Av Ay 3 [1,0] O (BI (BT (i:=1) O) (A1 (⟨O,_,_,⟨_,_,O,(BB (i:=1) Ba O O O),⟨_,_,O,O,O⟩⟩,(B4 (is:=[3]) O),?_⟩)));exact⟨⟨none,s⟩,DS hC.symm,O,O⟩
 (try simp only[sd,se] at c);have hu:=c;obtain⟨ix,dd,e1,e2,e3,e4⟩:=Hh hu;have hde:=e2.decl;have hdg:=h2.g.all _ e3;have hel:=h2.g.env.len;have hil:=(List.getElem?_eq_some_iff.1 e1).1;have hfx:=hdg.fx;have hnr:=Gz hdg;have hcl:=hdg.din.cl;have hfl:=hdg.din.fl;have hki:=e2.kind;have hkp:(Bh ds (Tm.mk gk gi gn gl gs).name).1.kind=0∨(Bh ds (Tm.mk gk gi gn gl gs).name).1.kind=1∨(Bh ds (Tm.mk gk gi gn gl gs).name).1.kind=2∨(Bh ds (Tm.mk gk gi gn gl gs).name).1.kind=3∨(Bh ds (Tm.mk gk gi gn gl gs).name).1.kind=4∨(Bh ds (Tm.mk gk gi gn gl gs).name).1.kind=5∨(Bh ds (Tm.mk gk gi gn gl gs).name).1.kind=6:=by omega
 refine A2 (Au ?_);rcases hkp with hkk | hkk | hkk | hkk | hkk | hkk | hkk
 ·refine A4 (Ax Ay 6 [] O (Ar O (EO Jw Jv Q8 O) (Ar O (A0 Fe O O) (Ar O (A3 (i:=0) DH O O (DB _)) (Ar O (FH (j:=0) Jw Jv O O (hkk) O An) (As Ay 1 [] O (Au (Az (Bt O (Ar O (HG Ak (.inl ⟨O,O⟩) O) (Bj O ?_)))))))))));refine Aw O (fun c1=>?_) (fun c1=>by cases c1);refine Az ?_;rw[IS hu Ao Ao Ao] at hC;refine As Ay 3 [1,0] O (BI (BT (i:=1) O) (A1 (⟨O,_,_,⟨_,_,O,(BB (i:=1) Ba O O O),⟨_,_,O,O,O⟩⟩,(B4 (is:=[3]) O),?_⟩)));exact⟨⟨none,s⟩,DS hC.symm,O,O⟩
 ·refine A4 (Ax Ay 6 [] O (Ar O (EO Jw Jv Q8 O) (Ar O (A0 Fe O O) (Ar O (A3 (i:=0) DH O O (DB _)) (Ar O (FH (j:=1) Jw Jv O O (hkk) O An) (As Ay 1 [] O (Au (Az (Bt O (Ar O (HG Ak (.inr ⟨⟨_,_,_,O⟩,O⟩) O) (Bj O ?_)))))))))));refine Aw O (fun c1=>by cases c1) (fun c1=>?_);refine A2 (Az (Ax Ay 4 [0,2] O ?_));rw[I6 hu e4 hkk] at hC;refine Dv [3] O O O (.inr O) (WY m ds s ((Bh ds (.mk gk gi gn gl gs:Tm).name).1) (.mk gk gi gn gl gs:Tm) a dd h3 e4 Ao hdg h4 h5 (by rw[hC];exact hns)) ⟨_,_,O,O,O⟩ An (aw (we O) (aw (we O) (aw (we O) (aw (we O) (Et))))) (fun _ _ h=>(congrArg List.length h).trans O) ?_ ?_
  rotate_left
  ·intro e _ he;exact⟨O,_,List.nil_sublist _,⟨_,by rw[←hC];exact he,rfl⟩⟩
  rintro⟨q,n2⟩ _ hz rfl;have hfin:=hz;refine As Ay 4 [1,1] O (A1 (⟨O,_,_,⟨_,_,O,(BB (i:=1) Ba O O Ah),⟨_,_,O,O,O⟩⟩,(B4 (is:=[3]) O),?_⟩));exact⟨⟨q,n2⟩,by rw[←hC];exact hfin,rfl,rfl⟩
 ·refine A4 (Ax Ay 6 [] O (Ar O (EO Jw Jv Q8 O) (Ar O (A0 Fe O O) (Ar O (A3 (i:=0) DH O O (DB _)) (Ar O (FH (j:=2) Jw Jv O O (hkk) O An) (As Ay 1 [] O (Au (Az (Bt O (Ar O (HG Ak (.inl ⟨O,O⟩) O) (Bj O ?_)))))))))));refine Aw O (fun c1=>?_) (fun c1=>by cases c1);refine Az ?_;rw[IS hu Ao Ao Ao] at hC;refine As Ay 3 [1,0] O (BI (BT (i:=1) O) (A1 (⟨O,_,_,⟨_,_,O,(BB (i:=1) Ba O O O),⟨_,_,O,O,O⟩⟩,(B4 (is:=[3]) O),?_⟩)));exact⟨⟨none,s⟩,DS hC.symm,O,O⟩
 ·refine A4 (Ax Ay 6 [] O (Ar O (EO Jw Jv Q8 O) (Ar O (A0 Fe O O) (Ar O (A3 (i:=0) DH O O (DB _)) (Ar O (FH (j:=3) Jw Jv O O (hkk) O An) (As Ay 1 [] O (Au (Az (Bt O (Ar O (HG Ak (.inl ⟨O,O⟩) O) (Bj O ?_)))))))))));refine Aw O (fun c1=>?_) (fun c1=>by cases c1);refine Az ?_;rw[IS hu Ao Ao Ao] at hC;refine As Ay 3 [1,0] O (BI (BT (i:=1) O) (A1 (⟨O,_,_,⟨_,_,O,(BB (i:=1) Ba O O O),⟨_,_,O,O,O⟩⟩,(B4 (is:=[3]) O),?_⟩)));exact⟨⟨none,s⟩,DS hC.symm,O,O⟩
 ·refine A4 (Ax Ay 6 [] O (Ar O (EO Jw Jv Q8 O) (Ar O (A0 Fe O O) (Ar O (A3 (i:=0) DH O O (DB _)) (Ar O (FH (j:=4) Jw Jv O O (hkk) O An) (As Ay 1 [] O (Au (Az (Bt O (Ar O (HG Ak (.inl ⟨O,O⟩) O) (Bj O ?_)))))))))));refine Aw O (fun c1=>?_) (fun c1=>by cases c1);refine Az ?_;rw[IS hu Ao Ao Ao] at hC;refine As Ay 3 [1,0] O (BI (BT (i:=1) O) (A1 (⟨O,_,_,⟨_,_,O,(BB (i:=1) Ba O O O),⟨_,_,O,O,O⟩⟩,(B4 (is:=[3]) O),?_⟩)));exact⟨⟨none,s⟩,DS hC.symm,O,O⟩
 ·refine A4 (Ax Ay 6 [] O (Ar O (EO Jw Jv Q8 O) (Ar O (A0 Fe O O) (Ar O (A3 (i:=0) DH O O (DB _)) (Ar O (FH (j:=5) Jw Jv O O (hkk) O An) (As Ay 1 [] O (Au (Az (Bt O (Ar O (HG Ak (.inr ⟨⟨_,_,_,O⟩,O⟩) O) (Bj O ?_)))))))))));refine Aw O (fun c1=>by cases c1) (fun c1=>?_);refine A2 (Az (Ax Ay 4 [0,2] O ?_));rw[IC hu e4 hkk] at hC;refine Dv [3] O O O (.inr O) (lr n m ds s ((Bh ds (.mk gk gi gn gl gs:Tm).name).1) (.mk gk gi gn gl gs:Tm) a dd hW h2.g h3 e4 Ao hdg h4 h5 h6 (by rw[hC];exact hns)) ⟨_,_,O,O,O⟩ An (aw (we O) (aw (we O) (aw (we O) (aw (we O) (Et))))) (fun _ _ h=>(congrArg List.length h).trans O) ?_ ?_
  rotate_left
  ·intro e _ he;exact⟨O,_,List.nil_sublist _,⟨_,by rw[←hC];exact he,rfl⟩⟩
  rintro⟨q,n2⟩ _ hz rfl;have hfin:=hz;refine As Ay 4 [1,1] O (A1 (⟨O,_,_,⟨_,_,O,(BB (i:=1) Ba O O Ah),⟨_,_,O,O,O⟩⟩,(B4 (is:=[3]) O),?_⟩));exact⟨⟨q,n2⟩,by rw[←hC];exact hfin,rfl,rfl⟩
 refine A4 (Ax Ay 6 [] O (Ar O (EO Jw Jv Q8 O) (Ar O (A0 Fe O O) (Ar O (A3 (i:=0) DH O O (DB _)) (Ar O (FH (j:=6) Jw Jv O O (hkk) O An) (As Ay 1 [] O (Au (Az (Bt O (Ar O (HG Ak (.inr ⟨⟨_,_,_,O⟩,O⟩) O) (Bj O ?_)))))))))));refine Aw O (fun c1=>by cases c1) (fun c1=>?_);refine A2 (Az (Ax Ay 4 [0,2] O ?_));obtain⟨fk,ff,f1,f2⟩:=e2.func hkk;have hff:dd.funs[(Bh ds (Tm.mk gk gi gn gl gs).name).1.item.toNat]?=some ff:=by rw[f2];simpa using f1
 rw[HK hu e4 hkk hff] at hC;refine Dv [3] O O O (.inr O) (eM n m ds s ((Bh ds (.mk gk gi gn gl gs:Tm).name).1) (.mk gk gi gn gl gs:Tm) a dd ff hW h2 h3 e4 Ao hff Ao h4 h5 h6 (by rw[hC];exact hns)) ⟨_,_,O,O,O⟩ An (aw (we O) (aw (we O) (aw (we O) (aw (we O) (Et))))) (fun _ _ h=>(congrArg List.length h).trans O) ?_ ?_
 rotate_left
 ·intro e _ he;exact⟨O,_,List.nil_sublist _,⟨_,by rw[←hC];exact he,rfl⟩⟩
 rintro⟨q,n2⟩ _ hz rfl;have hfin:=hz;refine As Ay 4 [1,1] O (A1 (⟨O,_,_,⟨_,_,O,(BB (i:=1) Ba O O Ah),⟨_,_,O,O,O⟩⟩,(B4 (is:=[3]) O),?_⟩));exact⟨⟨q,n2⟩,by rw[←hC];exact hfin,rfl,rfl⟩
theorem sS (t:Tm):∀c∈BO t,c≠ .nils:=by obtain⟨k,i,n,l,s⟩:=t;simp[BO]
theorem E8 (l:List Tm):∀r∈BE l,∀c∈r,c≠ .nils:=by
 intro r hr;rw[EU] at hr;obtain⟨t,_,rfl⟩:=List.mem_map.1 hr;exact sS t
set_option maxHeartbeats 4000000 in
theorem OW:∀(ds:List CK) (hE:HQ ds) (n:Nat),ma ds n:=by
 intro ds hE n
 induction n using Nat.strongRecOn with
 | ind n ih =>
  intro m t s h1 hns;generalize hX:EF ds B5 n s t=X at hns ⊢;refine A6 Tryz.func39 O sI (n:=95) O O (Az (BG O (BP O) fun b3=>BG O (A8 Bz O) fun b4=>Bj O (BA (Be (α:=Nat×Tm×Int) (fun(k2,w,d)=>⟨95,mk [(0,.ptr m 0),(3,.ptr b3 0),(4,.ptr b4 0)],[.box b4 [.p (I 0),.p (I 0),.p (.str ⟨#[]⟩),.p (.nils),.p (.nils)],.box b3 ((BO w).map .p),.box m [.p (.lst (List.map Bk ds)),.p (I d)]],[]⟩) (fun(k2,w,d)=>k2) (fun(k2,w,d)=>EF ds B5 k2 d w=X∧HE d∧k2≤n) ⟨n,t,s⟩ (⟨hX,h1,Nat.le_refl _⟩) ?_ ?_))))
  ·exact BY ⟨we O,we O,we O,Aq⟩ (leH (is:=[0,1,2]) O (wl (oe O) (wl (oe O) (wl (oe O) (C7)))))
  rintro⟨k2,w,d⟩ hC
  try simp only at hC
  obtain⟨hC,hJ,hmn⟩:=hC;obtain⟨k,rfl⟩:=ZB hC hns;have hwo:=Xl hC hns;have hsp:=TZ hwo;have hsl:=hsp.len;have hss:=hsp.sz;have hsa:=hsp.asz;refine BA (Az (Ar O (BU (i:=1) Ba O O Ah) (Ar O (BF O O (MF w hsp.nd Aa) O) (Ax Ay 3 [] O (BG O (A8 Bz O) fun b5=>As Ay 2 [0,1] O (Au (Az (Bt O (Ar O (BM Bf O (BS _)) (As Ay 1 [] O (Aw O (fun c=>?_) (fun c=>?_))))))))))))
  ·(try simp only[sd,se] at c);exact A4 (Ar O (CO eI ZG O) (Ar O (JW Ak O) (Nt O O (MZ O) (⟨O,_,List.nil_sublist _,⟨_,jV (hC.symm.trans (YY hwo O (by simp only[B5];exact decide_eq_true Ao))),O⟩⟩))))
  (try simp only[sd,se] at c);have hmany:B5.many (A9 w).2.length=false:=by simp only[B5];exact decide_eq_false Ao
  refine A2 (Az (Ar O (A0 G8 O O) ?_));generalize hz:(A9 w).1=z;obtain⟨zk,zi,zn,zl,zs⟩:=z;have hzo:okB (.mk zk zi zn zl zs)=true:=hz▸hsp.head;have hzq:=hz;have hzl:=IN hzo;have hzn:=(CP.1 hzo).nd;refine As Ay 1 [0] O (BA (Av Ay 2 [] O (Aw O (fun c1=>?_) (fun c1=>?_))))
  ·(try simp only[sd,se] at c1);have hk:=(congrArg Tm.kind hzq).trans c1;refine Au (Az (Bt O (Ar O (BM Bf O (BS _)) (As Ay 1 [] O (Aw O (fun c2=>?_) (fun c2=>?_))))))
   ·(try simp only[sd,se] at c2);rw[Ol hwo rfl hmany hk Ao] at hC;refine Av Ay 2 [2,1,1] O (A1 (⟨O,_,_,⟨_,_,O,(BB (i:=1) Ba O O Ah),O⟩,(B4 (is:=[3]) O),?_⟩));exact⟨⟨_,_⟩,DS hC.symm,O,O⟩
   (try simp only[sd,se] at c2);refine A2 ?_;obtain⟨x,hx⟩:=A7 (l:=zs) (i:=1) Ao;obtain⟨x1,hx1⟩:=A7 (l:=(A9 w).2) (i:=0) Ao;have hxo:=GA hzo (i:=1) hx;have hx1o:=hsp.args _ (List.mem_of_getElem? hx1);rw[Q4 hwo rfl hmany hk Ao (by rw[hzq];exact hx),j6 hx1] at hC;have hn3:=hns;rw[←hC] at hn3;obtain⟨e,he⟩ | ⟨⟨z1,n2⟩,hz⟩:=F5 (JQ d (CT x [x1] 0))
   ·refine Iw ((fun _=> .p (.iface 122 .unit)) e) 9 [.val (.ptr m 0),.val (.ptr b5 (0+4)),.val (.p (.lst (BE zs))),.val (.ref (BO x)),.val (.agg ((BO x).map .p)),.val (.p (.lst (BE ((A9 w).2)))),.val (.ref (BO x1)),.val (.agg ((BO x1).map .p)),.val (.p (.lst (BE [x1]))),.val (.p .any),.val (.p (.lst (BE ((A9 w).2)))),.val (.p (.lst (BE (((A9 w).2).drop 1)))),.val (.p .any),.val (.p .any)] Dt O Ak O Aq (fun _ _=>by exact⟨rfl,_,List.nil_sublist _,⟨_,by rw[←hC];exact K4 hn3 he,rfl⟩⟩) ?_;refine B9 O O (fun Bs=>BZ O) (B9 O O (fun Bs=>A0 G8 O O) (B9 O O (fun Bs=>B7 (i:=Bs.length+0) Gk O (CS O) O) (B9 O O (fun Bs=>A5 Bf O O Ao (Bc hx) (BD _)) (B9 O O (fun Bs=>BN Ba O (BD _)) (B9 O O (fun Bs=>BZ O) (B9 O O (fun Bs=>A5 Bf O O Ao (Bc hx1) (BD _)) (B9 O O (fun Bs=>BN Ba O (BD _)) (B9 O O (fun Bs=>Bx (rows:=BE [x1]) Bf Bz O O O O (CF (Bw _)) (E8 _)) (K1 (mkp:=(fun _=> .p (.iface 122 .unit))) (e:=e) [3] he O O (.inl ⟨O,O,O⟩) (Ku m ds d x [x1] hJ hxo (ok_one hx1o) Jd) ⟨_,_,O,O,O⟩ An (aw (we O) (aw (we O) (aw (we O) (Et)))) (B9 O O (fun Bs=>BZ O) ?_))))))))));exact B9 O O (fun Bs=>Ca (lo:=1) Bf O (CF (Bw _)) ⟨_,O⟩ O AR (Nat.le_refl _) (Ju ((A9 w).2) 1)) (DC O O Ak (DC O O Ak LG))
   rw[K5 hn3 hz] at hC;have hJ3:=(Rl hJ hz).1;refine HZ [.box b5 [.p (I zk),.p (I zi),.p (.str zn),.p (.lst (List.map B0 zl)),.p (.lst (BE zs))],.box b4 [.p (I 0),.p (I 0),.p (.str ⟨#[]⟩),.p (.nils),.p (.nils)],.box b3 ((BO w).map .p),.box m [.p (.lst (List.map Bk ds)),.p (I n2)]] 9 [.val (.ptr m 0),.val (.ptr b5 (0+4)),.val (.p (.lst (BE zs))),.val (.ref (BO x)),.val (.agg ((BO x).map .p)),.val (.p (.lst (BE ((A9 w).2)))),.val (.ref (BO x1)),.val (.agg ((BO x1).map .p)),.val (.p (.lst (BE [x1]))),.val (.agg ((BO z1).map .p)),.val (.p (.lst (BE ((A9 w).2)))),.val (.p (.lst (BE (((A9 w).2).drop 1)))),.val (.agg ((BO (apply z1 (((A9 w).2).drop 1))).map .p))] [.p .any] [] Dt O Ak Ak Ak O ?_ ?_
   ·exact Aq
   refine Bd O O (fun Bs=>BZ O) (Bd O O (fun Bs=>A0 G8 O O) (Ew O O O (fun Bs=>B7 (i:=Bs.length+0) Gk O (CS O) O) (fun Bs=>B7 (i:=Bs.length+0) Gk O (CS O) O) (Bd O O (fun Bs=>A5 Bf O O Ao (Bc hx) (BD _)) (Bd O O (fun Bs=>BN Ba O (BD _)) (Bd O O (fun Bs=>BZ O) (Bd O O (fun Bs=>A5 Bf O O Ao (Bc hx1) (BD _)) (Bd O O (fun Bs=>BN Ba O (BD _)) (Bd O O (fun Bs=>Bx (rows:=BE [x1]) Bf Bz O O O O (CF (Bw _)) (E8 _)) (JP O (fun Bs=>GF [3] O (.inl ⟨O,O,O⟩) (Kz hz (Ku m ds d x [x1] hJ hxo (ok_one hx1o) Jd)) ⟨_,_,O,O,O⟩ An O (aw (we O) (aw (we O) (aw (we O) (Et))))) (Bd O O (fun Bs=>BZ O) ?_))))))))));refine Bd O O (fun Bs=>Ca (lo:=1) Bf O (CF (Bw _)) ⟨_,O⟩ O AR (Nat.le_refl _) (Ju ((A9 w).2) 1)) (Bd O O (fun Bs=>BF O O (EP z1 (((A9 w).2).drop 1) AS) O) (JJ (DV [.box b5 [.p (I zk),.p (I zi),.p (.str zn),.p (.lst (List.map B0 zl)),.p (.lst (BE zs))],.box b4 [.p (I 0),.p (I 0),.p (.str ⟨#[]⟩),.p (.nils),.p (.nils)],.box b3 ((BO (apply z1 (((A9 w).2).drop 1))).map .p),.box m [.p (.lst (List.map Bk ds)),.p (I n2)]] O (CY (i:=2) Ba O O O Ah AX (E0 _)) (JZ ?_))));refine⟨⟨k,(apply z1 (((A9 w).2).drop 1)),n2⟩,AU,⟨hC,by assumption,by omega⟩,BY ⟨we rfl,we rfl,we rfl,trivial⟩ (leH (is:=[1,2,3]) rfl (wl (oe rfl) (wl (oe rfl) (wl (oe rfl) (C7)))))⟩
  (try simp only[sd,se] at c1);refine Av Ay 2 [] O (Aw O (fun c2=>?_) (fun c2=>?_))
  ·(try simp only[sd,se] at c2);have hk:=(congrArg Tm.kind hzq).trans c2;obtain⟨x,hx⟩:=A7 (l:=zs) (i:=2) Ao;obtain⟨x1,hx1⟩:=A7 (l:=zs) (i:=1) Ao;have hxo:=GA hzo (i:=2) hx;have hx1o:=GA hzo (i:=1) hx1;rw[R0 hwo rfl hmany hk (by rw[hzq];exact hx1) (by rw[hzq];exact hx)] at hC;have hn3:=hns;rw[←hC] at hn3;obtain⟨e,he⟩ | ⟨⟨z1,n2⟩,hz⟩:=F5 (JQ d (CT x [x1] 0))
   ·refine Iw ((fun _=> .p (.iface 122 .unit)) e) 10 [.val (.ptr m 0),.val (.ptr b5 (0+4)),.val (.p (.lst (BE zs))),.val (.ref (BO x)),.val (.agg ((BO x).map .p)),.val (.ptr b5 (0+4)),.val (.p (.lst (BE zs))),.val (.ref (BO x1)),.val (.agg ((BO x1).map .p)),.val (.p (.lst (BE [x1]))),.val (.p .any),.val (.p (.lst (BE ((A9 w).2)))),.val (.p .any),.val (.p .any)] Dt O Ak O Aq (fun _ _=>by exact⟨rfl,_,List.nil_sublist _,⟨_,by rw[←hC];exact K4 hn3 he,rfl⟩⟩) ?_;refine B9 O O (fun Bs=>BZ O) (B9 O O (fun Bs=>A0 G8 O O) (B9 O O (fun Bs=>B7 (i:=Bs.length+0) Gk O (CS O) O) (B9 O O (fun Bs=>A5 Bf O O Ao (Bc hx) (BD _)) (B9 O O (fun Bs=>BN Ba O (BD _)) (B9 O O (fun Bs=>A0 G8 O O) (B9 O O (fun Bs=>B7 (i:=Bs.length+0) Gk O (CS O) O) (B9 O O (fun Bs=>A5 Bf O O Ao (Bc hx1) (BD _)) (B9 O O (fun Bs=>BN Ba O (BD _)) (B9 O O (fun Bs=>Bx (rows:=BE [x1]) Bf Bz O O O O (CF (Bw _)) (E8 _)) (K1 (mkp:=(fun _=> .p (.iface 122 .unit))) (e:=e) [3] he O O (.inl ⟨O,O,O⟩) (Ku m ds d x [x1] hJ hxo (ok_one hx1o) Jd) ⟨_,_,O,O,O⟩ An (aw (we O) (aw (we O) (aw (we O) (Et)))) ?_))))))))));exact B9 O O (fun Bs=>BZ O) (DC O O Ak (DC O O Ak LG))
   rw[K5 hn3 hz] at hC;have hJ3:=(Rl hJ hz).1;refine HZ [.box b5 [.p (I zk),.p (I zi),.p (.str zn),.p (.lst (List.map B0 zl)),.p (.lst (BE zs))],.box b4 [.p (I 0),.p (I 0),.p (.str ⟨#[]⟩),.p (.nils),.p (.nils)],.box b3 ((BO w).map .p),.box m [.p (.lst (List.map Bk ds)),.p (I n2)]] 10 [.val (.ptr m 0),.val (.ptr b5 (0+4)),.val (.p (.lst (BE zs))),.val (.ref (BO x)),.val (.agg ((BO x).map .p)),.val (.ptr b5 (0+4)),.val (.p (.lst (BE zs))),.val (.ref (BO x1)),.val (.agg ((BO x1).map .p)),.val (.p (.lst (BE [x1]))),.val (.agg ((BO z1).map .p)),.val (.p (.lst (BE ((A9 w).2)))),.val (.agg ((BO (apply z1 ((A9 w).2))).map .p))] [.p .any] [] Dt O Ak Ak Ak O ?_ ?_
   ·exact Aq
   refine Bd O O (fun Bs=>BZ O) (Bd O O (fun Bs=>A0 G8 O O) (Ew O O O (fun Bs=>B7 (i:=Bs.length+0) Gk O (CS O) O) (fun Bs=>B7 (i:=Bs.length+0) Gk O (CS O) O) (Bd O O (fun Bs=>A5 Bf O O Ao (Bc hx) (BD _)) (Bd O O (fun Bs=>BN Ba O (BD _)) (Bd O O (fun Bs=>A0 G8 O O) (Ew O O O (fun Bs=>B7 (i:=Bs.length+0) Gk O (CS O) O) (fun Bs=>B7 (i:=Bs.length+0) Gk O (CS O) O) (Bd O O (fun Bs=>A5 Bf O O Ao (Bc hx1) (BD _)) (Bd O O (fun Bs=>BN Ba O (BD _)) (Bd O O (fun Bs=>Bx (rows:=BE [x1]) Bf Bz O O O O (CF (Bw _)) (E8 _)) ?_)))))))));refine JP O (fun Bs=>GF [3] O (.inl ⟨O,O,O⟩) (Kz hz (Ku m ds d x [x1] hJ hxo (ok_one hx1o) Jd)) ⟨_,_,O,O,O⟩ An O (aw (we O) (aw (we O) (aw (we O) (Et))))) (Bd O O (fun Bs=>BZ O) (Bd O O (fun Bs=>BF O O (EP z1 ((A9 w).2) AS) O) (JJ (DV [.box b5 [.p (I zk),.p (I zi),.p (.str zn),.p (.lst (List.map B0 zl)),.p (.lst (BE zs))],.box b4 [.p (I 0),.p (I 0),.p (.str ⟨#[]⟩),.p (.nils),.p (.nils)],.box b3 ((BO (apply z1 ((A9 w).2))).map .p),.box m [.p (.lst (List.map Bk ds)),.p (I n2)]] O (CY (i:=2) Ba O O O Ah AX (E0 _)) (JZ ?_)))));refine⟨⟨k,(apply z1 ((A9 w).2)),n2⟩,AU,⟨hC,by assumption,by omega⟩,BY ⟨we rfl,we rfl,we rfl,trivial⟩ (leH (is:=[1,2,3]) rfl (wl (oe rfl) (wl (oe rfl) (wl (oe rfl) (C7)))))⟩
  (try simp only[sd,se] at c2);refine Au (Av Ay 2 [] O (BR [0,3,4,5,6,21] 57 (fun y=>y= .p (.bool (decide (zk=9∨zk=10)))) ?_ ?_))
  ·refine Aw O (fun c3=>?_) (fun c3=>?_)
   ·(try simp only[sd,se] at c3);exact A2 (⟨O,O,(List.Sublist.refl _),(by refine pB (Bool.eq_iff_iff.2 ?_);simp only[beq_iff_eq,decide_eq_true_eq];omega),⟨O,O,O,O,O,O,Aq⟩⟩)
   (try simp only[sd,se] at c3);exact A4 (As Ay 2 [] O (⟨O,O,(List.Sublist.refl _),(by refine pB (Bool.eq_iff_iff.2 ?_);simp only[beq_iff_eq,decide_eq_true_eq];omega),⟨O,O,O,O,O,O,Aq⟩⟩))
  rintro _ rfl;refine Aw O (fun c3=>?_) (fun c3=>?_)
  ·(try simp only[sd,se] at c3);have hk9:zk=9∨zk=10:=by simpa using c3
   refine Az (Ax Ay 3 [0] O ?_);obtain⟨x,hx⟩:=A7 (l:=zs) (i:=0) Ao;rw[OR hwo rfl hmany (by rw[hzq];exact hk9) (by rw[hzq];exact hx)] at hC;have hn0:=hns;rw[←hC] at hn0;have hn1:=UK hn0;refine Ar O (A5 Bf O O Ao (Bc hx) (BD _)) (Ar O (BN Ba O (BD _)) (Dv [3] O O O (.inl ⟨O,O,O⟩) (ih k Ao m x d hJ hn1) ⟨_,_,O,O,O⟩ An (aw (we O) (aw (we O) (Et))) (fun _ _ h=>(congrArg List.length h).trans O) ?_ ?_))
   rotate_left
   ·intro e _ he;exact⟨O,_,List.nil_sublist _,⟨_,by rw[←hC];exact UF hn0 he,rfl⟩⟩
   rintro⟨pr,n2⟩ _ hz rfl;obtain⟨hr2,hr3⟩:=T7 hn0 hz;rw[hr3] at hC;have hJ2:=Qf hJ (IZ hz);refine BG O (A8 Bz O) fun b7=>As Ay 1 [0,1] O (Au (Az (Ar O (A0 G8 O O) ?_)));obtain⟨prk,pri,prn,prl,prs⟩:=pr;have hprl:=IN hr2;refine As Ay 2 [0] O (Aw O (fun c4=>?_) (fun c4=>?_))
   ·(try simp only[sd,se] at c4);rw[Lm (r:=(Tm.mk prk pri prn prl prs,n2)) c4,hzq] at hC;refine Az (Ax Ay 3 [1,0] O (Ar O (Bx (rows:=BE [(.mk prk pri prn prl prs:Tm)]) Bf Bz O O O O (CF (Bw _)) (E8 _)) (Ax Ay 2 [] O (Ar O (GU O O (EP (.mk zk 0 ⟨#[]⟩ [] [(.mk prk pri prn prl prs:Tm)]:Tm) ((A9 w).2) AS) (aw (Df O) (aw (we O) (Et)))) (As Ay 1 [2,1] O (A1 (⟨O,_,_,⟨_,_,O,(BB (i:=2) Ba O O Ah),O⟩,(B4 (is:=[4]) O),?_⟩)))))));exact⟨⟨_,_⟩,DS hC.symm,O,O⟩
   (try simp only[sd,se] at c4);have hp8:=c4;refine A2 (A4 (Ax Ay 3 [1,0] O ?_));obtain⟨cq,hcq⟩:=A7 (l:=prs) (i:=(1+zk - 9).toNat) (by have:=hprl.2.2.2 hp8;omega);have hcqo:=GA hr2 (i:=(1+zk - 9).toNat) hcq;rw[OC (r:=(Tm.mk prk pri prn prl prs,n2)) (h:=(A9 w).1) hp8 (by rw[hzq];exact hcq)] at hC;have hn3:=hns;rw[←hC] at hn3;refine Dv [4] O O O (.inl ⟨O,O,O⟩) (ZT m ds n2 (.mk zk zi zn zl zs:Tm) (.mk prk pri prn prl prs:Tm) cq hJ2 hk9 hcq) ⟨_,_,O,O,O⟩ An (aw (we O) (aw (we O) (aw (we O) (Et)))) (fun _ _ h=>(congrArg List.length h).trans O) ?_ ?_
   rotate_left
   ·intro e _ he;exact⟨O,_,List.nil_sublist _,⟨_,by rw[←hC];exact K4 hn3 he,rfl⟩⟩
   rintro⟨z1,n21⟩ _ hz1 rfl;rw[K5 hn3 hz1] at hC;have hJ3:=(Rl hJ2 hz1).1;refine Bt O (Ar O (BF O O (EP z1 ((A9 w).2) AS) O) (As Ay 1 [3,1] O ?_));refine⟨⟨k,(apply z1 ((A9 w).2)),n21⟩,AU,⟨hC,by assumption,by omega⟩,BY ⟨we rfl,we rfl,we rfl,trivial⟩ (leH (is:=[2,3,4]) rfl (wl (oe rfl) (wl (oe rfl) (wl (oe rfl) (C7)))))⟩
  (try simp only[sd,se] at c3);refine Av Ay 2 [] O (Aw O (fun c4=>?_) (fun c4=>?_))
  ·(try simp only[sd,se] at c4);have hk:=(congrArg Tm.kind hzq).trans c4;refine Az (Ax Ay 3 [0] O ?_);rw[Ka hwo rfl hmany hk,hzq] at hC;have hn0:=hns;rw[←hC] at hn0;have hn1:=Ji hn0;refine Dv [3] O O O (.inl ⟨O,O,O⟩) (fX k m ds d (.mk zk zi zn zl zs:Tm) ((A9 w).2) (ih k Ao) hE hJ hzo Ao hsp.args hn1) ⟨_,_,O,O,O⟩ An (aw (we O) (aw (we O) (aw (we O) (Et)))) (fun _ _ h=>(congrArg List.length h).trans O) ?_ ?_
   rotate_left
   ·intro e _ he;exact⟨O,_,List.nil_sublist _,⟨_,by rw[←hC];exact Kn hn0 he,rfl⟩⟩
   rintro⟨q,n2⟩ _ hz rfl;rw[MT hz] at hC;have hJ2:=XP hJ (IZ hz);refine Ax Ay 3 [] O (BG O (A8 Bz O) fun b8=>As Ay 2 [0,1] O (Au (Av Ay 2 [] O (Aw O (fun c5=>?_) (fun c5=>?_)))))
   ·(try simp only[sd,se] at c5);rw[Qx (by simpa using c5)] at hC;refine Av Ay 2 [3,2,1] O (A1 (⟨O,_,_,⟨_,_,O,(BB (i:=2) Ba O O Ah),O⟩,(B4 (is:=[4]) O),?_⟩));exact⟨⟨_,_⟩,DS hC.symm,O,O⟩
   (try simp only[sd,se] at c5);rw[RJ (by simpa using c5)] at hC;refine A2 (A4 (As Ay 2 [0,3,1] O ?_));refine⟨⟨k,(q.getD Bi),n2⟩,AU,⟨hC,by assumption,by omega⟩,BY ⟨we rfl,we rfl,we rfl,trivial⟩ (leH (is:=[2,3,4]) rfl (wl (oe rfl) (wl (oe rfl) (wl (oe rfl) (C7)))))⟩
  (try simp only[sd,se] at c4);rw[V3 hwo rfl hmany (by rw[hzq];assumption) (by rw[hzq];assumption) (by rw[hzq];show ¬zk=9;omega) (by rw[hzq];show ¬zk=10;omega) (by rw[hzq];assumption)] at hC;refine Av Ay 2 [2,1,1] O (A1 (⟨O,_,_,⟨_,_,O,(BB (i:=1) Ba O O Ah),O⟩,(B4 (is:=[3]) O),?_⟩));exact⟨⟨_,_⟩,DS hC.symm,O,O⟩
theorem ia:∀(be:Nat) (ce:List AV),Eh Tryz.prog 71 [.ptr be 0] (.ret) [.box be ce] (fun H'=>H'=[.box be ce]):=by
 intro be ce;refine IE (ty2:=0) Tryz.func71 O pC (n:=14) O O O O O O (Az (Bt O (Ar O (HI bC O O O) (Bj O ?_))));refine Aw O (fun c=>by cases c) (fun c=>?_);exact A2 ⟨.inl O,O,_,(B4 (is:=[0]) O),O⟩
theorem iU:∀(be:Nat),Eh Tryz.prog 71 [.ptr be 0] (.pan (.p (.iface 122 (.unit)))) [.box be [.p (I 0)]] (fun H'=>H'=[.box be [.p (I 11)]]):=by
 intro be;refine IE (ty2:=0) Tryz.func71 O pC (n:=14) O O O O O O (Az (Bt O (Ar O (HI bC O O O) (Bj O ?_))));refine Aw O (fun c=>?_) (fun c=>by cases c);refine Av Ay 1 [0,0] O (Az (Bt O (Ar O (Ww Ak O) (Ax Ay 3 [] O (BG O (A8 ZG O) fun b2=>Ar O (RK pc O O) (As Ay 1 [] O (Av Ay 2 [] O ?_)))))));refine Aw O (fun c1=>by cases c1) (fun c1=>?_);exact A2 ⟨.inl O,O,_,(B4 (is:=[1]) O),O⟩
theorem UQ:∀{α:Type}(x:Except Int α) (a:α) (hx:x= .ok a) (cn:α→Int) (G:α→List BJ) (fid:Nat) (caps:List AV) (T:List BJ) (ds:List CK) (hf:∀m,Bq Tryz.prog fid ([.ptr m 0]++caps) (.box m [.p (.lst (List.map Bk ds)),.p (I 20000)]::T) (Ky (fun _=> .tup []) (fun _=> .p (.iface 122 .unit)) (fun a H'=>H'= .box m [.p (.lst (List.map Bk ds)),.p (I (cn a))]::G a) x)),Bq Tryz.prog 37 [.p (.lst (List.map Bk ds)),.fn (.func fid) [] caps] T (GW (.p (I 0)) (G a)):=by
 intro α x a hx cn G fid caps T ds hf;refine FT Tryz.func37 O pZ (n:=11) O O (Az (BG O (A8 dM O) fun b4=>Bj O (Az (Ar O (Ef O O) (OD O O O O (Bj O (Az (Ax Ay 3 [] O (BG O (BP O) fun b9=>Lw (List.Perm.swap _ _ _) (IW [_] O O O (.inr O) (hf b9) (DZ _) ?_ ?_))))))))))
 rotate_left
 ·rintro v T2 ⟨e2,h1,_⟩;rw[hx] at h1;cases h1
 rintro v T2 ⟨a2,h1,rfl,rfl⟩;rw[hx] at h1;cases h1;refine Bj O (Av Ay 1 [0,0] O (A1 ⟨_,[_],_,O,List.Perm.refl _,Eh.eq (ia b4 _) ?_⟩));refine⟨_,_,⟨_,_,O,(Gp (i:=0) SN O O),O⟩,(Gx [] [_,_] O),?_⟩
 all_goals exact⟨rfl,rfl⟩
theorem Rp:∀{α:Type}(x:Except Int α) (e:Int) (hx:x= .error e) (cn:α→Int) (G:α→List BJ) (fid:Nat) (caps:List AV) (T:List BJ) (ds:List CK) (hf:∀m,Bq Tryz.prog fid ([.ptr m 0]++caps) (.box m [.p (.lst (List.map Bk ds)),.p (I 20000)]::T) (Ky (fun _=> .tup []) (fun _=> .p (.iface 122 .unit)) (fun a H'=>H'= .box m [.p (.lst (List.map Bk ds)),.p (I (cn a))]::G a) x)),Bq Tryz.prog 37 [.p (.lst (List.map Bk ds)),.fn (.func fid) [] caps] T (GW (.p (I 11)) []):=by
 intro α x e hx cn G fid caps T ds hf;refine FT Tryz.func37 O pZ (n:=11) O O (Az (BG O (A8 dM O) fun b4=>Bj O (Az (Ar O (Ef O O) (OD O O O O (Bj O (Az (Ax Ay 3 [] O (BG O (BP O) fun b9=>Lw (List.Perm.swap _ _ _) (IW [_] O O O (.inr O) (hf b9) (DZ _) ?_ ?_))))))))))
 ·rintro v T2 ⟨a2,h1,_⟩;rw[hx] at h1;cases h1
 rintro v T2 ⟨e2,h1,rfl⟩;refine⟨_,_,_,O,Mj (is:=[0]) _ An ⟨_,_,O,O,O⟩,Eh.eq (iU b4) ?_⟩;refine⟨_,[],⟨_,_,O,(Gp (i:=0) SN O O),O⟩,(List.nil_sublist _),?_⟩;exact⟨O,O⟩
end Go.Proofs.YtboammbpdaoojaaGreat
namespace Go.Eu
open Go.Abs
structure Lt (c:EL):Prop where
 ov:c.over=false
 lm:c.limit=1000
 s0:0≤c.steps
 s1:c.steps≤1000
 n0:0≤c.nodes
 n1:c.nodes≤2000
theorem cw:Lt Je:=⟨rfl,rfl,by decide,by decide,by decide,by decide⟩
theorem JT:Yd DD (fun a b=>b.over=false→a.over=false):=by
 refine⟨fun s h=>h,fun h1 h2 h=>h1 (h2 h),fun h hb=>?_⟩;simp only[DD,Option.some.injEq] at h;subst h;simp only[EL.result,EL.form,Bool.or_eq_false_iff] at hb;exact hb.1
theorem kZ {c:EL}{t:Tm}{e:Int}(h:Lt c) (ho:okB t=true) (hv:(c.result t e).over=false):e=0∧Lt (c.result t e)∧(c.result t e).steps=c.steps+1∧(c.result t e).nodes=c.nodes+size t:=by
 have hs:=F9 ho;have h1:=h.s0;have h2:=h.s1;have h3:=h.n0;have h4:=h.n1;have h5:=h.lm;have hw:wr (c.steps+1)=c.steps+1:=Eb (by unfold I2;omega);have hz:Eo t=size t:=No Ao;have hw2:wr (c.nodes+size t)=c.nodes+size t:=Eb (by unfold I2;omega);have hw3:wr (2*1000)=2000:=Eb (by unfold I2;omega);have hv':=hv;simp only[EL.result,EL.form,hw,hz,hw2,h5,hw3,Bool.or_eq_false_iff,decide_eq_false_iff_not,bne_eq_false_iff_eq] at hv';have hst:(c.result t e).steps=c.steps+1:=by simp only[EL.result,EL.form,hw]
 have hnd:(c.result t e).nodes=c.nodes+size t:=by simp only[EL.result,EL.form,hz,hw2]
 exact⟨by omega,⟨hv,by simp only[EL.result,EL.form,h5],by omega,by omega,by omega,by omega⟩,hst,hnd⟩
theorem KL {α:Type}{c:EL}{x:Tm×Int}{k:Tm→EL→Out (α×EL)}{k':Tm→Int→Out (α×Int)}{q:α}{c':EL}(hL:Lt c) (hk:∀t c1 q c2,k t c1= .ok (q,c2)→c2.over=false→c1.over=false) (hq:DD.put c x k= .ok (q,c')) (hv:c'.over=false) :
  okB x.1=true∧Lt (c.result x.1 x.2)∧(c.result x.1 x.2).steps=c.steps+1∧(c.result x.1 x.2).nodes=c.nodes+size x.1∧k x.1 (c.result x.1 x.2)= .ok (q,c')∧∀l:Int,1000 - c.steps≤l→B5.put l x k'=k' x.1 (l - 1):=by
 obtain⟨h1,h2⟩:=K3 (h:=(by rw[hq];simp));rw[h2] at hq;obtain⟨h3,h4,h5,h6⟩:=kZ hL h1 (hk _ _ _ _ hq hv);refine⟨h1,h4,h5,h6,hq,fun l hl=>?_⟩;have:=h4.s1;unfold Sys.put;rw[if_pos h1];simp only[B5];rw[if_neg Ao]
section
variable {E:List CK}
structure bI (c c':EL) (z z':Nat):Prop where
 lt:Lt c'
 st:c.steps≤c'.steps
 nd:c.nodes≤c'.nodes
 sz:(z':Int)≤z+(c'.nodes - c.nodes)
def SW (n:Nat) (W:EL→Tm→Out (Tm×EL)) (V:Int→Tm→Out (Tm×Int)):Prop:=∀c t r c',Lt c→W c t= .ok (r,c')→c'.over=false→(size t:Int)≤30000+c.nodes →
 bI c c' (size t) (size r)∧∀l:Int,1000 - c.steps≤l→V l t= .ok (r,l - (c'.steps - c.steps))
variable {n:Nat}{W:EL→Tm→Out (Tm×EL)}{V:Int→Tm→Out (Tm×Int)}
theorem PL (hW:SW n W V) (hO:∀c t r c',W c t= .ok (r,c')→c'.over=false→c.over=false):∀(k:Nat) (t:FJ) (vs:List Tm) (la:Tm) (c c':EL) (q:Option (Tm×List Tm)×Tm),Lt c→Ds E DD W k t vs la c= .ok (q,c')→c'.over=false→(∀v∈vs,(size v:Int)≤30000+c.nodes)→(size la:Int)≤30000+c.nodes →
  bI c c' 0 0∧(q.1=none→(size q.2:Int)≤30000+c'.nodes)∧∀l:Int,1000 - c.steps≤l→Ds E B5 V k t vs la l= .ok (q,l - (c'.steps - c.steps))
 | 0,t,vs,la,c,c',q,hL,h,hv,hz,hla=>by rw[Ds] at h;cases h
 | k+1,t,vs,la,c,c',q,hL,h,hv,hz,hla=>by
  have self:bI c c 0 0:=⟨hL,Int.le_refl _,Int.le_refl _,by simp⟩;by_cases hk:t.kind=1
  ·by_cases hb:t.var<0∨t.var≥(vs.length:Int)
   ·have hb1:t.var<0∨t.var≥(vs.length:Int)∨DD.over c=true:=by rcases hb with h | h;exact .inl h;exact .inr (.inl h)
    rw[IL hk hb1] at h;cases h;refine⟨self,fun _=>hla,fun l hl=>?_⟩;rw[IL hk (by rcases hb with h | h;exact .inl h;exact .inr (.inl h)),Int.sub_self,Int.sub_zero]
   have hb1:¬(t.var<0∨t.var≥(vs.length:Int)∨DD.over c=true):=by
    have:DD.over c=false:=hL.ov;rw[this];simp;omega
   have hb2:∀l,¬(t.var<0∨t.var≥(vs.length:Int)∨B5.over l=true):=fun l=>by simp[B5];omega
   have hlt:t.var.toNat<vs.length:=by omega
   have hx:=List.getElem?_eq_getElem hlt;have hxm:=List.getElem_mem hlt;rw[Jf hk hb1 hx] at h;obtain⟨⟨r,c1⟩,h1,h2,h3⟩:=He h;have hv1:c1.over=false:=by
    cases hc:DE E r with
    | none=>rw[Fp hc] at h3;cases h3;exact hv
    | some p =>
     obtain⟨d,j,f⟩:=p;cases hbr:Cp (Ed d j).name t.branches with
     | none=>rw[HV hc hbr] at h3;cases h3;exact hv
     | some t' =>
      rw[Hc hc hbr] at h3;exact Lj JT (fun s t q e=>by obtain⟨r',c''⟩:=q;exact hO _ _ _ _ e) _ _ _ _ _ _ h3 hv
   obtain⟨p1,p2⟩:=hW _ _ _ _ hL h1 hv1 (hz _ hxm);have q1:=p1.st;have q2:=p1.nd;have q3:=p1.sz;have q4:=hz _ hxm;have hr:(size r:Int)≤30000+c1.nodes:=by omega
   have hone:bI c c1 0 0:=⟨p1.lt,p1.st,p1.nd,by simp;omega⟩;have hg:∀l:Int,1000 - c.steps≤l→Ds E B5 V (k+1) t vs la l=Ps E B5 V k t vs (r,l - (c1.steps - c.steps)):=fun l hl=>by
    rw[Jf hk (hb2 l) hx,p2 l hl];simp only[Out.chk,Out.bind];rw[if_pos h2]
   cases hc:DE E r with
   | none =>
    rw[Fp hc] at h3;cases h3;exact⟨hone,fun _=>hr,fun l hl=>by rw[hg l hl,Fp hc]⟩
   | some p =>
    obtain⟨d,j,f⟩:=p;cases hbr:Cp (Ed d j).name t.branches with
    | none =>
     rw[HV hc hbr] at h3;cases h3;exact⟨hone,fun _=>hr,fun l hl=>by rw[hg l hl,HV hc hbr]⟩
    | some t' =>
     rw[Hc hc hbr] at h3;obtain⟨hf,_⟩:=Jg hc h2;obtain⟨s1,s2,s3⟩:=PL hW hO k t' (vs++f) r c1 c' q p1.lt h3 hv (fun v hm=>by
      rcases List.mem_append.1 hm with hm | hm
      ·have:=hz v hm;omega
      have:=(hf v hm).2;omega) hr
     have e1:=s1.st;have e2:=s1.nd;refine⟨⟨s1.lt,by omega,by omega,by simp;omega⟩,s2,fun l hl=>?_⟩;rw[hg l hl,Hc hc hbr];have:=s3 (l - (c1.steps - c.steps)) Ao;simp only;rw[this];congr 2;omega
  rw[HM hk] at h;cases h;exact⟨self,(fun e=>by cases e),fun l hl=>by rw[HM hk,Int.sub_self,Int.sub_zero]⟩
structure Z4 (c c':EL) (z:Nat) (q:Option Tm):Prop where
 lt:Lt c'
 st:c.steps≤c'.steps
 nd:c.nodes≤c'.nodes
 sz:∀x,q=some x→(size x:Int)≤z+(c'.nodes - c.nodes)
theorem Zq {d:CK}{g m:Tm}{a:List Tm}{c c':EL}{q:Option Tm}(hL:Lt c) (h:E4 E DD d g a m c= .ok (q,c')) (hv:c'.over=false):Z4 c c' (Bb a+a.length) q∧∀l:Int,1000 - c.steps≤l→E4 E B5 d g a m l= .ok (q,l - (c'.steps - c.steps)):=by
 have self:Z4 c c (Bb a+a.length) none:=⟨hL,Int.le_refl _,Int.le_refl _,fun x e=>by cases e⟩;cases hc:DE E m with
 | none=>rw[Mf hc] at h;cases h;exact⟨self,fun l hl=>by rw[Mf hc,Int.sub_self,Int.sub_zero]⟩
 | some p =>
  obtain⟨e,j,f⟩:=p;by_cases hn:e.name≠d.name∨j≥(d.recs.rules.length:Int)
  ·rw[QK hc hn] at h;cases h;exact⟨self,fun l hl=>by rw[QK hc hn,Int.sub_self,Int.sub_zero]⟩
  have hlo:=(Fs hc).lo;have hlt:j.toNat<d.recs.rules.length:=by omega
  have hr:=List.getElem?_eq_getElem hlt;by_cases he:(Bp d.recs.rules[j.toNat] g.levels).2=0
  ·rw[Me hc hn hr he] at h;obtain⟨h1,h2,h3,h4,h5,h6⟩:=KL hL (fun t c1 q c2 e hv=>by cases e;exact hv) h hv (k':=fun t s'=> .ok (some (apply t (a.drop (CR d+1).toNat)),s'));simp only at h3 h4 h5;cases h5;have u:=DL (a.drop (CR d+1).toNat) (apply (apply (Bp d.recs.rules[j.toNat] g.levels).1 (a.take (d.fixed+1+d.ctors.length).toNat)) f);have u2:=Db a (CR d+1).toNat;have u3:(a.drop (CR d+1).toNat).length≤a.length:=by rw[List.length_drop];omega
   refine⟨⟨h2,by omega,by omega,fun x e=>?_⟩,fun l hl=>?_⟩
   ·cases e;have:((Bb a+a.length:Nat):Int)=Bb a+a.length:=by omega
    omega
   rw[Me hc hn hr he,h6 l hl];congr 2;omega
  rw[Lv hc hn hr he] at h;cases h;exact⟨self,fun l hl=>by rw[Lv hc hn hr he,Int.sub_self,Int.sub_zero]⟩
theorem YK {d:CK}{g:Tm}{a:List Tm}{c c':EL}{q:Option Tm}(hL:Lt c) (h:E1 DD d g a c= .ok (q,c')) (hv:c'.over=false):Z4 c c' (Bb a+a.length) q∧∀l:Int,1000 - c.steps≤l→E1 B5 d g a l= .ok (q,l - (c'.steps - c.steps)):=by
 by_cases he:(Bp d.value g.levels).2=0
 ·rw[KB he] at h;obtain⟨h1,h2,h3,h4,h5,h6⟩:=KL hL (fun t c1 q c2 e hv=>by cases e;exact hv) h hv (k':=fun t s'=> .ok (some (apply t a),s'));simp only at h3 h4 h5;cases h5;have u:=DL a (Bp d.value g.levels).1;refine⟨⟨h2,by omega,by omega,fun x e=>by cases e;omega⟩,fun l hl=>?_⟩;rw[KB he,h6 l hl];congr 2;omega
 rw[Kc he] at h;cases h;exact⟨⟨hL,Int.le_refl _,Int.le_refl _,fun x e=>by cases e⟩,fun l hl=>by rw[Kc he,Int.sub_self,Int.sub_zero]⟩
theorem Z2 {g b:Tm}{vs a:List Tm}{c c':EL}{q:Option Tm}(hL:Lt c) (h:HL DD g b vs a c= .ok (q,c')) (hv:c'.over=false):Z4 c c' (Bb a+a.length) q∧∀l:Int,1000 - c.steps≤l→HL B5 g b vs a l= .ok (q,l - (c'.steps - c.steps)):=by
 by_cases he:(Bp b g.levels).2=0
 ·have hg:∀{σ:Type} (S:Sys σ) (s:σ),HL S g b vs a s=if okB (Bp b g.levels).1=false∨vs.all okB=false∨1125899906842624≤Bb vs then .stuck else S.put s (CT (Bp b g.levels).1 vs.reverse 0) fun t s'=> .ok (some (apply t a),s'):=fun S s=>by rw[HL,if_neg Ao]
  rw[hg] at h;split at h
  ·cases h
  rename_i hn;obtain⟨h1,h2,h3,h4,h5,h6⟩:=KL hL (fun t c1 q c2 e hv=>by cases e;exact hv) h hv (k':=fun t s'=> .ok (some (apply t a),s'));cases h5;have u:=DL a (CT (Bp b g.levels).1 vs.reverse 0).1;refine⟨⟨h2,by omega,by omega,fun x e=>by cases e;omega⟩,fun l hl=>?_⟩;rw[hg,if_neg hn,h6 l hl];congr 2;omega
 rw[KO he] at h;cases h;exact⟨⟨hL,Int.le_refl _,Int.le_refl _,fun x e=>by cases e⟩,fun l hl=>by rw[KO he,Int.sub_self,Int.sub_zero]⟩
end
section
variable {E:List CK}{n:Nat}
theorem QZ {c:EL}{z:Nat}(hL:Lt c):Z4 c c z none:=⟨hL,Int.le_refl _,Int.le_refl _,fun x e=>by cases e⟩
theorem Xs (hE:Ja E) {W:EL→Tm→Out (Tm×EL)}{V:Int→Tm→Out (Tm×Int)}(hW:SW n W V) (hO:∀c t r c',W c t= .ok (r,c')→c'.over=false→c.over=false) {g:Tm}{a:List Tm}{c c':EL}{q:Option Tm}(hL:Lt c) (h:EY E DD W n g a c= .ok (q,c')) (hv:c'.over=false) (hz:(Bb a+a.length:Int)≤30000+c.nodes) (h1z:1≤30000+c.nodes) :
  Z4 c c' (Bb a+a.length) q∧∀l:Int,1000 - c.steps≤l→EY E B5 V n g a l= .ok (q,l - (c'.steps - c.steps)):=by
 cases hu:QG E g with
 | false=>rw[JF hu] at h;cases h;exact⟨QZ hL,fun l hl=>by rw[JF hu,Int.sub_self,Int.sub_zero]⟩
 | true =>
  obtain⟨i,d,e1,e2,hd,e4⟩:=Hh hu;have hg:=hE.all d hd;have hnr:=Gz hg;by_cases k1:(Bh E g.name).1.kind=1
  ·rw[I6 hu e4 k1] at h;obtain⟨s1,s2⟩:=YK hL h hv;exact⟨s1,fun l hl=>by rw[I6 hu e4 k1];exact s2 l hl⟩
  by_cases k5:(Bh E g.name).1.kind=5
  ·rw[IC hu e4 k5] at h;by_cases hl:(a.length:Int)≤CR d
   ·rw[ON hl] at h;cases h;exact⟨QZ hL,fun l hl2=>by rw[IC hu e4 k5,ON hl,Int.sub_self,Int.sub_zero]⟩
   have hlt:(CR d).toNat<a.length:=by omega
   have hy:=List.getElem?_eq_getElem hlt;have hys:=En (List.getElem_mem hlt);rw[Qs hl hy] at h;obtain⟨⟨r,c1⟩,h1,h2,h3⟩:=He h;have hv1:c1.over=false:=We JT h3 hv;obtain⟨p1,p2⟩:=hW _ _ _ _ hL h1 hv1 Ao;obtain⟨s1,s2⟩:=Zq p1.lt h3 hv;have a1:=p1.st;have a2:=p1.nd;have a3:=s1.st;have a4:=s1.nd;refine⟨⟨s1.lt,by omega,by omega,fun x e=>by have:=s1.sz x e;omega⟩,fun l hl2=>?_⟩;rw[IC hu e4 k5,Qs hl hy,p2 l hl2];simp only[Out.chk,Out.bind];rw[if_pos h2,s2 _ Ao];congr 2;omega
  by_cases k6:(Bh E g.name).1.kind=6
  ·obtain⟨k,f,h4,h5⟩:=e2.func k6;have hff:d.funs[(Bh E g.name).1.item.toNat]?=some f:=by rw[h5];simpa using h4
   rw[HK hu e4 k6 hff] at h;by_cases hl:(a.length:Int)<f.arity
   ·rw[J6 hl] at h;cases h;exact⟨QZ hL,fun l hl2=>by rw[HK hu e4 k6 hff,J6 hl,Int.sub_self,Int.sub_zero]⟩
   rw[KP hl] at h;obtain⟨⟨lq,c1⟩,h1,h2⟩:=IH h;have hts:=Db a f.arity.toNat;have hdl:(a.drop f.arity.toNat).length≤a.length:=by rw[List.length_drop];omega
   have hz0:size Bi=1:=rfl;have hv1:c1.over=false:=by
    cases ho:c1.over with
    | false=>rfl
    | true=>rw[JY (.inr ho)] at h2;cases h2;rw[ho] at hv;cases hv
   obtain⟨p1,p2,p3⟩:=PL hW hO n f.tree (a.take f.arity.toNat) Bi c c1 lq hL h1 hv1 (fun v hm=>by have:=En (List.mem_of_mem_take hm);omega) Ao;have a1:=p1.st;have a2:=p1.nd;cases hs:lq.1.isSome with
   | false =>
    rw[JY (.inl hs)] at h2;cases h2;refine⟨⟨p1.lt,a1,a2,fun x e=>by cases e⟩,fun l hl2=>?_⟩;rw[HK hu e4 k6 hff,KP hl,p3 l hl2];simp only[Out.bind];rw[JY (.inl hs)]
   | true =>
    rw[Kp hs hv1] at h2;obtain⟨s1,s2⟩:=Z2 p1.lt h2 hv;have a3:=s1.st;have a4:=s1.nd;refine⟨⟨s1.lt,by omega,by omega,fun x e=>by have:=s1.sz x e;omega⟩,fun l hl2=>?_⟩;rw[HK hu e4 k6 hff,KP hl,p3 l hl2];simp only[Out.bind];rw[Kp hs rfl,s2 _ Ao];congr 2;omega
  rw[IS hu k1 k5 k6] at h;cases h;exact⟨QZ hL,fun l hl=>by rw[IS hu k1 k5 k6,Int.sub_self,Int.sub_zero]⟩
theorem Fu {n:Nat}{c c':EL}{t r:Tm}(h:EF E DD n c t= .ok (r,c')) (hv:c'.over=false):c.over=false:=NH JT n c t _ h hv
theorem VC (hE:Ja E):∀n,SW n (EF E DD n) (EF E B5 n)
 | 0=>fun c t r c' hL h _ _=>by rw[EF] at h;cases h
 | n+1=>fun c t r c' hL h hv hz=>by
  have ih:=VC hE n;have ho:=Xl h Ap;have hov:DD.over c=false:=hL.ov;have hov2:∀l,B5.over l=false:=fun _=>rfl;have hmr:DD.many (A9 t).2.length=false:=rfl;have hss:=Fm t;have hsp:=size_pos (A9 t).1;have n0:=hL.n0;have n1:=hL.n1;have hmp:B5.many (A9 t).2.length=false:=by simp only[B5];exact decide_eq_false Ao
  obtain⟨oh,oa⟩:=Ga ho;have self:bI c c (size t) (size t):=⟨hL,Int.le_refl _,Int.le_refl _,by omega⟩
  -- what follows a contraction
  have cont:∀(x:Tm) (c1:EL) (k':Int→Out (Tm×Int)),Lt c1→c.steps+1≤c1.steps→c.nodes≤c1.nodes→(size x:Int)≤size t+(c1.nodes - c.nodes)→EF E DD n c1 x= .ok (r,c')→(∀l:Int,1000 - c.steps≤l→k' l=EF E B5 n (l - (c1.steps - c.steps)) x)→bI c c' (size t) (size r)∧∀l:Int,1000 - c.steps≤l→k' l= .ok (r,l - (c'.steps - c.steps)):=by
   intro x c1 k' g1 g2 g3 g4 g5 g6;obtain⟨p1,p2⟩:=ih _ _ _ _ g1 g5 hv Ao;have a1:=p1.st;have a2:=p1.nd;have a3:=p1.sz;refine⟨⟨p1.lt,by omega,by omega,by omega⟩,fun l hl=>?_⟩;rw[g6 l hl,p2 _ Ao];congr 2;omega
  by_cases k5:(A9 t).1.kind=5
  ·by_cases hl:(A9 t).2.length=0
   ·rw[Ol ho hov hmr k5 hl] at h;cases h;exact⟨self,fun l _=>by rw[Ol ho (hov2 l) hmp k5 hl,Int.sub_self,Int.sub_zero]⟩
   obtain⟨b,hb,_⟩:=Fo oh (i:=1) (by rw[k5];decide);rw[Q4 ho hov hmr k5 hl hb] at h;obtain⟨h1,h2,h3,h4,h5,h6⟩:=KL hL (fun t c1 q c2 e hv=>Fu e hv) h hv (k':=fun x s'=>EF E B5 n s' (apply x ((A9 t).2.drop 1)));have u:=DL ((A9 t).2.drop 1) (CT b ((A9 t).2.take 1) 0).1;have u2:=Db (A9 t).2 1;have u3:((A9 t).2.drop 1).length≤(A9 t).2.length:=by rw[List.length_drop];omega
   refine cont _ _ _ h2 Ao Ao Ao h5 fun l hl2=>?_;rw[Q4 ho (hov2 l) hmp k5 hl hb,h6 l hl2];congr 1;omega
  by_cases k11:(A9 t).1.kind=11
  ·obtain⟨v,hvk,_⟩:=Fo oh (i:=1) (by rw[k11];decide);obtain⟨b,hb,_⟩:=Fo oh (i:=2) (by rw[k11];decide);rw[R0 ho hov hmr k11 hvk hb] at h;obtain⟨h1,h2,h3,h4,h5,h6⟩:=KL hL (fun t c1 q c2 e hv=>Fu e hv) h hv (k':=fun x s'=>EF E B5 n s' (apply x (A9 t).2));have u:=DL (A9 t).2 (CT b [v] 0).1;refine cont _ _ _ h2 Ao Ao Ao h5 fun l hl2=>?_;rw[R0 ho (hov2 l) hmp k11 hvk hb,h6 l hl2];congr 1;omega
  by_cases k9:(A9 t).1.kind=9∨(A9 t).1.kind=10
  ·obtain⟨p,hpk,op,sp⟩:=Fo oh (i:=0) (by rcases k9 with h | h<;>rw[h]<;>decide);rw[OR ho hov hmr k9 hpk] at h;obtain⟨⟨r1,c1⟩,h1,h2,h3⟩:=He h;have hg:∀l:Int,1000 - c.steps≤l→c1.over=false→EF E B5 (n+1) l t=Px E B5 n (A9 t).1 (A9 t).2 (r1,l - (c1.steps - c.steps)):=fun l hl hv1=>by
    obtain⟨p1,p2⟩:=ih _ _ _ _ hL h1 hv1 Ao;rw[OR ho (hov2 l) hmp k9 hpk,p2 l hl];simp only[Out.chk,Out.bind];rw[if_pos h2]
   by_cases k8:r1.kind=8
   ·have har:arity 8=3:=rfl;obtain⟨y,hy,oy,sy⟩:=Fo h2 (i:=(1+(A9 t).1.kind - 9).toNat) (by show _<arity r1.kind;rw[k8,har];omega);rw[OC (r:=(r1,c1)) k8 hy] at h3;have hv1:c1.over=false:=by
     have:=Ki JT (s:=c1) (fun t c1 q e hv=>Fu e hv) h3;exact this hv
    obtain⟨p1,p2⟩:=ih _ _ _ _ hL h1 hv1 Ao;obtain⟨q1,q2,q3,q4,q5,q6⟩:=KL p1.lt (fun t c1 q c2 e hv=>Fu e hv) h3 hv (k':=fun x s'=>EF E B5 n s' (apply x (A9 t).2));have u:=DL (A9 t).2 y;have a1:=p1.st;have a2:=p1.nd;have a3:=p1.sz;simp only at q3 q4 q5 sy;refine cont (apply y (A9 t).2) (c1.result y 0) _ q2 Ao Ao Ao q5 fun l hl2=>?_;rw[hg l hl2 hv1,OC (r:=(r1,l - (c1.steps - c.steps))) k8 hy,q6 _ Ao];congr 1;simp only;omega
   rw[Lm (r:=(r1,c1)) k8] at h3;cases h3;obtain⟨p1,p2⟩:=ih _ _ _ _ hL h1 hv Ao;have a1:=p1.st;have a2:=p1.nd;have a3:=p1.sz;have u:=DL (A9 t).2 (Ip (A9 t).1.kind r1);have u2:size (Ip (A9 t).1.kind r1)=1+size r1:=by simp only[Ip,size,Bb];omega
   refine⟨⟨p1.lt,a1,a2,by simp only;omega⟩,fun l hl=>?_⟩;rw[hg l hl hv,Lm (r:=(r1,l - (c1.steps - c.steps))) k8]
  by_cases k3:(A9 t).1.kind=3
  ·rw[Ka ho hov hmr k3] at h;obtain⟨⟨q,c1⟩,h1,h2⟩:=IH h;have hv1:c1.over=false:=by
    cases hq:q.isSome with
    | false=>rw[Qx hq] at h2;cases h2;exact hv
    | true=>rw[RJ hq] at h2;exact Fu h2 hv
   obtain⟨s1,s2⟩:=Xs hE ih (fun c t r c' e hv=>Fu e hv) hL h1 hv1 Ao Ao;have a1:=s1.st;have a2:=s1.nd;cases hq:q.isSome with
   | false =>
    rw[Qx hq] at h2;cases h2;refine⟨⟨s1.lt,a1,a2,by omega⟩,fun l hl=>?_⟩;rw[Ka ho (hov2 l) hmp k3,s2 l hl];simp only[Out.bind];rw[Qx hq]
   | true =>
    rw[RJ hq] at h2;obtain⟨x,rfl⟩:=Option.isSome_iff_exists.1 hq;have a3:=s1.sz x rfl;simp only[Option.getD_some] at h2;obtain⟨p1,p2⟩:=ih _ _ _ _ s1.lt h2 hv Ao;have b1:=p1.st;have b2:=p1.nd;have b3:=p1.sz;refine⟨⟨p1.lt,by omega,by omega,by omega⟩,fun l hl=>?_⟩;rw[Ka ho (hov2 l) hmp k3,s2 l hl];simp only[Out.bind];rw[RJ rfl];simp only[Option.getD_some];rw[p2 _ Ao];congr 2;omega
  have k9a:(A9 t).1.kind≠9:=fun e=>k9 (.inl e);have k9b:(A9 t).1.kind≠10:=fun e=>k9 (.inr e);rw[V3 ho hov hmr k5 k11 k9a k9b k3] at h;cases h;exact⟨self,fun l _=>by rw[V3 ho (hov2 l) hmp k5 k11 k9a k9b k3,Int.sub_self,Int.sub_zero]⟩
end
section
variable {E:List CK}
def o9 {α:Type}(c:EL) (o:Int→Out (α×Int)) (q:α):Prop:=∀l:Int,1000 - c.steps≤l→∃l',o l= .ok (q,l')
end
section
variable {E:List CK}
theorem Yv {σ:Type}{S:Sys σ}{R:σ→σ→Prop}(h:Yd S R):∀(n:Nat) (s:σ) (t:Tm) (q:Option Int×σ),EI E S n s t= .ok q→R s q.2
 | 0,s,t,q,hq=>by rw[EI] at hq;cases hq
 | n+1,s,t,q,hq=>by
  have ih:=Yv h n;rw[EI] at hq;obtain⟨r,h1,h2,h3⟩:=He hq;have hr:=NH h n s t r h1;split at h3
  ·cases h3;exact hr
  split at h3
  ·split at h3
   ·cases h3
   exact h.tr hr (ih _ _ _ h3)
  split at h3
  ·split at h3
   ·cases h3;exact hr
   split at h3
   ·cases h3;exact hr
   split at h3
   ·exact h.tr hr (ih _ _ _ h3)
   split at h3
   ·obtain⟨lq,g1,g2⟩:=IH h3;have hl:=Lj h (fun s t q e=>NH h n s t q e) _ _ _ _ _ _ g1;split at g2
    ·cases g2;exact h.tr hr hl
    split at g2
    ·exact h.tr hr (h.tr hl (ih _ _ _ g2))
    cases g2;exact h.tr hr hl
   cases h3;exact hr
  cases h3;exact hr
theorem WZ (hE:Ja E):∀(n:Nat) (c c':EL) (t:Tm) (q:Option Int),Lt c→EI E DD n c t= .ok (q,c')→c'.over=false→(size t:Int)≤30000+c.nodes→o9 c (fun l=>EI E B5 n l t) q
 | 0,c,c',t,q,hL,h,hv,hz=>by rw[EI] at h;cases h
 | n+1,c,c',t,q,hL,h,hv,hz=>by
  have ih:=WZ hE n;intro l hl;simp only;rw[EI] at h ⊢;obtain⟨⟨r,c1⟩,h1,h2,h3⟩:=He h;simp only at h3 h2;have back:∀p,EI E DD n c1 p= .ok (q,c')→c1.over=false:=fun p e=>Yv JT n c1 p _ e hv;have hv1:c1.over=false:=by
   split at h3
   ·cases h3;exact hv
   split at h3
   ·split at h3
    ·cases h3
    exact back _ h3
   split at h3
   ·split at h3
    ·cases h3;exact hv
    split at h3
    ·cases h3;exact hv
    rename_i ho;simpa [DD] using ho
   cases h3;exact hv
  obtain⟨p1,p2⟩:=VC hE n _ _ _ _ hL h1 hv1 hz;have a1:=p1.st;have a2:=p1.nd;have a3:=p1.sz;have hss:=Fm r;have hsp:=size_pos (A9 r).1;obtain⟨oh,oa⟩:=Ga h2;rw[p2 l hl];simp only[Out.chk,Out.bind];rw[if_pos h2];split at h3
  ·rename_i k12;rw[if_pos k12];cases h3;exact⟨_,rfl⟩
  rename_i k12;rw[if_neg k12];split at h3
  ·rename_i k9;rw[if_pos k9];split at h3
   ·cases h3
   rename_i p hp;obtain⟨p',hp',_,hps⟩:=Fo oh (i:=0) (by rcases k9 with h | h<;>rw[h]<;>decide);rw[hp] at hp';cases hp';exact ih _ _ _ _ p1.lt h3 hv Ao _ Ao
  rename_i k9;rw[if_neg k9];split at h3
  ·rename_i k3;rw[if_pos k3];cases hu:QG E (A9 r).1 with
   | false=>rw[Cm,hu] at h3 ⊢;cases h3;exact⟨_,rfl⟩
   | true =>
    obtain⟨i,d,e1,e2,hd,e4⟩:=Hh hu;have hnr:=Gz (hE.all d hd);have hda:Cb E (Bh E (A9 r).1.name).1.decl=d:=CJ e4;rw[Cm,hu,if_pos rfl] at h3 ⊢;simp only[hda] at h3 ⊢;have ho1:DD.over c1=false:=hv1;rw[if_neg (by rw[ho1];simp)] at h3;rw[if_neg (by simp[B5])];split at h3
    ·rename_i kr;rw[if_pos kr];have hlt:(CR d).toNat<(A9 r).2.length:=by have:=kr.2;omega
     have hys:=En (List.getElem_mem hlt);rw[CJ (List.getElem?_eq_getElem hlt)] at h3 ⊢;exact ih _ _ _ _ p1.lt h3 hv Ao _ Ao
    rename_i kr;rw[if_neg kr];split at h3
    ·rename_i kf;rw[if_pos kf];obtain⟨⟨lq,c2⟩,g1,g2⟩:=IH h3;have hv2:c2.over=false:=by
      simp only at g2;split at g2
      ·cases g2;exact hv
      split at g2
      ·rename_i hq;simpa [DD] using hq.1
      cases g2;exact hv
     have hz0:size Bi=1:=rfl;have n0:=p1.lt.n0;obtain⟨s1,s2,s3⟩:=PL (VC hE n) (fun c t r c' e hv=>Fu e hv) n _ _ Bi c1 c2 lq p1.lt g1 hv2 (fun v hm=>by have:=En (List.mem_of_mem_take hm);omega) Ao;have b1:=s1.st;have b2:=s1.nd;rw[s3 _ Ao];simp only at g2 ⊢;split at g2
     ·cases g2;exact⟨_,rfl⟩
     rename_i hx;split at g2
     ·rename_i hq;rw[if_pos ⟨rfl,hq.2⟩];exact ih _ _ _ _ s1.lt g2 hv (s2 hx) _ Ao
     rename_i hq;have ho2:DD.over c2=false:=hv2;rw[if_neg (fun e=>hq ⟨ho2,e.2⟩)];cases g2;exact⟨_,O⟩
    rename_i kf;rw[if_neg kf];cases h3;exact⟨_,O⟩
  rename_i k3;rw[if_neg k3];cases h3;exact⟨_,rfl⟩
end
end Go.Eu
