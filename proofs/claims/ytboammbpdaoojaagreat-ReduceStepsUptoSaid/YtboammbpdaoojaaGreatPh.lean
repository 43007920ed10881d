/- Part of the proofs: an abstract program logic, plain models and contracts of functions. -/
import Derived.Test.YtboammbpdaoojaaGreatPg
import Derived.Test.YtboammbpdaoojaaGreatPd
import Derived.Test.YtboammbpdaoojaaGreatPe
import Derived.Test.YtboammbpdaoojaaGreatPb
set_option linter.unusedVariables false
set_option linter.unusedSimpArgs false
set_option maxRecDepth 100000
namespace Go.Proofs.YtboammbpdaoojaaGreat
open Go.Abs Go.Eu
theorem TI:∀(t:FY) (nm:ByteArray),(t.branches.length<2000000)→Ep Tryz.prog 97 [.agg ((C5 t).map .p),.p (.str nm)] (.tup [.agg ((C5 ((cK nm t.branches).1)).map .p),.p (.bool ((cK nm t.branches).2))]):=by
 intro t nm h1;refine BF Tryz.func97 O sT (n:=28) O O (A6 (BO O (Ba O) fun b2=>BO O (Ba O) fun b3=>BO O (BG Sk O) fun b4=>A1 A7 1 [] O (A6 (A0 O (A8 FK O O) (A0 O (BB (i:=2) Kd O O (CV _)) (A0 O (E1 O O) (A0 O (CF [1] O (.inl ⟨O,O,O⟩) (ll b3 nm t.branches h1) ⟨_,_,O,O,O⟩ Aw O (.inl O)) (A1 A7 1 [] O (A2 (A6 (A5 A7 3 [] O (BY 13 O (fun g=>?_) (fun g=>?_)))))))))))))
 ·(try simp only[sd,se] at g);have hbn:=ez (by simpa using g);refine A1 A7 7 [] O ?_;refine A4 O (fun c=>?_) (fun c=>by cases c);refine A3 A7 3 [0,0] O (BQ (Bd (i:=0) O) (A9 (⟨O,_,_,⟨_,_,O,(BI (i:=0) JJ O O O),⟨_,_,O,O,O⟩⟩,(List.nil_sublist _),?_⟩)))
  all_goals exact⟨by show (.tup [.agg [.p (I 0),.p (I 0),.p (I 0),.p (.str ⟨#[]⟩),.p (.lst []),.p (.lst []),.p (I 0),.p (.lst [])],.p (.bool false)]:AV)=_;rw[fI hbn];rfl,rfl⟩
 (try simp only[sd,se] at g);obtain⟨bx,hbx,hbr⟩:=lY (nm:=nm) (l:=t.branches) (by simpa using g);refine BK O (A8 FK O O) (BK O (BB (i:=2) Kd O O (CV _)) (BK O (Bi O) (BK O (BD Jm O O Ax (Fm hbx) (Dc _)) (BK O (B7 Ig O O) (BK O (DA nR O (GW _)) (A1 A7 1 [] O (A4 O (fun c=>?_) (fun c=>?_))))))))
 ·(try simp only[sd,se] at c);refine A3 A7 3 [0,0] O (BQ (Bd (i:=0) O) (A9 (⟨O,_,_,⟨_,_,O,(BI (i:=0) JJ O O O),⟨_,_,O,O,O⟩⟩,(List.nil_sublist _),?_⟩)))
  all_goals exact⟨by show (.tup [.agg [.p (I 0),.p (I 0),.p (I 0),.p (.str ⟨#[]⟩),.p (.lst []),.p (.lst []),.p (I 0),.p (.lst [])],.p (.bool false)]:AV)=_;rw[fI (by rw[hbr,if_pos (by simpa using c)])];rfl,rfl⟩
 (try simp only[sd,se] at c);refine BA (A6 (A0 O (A8 FK O O) (A0 O (BB (i:=2) Kd O O (CV _)) (B3 O (A0 O (BD Jm O O Ax (Fm hbx) (Dc _)) (A0 O (B7 Ig O O) (A0 O (DU JJ O (F5 _) (Cy _)) (A1 A7 2 [0,1] O (A9 (⟨O,_,_,⟨_,_,O,(BI (i:=0) JJ O O (by simp[Cy])),⟨_,_,O,O,O⟩⟩,(List.nil_sublist _),?_⟩))))))))))
 all_goals exact⟨by show (.tup [.agg ((C5 bx.tree).map .p),.p (.bool true)]:AV)=_;rw[gf (by rw[hbr,if_neg (by simpa using c)])],rfl⟩
theorem Tz:∀(t:FY) (nm:ByteArray),(t.branches.length<2000000)→Ep Tryz.prog 87 [.agg ((C5 t).map .p),.p (.str nm)] (.tup [.agg ((C5 ((XR nm t.branches).1)).map .p),.p (.bool ((XR nm t.branches).2))]):=by
 intro t nm h1;refine BF Tryz.func87 O rB (n:=36) O O (A6 (BO O (Ba O) fun b2=>BO O (BG Sk O) fun b4=>A1 A7 1 [] O (A2 (A3 A7 1 [] O (BJ (Bn (α:=Nat) (fun i=>⟨36,mk [(1,.p (.str nm)),(2,.ptr b2 0),(4,.ptr b4 0),(6,.p (I (i:Int)))],[.box b4 [.p (I 0),.p (I 0),.p (I 0),.p (.str ⟨#[]⟩),.p (.nils),.p (.nils),.p (I 0),.p (.nils)],.box b2 ((C5 t).map .p)],[]⟩) (fun i=>t.branches.length - i) (fun i=>i≤t.branches.length∧(XR nm (t.branches.drop i)=XR nm t.branches)) 0 (⟨by omega,rfl⟩) ?_ ?_))))))
 ·exact Bh ⟨we O,we O,we O,we O,Az⟩ (leH (is:=[0,1]) O (wl (oe O) (wl (oe O) (DJ))))
 rintro i hC
 try simp only at hC
 obtain⟨hi,hC⟩:=hC;refine A2 (A6 (A5 A7 2 [] O (A0 O (BB (i:=1) Kd O O (CV _)) (A0 O (BT Jm O (GI _)) (A1 A7 1 [] O (A4 O (fun c=>?_) (fun c=>?_)))))))
 ·(try simp only[sd,se] at c);refine BA (A2 (BJ (A6 (A0 O (A8 FK O O) (A0 O (BB (i:=1) Kd O O (CV _)) (B3 O ?_))))));obtain⟨x,hx⟩:=BE (l:=t.branches) (i:=i) Ax;refine A0 O (BD Jm O O Ax (Fm hx) (Dc _)) (A0 O (B7 Ig O O) (A0 O (DA Lg O (Gl _)) (B3 O (A0 O (GJ O O) (Bq O (A4 O (fun c1=>?_) (fun c1=>?_)))))))
  ·(try simp only[sd,se] at c1);refine A2 (B0 (fun k=>false) Dt (BP O (fun _=>A8 FK O O) Az (CY (j:=1) O O O (fun H i hi=>BB (i:=i) Kd O hi (CV _)) AB Az (BP O (fun _=>Bi O) Az (BP O (fun _=>BD Jm O O Ax (Fm hx) (Dc _)) Az (BP O (fun _=>B7 Ig O O) Az (BP O (fun _=>DU JJ O (F5 _) (Cy _)) Az (BP O (fun _=>A8 FK O O) Az (CY (j:=1) O O O (fun H i hi=>BB (i:=i) Kd O hi (CV _)) AB Az (BP O (fun _=>Bi O) Az (BP O (fun _=>BD Jm O O Ax (Fm hx) (Dc _)) Az (BP O (fun _=>B7 Ig O O) Az (BP O (fun _=>DA nR O (GW _)) Az (Bt A7 3 [0,1] O (A9 ?_)))))))))))))));refine⟨O,_,_,⟨_,_,O,(BI (i:=0) JJ O O (by simp[Cy])),⟨_,_,O,O,O⟩⟩,(List.nil_sublist _),?_⟩
   all_goals exact⟨by show (.tup [.agg ((C5 x.tree).map .p),.p (.bool (!x.absurd))]:AV)=_;rw[←hC,gG hx,if_pos (G7 (by simpa using c1))],rfl⟩
  (try simp only[sd,se] at c1);refine BA (BC (A1 A7 3 [] O ?_));refine⟨(i+1),Ac,⟨by omega,by rw[←hC,gG hx,if_neg (fun e=>by simp[e] at c1)]⟩,Bh ⟨we rfl,we rfl,we rfl,we rfl,trivial⟩ (leH (is:=[0,1]) rfl (wl (oe rfl) (wl (oe rfl) (DJ))))⟩
 (try simp only[sd,se] at c);refine Bo (A3 A7 3 [0,0] O (BQ (Bd (i:=0) O) (A9 (⟨O,_,_,⟨_,_,O,(BI (i:=0) JJ O O O),⟨_,_,O,O,O⟩⟩,(List.nil_sublist _),?_⟩))))
 all_goals exact⟨by show (.tup [.agg [.p (I 0),.p (I 0),.p (I 0),.p (.str ⟨#[]⟩),.p (.lst []),.p (.lst []),.p (I 0),.p (.lst [])],.p (.bool false)]:AV)=_;rw[←hC,List.drop_eq_nil_of_le Ax];rfl,rfl⟩
theorem Fb:∀(b:Nat) (c:EK) (t:Tm) (e:Int),(Nd t)→B2 Tryz.prog 40 [.ptr b 0,.agg ((Bb t).map .p),.p (I e)] [.box b ((He c).map .p)] (Gj (.agg ((Bb t).map .p)) [.box b ((He (c.result t e)).map .p)]):=by
 intro b c t e h1;refine BF Tryz.func40 O r6 (n:=28) O O (A6 (BO O (Ba O) fun b4=>BO O (BG B4 O) fun b6=>Bq O (A6 (A5 A7 4 [2] O (A0 O (ES O O) (A1 A7 3 [2,0] O (A2 (B0 (fun k=>false) Dt (BZ A7 5 [2,1] O (BP O (fun _=>BL O O (Mo _ t (Nat.le_refl _) h1) O) Az (BP O (fun _=>ES O O) Az (Bt A7 3 [2,0] O (A6 (A5 A7 3 [1] O (A0 O (CF [2] O (.inl ⟨O,O,O⟩) (gy b (EK.mk (wr ((c.steps:Int)+(1:Int))) (wr ((c.nodes:Int)+(E6 t:Int))) c.forms c.limit c.over) t e h1) ⟨_,_,O,O,O⟩ Aw O (.inl O)) (Bq O (A3 A7 2 [1,0,1] O (A9 (⟨O,_,_,⟨_,_,O,(BI (i:=0) Bg O O Ap),O⟩,(CC (is:=[2]) O),?_⟩)))))))))))))))))))
 all_goals exact⟨rfl,rfl⟩
def qv (ds:List CX) (n:Nat):Prop:=∀(b:Nat) (t:Tm) (c c2:EK) (r:Tm),FF ds Dh n c t= .ok (r,c2)→B2 Tryz.prog 14 [.p (.lst (List.map Bu ds)),.agg ((Bb t).map .p),.ptr b 0] [.box b ((He c).map .p)] (Gj (.agg ((Bb r).map .p)) [.box b ((He c2).map .p)])
theorem _root_.Go.AT {α:Prop}(h:α:=by first | omega | (simp_all;done) | (simp_all;omega)):α:=h
theorem _root_.Go.AI {α:Prop}(h:α:=by first | (simp only[List.length_map,Bc];omega) | (simp_all;done) | (simp_all;omega)):α:=h
theorem _root_.Go.AY {α:Prop}(h:α:=by simp only[Bc,List.length_nil];omega):α:=h
theorem cg:∀(n k:Nat) (ds:List CX) (t:FY) (vs:List Tm) (b:Nat) (c c2:EK) (q:Option (Tm×List Tm)×Tm),(qv ds n)→(KB ds)→(SD t vs)→(E4 ds Dh (FF ds Dh n) k t vs Bp c= .ok (q,c2))→B2 Tryz.prog 54 [.p (.lst (List.map Bu ds)),.agg ((C5 t).map .p),.p (.lst (BN vs)),.ptr b 0] [.box b ((He c).map .p)] (Gj (.tup [.agg ((Bb (KR q)).map .p),.p (.lst (BN (Nq q))),.p (.bool q.1.isSome),.agg ((Bb q.2).map .p)]) [.box b ((He c2).map .p)]):=by
 intro n k ds t vs b c c2 q hW h2 h3 h4;have h3l:=h3.len;refine BF Tryz.func54 O rQ (n:=87) O O (A6 (BO O (Ba O) fun b5=>BO O (BG B4 O) fun b8=>A5 A7 2 [] O (BO O (BG B4 O) fun b11=>Bq O (A6 (L8 O (Bx (DS (t:=12) (sz:=5) O) (Bq O (A6 (A5 A7 2 [] O (EN O O (CE (i:=0) (rows':=BN vs) Bk Bk B4 O O O O O O (B1 _) AY (Hk [] vs)) fun o cp=>A1 A7 1 [] O (A6 (A0 O (Ca HA B4 O) (BO O (BG B4 O) fun b13=>A1 A7 1 [0,0] O (A2 (BJ ?_)))))))))))))));refine Bn (α:=Nat×FY×List Tm×Tm×EK×Option Nat×Nat) (fun(m,w,us,l,d,o1,cp1)=>⟨87,mk [(0,.p (.lst (List.map Bu ds))),(3,.ptr b 0),(5,.ptr b5 0),(8,.ptr b8 0),(11,.ptr b11 0),(12,.vs o1 (BN us).length cp1),(13,.ptr b13 0)],[.box b13 ((Bb l).map .p),.vec o1 5 (BN us) cp1,.box b11 [.p (I 0),.p (I 0),.p (.str ⟨#[]⟩),.p (.nils),.p (.nils)],.box b8 [.p (I 0),.p (I 0),.p (.str ⟨#[]⟩),.p (.nils),.p (.nils)],.box b5 ((C5 w).map .p),.box b ((He d).map .p)],[]⟩) (fun(m,w,us,l,d,o1,cp1)=>m) (fun(m,w,us,l,d,o1,cp1)=>E4 ds Dh (FF ds Dh n) m w us l d= .ok (q,c2)∧SD w us) ⟨k,t,vs,Bp,c,o,cp⟩ (⟨h4,h3⟩) ?_ ?_
 ·exact Bh ⟨we O,we O,we O,we O,we O,we O,we O,Az⟩ (leH (is:=[0,1,2,3,4,5]) O (wl (on (O)) (wl (oe O) (wl (oe O) (wl (oe O) (wl (oe O) (wl (oe O) (DJ))))))))
 rintro⟨m,w,us,l,d,o1,cp1⟩ hC
 try simp only at hC
 obtain⟨hC,hL⟩:=hC;obtain⟨k1,rfl⟩:=Sy hC Ay;refine A2 (A6 (A0 O (A8 FK O O) (A0 O (BB (i:=4) DO O O (F6 _)) (A1 A7 1 [] O (A4 O (fun c1=>?_) (fun c1=>?_))))))
 ·(try simp only[sd,se] at c1);have hk1:=c1;refine BA (BJ (A2 (A2 (Be [0,3,5,8,11,12,13] 41 (fun y=>y= .p (.bool (((decide ((w.var:Int)<(0:Int)))||(decide ((w.var:Int)≥((us.length:Nat):Int))))||d.over))) ?_ ?_))))
  ·refine BC (A0 O (A8 FK O O) (A0 O (BB (i:=4) DO O O (C0 _)) (A5 A7 2 [] O (BY 29 O (fun g=>?_) (fun g=>?_)))))
   ·(try simp only[sd,se] at g);exact A1 A7 12 [] O (⟨O,O,AP,AJ,⟨O,O,O,O,O,O,O,Az⟩⟩)
   (try simp only[sd,se] at g);refine BK O (A8 FK O O) (BK O (BB (i:=4) DO O O (C0 _)) (BK O (Bi O) (BK O (Jf Bk O (Bc _)) (A5 A7 3 [] O (BY 36 O (fun g1=>?_) (fun g1=>?_))))))
   ·(try simp only[sd,se] at g1);exact A1 A7 5 [] O (⟨O,O,AP,AJ,⟨O,O,O,O,O,O,O,Az⟩⟩)
   (try simp only[sd,se] at g1);exact A1 A7 5 [5] O (⟨O,O,AP,AJ,⟨O,O,O,O,O,O,O,Az⟩⟩)
  rintro _ rfl;refine A4 O (fun c3=>?_) (fun c3=>?_)
  ·(try simp only[sd,se] at c3);have hb:=(Of hk1 (by simpa [or_assoc,Dh] using c3)).symm.trans hC;cases hb;refine A2 (B0 (fun k=>false) Dt (Bt A7 6 [0,3,0,2,1] O (BQ (Bd (i:=3) O) (BQ (EJ 9) (A9 (⟨O,_,_,⟨_,_,O,(BI (i:=3) Bg O O O),⟨_,_,O,O,⟨_,_,O,O,⟨_,_,O,(BI (i:=2) Bg O O Ap),O⟩⟩⟩⟩,(CC (is:=[5]) O),?_⟩))))))
   all_goals exact⟨rfl,rfl⟩
  (try simp only[sd,se] at c3);have hcb:=c3;refine BA (A6 (A5 A7 3 [] O (A0 O (BB (i:=4) DO O O (C0 _)) (Ju (i:=1) O Ah fun b1 hb=>?_))));subst hb;refine A0 O (Cg Bk O O Ax AI) ?_;obtain⟨y,hy⟩:=BE (l:=us) (i:=(w.var:Int).toNat) AT;refine A0 O (Da (i:=1) Bg O O (Bj hy)) (B3 O ?_);obtain⟨⟨r,d2⟩,hr1,hr2,hr3⟩:=Nn ((Qb hk1 (by simpa [or_assoc,and_assoc,Dh] using hcb) hy).symm.trans hC);refine A0 O (CF [5] O (.inl ⟨O,O,O⟩) (hW b y (EK.mk d.steps d.nodes d.forms d.limit d.over) d2 r hr1) ⟨_,_,O,O,O⟩ Aw O (.inl O)) (A1 A7 1 [0,1] O (A6 (A5 A7 2 [0] O (A0 O (BL O O (OX ds r h2 hr2) O) (A5 A7 5 [] O (BO O (BG Iz O) fun b14=>A1 A7 4 [0,1] O (A2 (A3 A7 2 [] O (A4 O (fun c4=>?_) (fun c4=>?_))))))))))
  ·(try simp only[sd,se] at c4);have hcn:=Kt c4;rw[Kj hcn] at hr3;cases hr3;refine A2 (B0 (fun k=>false) Dt (Bt A7 6 [1,4,0,3,1] O (BQ (Bd (i:=4) O) (BQ (EJ 9) (A9 (⟨O,_,_,⟨_,_,O,(BI (i:=4) Bg O O O),⟨_,_,O,O,⟨_,_,O,O,⟨_,_,O,(BI (i:=3) Bg O O Ap),O⟩⟩⟩⟩,(CC (is:=[6]) O),?_⟩))))))
   all_goals exact⟨rfl,rfl⟩
  (try simp only[sd,se] at c4);have hcs:=Jv c4;have hcf:=Ek hcs;have hlo:=hcf.lo;have hhi:=hcf.hi;have hfl:=Ir h2 hcs;refine BA (A2 (B0 (fun k=>Nat.beq k 11) Dt (BZ A7 2 [5] O (CY (j:=0) O O O (fun H i hi=>BB (i:=i) HY O hi (CH _)) AB Az (BP O (fun _=>Bi O) Az ?_)))));obtain⟨x,hx⟩:=BE (l:=((CA ds r).1).ctors) (i:=((CA ds r).2.1:Int).toNat) Ax;refine BP O (fun _=>BD HN O O Ax (EU hx) (D8 _)) Az (BP O (fun _=>B7 Iq O O) Az (BP O (fun _=>DA Lg O (FQ _)) Az (BP O (fun _=>BL O O (Tz w x.name hL.tin.bl) O) Az (BZ A7 3 [] O (GA [] O O (BG Sk O) As fun b18=>⟨AB,Az,?_⟩)))));refine Bt A7 2 [0,1] O (A2 (A3 A7 2 [] O (A4 O (fun c5=>?_) (fun c5=>?_))))
  ·(try simp only[sd,se] at c5);have hbn:=WO c5;rw[Nv hcs (by rw[El,CI hx];exact hbn)] at hr3;cases hr3;refine A2 (B0 (fun k=>false) Dt (Bt A7 6 [2,5,0,4,1] O (BQ (Bd (i:=5) O) (BQ (EJ 9) (A9 (⟨O,_,_,⟨_,_,O,(BI (i:=5) Bg O O O),⟨_,_,O,O,⟨_,_,O,O,⟨_,_,O,(BI (i:=4) Bg O O Ap),O⟩⟩⟩⟩,(CC (is:=[7]) O),?_⟩))))))
   all_goals exact⟨rfl,rfl⟩
  (try simp only[sd,se] at c5);have hbs:=Wl c5;rw[OP hcs (by rw[El,CI hx];exact hbs)] at hr3;refine BA (A3 A7 2 [0,6,1] O (BC (A5 A7 2 [] O (EN O O (CE (i:=3) (rows':=BN ((CA ds r).2.2.1)) Bk Bk B4 O O O O O O (B1 _) (by have:=hL.len;simp only[Bc,List.length_append];omega) (Hk us ((CA ds r).2.2.1))) fun o2 cp2=>A1 A7 1 [] O (⟨⟨k1,(XR x.name w.branches).1,us++(CA ds r).2.2.1,r,d2,o2,cp2⟩,Ac,⟨hr3,hL.next h2 hr2 hcs hbs⟩,Bh ⟨we O,we O,we O,we O,we O,we O,we O,Az⟩ (leH (is:=[2,3,4,5,6,7]) O (wl (oe O) (wl (oe O) (wl (oe O) (wl (oe O) (wl (oe O) (wl (oe O) (DJ))))))))⟩)))))
 (try simp only[sd,se] at c1);have hk1:=c1;rw[Mi hk1] at hC;cases hC;refine Bo (A6 (A0 O (A8 FK O O) (A0 O (B6 (i:=4) Bg O O (Ew _) (BM _)) (A1 A7 6 [3,1,2,0] O (BQ (Cf (i:=1) [12,85,9] O (Ds ⟨O,O,O,Az⟩)) (BQ (Bd (i:=1) O) (A9 (⟨O,_,_,⟨_,_,O,(BI (i:=2) Bg O O Ap),⟨_,_,O,O,⟨_,_,O,O,⟨_,_,O,(BI (i:=1) Bg O O O),O⟩⟩⟩⟩,(CC (is:=[4]) O),?_⟩))))))))
 all_goals exact⟨rfl,rfl⟩
end Go.Proofs.YtboammbpdaoojaaGreat
namespace Go.Eu
open Go.Abs
section
variable {E:List CX}{σ:Type}{S:Sys σ}{W:σ→Tm→Out (Tm×σ)}{n:Nat}{h m:Tm}{a:List Tm}{s:σ}{d:CX}{x:Gg}
theorem Z8 {a b:ByteArray}(h:¬a.toList=b.toList):a≠b:=fun e=>h (by rw[e])
theorem V6 (hc:((CA E m).2.2.2=false∨¬(CA E m).1.name.toList=d.name.toList)∨(d.recs.rules.length:Int)≤(CA E m).2.1):FG E S d h a m s= .ok (none,s):=by
 cases hk:(CA E m).2.2.2 with
 | false=>exact Mk (Kt hk)
 | true =>
  refine Qh (Jv hk) ?_;rcases hc with (hc | hc) | hc
  ·rw[hk] at hc;cases hc
  ·exact .inl (Z8 hc)
  exact .inr hc
theorem Td (hc:((CA E m).2.2.2=true∧(CA E m).1.name.toList=d.name.toList)∧(CA E m).2.1<(d.recs.rules.length:Int)):DQ E m=some ((CA E m).1,(CA E m).2.1,(CA E m).2.2.1)∧¬((CA E m).1.name≠d.name∨(CA E m).2.1≥(d.recs.rules.length:Int))∧0≤(CA E m).2.1:=by
 have h1:=Jv hc.1.1;refine⟨h1,fun h=>?_,(Ek h1).lo⟩;rcases h with h | h
 ·exact h (G7 hc.1.2)
 omega
end
theorem Ia {d:CX}(h:DG d):0≤d.fixed∧d.fixed+1+d.ctors.length≤CQ d∧CQ d≤4000001:=by
 have h1:=F4 h.din h.fx;have h2:=h.fx;have h3:=h.din.cl;unfold CQ;omega
section
variable {E:List CX}{σ:Type}{S:Sys σ}{W:σ→Tm→Out (Tm×σ)}{n:Nat}{h m:Tm}{a:List Tm}{s:σ}{d:CX}{x:Gg}
theorem R2 {f:Hi}{q:Option (Tm×List Tm)×Tm}(hq:q.1.isSome=false∨S.over s=true):RJ S f h a (q,s)= .ok (none,s):=by
 unfold RJ;obtain⟨q1,q2⟩:=q;cases q1 with
 | none=>rfl
 | some bv =>
  obtain⟨b,v⟩:=bv;rcases hq with hq | hq
  ·cases hq
  simp only[hq,if_true]
theorem SL {f:Hi}{q:Option (Tm×List Tm)×Tm}(hq:q.1.isSome=true) (ho:S.over s=false):RJ S f h a (q,s)=Gr S h (KR q) (Nq q) (a.drop f.arity.toNat) s:=by
 unfold RJ;obtain⟨q1,q2⟩:=q;cases q1 with
 | none=>cases hq
 | some bv=>obtain⟨b,v⟩:=bv;simp only[ho,Bool.false_eq_true,if_false];rfl
theorem SM (hE:KB E):∀(k:Nat) (t:FY) (vs:List Tm) (l:Tm) (s s':σ) (q:Option (Tm×List Tm)×Tm),SD t vs→E4 E S W k t vs l s= .ok (q,s')→okB (KR q)=true∧(∀v∈Nq q,okB v=true)∧(Nq q).length≤100000000
 | 0,t,vs,l,s,s',q,hl,h=>by rw[E4] at h;cases h
 | k+1,t,vs,l,s,s',q,hl,h=>by
  have hnone:∀l',okB (KR (none,l'))=true∧(∀v∈Nq (none,l'),okB v=true)∧(Nq (none,l')).length≤100000000:=fun l'=>⟨MF,fun v hv=>by simp[Nq] at hv,Nat.zero_le _⟩;by_cases hk:t.kind=1
  ·by_cases hb:t.var<0∨t.var≥(vs.length:Int)∨S.over s=true
   ·rw[Of hk hb] at h;cases h;exact hnone _
   have hlt:t.var.toNat<vs.length:=by omega
   rw[Qb hk hb (List.getElem?_eq_getElem hlt)] at h;obtain⟨⟨r,s1⟩,h1,h2,h3⟩:=Nn h;cases hc:DQ E r with
   | none=>rw[Kj hc] at h3;cases h3;exact hnone _
   | some p =>
    obtain⟨d,j,f⟩:=p;cases hbr:C3 (El d j).name t.branches with
    | none=>rw[Nv hc hbr] at h3;cases h3;exact hnone _
    | some t'=>rw[OP hc hbr] at h3;exact SM hE k t' _ _ _ _ _ (hl.next hE h2 hc hbr) h3
  rw[Mi hk] at h;cases h;obtain⟨kk,b,v,l2⟩:=t;have:=hl.tok;simp only[Fz] at this;exact⟨this.1,hl.ok,by have:=hl.len;show vs.length≤_;omega⟩
end
theorem PU:∀(l:List Tm),Bl l.reverse=Bl l
 | []=>rfl
 | a::l=>by rw[List.reverse_cons,JG,PU l];simp only[Bl];omega
theorem YB {l:List Tm}(h:∀v∈l,okB v=true):∀v∈l.reverse,okB v=true:=fun v hv=>h v (List.mem_reverse.1 hv)
theorem OQ {E:List CX}{d:CX}{f:Hi}{a:List Tm}(hE:Gz E) (hd:d∈E) (hf:f∈d.funs) (ha:∀x∈a,okB x=true):SD f.tree (a.take f.arity.toNat):=by
 have h1:=hE.g.all d hd;have h2:=h1.fu f hf;have h3:=hE.fu d hd f hf;exact⟨(h1.din.fs f hf).tr,h2.2.2,by rw[List.length_take];omega,fun v hv=>ha v (List.mem_of_mem_take hv)⟩
theorem fj {E:List CX}{nm:ByteArray}{x:CX}(h:(Bw E nm).2=0) (h3:(Bw E nm).1.kind=5) (hx:E[(Bw E nm).1.decl.toNat]?=some x):(Cr E nm).1=x:=by rw[fG h h3 hx]
theorem Zv {E:List CX}{h:Tm}(hu:Tg E h=true):(Bw E h.name).2=0:=by
 simp only[Tg,Bool.and_eq_true,decide_eq_true_eq] at hu;exact hu.1
end Go.Eu
namespace Go.Proofs.YtboammbpdaoojaaGreat
open Go.Abs Go.Eu
theorem Zr:∀(a b:Ci),(M6 a)→(M6 b)→Ep Tryz.prog 189 [.agg ((B9 a).map .p),.agg ((B9 b).map .p)] (.agg ((B9 (I7 a b)).map .p)):=by
 intro a b h1 h2;have hl:=h1.vars;have hl2:=h2.vars;simp only[Dq] at hl hl2;refine BF Tryz.func189 O oR (n:=138) O O (A6 (BO O (Ba O) fun b2=>BO O (Ba O) fun b3=>BO O (BG Ed O) fun b4=>Bq O (A6 (A5 A7 4 [2,1] O (A0 O (Fi O O) (A0 O (Ca S1 Ed O) (BO O (BG Ed O) fun b5=>A1 A7 1 [0,0] O (A6 (Bx (IH (i:=0) O (YR (aw (we O) (aw (JN) (FM))))) (Bx (IB (sz:=2)) (A1 A7 2 [] O (A3 A7 1 [] O (A2 (BJ ?_))))))))))))));refine Bn (α:=Nat×Nat×List CS×Int×Option Nat×Nat) (fun(i,k,vs,m,o,cp)=>⟨138,mk [(2,.ptr b2 0),(3,.ptr b3 0),(4,.ptr b4 0),(5,.ptr b5 0),(6,.p (I (i:Int))),(7,.p (I (k:Int))),(8,.p (I m))],[.vec o 2 (List.map ED vs) cp,.box b5 [.p (I (max (a.const:Int) (b.const:Int))),.vs o (List.map ED vs).length cp],.box b4 [.p (I 0),.p (.nils)],.box b3 [.p (I b.const),.p (.lst (List.map ED b.vars))],.box b2 [.p (I a.const),.p (.lst (List.map ED a.vars))]],[]⟩) (fun(i,k,vs,m,o,cp)=>(a.vars.length - i)+(b.vars.length - k)) (fun(i,k,vs,m,o,cp)=>NJ a.vars b.vars i k vs m) ⟨0,0,[],0,none,0⟩ (NJ.zero) ?_ ?_
 ·exact Bh ⟨we O,we O,we O,we O,we O,we O,we O,Az⟩ (leH (is:=[0,1,2,3,4]) O (wl (oe O) (wl (oe O) (wl (oe O) (wl (oe O) (wl (oe O) (DJ)))))))
 rintro⟨i,k,vs,m,o,cp⟩ hC
 try simp only at hC
 have hi0:=hC.hi;have hk0:=hC.hk;refine A2 (A2 (Be [2,3,4,5,6,7,8] 27 (fun y=>y= .p (.bool ((decide (((i:Int):Int)<((a.vars.length:Nat):Int)))||(decide (((k:Int):Int)<((b.vars.length:Nat):Int)))))) ?_ ?_))
 ·refine BC (A5 A7 3 [4] O (A0 O (BT Ch O (List.length_map _)) (A5 A7 2 [] O (BY 21 O (fun g=>?_) (fun g=>?_)))))
  ·(try simp only[sd,se] at g);exact A1 A7 6 [] O (⟨O,O,AP,AJ,⟨O,O,O,O,O,O,O,Az⟩⟩)
  (try simp only[sd,se] at g);exact A5 A7 3 [3] O (BK O (BT Ch O (List.length_map _)) (A1 A7 2 [] O (⟨O,O,AP,AJ,⟨O,O,O,O,O,O,O,Az⟩⟩)))
 rintro _ rfl;refine A4 O (fun c=>?_) (fun c=>?_)
 ·(try simp only[sd,se] at c);refine BA (BJ (A6 (A0 O (Ca kQ GF O) (BO O (BG GF O) fun b9=>A1 A7 1 [0,0] O (A2 (BJ (A2 (Be [2,3,4,5,6,7,8,9] 53 (fun y=>y= .p (.bool (QT a.vars b.vars i k))) ?_ ?_))))))))
  ·refine B0 (fun k=>false) Dt (BZ A7 3 [4] O (BP O (fun _=>BT Ch O (List.length_map _)) Az (BZ A7 2 [] O (D9 59 O (fun g=>?_) (fun g=>?_)))))
   ·(try simp only[sd,se] at g);exact Bt A7 22 [] O (⟨O,O,AP,(by first | exact pB (Oy Ax) | exact pB (Qa Ax Ax) | exact pB (OS hx hx1)),⟨O,O,O,O,O,O,O,O,Az⟩⟩)
   (try simp only[sd,se] at g);refine BZ A7 3 [5] O (Cm O (fun _=>BT Ch O (List.length_map _)) Az (BZ A7 2 [] O (D9 65 O (fun g1=>?_) (fun g1=>?_))))
   ·(try simp only[sd,se] at g1);refine BZ A7 3 [5] O ?_;obtain⟨x,hx⟩:=BE (l:=a.vars) (i:=i) Ax;refine Cm O (fun _=>BD Ch O O Ax (Ct hx) (O)) Az (BZ A7 5 [4] O ?_);obtain⟨x1,hx1⟩:=BE (l:=b.vars) (i:=k) Ax;exact Cm O (fun _=>BD Ch O O Ax (Ct hx1) (O)) Az (Bt A7 6 [] O (⟨O,O,AP,(by first | exact pB (Oy Ax) | exact pB (Qa Ax Ax) | exact pB (OS hx hx1)),⟨O,O,O,O,O,O,O,O,Az⟩⟩))
   (try simp only[sd,se] at g1);exact Bt A7 16 [] O (⟨O,O,AP,(by first | exact pB (Oy Ax) | exact pB (Qa Ax Ax) | exact pB (OS hx hx1)),⟨O,O,O,O,O,O,O,O,Az⟩⟩)
  rintro _ rfl;refine A4 O (fun c1=>?_) (fun c1=>?_)
  ·(try simp only[sd,se] at c1);have hi:=jP c1 (by simpa using c);refine A6 (A5 A7 3 [5] O ?_);obtain⟨x,hx⟩:=BE (l:=a.vars) (i:=i) Ax;refine A0 O (BD Ch O O Ax (Ct hx) (O)) (A1 A7 2 [0,1] O (BC (A1 A7 3 [] O (A6 (A5 A7 3 [0] O (A0 O (Fi O O) (A1 A7 1 [] O (BC (A5 A7 3 [2,0] O (A0 O (Br Ch GF O O O O O) (EN O O (CE (i:=1) (rows':=List.map ED [(CS.mk x.index x.plus)]) Ch Ch GF O O O O O O (Gb _) (by have:=hC.ln;have:=hC.hi;have:=hC.hk;simp only[List.length_map,List.length_append,List.length_cons,List.length_nil];omega) (FX (f:=ED) vs [(CS.mk x.index x.plus)])) fun o1 cp1=>A1 A7 2 [2,0] O ?_)))))))))));refine⟨⟨i+1,k,vs++[(CS.mk x.index x.plus)],max (m:Int) (x.plus:Int),o1,cp1⟩,Ac,(by first | exact hC.left hx c1 | exact hC.right hx c1 c2 | exact hC.both hx hx1 c1 c2),Bh ⟨we O,we O,we O,we O,we O,we O,we O,Az⟩ (leH (is:=[1,2,3,4,5]) O (wl (oe O) (wl (oe O) (wl (oe O) (wl (oe O) (wl (oe O) (DJ)))))))⟩
  (try simp only[sd,se] at c1);have hk:=jn c1 hC.hk;refine A2 (Be [2,3,4,5,6,7,8,9] 88 (fun y=>y= .p (.bool (V0 a.vars b.vars i k))) ?_ ?_)
  ·refine B0 (fun k=>false) Dt (BZ A7 3 [5] O (BP O (fun _=>BT Ch O (List.length_map _)) Az (BZ A7 2 [] O (D9 94 O (fun g=>?_) (fun g=>?_)))))
   ·(try simp only[sd,se] at g);exact Bt A7 15 [] O (⟨O,O,AP,(by first | exact pB (RW Ax) | exact pB (MO hx1 hx) | exact pB (MO hx hx1)),⟨O,O,O,O,O,O,O,O,Az⟩⟩)
   (try simp only[sd,se] at g);refine BZ A7 3 [4] O ?_;obtain⟨x,hx⟩:=BE (l:=b.vars) (i:=k) Ax;refine Cm O (fun _=>BD Ch O O Ax (Ct hx) (O)) Az (BZ A7 5 [5] O ?_);obtain⟨x1,hx1⟩:=BE (l:=a.vars) (i:=i) Ax;exact Cm O (fun _=>BD Ch O O Ax (Ct hx1) (O)) Az (Bt A7 5 [] O (⟨O,O,AP,(by first | exact pB (RW Ax) | exact pB (MO hx1 hx) | exact pB (MO hx hx1)),⟨O,O,O,O,O,O,O,O,Az⟩⟩))
  rintro _ rfl;refine A4 O (fun c2=>?_) (fun c2=>?_)
  ·(try simp only[sd,se] at c2);refine A6 (A5 A7 3 [4] O ?_);obtain⟨x,hx⟩:=BE (l:=b.vars) (i:=k) Ax;refine A0 O (BD Ch O O Ax (Ct hx) (O)) (A1 A7 2 [0,1] O (BC (A1 A7 3 [] O (A6 (A5 A7 3 [0] O (A0 O (Fi O O) (A1 A7 1 [] O (BC (A5 A7 3 [2,0] O (A0 O (Br Ch GF O O O O O) (EN O O (CE (i:=1) (rows':=List.map ED [(CS.mk x.index x.plus)]) Ch Ch GF O O O O O O (Gb _) (by have:=hC.ln;have:=hC.hi;have:=hC.hk;simp only[List.length_map,List.length_append,List.length_cons,List.length_nil];omega) (FX (f:=ED) vs [(CS.mk x.index x.plus)])) fun o1 cp1=>A1 A7 2 [2,0] O ?_)))))))))));refine⟨⟨i,k+1,vs++[(CS.mk x.index x.plus)],max (m:Int) (x.plus:Int),o1,cp1⟩,Ac,(by first | exact hC.left hx c1 | exact hC.right hx c1 c2 | exact hC.both hx hx1 c1 c2),Bh ⟨we O,we O,we O,we O,we O,we O,we O,Az⟩ (leH (is:=[1,2,3,4,5]) O (wl (oe O) (wl (oe O) (wl (oe O) (wl (oe O) (wl (oe O) (DJ)))))))⟩
  (try simp only[sd,se] at c2);have hi:=jE c2 hC.hi;refine A2 (B0 (fun k=>false) Dt (BZ A7 3 [5] O ?_));obtain⟨x,hx⟩:=BE (l:=a.vars) (i:=i) Ax;refine BP O (fun _=>BD Ch O O Ax (Ct hx) (O)) Az (BZ A7 5 [5] O (BP O (fun _=>BD Ch O O Ax (Ct hx) (O)) Az (BZ A7 5 [4] O ?_)));obtain⟨x1,hx1⟩:=BE (l:=b.vars) (i:=k) Ax;refine BP O (fun _=>BD Ch O O Ax (Ct hx1) (O)) Az (BZ A7 2 [] O (BP O (fun _=>Fi O O) Az (Bt A7 2 [0,0] O (A3 A7 3 [] O (BC (A1 A7 3 [] O (A6 (A5 A7 3 [0] O (A0 O (Fi O O) (A1 A7 1 [] O (BC (A5 A7 3 [2,0] O (A0 O (Br Ch GF O O O O O) (EN O O (CE (i:=1) (rows':=List.map ED [(CS.mk x.index (max (x.plus:Int) (x1.plus:Int)))]) Ch Ch GF O O O O O O (Gb _) (by have:=hC.ln;have:=hC.hi;have:=hC.hk;simp only[List.length_map,List.length_append,List.length_cons,List.length_nil];omega) (FX (f:=ED) vs [(CS.mk x.index (max (x.plus:Int) (x1.plus:Int)))])) fun o1 cp1=>A1 A7 2 [2,0] O ?_))))))))))))));refine⟨⟨i+1,k+1,vs++[(CS.mk x.index (max (x.plus:Int) (x1.plus:Int)))],max (m:Int) (max (x.plus:Int) (x1.plus:Int):Int),o1,cp1⟩,Ac,(by first | exact hC.left hx c1 | exact hC.right hx c1 c2 | exact hC.both hx hx1 c1 c2),Bh ⟨we O,we O,we O,we O,we O,we O,we O,Az⟩ (leH (is:=[1,2,3,4,5]) O (wl (oe O) (wl (oe O) (wl (oe O) (wl (oe O) (wl (oe O) (DJ)))))))⟩
 (try simp only[sd,se] at c);refine Bo (A2 (A2 (Be [4,5] 135 (fun y=>y= .p (.bool ((decide (((vs.length:Nat):Int) > (0:Int)))&&(decide ((max (a.const:Int) (b.const:Int):Int)≤(m:Int)))))) ?_ ?_)))
 ·refine BC (A5 A7 2 [1] O (A0 O (Jf Ch O (List.length_map _)) (A5 A7 2 [] O (BY 130 O (fun g=>?_) (fun g=>?_)))))
  ·(try simp only[sd,se] at g);exact A1 A7 5 [1] O (⟨O,O,AP,AJ,⟨O,O,Az⟩⟩)
  (try simp only[sd,se] at g);exact A1 A7 5 [] O (⟨O,O,AP,AJ,⟨O,O,Az⟩⟩)
 rintro _ rfl;refine A4 O (fun c1=>?_) (fun c1=>?_)
 ·(try simp only[sd,se] at c1);refine BC (Bx (Db (i:=0) (j:=1) (q:=1) [] O O O (Ds Az)) (A1 A7 2 [0,0] O (A3 A7 2 [0,1,0] O (A9 (⟨O,_,_,⟨_,_,O,(BI (i:=1) Dp O O O),O⟩,(List.nil_sublist _),?_⟩)))))
  all_goals exact⟨by show (.agg [.p (I 0),.p (.lst (List.map ED vs))]:AV)=_;rw[uF (hC.fin Ax) Ax c1.2];rfl,rfl⟩
 (try simp only[sd,se] at c1);refine BA (A6 (Bx (Db (i:=0) (j:=1) (q:=1) [] O O O (Ds Az)) (A1 A7 2 [0,1,0] O (A9 (⟨O,_,_,⟨_,_,O,(BI (i:=1) Dp O O O),O⟩,(List.nil_sublist _),?_⟩)))))
 all_goals exact⟨by show (.agg [.p (I (max (a.const:Int) (b.const:Int))),.p (.lst (List.map ED vs))]:AV)=_;rw[tp (hC.fin Ax) Ax];rfl,rfl⟩
theorem gv:∀(l:Ci) (ps:List Ci),(CL l=true)→(ps.length<Dq)→(∀p∈ps,CL p=true)→Ep Tryz.prog 169 [.agg ((B9 l).map .p),.p (.lst (List.map B9 ps)),.p (.bool false)] (.tup [.agg ((B9 ((Gf ps ⟨l.const,[]⟩ l.vars).1)).map .p),.p (I ((Gf ps ⟨l.const,[]⟩ l.vars).2))]):=by
 intro l ps h1 h2 h3;have hL:=JO.of h1;have hl:=hL.len;simp only[Dq] at h2;refine BF Tryz.func169 O nr (n:=69) O O (A6 (BO O (Ba O) fun b3=>BO O (BG Ed O) fun b6=>A1 A7 1 [] O (A6 (A5 A7 2 [1] O (A0 O (BL O O (aD l.const) O) (BO O (BG Ed O) fun b8=>A1 A7 1 [0,1] O (A2 (A3 A7 1 [] O (BJ (Bn (α:=Nat×Ci) (fun(i,q)=>⟨69,mk [(1,.p (.lst (List.map B9 ps))),(2,.p (.bool false)),(3,.ptr b3 0),(6,.ptr b6 0),(8,.ptr b8 0),(9,.p (I (i:Int)))],[.box b8 ((B9 q).map .p),.box b6 [.p (I 0),.p (.nils)],.box b3 [.p (I l.const),.p (.lst (List.map ED l.vars))]],[]⟩) (fun(i,q)=>l.vars.length - i) (fun(i,q)=>i≤l.vars.length∧(JO q∧Gf ps q (l.vars.drop i)=Gf ps ⟨l.const,[]⟩ l.vars)) ⟨0,(⟨l.const,[]⟩:Ci)⟩ (⟨by omega,JO.num hL.c,rfl⟩) ?_ ?_))))))))))
 ·exact Bh ⟨we O,we O,we O,we O,we O,we O,Az⟩ (leH (is:=[0,1,2]) O (wl (oe O) (wl (oe O) (wl (oe O) (DJ)))))
 rintro⟨i,q⟩ hC
 try simp only at hC
 obtain⟨hi,hC⟩:=hC;refine A2 (A6 (A5 A7 3 [2] O (A0 O (BT Ch O (List.length_map _)) (A1 A7 1 [] O (A4 O (fun c=>?_) (fun c=>?_))))))
 ·(try simp only[sd,se] at c);refine BA (A2 (BJ (A6 (A5 A7 3 [2] O ?_))));obtain⟨x,hx⟩:=BE (l:=l.vars) (i:=i) Ax;have hv:=LA h1 hx;refine A0 O (BD Ch O O Ax (Ct hx) (O)) (A0 O (BU My O (O)) (BO O (BG GF O) fun b10=>A1 A7 1 [0,1] O (A3 A7 3 [0] O (A2 (A3 A7 1 [] O ?_)))));refine A4 O (fun c1=>by cases c1) (fun c1=>?_);refine BA (A6 (A0 O (Bf (i:=0) My O O O) (A0 O (Br Ch GF O O O O O) (A0 O (Ca S1 Ed O) (BO O (BG Ed O) fun b12=>A1 A7 1 [0,0] O (A2 (A2 (Be [1,2,3,6,8,9,10,11,12] 49 (fun y=>y= .p (.bool (((decide ((x.index:Int)<(0:Int)))==false)&&(decide ((x.index:Int)<((ps.length:Nat):Int)))))) ?_ ?_))))))))
  ·refine BC (A5 A7 4 [1] O (A0 O (SA qm O O) (B3 O (BY 44 O (fun g=>?_) (fun g=>?_)))))
   ·(try simp only[sd,se] at g);exact A5 A7 2 [] O (BK O (BT Em O (List.length_map _)) (A1 A7 2 [] O (⟨O,O,AP,AJ,⟨O,O,O,O,O,O,O,O,O,Az⟩⟩)))
   (try simp only[sd,se] at g);exact A1 A7 5 [] O (⟨O,O,AP,AJ,⟨O,O,O,O,O,O,O,O,O,Az⟩⟩)
  rintro _ rfl;refine A4 O (fun c2=>?_) (fun c2=>?_)
  ·(try simp only[sd,se] at c2);refine A2 (B0 (fun k=>Nat.beq k 10) Dt (BZ A7 2 [] O ?_));obtain⟨x1,hx1⟩:=BE (l:=ps) (i:=(x.index:Int).toNat) Ax;have hv:=LA h1 hx;refine BP O (fun _=>BD Em O O Ax (GD hx1) (D1 _)) Az (BZ A7 3 [1] O (BP O (fun _=>BL O O (jF x1 x.plus (JO.of (h3 _ (List.mem_of_getElem? hx1))).nd) O) Az (BZ A7 3 [] O (GA [] O O (BG Ed O) As fun b13=>⟨AB,Az,?_⟩))));refine Bt A7 2 [0,1] O (A2 (A3 A7 2 [] O (A4 O (fun c3=>?_) (fun c3=>?_))))
   ·(try simp only[sd,se] at c3);refine A3 A7 4 [4,0] O (BQ (Bd (i:=4) O) (A9 (⟨O,_,_,⟨_,_,O,(BI (i:=4) Dp O O O),⟨_,_,O,O,O⟩⟩,(List.nil_sublist _),?_⟩)))
    all_goals exact⟨by show (.tup [.agg [.p (I 0),.p (.lst [])],.p (I ((FV x1 x.plus).2))]:AV)=_;rw[show Gf ps ⟨l.const,[]⟩ l.vars=_ from hC.2.symm.trans (uU hx c2.1 c2.2 hx1 c3)];rfl,rfl⟩
   (try simp only[sd,se] at c3);refine BA (BC (A1 A7 2 [0,1,1] O (BC (A5 A7 2 [3,1] O (A0 O (BL O O (Zr q ((FV x1 x.plus).1) hC.1.nd (by first | exact(JO.one hv).nd | exact(JO.plus (h3 _ (List.mem_of_getElem? hx1)) hv.1.1 hv.1.2 c3).nd)) O) (A1 A7 1 [3,1] O (BC (A1 A7 3 [] O ?_))))))));refine⟨⟨i+1,I7 q ((FV x1 x.plus).1)⟩,Ac,⟨by omega,(by first | exact⟨hC.1.join (JO.plus (h3 _ (List.mem_of_getElem? hx1)) hv.1.1 hv.1.2 c3),(s5 hx c2.1 c2.2 hx1 c3).symm.trans hC.2⟩ | exact⟨hC.1.join (JO.one hv),(qW hx Ax).symm.trans hC.2⟩ | exact⟨hC.1.join (JO.one hv),(qW hx (fun hh=>by have:=c2 hh.1;omega)).symm.trans hC.2⟩)⟩,Bh ⟨we rfl,we rfl,we rfl,we rfl,we rfl,we rfl,trivial⟩ (leH (is:=[3,4,5]) rfl (wl (oe rfl) (wl (oe rfl) (wl (oe rfl) (DJ)))))⟩
  (try simp only[sd,se] at c2);refine BA (BC (A5 A7 2 [2,0] O (A0 O (BL O O (Zr q (Ci.mk 0 [(CS.mk x.index x.plus)]) hC.1.nd (by first | exact(JO.one hv).nd | exact(JO.plus (h3 _ (List.mem_of_getElem? hx1)) hv.1.1 hv.1.2 c3).nd)) O) (A1 A7 1 [2,1] O (BC (A1 A7 3 [] O ?_))))));refine⟨⟨i+1,I7 q (Ci.mk 0 [(CS.mk x.index x.plus)])⟩,Ac,⟨by omega,(by first | exact⟨hC.1.join (JO.plus (h3 _ (List.mem_of_getElem? hx1)) hv.1.1 hv.1.2 c3),(s5 hx c2.1 c2.2 hx1 c3).symm.trans hC.2⟩ | exact⟨hC.1.join (JO.one hv),(qW hx Ax).symm.trans hC.2⟩ | exact⟨hC.1.join (JO.one hv),(qW hx (fun hh=>by have:=c2 hh.1;omega)).symm.trans hC.2⟩)⟩,Bh ⟨we rfl,we rfl,we rfl,we rfl,we rfl,we rfl,trivial⟩ (leH (is:=[2,3,4]) rfl (wl (oe rfl) (wl (oe rfl) (wl (oe rfl) (DJ)))))⟩
 (try simp only[sd,se] at c);refine Bo (A3 A7 3 [0,1,1] O (A9 (⟨O,_,_,⟨_,_,O,(BI (i:=1) Dp O O Ao),⟨_,_,O,O,O⟩⟩,(List.nil_sublist _),?_⟩)))
 all_goals exact⟨by show (.tup [.agg ((B9 q).map .p),.p (I 0)]:AV)=_;rw[←hC.2,List.drop_eq_nil_of_le Ax];rfl,rfl⟩
theorem du:∀(l:Ci) (ps:List Ci),(M6 l)→(ps.length<Dq)→(∀p∈ps,M6 p)→Ep Tryz.prog 139 [.agg ((B9 l).map .p),.p (.lst (List.map B9 ps))] (.tup [.agg ((B9 ((C7 l ps).1)).map .p),.p (I ((C7 l ps).2))]):=by
 intro l ps h1 h2 h3;have hl:=h1.vars;have hl2:=h2;simp only[Dq] at hl hl2;refine BF Tryz.func139 O oI (n:=26) O O (A6 (BO O (Ba O) fun b2=>BO O (BG Ed O) fun b4=>A1 A7 1 [] O (A2 (A2 (Be [1,2,4] 13 (fun y=>y= .p (.bool ((!(CL l))||(!(ps.all CL))))) ?_ ?_)))))
 ·refine BC (A0 O (Bf (i:=1) Dp O O Ao) (A0 O (BL O O (Oj l h1) O) (A5 A7 2 [] O (BY 9 O (fun g=>?_) (fun g=>?_)))))
  ·(try simp only[sd,se] at g);exact A1 A7 4 [] O (⟨O,O,AP,AJ,⟨O,O,O,Az⟩⟩)
  (try simp only[sd,se] at g);exact BK O (Bi O) (BK O (BL O O (Vy ps h2 h3) O) (A1 A7 2 [] O (⟨O,O,AP,AJ,⟨O,O,O,Az⟩⟩)))
 rintro _ rfl;refine A4 O (fun c=>?_) (fun c=>?_)
 ·(try simp only[sd,se] at c);refine A3 A7 3 [0,0] O (BQ (Bd (i:=0) O) (A9 (⟨O,_,_,⟨_,_,O,(BI (i:=0) Dp O O O),⟨_,_,O,O,O⟩⟩,(List.nil_sublist _),?_⟩)))
  all_goals exact⟨by show (.tup [.agg [.p (I 0),.p (.lst [])],.p (I 3)]:AV)=_;rw[show C7 l ps=(Ft,3) by rw[C7,if_pos (by simpa using c)]];rfl,rfl⟩
 (try simp only[sd,se] at c);have hv:CL l=true∧ps.all CL=true:=by simpa using c
 refine BA (A2 (A6 (A0 O (Bf (i:=1) Dp O O Ao) (A0 O (BL O O (a8 l h1) O) (B3 O (A0 O (BT Em O (List.length_map _)) (A1 A7 1 [] O (A4 O (fun c1=>?_) (fun c1=>?_)))))))))
 ·(try simp only[sd,se] at c1);refine A3 A7 3 [0,0] O (BQ (Bd (i:=0) O) (A9 (⟨O,_,_,⟨_,_,O,(BI (i:=0) Dp O O O),⟨_,_,O,O,O⟩⟩,(List.nil_sublist _),?_⟩)))
  all_goals exact⟨by show (.tup [.agg [.p (I 0),.p (.lst [])],.p (I 24)]:AV)=_;rw[show C7 l ps=(Ft,24) by rw[C7,if_neg (by simp[hv]),if_pos c1]];rfl,rfl⟩
 (try simp only[sd,se] at c1);refine BA (A6 (A5 A7 2 [1] O (A0 O (BL O O (gv l ps hv.1 h2 (List.all_eq_true.1 hv.2)) O) (A1 A7 4 [0,1] O (A9 (⟨O,_,_,⟨_,_,O,(BI (i:=0) Dp O O Ao),⟨_,_,O,O,O⟩⟩,(List.nil_sublist _),?_⟩))))))
 all_goals exact⟨by show (.tup [.agg ((B9 ((Gf ps ⟨l.const,[]⟩ l.vars).1)).map .p),.p (I ((Gf ps ⟨l.const,[]⟩ l.vars).2))]:AV)=_;rw[show C7 l ps=Gf ps ⟨l.const,[]⟩ l.vars by rw[C7,if_neg (by simp[hv]),if_neg Ax]],rfl⟩
theorem bA:∀(n:Nat) (t:Tm) (ps:List Ci) (b:Nat) (er nd:Int),(size t≤n)→(Nd t)→(ps.length<Dq)→(∀p∈ps,M6 p)→B2 Tryz.prog 109 [.ptr b 0,.agg ((Bb t).map .p),.p (.lst (List.map B9 ps)),.p (.bool false)] [.box b [.p (I er),.p (I nd)]] (Gj (.agg ((Bb ((Hv ps er t).1)).map .p)) [.box b [.p (I ((Hv ps er t).2)),.p (I nd)]]):=by
 intro n
 induction n with
 | zero=>intro t ps b er nd h;cases t;simp[size] at h
 | succ n ih =>
  intro t ps b er nd h1 h2 h3 h4;obtain⟨tk,ti,tn,tl,ts⟩:=t;simp only[size] at h1;have h2n:=h2;simp only[Nd,Dq] at h2;refine BF Tryz.func109 O pE (n:=76) O O (A6 (BO O (Ba O) fun b5=>BO O (BG B4 O) fun b8=>Bq O (A3 A7 1 [] O (A2 (A3 A7 1 [] O (BJ (BQ (DS (t:=9) (sz:=2) O) ?_)))))));refine Bn (α:=Nat×List Ci×Int×Option Nat×Nat) (fun(i,ys,e,o,cp)=>⟨76,mk [(0,.ptr b 0),(2,.p (.lst (List.map B9 ps))),(3,.p (.bool false)),(5,.ptr b5 0),(8,.ptr b8 0),(9,.vs o (List.map B9 ys).length cp),(10,.p (I (i:Int)))],[.vec o 2 (List.map B9 ys) cp,.box b8 [.p (I 0),.p (I 0),.p (.str ⟨#[]⟩),.p (.nils),.p (.nils)],.box b5 [.p (I tk),.p (I ti),.p (.str tn),.p (.lst (List.map B9 tl)),.p (.lst (BN ts))],.box b [.p (I e),.p (I nd)]],[]⟩) (fun(i,ys,e,o,cp)=>tl.length - i) (fun(i,ys,e,o,cp)=>i≤tl.length∧(ys.length=i∧(ys++(Fc ps e (tl.drop i)).1,(Fc ps e (tl.drop i)).2)=Fc ps er tl)) ⟨0,[],er,none,0⟩ (⟨by omega,by simp⟩) ?_ ?_
  ·exact Bh ⟨we O,we O,we O,we O,we O,we O,we O,Az⟩ (leH (is:=[0,1,2,3]) O (wl (oe O) (wl (oe O) (wl (oe O) (wl (oe O) (DJ))))))
  rintro⟨i,ys,e,o,cp⟩ hC
  try simp only at hC
  obtain⟨hi,hl,hC⟩:=hC;refine A2 (A6 (A5 A7 3 [2] O (A0 O (BT Em O (List.length_map _)) (A1 A7 1 [] O (A4 O (fun c=>?_) (fun c=>?_))))))
  ·(try simp only[sd,se] at c);refine BA (A2 (BJ (A6 (A5 A7 3 [2] O ?_))));obtain⟨x,hx⟩:=BE (l:=tl) (i:=i) Ax;refine A0 O (BD Em O O Ax (GD hx) (D1 _)) (A5 A7 2 [] O (A0 O (BL O O (du x ps (h2.2.2.1 _ (List.mem_of_getElem? hx)) h3 h4) O) (A5 A7 3 [] O (BO O (BG Ed O) fun b11=>A1 A7 2 [0,1] O (A2 (A3 A7 1 [] O ?_))))));refine A4 O (fun c1=>by cases c1) (fun c1=>?_);refine BA (A2 (A3 A7 2 [] O (A4 O (fun c2=>?_) (fun c2=>?_))))
   ·(try simp only[sd,se] at c2);refine BC (A5 A7 2 [] O (A0 O (CF [4] O (.inl ⟨O,O,O⟩) (Yi b e nd ((C7 x ps).2)) ⟨_,_,O,O,O⟩ Aw O (.inl O)) (Bq O (BC (A5 A7 2 [0] O (A0 O (Br Em Ed O O O O O) (EN O O (CE (i:=1) (rows':=List.map B9 [(Ci.mk (((C7 x ps).1).const) (((C7 x ps).1).vars))]) Em Em Ed O O O O O O (Mj _) AD (FX (f:=B9) ys [(Ci.mk (((C7 x ps).1).const) (((C7 x ps).1).vars))])) fun o1 cp1=>A1 A7 1 [] O (BC (A1 A7 3 [] O ?_)))))))));refine⟨⟨i+1,ys++[(C7 x ps).1],Gn e ((C7 x ps).2),o1,cp1⟩,Ac,⟨by omega,⟨by simp[hl],by rw[←hC,Cu hx];first | (simp[Fc];done) | (simp[Fc,YO,c2];done)⟩⟩,Bh ⟨we rfl,we rfl,we rfl,we rfl,we rfl,we rfl,we rfl,trivial⟩ (leH (is:=[1,2,3,4]) rfl (wl (oe rfl) (wl (oe rfl) (wl (oe rfl) (wl (oe rfl) (DJ))))))⟩
   (try simp only[sd,se] at c2);refine BA (BC (A5 A7 2 [0] O (A0 O (Br Em Ed O O O O O) (EN O O (CE (i:=1) (rows':=List.map B9 [(Ci.mk (((C7 x ps).1).const) (((C7 x ps).1).vars))]) Em Em Ed O O O O O O (Mj _) AD (FX (f:=B9) ys [(Ci.mk (((C7 x ps).1).const) (((C7 x ps).1).vars))])) fun o1 cp1=>A1 A7 1 [] O (BC (A1 A7 3 [] O ?_))))));refine⟨⟨i+1,ys++[(C7 x ps).1],e,o1,cp1⟩,Ac,⟨by omega,⟨by simp[hl],by rw[←hC,Cu hx];first | (simp[Fc];done) | (simp[Fc,YO,c2];done)⟩⟩,Bh ⟨we rfl,we rfl,we rfl,we rfl,we rfl,we rfl,we rfl,trivial⟩ (leH (is:=[1,2,3,4]) rfl (wl (oe rfl) (wl (oe rfl) (wl (oe rfl) (wl (oe rfl) (DJ))))))⟩
  (try simp only[sd,se] at c);refine Bo (A6 (A5 A7 2 [] O (Bx (Cf (i:=0) [9,52] O (Ds ⟨O,O,Az⟩)) (A1 A7 1 [1,0] O (A3 A7 1 [] O (A2 (A3 A7 1 [] O (BJ (BQ (DS (t:=13) (sz:=5) O) ?_)))))))));refine Bn (α:=Nat×List Tm×Int×Option Nat×Nat) (fun(i,zs,e2,o1,cp1)=>⟨76,mk [(0,.ptr b 0),(2,.p (.lst (List.map B9 ps))),(3,.p (.bool false)),(5,.ptr b5 0),(8,.ptr b8 0),(13,.vs o1 (BN zs).length cp1),(14,.p (I (i:Int)))],[.vec o1 5 (BN zs) cp1,.box b8 [.p (I 0),.p (I 0),.p (.str ⟨#[]⟩),.p (.nils),.p (.nils)],.box b5 [.p (I tk),.p (I ti),.p (.str tn),.p (.lst (List.map B9 ys)),.p (.lst (BN ts))],.box b [.p (I e2),.p (I nd)]],[]⟩) (fun(i,zs,e2,o1,cp1)=>ts.length - i) (fun(i,zs,e2,o1,cp1)=>i≤ts.length∧(zs.length=i∧(zs++(Gt ps e2 (ts.drop i)).1,(Gt ps e2 (ts.drop i)).2)=Gt ps e ts)) ⟨0,[],e,none,0⟩ (⟨by omega,by simp⟩) ?_ ?_
  ·exact Bh ⟨we O,we O,we O,we O,we O,we O,we O,Az⟩ (leH (is:=[0,1,2,3]) O (wl (oe O) (wl (oe O) (wl (oe O) (wl (oe O) (DJ))))))
  rintro⟨i,zs,e2,o1,cp1⟩ hC1
  try simp only at hC1
  obtain⟨hi,hl2,hC2⟩:=hC1;refine A2 (A6 (A5 A7 3 [2] O (A0 O (BT Bk O (Bc _)) (A1 A7 1 [] O (A4 O (fun c1=>?_) (fun c1=>?_))))))
  ·(try simp only[sd,se] at c1);refine BA (A2 (BJ (BC (A5 A7 5 [2] O ?_))));obtain⟨x,hx⟩:=BE (l:=ts) (i:=i) Ax;refine A0 O (BD Bk O O Ax (Bj hx) (BM _)) (A5 A7 3 [] O (A0 O (CF [3] O (.inl ⟨O,O,O⟩) (ih x ps b e2 nd (by have:=Co hx;omega) (Df h2.2.2.2.2.1 hx) h3 h4) ⟨_,_,O,O,O⟩ Aw O (.inl O)) ?_));generalize hz:(Hv ps e2 x).1=z;obtain⟨zk,zi,zn,zl,zs1⟩:=z;refine A0 O (Br Bk B4 O O O O O) (EN O O (CE (i:=0) (rows':=BN [(.mk zk zi zn zl zs1:Tm)]) Bk Bk B4 O O O O O O (B1 _) AD (Hk zs [(.mk zk zi zn zl zs1:Tm)])) fun o2 cp2=>A1 A7 1 [] O (BC (A1 A7 3 [] O ?_)));refine⟨⟨i+1,zs++[(Hv ps e2 x).1],(Hv ps e2 x).2,o2,cp2⟩,Ac,⟨by omega,⟨by simp[hl2],by rw[←hC2,Cu hx];simp[Gt]⟩⟩,Bh ⟨we rfl,we rfl,we rfl,we rfl,we rfl,we (IA (zs++[(.mk zk zi zn zl zs1:Tm)]) (by rw[hz])),we rfl,trivial⟩ (leH (is:=[0,1,2,3]) rfl (wl (HR (zs++[(.mk zk zi zn zl zs1:Tm)]) (by rw[hz])) (wl (oe rfl) (wl (oe rfl) (wl (oe rfl) (DJ))))))⟩
  (try simp only[sd,se] at c1);refine Bo (A6 (A5 A7 2 [] O (Bx (Cf (i:=0) [13,73] O (Ds ⟨O,O,Az⟩)) (A1 A7 1 [1,0] O (A3 A7 2 [1,0,0] O (A9 (⟨O,_,_,⟨_,_,O,(BI (i:=0) Bg O O O),O⟩,(CC (is:=[2]) O),?_⟩)))))));refine⟨by show (.agg [.p (I tk),.p (I ti),.p (.str tn),.p (.lst (List.map B9 ys)),.p (.lst (BN zs))]:AV)=_;rw[ZY (fc hC Ax) (eU hC2 Ax)];rfl,?_⟩;show ([.box b [.p (I e2),.p (I nd)]]:List BR)=_;rw[ZY (fc hC Ax) (eU hC2 Ax)]
theorem Kp:∀(t:Tm) (ps:List Ci),(Nd t)→(ps.length<Dq)→(∀p∈ps,M6 p)→Ep Tryz.prog 79 [.agg ((Bb t).map .p),.p (.lst (List.map B9 ps))] (.tup [.agg ((Bb ((By t ps).1)).map .p),.p (I ((By t ps).2))]):=by
 intro t ps h1 h2 h3;refine BF Tryz.func79 O rP (n:=25) O O (A6 (BO O (Ba O) fun b2=>BO O (BG B4 O) fun b4=>A1 A7 1 [] O (A6 (A0 O (Ca gN eO O) (BO O (Ba O) fun b9=>A1 A7 1 [] O (A6 (A5 A7 3 [2] O (A0 O (CF [0] O (.inl ⟨O,O,O⟩) (bA _ t ps b9 0 0 (Nat.le_refl _) h1 h2 h3) ⟨_,_,O,O,O⟩ Aw O (.inl O)) (BO O (BG B4 O) fun b7=>A1 A7 1 [0,1] O (A2 (A3 A7 5 [1] O (A4 O (fun c=>?_) (fun c=>?_)))))))))))))
 ·(try simp only[sd,se] at c);refine A2 (B0 (fun k=>false) Dt (Bt A7 7 [1,2,0] O (BQ (Bd (i:=2) O) (A9 (⟨O,_,_,⟨_,_,O,(BI (i:=2) Bg O O O),⟨_,_,O,O,O⟩⟩,(List.nil_sublist _),?_⟩)))))
  all_goals exact⟨by show (.tup [.agg [.p (I 0),.p (I 0),.p (.str ⟨#[]⟩),.p (.lst []),.p (.lst [])],.p (I ((Hv ps 0 t).2))]:AV)=_;rw[show By t ps=(Bp,(Hv ps 0 t).2) by rw[By,if_pos c]];rfl,rfl⟩
 (try simp only[sd,se] at c);refine BA (A3 A7 3 [0,2,1] O (A9 (⟨O,_,_,⟨_,_,O,(BI (i:=2) Bg O O Ap),⟨_,_,O,O,O⟩⟩,(List.nil_sublist _),?_⟩)))
 all_goals exact⟨by show (.tup [.agg ((Bb ((Hv ps 0 t).1)).map .p),.p (I 0)]:AV)=_;rw[show By t ps=((Hv ps 0 t).1,0) by rw[By,if_neg Ax]],rfl⟩
theorem _root_.Go.AZ {α:Prop}(h:α:=by simp only[Dq,List.length_drop];omega):α:=h
theorem XL:∀(ds:List CX) (g:Tm) (a:List Tm) (m:Tm) (b:Nat) (c c2:EK) (q:Option Tm),(KB ds)→((Cr ds g.name).1∈ds)→(okB g=true)→(okB m=true)→(CQ (Cr ds g.name).1<a.length)→(a.length<549755813888)→(FG ds Dh (Cr ds g.name).1 g a m c= .ok (q,c2))→B2 Tryz.prog 50 [.p (.lst (List.map Bu ds)),.agg ((Bb g).map .p),.p (.lst (BN a)),.agg ((Bb m).map .p),.ptr b 0] [.box b ((He c).map .p)] (Gj (.tup [.agg ((Bb (q.getD Bp)).map .p),.p (.bool q.isSome)]) [.box b ((He c2).map .p)]):=by
 intro ds g a m b c c2 q h1 h2 h3 h4 h5 h6 h7;obtain⟨gk,gi,gn,gl,gs⟩:=g;simp only[Tm.name] at h2 h5 h7;have hdg:=h1.all _ h2;have hnr:=Ia hdg;have hgo:=CJ.1 h3;have hgl:=hgo.nd;simp only[Nd,Dq] at hgl;have hcl:=hdg.din.cl;have hrl:=hdg.din.rl;have hfx:=hdg.fx;have hir:=F4 hdg.din hdg.fx;refine BF Tryz.func50 O sy (n:=93) O O (A6 (BO O (Ba O) fun b6=>BO O (Ba O) fun b8=>BO O (BG B4 O) fun b10=>A1 A7 1 [] O (A6 (A5 A7 3 [2] O (A0 O (BL O O (R3 ds gn h1.env) O) (A5 A7 4 [] O (BO O (BG Iz O) fun b12=>A1 A7 3 [0,1] O (A6 (A5 A7 2 [2] O (A0 O (BL O O (OX ds m h1 h4) O) (A5 A7 5 [] O (BO O (BG Iz O) fun b15=>A1 A7 4 [0,1] O (A2 (A2 (Be [2,4,6,10,12,16,17] 54 (fun y=>y= .p (.bool (((!((CA ds m).2.2.2))||(!((((CA ds m).1).name).toList==(((Cr ds gn).1).name).toList)))||(decide (((CA ds m).2.1:Int)≥(((((Cr ds gn).1).recs.rules).length:Nat):Int)))))) ?_ ?_)))))))))))))))
 ·refine BC (A5 A7 3 [] O (BY 40 O (fun g1=>?_) (fun g1=>?_)))
  ·(try simp only[sd,se] at g1);exact A1 A7 14 [] O (⟨O,O,AP,AJ,⟨O,O,O,O,O,O,O,Az⟩⟩)
  (try simp only[sd,se] at g1);refine BK O (A8 DD O O) (BK O (BB (i:=0) Lg O O (DW _)) (BK O (A8 DD O O) (BK O (BB (i:=1) Lg O O (DW _)) (BK O (JS O O) (A5 A7 2 [] O (BY 47 O (fun g2=>?_) (fun g2=>?_)))))))
  ·(try simp only[sd,se] at g2);exact A1 A7 7 [] O (⟨O,O,AP,AJ,⟨O,O,O,O,O,O,O,Az⟩⟩)
  (try simp only[sd,se] at g2);exact A5 A7 3 [] O (BK O (BB (i:=1) Gu O O (Cw _)) (BK O (BT Bk O (Bc _)) (A1 A7 2 [] O (⟨O,O,AP,AJ,⟨O,O,O,O,O,O,O,Az⟩⟩))))
 rintro _ rfl;refine A4 O (fun c1=>?_) (fun c1=>?_)
 ·(try simp only[sd,se] at c1);have hq:=(V6 (S:=Dh) (h:= .mk gk gi gn gl gs) (a:=a) (s:=c) c1).symm.trans h7;cases hq;refine A3 A7 3 [2,0] O (BQ (Bd (i:=2) O) (A9 (⟨O,_,_,⟨_,_,O,(BI (i:=2) Bg O O O),⟨_,_,O,O,O⟩⟩,(CC (is:=[5]) O),?_⟩)))
  all_goals exact⟨rfl,rfl⟩
 (try simp only[sd,se] at c1);obtain⟨hg1,hg2,hg3⟩:=Td c1;have hg4:=c1.2;have hfl:=Ir h1 hg1;refine BA (A2 (B0 (fun k=>Nat.beq k 12) Dt (BZ A7 2 [] O (CY (j:=1) O O O (fun H i hi=>BB (i:=i) Gu O hi (Cw _)) AB Az (BP O (fun _=>Bi O) Az ?_)))));obtain⟨x,hx⟩:=BE (l:=((Cr ds gn).1).recs.rules) (i:=((CA ds m).2.1:Int).toNat) Ax;have hro:=CJ.1 (hdg.ru _ (List.mem_of_getElem? hx));refine BP O (fun _=>BD Bk O O Ax (Bj hx) (BM _)) Az (BZ A7 3 [4] O (BP O (fun _=>BL O O (Kp x gl hro.nd hgl.2.1 hgl.2.2.1) O) Az (BZ A7 3 [] O (GA [] O O (BG B4 O) As fun b19=>⟨AB,Az,?_⟩))));refine Bt A7 2 [0,1] O (A2 (A3 A7 2 [] O (A4 O (fun c3=>?_) (fun c3=>?_))))
 ·(try simp only[sd,se] at c3);have hq:=(Lr (S:=Dh) (h:= .mk gk gi gn gl gs) (a:=a) (s:=c) hg1 hg2 hx c3).symm.trans h7;cases hq;refine A3 A7 3 [3,0] O (BQ (Bd (i:=3) O) (A9 (⟨O,_,_,⟨_,_,O,(BI (i:=3) Bg O O O),⟨_,_,O,O,O⟩⟩,(CC (is:=[6]) O),?_⟩)))
  all_goals exact⟨rfl,rfl⟩
 (try simp only[sd,se] at c3);have hq:=(MX (S:=Dh) (h:= .mk gk gi gn gl gs) (a:=a) (s:=c) hg1 hg2 hx c3).symm.trans h7;obtain⟨hpo,hpe⟩:=HH (h:=(by rw[hq];simp));rw[hpe] at hq;cases hq;refine BA (A2 (B0 (fun k=>Nat.beq k 11) Dt (BZ A7 3 [0] O (CY (j:=2) O O O (fun H i hi=>BB (i:=i) DO O hi (Cv _)) AB Az (BZ A7 2 [] O (CY (j:=2) O O O (fun H i hi=>BB (i:=i) HY O hi (CH _)) AB Az (BP O (fun _=>BT HN O (List.length_map _)) Az (BP O (fun _=>Kr O O Ax Ax) Az (BP O (fun _=>Cc (lo:=0) (hi:=(((((Cr ds gn).1).fixed:Int)+(1:Int):Int)+(((((Cr ds gn).1).ctors).length:Nat):Int):Int).toNat) Bk O (CM (B1 _)) O ⟨_,pI Ax⟩ (Nat.zero_le _) AX (M1 a ((((((Cr ds gn).1).fixed:Int)+(1:Int):Int)+(((((Cr ds gn).1).ctors).length:Nat):Int):Int).toNat))) Az ?_)))))))));refine BP O (fun _=>BL O O (EH ((By x gl).1) (a.take ((((((Cr ds gn).1).fixed:Int)+(1:Int):Int)+(((((Cr ds gn).1).ctors).length:Nat):Int):Int).toNat)) (by simp only[Dq,List.length_take];omega)) O) Az (GA [] O O (BG B4 O) As fun b21=>⟨AB,Az,?_⟩);refine Bt A7 1 [0,1] O (A2 (B0 (fun k=>false) Dt (BZ A7 3 [0] O (BP O (fun _=>BL O O (EH (apply ((By x gl).1) (a.take ((((((Cr ds gn).1).fixed:Int)+(1:Int):Int)+(((((Cr ds gn).1).ctors).length:Nat):Int):Int).toNat))) ((CA ds m).2.2.1) Ai) O) Az (FH O O (CF [7] O (.inl ⟨O,O,O⟩) (Fb b c (apply (apply ((By x gl).1) (a.take ((((((Cr ds gn).1).fixed:Int)+(1:Int):Int)+(((((Cr ds gn).1).ctors).length:Nat):Int):Int).toNat))) ((CA ds m).2.2.1)) 0 (CJ.1 hpo).nd) ⟨_,_,O,O,O⟩ Aw O (.inl O)) AB Az (BZ A7 2 [3] O (BP O (fun _=>BL O O (KU ((Cr ds gn).1) hdg.din hdg.fx) O) Az (BP O (fun _=>Kr O O Ax Ax) Az ?_))))))));refine BP O (fun _=>Cc (lo:=((CQ ((Cr ds gn).1):Int)+(1:Int):Int).toNat) Bk O (CM (B1 _)) ⟨_,pI Ax⟩ O AX (Nat.le_refl _) (I6 a (((CQ ((Cr ds gn).1):Int)+(1:Int):Int).toNat))) Az (BP O (fun _=>BL O O (EH (apply (apply ((By x gl).1) (a.take ((((((Cr ds gn).1).fixed:Int)+(1:Int):Int)+(((((Cr ds gn).1).ctors).length:Nat):Int):Int).toNat))) ((CA ds m).2.2.1)) (a.drop (((CQ ((Cr ds gn).1):Int)+(1:Int):Int).toNat)) AZ) O) Az (Bt A7 2 [4,1] O (A9 (⟨O,_,_,⟨_,_,O,(BI (i:=4) Bg O O Ap),⟨_,_,O,O,O⟩⟩,(CC (is:=[7]) O),?_⟩))))
 all_goals exact⟨rfl,rfl⟩
theorem _root_.Go.Ae {α:Prop}(h:α:=by first | rfl | simp[BM]):α:=h
theorem Tx:∀(n:Nat) (ds:List CX) (g:Tm) (a:List Tm) (b:Nat) (c c2:EK) (q:Option Tm),(qv ds n)→(Gz ds)→(okB g=true)→(∀x∈a,okB x=true)→(a.length<549755813888)→(Fk ds Dh (FF ds Dh n) n g a c= .ok (q,c2))→B2 Tryz.prog 41 [.p (.lst (List.map Bu ds)),.agg ((Bb g).map .p),.p (.lst (BN a)),.ptr b 0] [.box b ((He c).map .p)] (Gj (.tup [.agg ((Bb (q.getD Bp)).map .p),.p (.bool q.isSome)]) [.box b ((He c2).map .p)]):=by
 intro n ds g a b c c2 q hW h2 h3 h4 h5 h6;obtain⟨gk,gi,gn,gl,gs⟩:=g;have hgo:=CJ.1 h3;have hgl:=hgo.nd;simp only[Nd,Dq] at hgl;refine BF Tryz.func41 O rS (n:=143) O O (A6 (BO O (Ba O) fun b5=>BO O (BG B4 O) fun b8=>A1 A7 1 [] O (A6 (A5 A7 2 [1] O (A0 O (BL O O (SJ ds (.mk gk gi gn gl gs:Tm) h2.g.env) O) (A5 A7 3 [] O (BO O (BG Hw O) fun b10=>A1 A7 2 [0,1] O (A2 (A3 A7 2 [] O (A4 O (fun c1=>?_) (fun c1=>?_)))))))))))
 ·(try simp only[sd,se] at c1);have hq:=(Q5 (E:=ds) (S:=Dh) (W:=FF ds Dh n) (n:=n) (h:=(.mk gk gi gn gl gs:Tm)) (a:=a) (s:=c) c1).symm.trans h6;cases hq;refine A3 A7 3 [1,0] O (BQ (Bd (i:=1) O) (A9 (⟨O,_,_,⟨_,_,O,(BI (i:=1) Bg O O O),⟨_,_,O,O,O⟩⟩,(CC (is:=[3]) O),?_⟩)))
  all_goals exact⟨rfl,rfl⟩
 (try simp only[sd,se] at c1);have hu:=c1;obtain⟨ix,dd,e1,e2,e3,e4⟩:=JV hu;have hde:=e2.decl;have hdg:=h2.g.all _ e3;have hel:=h2.g.env.len;have hil:=(List.getElem?_eq_some_iff.1 e1).1;have hfx:=hdg.fx;have hnr:=Ia hdg;have hcl:=hdg.din.cl;have hfl:=hdg.din.fl;refine BA (A6 (A5 A7 2 [] O (A0 O (BB (i:=0) DO O O (DZ _)) (A0 O (BD Hz O O Ax (EG e4) (Cx _)) (A0 O (BU Fg O (Cx _)) (BO O (BG Iz O) fun b12=>A1 A7 1 [0,1] O (A2 (A6 (A0 O (A8 Fv O O) (A0 O (BB (i:=1) DO O O (DK _)) (Bq O (BJ (A3 A7 2 [] O (A4 O (fun c3=>?_) (fun c3=>?_)))))))))))))))
 ·(try simp only[sd,se] at c3);have hk1:=c3;refine A6 (A0 O (A8 DD O O) (A0 O (B6 (i:=0) Bg O O (FZ _) (BM _)) (A5 A7 2 [3] O (A0 O (BL O O (Kp dd.value gl (CJ.1 hdg.vl).nd hgl.2.1 hgl.2.2.1) O) (A5 A7 3 [] O (BO O (BG B4 O) fun b13=>A1 A7 2 [0,1] O (A2 (A3 A7 2 [] O (A4 O (fun c4=>?_) (fun c4=>?_))))))))))
  ·(try simp only[sd,se] at c4);have hq:=((Mg (E:=ds) (S:=Dh) (W:=FF ds Dh n) (n:=n) (h:=(.mk gk gi gn gl gs:Tm)) (a:=a) (s:=c) (d:=dd) hu e4 hk1).trans (KN (h:=(.mk gk gi gn gl gs:Tm)) c4)).symm.trans h6;cases hq;refine A3 A7 3 [3,0] O (BQ (Bd (i:=3) O) (A9 (⟨O,_,_,⟨_,_,O,(BI (i:=3) Bg O O O),⟨_,_,O,O,O⟩⟩,(CC (is:=[5]) O),?_⟩)))
   all_goals exact⟨rfl,rfl⟩
  (try simp only[sd,se] at c4);have hq:=((Mg (E:=ds) (S:=Dh) (W:=FF ds Dh n) (n:=n) (h:=(.mk gk gi gn gl gs:Tm)) (a:=a) (s:=c) (d:=dd) hu e4 hk1).trans (Kc (h:=(.mk gk gi gn gl gs:Tm)) c4)).symm.trans h6;obtain⟨hpo,hpe⟩:=HH (h:=(by rw[hq];simp));rw[hpe] at hq;cases hq;refine BA (A6 (A5 A7 2 [0] O (A0 O (CF [5] O (.inl ⟨O,O,O⟩) (Fb b c ((By dd.value gl).1) 0 (CJ.1 hpo).nd) ⟨_,_,O,O,O⟩ Aw O (.inl O)) (B3 O (A0 O (BL O O (EH ((By dd.value gl).1) a Ai) O) (A1 A7 2 [3,1] O (A9 (⟨O,_,_,⟨_,_,O,(BI (i:=3) Bg O O Ap),⟨_,_,O,O,O⟩⟩,(CC (is:=[5]) O),?_⟩))))))))
  all_goals exact⟨rfl,rfl⟩
 (try simp only[sd,se] at c3);have hk1:=c3;refine A3 A7 2 [] O (A4 O (fun c4=>?_) (fun c4=>?_))
 ·(try simp only[sd,se] at c4);have hk5:=c4;refine A2 (A6 (B3 O (A0 O (BT Bk O (Bc _)) (A0 O (Bf (i:=0) Fg O O Am) (A0 O (BL O O (KU dd hdg.din hdg.fx) O) (A1 A7 1 [] O (A4 O (fun c5=>?_) (fun c5=>?_))))))))
  ·(try simp only[sd,se] at c5);have hq:=((Pb (E:=ds) (S:=Dh) (W:=FF ds Dh n) (n:=n) (h:=(.mk gk gi gn gl gs:Tm)) (a:=a) (s:=c) (d:=dd) hu e4 hk5).trans (Zg Ax)).symm.trans h6;cases hq;refine A3 A7 3 [2,0] O (BQ (Bd (i:=2) O) (A9 (⟨O,_,_,⟨_,_,O,(BI (i:=2) Bg O O O),⟨_,_,O,O,O⟩⟩,(CC (is:=[4]) O),?_⟩)))
   all_goals exact⟨rfl,rfl⟩
  (try simp only[sd,se] at c5);refine BA (A2 (B0 (fun k=>false) Dt (BZ A7 6 [3,0] O (BP O (fun _=>BL O O (KU dd hdg.din hdg.fx) O) Az ?_))));obtain⟨x,hx⟩:=BE (l:=a) (i:=(CQ dd:Int).toNat) Ax;obtain⟨⟨r,d2⟩,hr1,hr2,hr3⟩:=Nn (((Pb (E:=ds) (S:=Dh) (W:=FF ds Dh n) (n:=n) (h:=(.mk gk gi gn gl gs:Tm)) (a:=a) (s:=c) (d:=dd) hu e4 hk5).trans (e8 Ax hx)).symm.trans h6);have hfd:=fj (Zv hu) hk5 e4;refine BP O (fun _=>BD Bk O O Ax (Bj hx) (BM _)) Az (BZ A7 2 [] O (FH O O (CF [4] O (.inl ⟨O,O,O⟩) (hW b x c d2 r hr1) ⟨_,_,O,O,O⟩ Aw O (.inl O)) AB Az (BP O (fun _=>Bi O) Az (FH O O (CF [4] O (.inl ⟨O,O,O⟩) (XL ds (.mk gk gi gn gl gs:Tm) a r b d2 c2 q h2.g (hfd▸e3) h3 hr2 (by rw[hfd];omega) h5 (by rw[hfd];exact hr3)) ⟨_,_,O,O,O⟩ Aw O (.inl O)) AB Az (Bt A7 4 [2,1] O (A9 (⟨O,_,_,⟨_,_,O,(BI (i:=2) Bg O O Ap),⟨_,_,O,O,O⟩⟩,(CC (is:=[4]) O),?_⟩)))))))
  all_goals exact⟨rfl,rfl⟩
 (try simp only[sd,se] at c4);have hk5:=c4;refine A3 A7 2 [] O (A4 O (fun c5=>?_) (fun c5=>?_))
 ·(try simp only[sd,se] at c5);have hk6:=c5;obtain⟨fk,ff,f1,f2⟩:=e2.func hk6;have hfi:=(List.getElem?_eq_some_iff.1 f1).1;have hff:dd.funs[(Bw ds (Tm.mk gk gi gn gl gs).name).1.item.toNat]?=some ff:=by rw[f2];simpa using f1
  have hfm:=List.mem_of_getElem? f1;have hfa:=hdg.fu ff hfm;refine A6 (A0 O (A8 DD O O) (A0 O (BB (i:=0) HW O O (CP _)) (A0 O (A8 Fv O O) (A0 O (BB (i:=1) DO O O (E2 _)) (A0 O (BD Gy O O Ax (ET hff) (DV _)) (A0 O (BU e7 O (DV _)) (BO O (BG bW O) fun b15=>A1 A7 1 [0,1] O (A2 (A6 (B3 O (A0 O (BT Bk O (Bc _)) (A0 O (A8 Gw O O) (A0 O (BB (i:=0) DO O O (CU _)) (A1 A7 1 [] O (A4 O (fun c6=>?_) (fun c6=>?_))))))))))))))))
  ·(try simp only[sd,se] at c6);have hq:=((PC (E:=ds) (S:=Dh) (W:=FF ds Dh n) (n:=n) (h:=(.mk gk gi gn gl gs:Tm)) (a:=a) (s:=c) (d:=dd) (f:=ff) hu e4 hk6 hff).trans (Tf Ax)).symm.trans h6;cases hq;refine A3 A7 3 [3,0] O (BQ (Bd (i:=3) O) (A9 (⟨O,_,_,⟨_,_,O,(BI (i:=3) Bg O O O),⟨_,_,O,O,O⟩⟩,(CC (is:=[5]) O),?_⟩)))
   all_goals exact⟨rfl,rfl⟩
  (try simp only[sd,se] at c6);have hl0:¬(a.length:Int)<ff.arity:=by omega
  refine BA (A2 ?_);obtain⟨⟨lq,d2⟩,hl1,hl2⟩:=GN (((PC (E:=ds) (S:=Dh) (W:=FF ds Dh n) (n:=n) (h:=(.mk gk gi gn gl gs:Tm)) (a:=a) (s:=c) (d:=dd) (f:=ff) hu e4 hk6 hff).trans (XA hl0)).symm.trans h6);have hlo:=SM h2.g _ _ _ _ _ _ _ (OQ h2 e3 hfm h4) hl1;refine IU [.box b15 ((FJ ff).map .p),.box b12 ((Bu dd).map .p),.box b10 ((Dn ((Bw ds (.mk gk gi gn gl gs:Tm).name).1)).map .p),.box b8 [.p (I 0),.p (I 0),.p (.str ⟨#[]⟩),.p (.nils),.p (.nils)],.box b5 [.p (I gk),.p (I gi),.p (.str gn),.p (.lst (List.map B9 gl)),.p (.lst (BN gs))],.box b ((He d2).map .p)] 8 [.val (.p (.lst (List.map Bu ds))),.val (.ptr b15 (0+7)),.val (.agg ((C5 ff.tree).map .p)),.val (.p (.lst (BN a))),.val (.ptr b15 (0+6)),.val (.p (I ff.arity)),.val (.p (.lst (BN (a.take ((ff.arity:Int).toNat))))),.val (.ptr b 0),.val (.tup [.agg ((Bb (KR lq)).map .p),.p (.lst (BN (Nq lq))),.p (.bool lq.1.isSome),.agg ((Bb lq.2).map .p)]),.val (.tup [.agg ((Bb (KR lq)).map .p),.p (.lst (BN (Nq lq))),.p (.bool lq.1.isSome),.agg ((Bb lq.2).map .p)]),.val (.agg ((Bb (KR lq)).map .p)),.val (.p (.lst (BN (Nq lq)))),.val (.p (.bool lq.1.isSome)),.val (.agg ((Bb lq.2).map .p)),.new [.p (I 0),.p (I 0),.p (.str ⟨#[]⟩),.p (.nils),.p (.nils)],.new [.p (I 0),.p (I 0),.p (.str ⟨#[]⟩),.p (.nils),.p (.nils)]] [.p .any,.p (.lst (BN (Nq lq))),.p (.bool lq.1.isSome),.p .any] [11,12,13] Dt O As As As O ?_ ?_
  ·exact Az
  refine Bz O O (fun Bs=>Bi O) (Bz O O (fun Bs=>A8 Gw O O) (GL O O O (fun Bs=>B6 (i:=Bs.length+0) JJ O (Ck O) (D5 _) (Cy _)) (fun Bs=>B6 (i:=Bs.length+0) JJ O (Ck O) (D5 _) (Cy _)) (Bz O O (fun Bs=>Bi O) (Bz O O (fun Bs=>A8 Gw O O) (GL O O O (fun Bs=>BB (i:=Bs.length+0) DO O (Ck O) (CU _)) (fun Bs=>BB (i:=Bs.length+0) DO O (Ck O) (CU _)) (Bz O O (fun Bs=>Cc (lo:=0) (hi:=(ff.arity:Int).toNat) Bk O (CM (B1 _)) O ⟨_,pI Ax⟩ (Nat.zero_le _) AX (M1 a ((ff.arity:Int).toNat))) (Bz O O (fun Bs=>Bi O) ?_)))))));refine J6 O (fun Bs=>G3 [5] O (.inl ⟨O,O,O⟩) (cg n n ds ff.tree (a.take ((ff.arity:Int).toNat)) b c d2 lq hW h2.g (OQ h2 e3 hfm h4) hl1) ⟨_,_,O,O,O⟩ Aw O (aw (we O) (aw (we O) (aw (we O) (aw (we O) (FM)))))) (Bz O O (fun Bs=>Bi O) (Bz O O (fun Bs=>Dk O O) (Bz O O (fun Bs=>Dk O O) (Bz O O (fun Bs=>Dk O O) (Bz O O (fun Bs=>Dk O O) (PD O O (fun Bs=>BG B4 O) fun b16=>PD O O (fun Bs=>BG B4 O) fun b19=>KH ?_))))));refine EB [.box b16 ((Bb (KR lq)).map .p),.box b19 [.p (I 0),.p (I 0),.p (.str ⟨#[]⟩),.p (.nils),.p (.nils)],.box b15 ((FJ ff).map .p),.box b12 ((Bu dd).map .p),.box b10 ((Dn ((Bw ds (.mk gk gi gn gl gs:Tm).name).1)).map .p),.box b8 [.p (I 0),.p (I 0),.p (.str ⟨#[]⟩),.p (.nils),.p (.nils)],.box b5 [.p (I gk),.p (I gi),.p (.str gn),.p (.lst (List.map B9 gl)),.p (.lst (BN gs))],.box b ((He d2).map .p)] O (Cq (i:=0) Bg O O O Ap Ae (FD _)) ?_;refine EB [.box b16 ((Bb (KR lq)).map .p),.box b19 [.p (I 0),.p (I 0),.p (.str ⟨#[]⟩),.p (.nils),.p (.nils)],.box b15 ((FJ ff).map .p),.box b12 ((Bu dd).map .p),.box b10 ((Dn ((Bw ds (.mk gk gi gn gl gs:Tm).name).1)).map .p),.box b8 [.p (I 0),.p (I 0),.p (.str ⟨#[]⟩),.p (.nils),.p (.nils)],.box b5 [.p (I gk),.p (I gi),.p (.str gn),.p (.lst (List.map B9 gl)),.p (.lst (BN gs))],.box b ((He d2).map .p)] O (EY O) ?_;refine EB [.box b16 ((Bb (KR lq)).map .p),.box b19 [.p (I 0),.p (I 0),.p (.str ⟨#[]⟩),.p (.nils),.p (.nils)],.box b15 ((FJ ff).map .p),.box b12 ((Bu dd).map .p),.box b10 ((Dn ((Bw ds (.mk gk gi gn gl gs:Tm).name).1)).map .p),.box b8 [.p (I 0),.p (I 0),.p (.str ⟨#[]⟩),.p (.nils),.p (.nils)],.box b5 [.p (I gk),.p (I gi),.p (.str gn),.p (.lst (List.map B9 gl)),.p (.lst (BN gs))],.box b ((He d2).map .p)] O (EY O) ?_
  refine EB [.box b16 ((Bb (KR lq)).map .p),.box b19 ((Bb lq.2).map .p),.box b15 ((FJ ff).map .p),.box b12 ((Bu dd).map .p),.box b10 ((Dn ((Bw ds (.mk gk gi gn gl gs:Tm).name).1)).map .p),.box b8 [.p (I 0),.p (I 0),.p (.str ⟨#[]⟩),.p (.nils),.p (.nils)],.box b5 [.p (I gk),.p (I gi),.p (.str gn),.p (.lst (List.map B9 gl)),.p (.lst (BN gs))],.box b ((He d2).map .p)] O (Cq (i:=1) Bg O O O Ap Ae (FD _)) (J7 (A2 (A2 (Be [2,3,5,8,15,16,17] 114 (fun y=>y= .p (.bool ((!lq.1.isSome)||d2.over))) ?_ ?_))))
  ·refine BC (A5 A7 3 [] O (BY 109 O (fun g1=>?_) (fun g1=>?_)))
   ·(try simp only[sd,se] at g1);exact A1 A7 5 [] O (⟨O,O,AP,AJ,⟨O,O,O,O,O,O,O,Az⟩⟩)
   (try simp only[sd,se] at g1);exact A1 A7 5 [7] O (⟨O,O,AP,AJ,⟨O,O,O,O,O,O,O,Az⟩⟩)
  rintro _ rfl;refine A4 O (fun c7=>?_) (fun c7=>?_)
  ·(try simp only[sd,se] at c7);rw[R2 (by simpa [Dh] using c7)] at hl2;cases hl2;refine A3 A7 3 [5,0] O (BQ (Bd (i:=5) O) (A9 (⟨O,_,_,⟨_,_,O,(BI (i:=5) Bg O O O),⟨_,_,O,O,O⟩⟩,(CC (is:=[7]) O),?_⟩)))
   all_goals exact⟨rfl,rfl⟩
  (try simp only[sd,se] at c7);rw[SL (by simpa using c7.1) (by simpa [Dh] using c7.2)] at hl2;refine BA (A6 (A5 A7 3 [0,6] O (A0 O (BL O O (Kp (KR lq) gl (CJ.1 hlo.1).nd hgl.2.1 hgl.2.2.1) O) (A5 A7 3 [] O (BO O (BG B4 O) fun b20=>A1 A7 2 [0,1] O (A2 (A3 A7 2 [] O (A4 O (fun c8=>?_) (fun c8=>?_)))))))))
  ·(try simp only[sd,se] at c8);rw[JU (h:=(.mk gk gi gn gl gs:Tm)) c8] at hl2;cases hl2;refine A3 A7 3 [6,0] O (BQ (Bd (i:=6) O) (A9 (⟨O,_,_,⟨_,_,O,(BI (i:=6) Bg O O O),⟨_,_,O,O,O⟩⟩,(CC (is:=[8]) O),?_⟩)))
   all_goals exact⟨rfl,rfl⟩
  (try simp only[sd,se] at c8);obtain⟨hb1,hb2,hb3,hb4⟩:=QZ (by rw[hl2];simp) c8;rw[hb4] at hl2;obtain⟨hpo,hpe⟩:=HH (h:=(by rw[hl2];simp));rw[hpe] at hl2;cases hl2;refine BA (A2 (B0 (fun k=>false) Dt (BZ A7 2 [0] O (BP O (fun _=>BL O O (N7 (Nq lq) Ai) O) Az ?_))));refine BP O (fun _=>BL O O (Kg ((By (KR lq) gl).1) ((Nq lq).reverse) (by have:=FA (t:=(By (KR lq) gl).1) hb1;omega) (CJ.1 hb1).nd (E8 (YB hb2)).1 (by rw[PU];omega)) O) Az ?_;refine Bt A7 5 [0,1] O (A2 (B0 (fun k=>false) Dt (BZ A7 3 [0] O (FH O O (CF [8] O (.inl ⟨O,O,O⟩) (Fb b (EK.mk d2.steps d2.nodes d2.forms d2.limit d2.over) ((CT ((By (KR lq) gl).1) ((Nq lq).reverse) 0).1) ((CT ((By (KR lq) gl).1) ((Nq lq).reverse) 0).2) (CJ.1 hpo).nd) ⟨_,_,O,O,O⟩ Aw O (.inl O)) AB Az (BZ A7 2 [] O (CY (j:=3) O O O (fun H i hi=>BB (i:=i) DO O hi (CU _)) AB Az (BP O (fun _=>Cc (lo:=(ff.arity:Int).toNat) Bk O (CM (B1 _)) ⟨_,pI Ax⟩ O AX (Nat.le_refl _) (I6 a ((ff.arity:Int).toNat))) Az (BP O (fun _=>BL O O (EH ((CT ((By (KR lq) gl).1) ((Nq lq).reverse) 0).1) (a.drop ((ff.arity:Int).toNat)) AZ) O) Az (Bt A7 2 [6,1] O (A9 ?_))))))))));refine⟨O,_,_,⟨_,_,O,(BI (i:=6) Bg O O Ap),⟨_,_,O,O,O⟩⟩,(CC (is:=[8]) O),?_⟩
  all_goals exact⟨rfl,rfl⟩
 (try simp only[sd,se] at c5);have hq:=(Ly (E:=ds) (S:=Dh) (W:=FF ds Dh n) (n:=n) (h:=(.mk gk gi gn gl gs:Tm)) (a:=a) (s:=c) hu hk1 hk5 c5).symm.trans h6;cases hq;refine BA (A3 A7 3 [2,0] O (BQ (Bd (i:=2) O) (A9 (⟨O,_,_,⟨_,_,O,(BI (i:=2) Bg O O O),⟨_,_,O,O,O⟩⟩,(CC (is:=[4]) O),?_⟩))))
 all_goals exact⟨rfl,rfl⟩
end Go.Proofs.YtboammbpdaoojaaGreat
namespace Go.Eu
open Go.Abs
theorem Hr {k i:Int}{n:ByteArray}{l:List Ci}{ks:List Tm}(h:okB (.mk k i n l ks)=true):(k=5→ks.length=2)∧(k=11→ks.length=3)∧(k=9∨k=10→ks.length=1)∧(k=8→ks.length=3):=by
 have hw:=(CJ.1 h).wt;simp only[Wt] at hw;have h1:=hw.1;unfold arity at h1;refine⟨fun e=>?_,fun e=>?_,fun e=>?_,fun e=>?_⟩
 ·rw[if_pos Ax] at h1;omega
 ·rw[if_neg Ax,if_pos Ax] at h1;omega
 ·rw[if_neg Ax,if_neg Ax,if_pos Ax] at h1;omega
 rw[if_neg Ax,if_pos Ax] at h1;omega
theorem Pd {l:List Tm}{v:Tm}(h:l[1]?=some v):(l.take 2).drop 1=[v]:=by
 cases l with
 | nil=>simp at h
 | cons a l =>
  cases l with
  | nil=>simp at h
  | cons b l=>simp at h;subst h;rfl
section
variable {E:List CX}{σ:Type}{S:Sys σ}{n:Nat}{t:Tm}{s:σ}
theorem di {q:Option Tm}(h:q.isSome=false):cj E S n t (q,s)= .ok (t,s):=by
 cases q with
 | none=>rfl
 | some x=>cases h
theorem ft {q:Option Tm}(h:q.isSome=true):cj E S n t (q,s)=FF E S n s (q.getD Bp):=by
 cases q with
 | none=>cases h
 | some x=>rfl
end
structure p8 (w:Tm):Prop where
 ok:okB w=true
 nd:Nd w
 sz:size w<549755813888
 len:(BH w).2.length<549755813888
 head:okB (BH w).1=true
 args:∀x∈(BH w).2,okB x=true
 asz:Bl (BH w).2+(BH w).2.length<size w
theorem Rp {w:Tm}(h:okB w=true):p8 w:=by
 have h1:=FA h;have h2:=GC w;have h3:=size_pos (BH w).1;exact⟨h,(CJ.1 h).nd,h1,by omega,(IJ h).1,(IJ h).2,by omega⟩
theorem Sz {l:List Tm}(h:∀x∈l,okB x=true):Lx (l.take 1):=(E8 fun v hv=>h v (List.mem_of_mem_take hv)).1
end Go.Eu
namespace Go.Proofs.YtboammbpdaoojaaGreat
open Go.Abs Go.Eu
theorem _root_.Go.AU {α:Prop}(h:α:=by first | decide | (simp only[Bc];omega)):α:=h
set_option maxHeartbeats 4000000 in
theorem ek:∀(ds:List CX) (hE:Gz ds) (n:Nat),qv ds n:=by
 intro ds hE n
 induction n using Nat.strongRecOn with
 | ind n ih =>
  intro b t c c2 r h1;refine BF Tryz.func14 O sv (n:=118) O O (A6 (BO O (Ba O) fun b4=>BO O (BG B4 O) fun b6=>Bq O (A2 (BJ (Bn (α:=Nat×Tm×EK) (fun(m,w,d)=>⟨118,mk [(0,.p (.lst (List.map Bu ds))),(2,.ptr b 0),(4,.ptr b4 0),(6,.ptr b6 0)],[.box b6 [.p (I 0),.p (I 0),.p (.str ⟨#[]⟩),.p (.nils),.p (.nils)],.box b4 ((Bb w).map .p),.box b ((He d).map .p)],[]⟩) (fun(m,w,d)=>m) (fun(m,w,d)=>FF ds Dh m d w= .ok (r,c2)∧m≤n) ⟨n,t,c⟩ (⟨h1,Nat.le_refl _⟩) ?_ ?_)))))
  ·exact Bh ⟨we O,we O,we O,we O,Az⟩ (leH (is:=[0,1,2]) O (wl (oe O) (wl (oe O) (wl (oe O) (DJ)))))
  rintro⟨m,w,d⟩ hC
  try simp only at hC
  obtain⟨hC,hmn⟩:=hC;obtain⟨k,rfl⟩:=ZH hC Ay;have hwo:=ed hC Ay;have hsp:=Rp hwo;have hsl:=hsp.len;have hss:=hsp.sz;have hsa:=hsp.asz;refine A2 (A3 A7 5 [2] O (A4 O (fun c1=>?_) (fun c1=>?_)))
  ·(try simp only[sd,se] at c1);have hov:Dh.over d=false:=by simpa [Dh] using c1
   refine BA (BJ (A6 (A0 O (Bf (i:=1) Bg O O Ap) (A0 O (BL O O (Nu _ w (Nat.le_refl _) Ai) O) (A5 A7 3 [] O (BO O (BG B4 O) fun b7=>A1 A7 2 [0,1] O (A6 (A0 O (A8 HA O O) ?_))))))));generalize hz:(BH w).1=z;obtain⟨zk,zi,zn,zl,zs⟩:=z;have hzo:okB (.mk zk zi zn zl zs)=true:=hz▸hsp.head;have hzl:=Hr hzo;have hzn:=(CJ.1 hzo).nd;refine A1 A7 1 [0] O (BJ (A3 A7 2 [] O (A4 O (fun c3=>?_) (fun c3=>?_))))
   ·(try simp only[sd,se] at c3);have hk:=(congrArg Tm.kind hz).trans c3;refine A2 (A6 (B3 O (A0 O (BT Bk O (Bc _)) (A1 A7 1 [] O (A4 O (fun c4=>?_) (fun c4=>?_))))))
    ·(try simp only[sd,se] at c4);have hq:=(Y3 hwo hov rfl hk Ax).symm.trans hC;cases hq;refine A3 A7 2 [2,1,1] O (A9 (⟨O,_,_,⟨_,_,O,(BI (i:=1) Bg O O Ap),O⟩,(CC (is:=[3]) O),?_⟩))
     all_goals exact⟨rfl,rfl⟩
    (try simp only[sd,se] at c4);refine BA (A2 (B0 (fun k=>Nat.beq k 10) Dt (BZ A7 2 [0] O ?_)));obtain⟨x,hx⟩:=BE (l:=zs) (i:=1) Ax;have hxo:=E0 hzo (i:=1) hx;have hq:=(gJ hwo hov rfl hk Ax (by rw[hz];exact hx)).symm.trans hC;obtain⟨hpo,hpe⟩:=HH (h:=(by rw[hq];simp));rw[hpe] at hq;refine BP O (fun _=>BD Bk O O Ax (Bj hx) (BM _)) Az (BZ A7 2 [] O (BP O (fun _=>Cc (lo:=0) (hi:=1) Bk O (CM (B1 _)) O ⟨_,O⟩ (Nat.zero_le _) AX (M1 ((BH w).2) 1)) Az (BP O (fun _=>BL O O (Kg x (((BH w).2).take 1) (by have:=FA hxo;omega) (CJ.1 hxo).nd (Sz hsp.args) (by have:=DL (BH w).2 1;omega)) O) Az (BZ A7 3 [] O (GA [] O O (BG B4 O) As fun b9=>⟨AB,Az,?_⟩)))));refine Bt A7 2 [0,1] O (B0 (fun k=>false) Dt (BZ A7 3 [0] O (FH O O (CF [4] O (.inl ⟨O,O,O⟩) (Fb b (EK.mk d.steps d.nodes d.forms d.limit d.over) ((CT x (((BH w).2).take 1) 0).1) ((CT x (((BH w).2).take 1) 0).2) (CJ.1 hpo).nd) ⟨_,_,O,O,O⟩ Aw O (.inl O)) AB Az (BP O (fun _=>Bi O) Az (BP O (fun _=>Cc (lo:=1) Bk O (CM (B1 _)) ⟨_,O⟩ O AX (Nat.le_refl _) (I6 ((BH w).2) 1)) Az (BP O (fun _=>BL O O (EH ((CT x (((BH w).2).take 1) 0).1) (((BH w).2).drop 1) AZ) O) Az (Bt A7 1 [3,1] O ?_)))))));refine⟨⟨k,(apply ((CT x (((BH w).2).take 1) 0).1) (((BH w).2).drop 1)),((EK.mk d.steps d.nodes d.forms d.limit d.over).result ((CT x (((BH w).2).take 1) 0).1) ((CT x (((BH w).2).take 1) 0).2))⟩,Ac,⟨hq,by omega⟩,Bh ⟨we rfl,we rfl,we rfl,we rfl,trivial⟩ (leH (is:=[2,3,4]) rfl (wl (oe rfl) (wl (oe rfl) (wl (oe rfl) (DJ)))))⟩
   (try simp only[sd,se] at c3);refine A3 A7 2 [] O (A4 O (fun c4=>?_) (fun c4=>?_))
   ·(try simp only[sd,se] at c4);have hk:=(congrArg Tm.kind hz).trans c4;refine A2 (B0 (fun k=>Nat.beq k 11) Dt (BZ A7 2 [0] O ?_));obtain⟨x,hx⟩:=BE (l:=zs) (i:=2) Ax;have hxo:=E0 hzo (i:=2) hx;obtain⟨v,hv⟩:=BE (l:=zs) (i:=1) Ax;have hvo:=E0 hzo (i:=1) hv;have hq:=(da hwo hov rfl hk (by rw[hz];exact hv) (by rw[hz];exact hx)).symm.trans hC;rw[←Pd hv] at hq;obtain⟨hpo,hpe⟩:=HH (h:=(by rw[hq];simp));rw[hpe] at hq;refine BP O (fun _=>BD Bk O O Ax (Bj hx) (BM _)) Az (BZ A7 3 [0] O (BP O (fun _=>Cc (lo:=1) (hi:=2) Bk O (CM (B1 _)) ⟨_,O⟩ ⟨_,O⟩ AU AU (cN zs 1 2)) Az (BP O (fun _=>BL O O (Kg x ((zs.take 2).drop 1) (by have:=FA hxo;omega) (CJ.1 hxo).nd (by rw[Pd hv];exact⟨(CJ.1 hvo).nd,trivial⟩) (by rw[Pd hv];have:=FA hvo;simp only[Bl];omega)) O) Az (BZ A7 3 [] O (GA [] O O (BG B4 O) As fun b11=>⟨AB,Az,?_⟩)))));refine Bt A7 2 [0,1] O (BC (A5 A7 3 [0] O (A0 O (CF [4] O (.inl ⟨O,O,O⟩) (Fb b (EK.mk d.steps d.nodes d.forms d.limit d.over) ((CT x ((zs.take 2).drop 1) 0).1) ((CT x ((zs.take 2).drop 1) 0).2) (CJ.1 hpo).nd) ⟨_,_,O,O,O⟩ Aw O (.inl O)) (B3 O (A0 O (BL O O (EH ((CT x ((zs.take 2).drop 1) 0).1) ((BH w).2) AZ) O) (A1 A7 1 [3,1] O ?_))))));refine⟨⟨k,(apply ((CT x ((zs.take 2).drop 1) 0).1) ((BH w).2)),((EK.mk d.steps d.nodes d.forms d.limit d.over).result ((CT x ((zs.take 2).drop 1) 0).1) ((CT x ((zs.take 2).drop 1) 0).2))⟩,Ac,⟨hq,by omega⟩,Bh ⟨we rfl,we rfl,we rfl,we rfl,trivial⟩ (leH (is:=[2,3,4]) rfl (wl (oe rfl) (wl (oe rfl) (wl (oe rfl) (DJ)))))⟩
   (try simp only[sd,se] at c4);refine A2 (A3 A7 2 [] O (Be [0,2,4,6,7,8,27] 71 (fun y=>y= .p (.bool (decide (zk=9∨zk=10)))) ?_ ?_))
   ·refine A4 O (fun c5=>?_) (fun c5=>?_)
    ·(try simp only[sd,se] at c5);exact BA (⟨O,O,(List.Sublist.refl _),(by refine pB (Bool.eq_iff_iff.2 ?_);simp only[beq_iff_eq,decide_eq_true_eq];omega),⟨O,O,O,O,O,O,O,Az⟩⟩)
    (try simp only[sd,se] at c5);exact BC (A1 A7 2 [] O (⟨O,O,(List.Sublist.refl _),(by refine pB (Bool.eq_iff_iff.2 ?_);simp only[beq_iff_eq,decide_eq_true_eq];omega),⟨O,O,O,O,O,O,O,Az⟩⟩))
   rintro _ rfl;refine A4 O (fun c5=>?_) (fun c5=>?_)
   ·(try simp only[sd,se] at c5);have hk9:zk=9∨zk=10:=by simpa using c5
    refine A6 (A5 A7 3 [0] O ?_);obtain⟨x,hx⟩:=BE (l:=zs) (i:=0) Ax;obtain⟨⟨pr,d2⟩,hr1,hr2,hr3⟩:=Nn ((Z2 hwo hov rfl (by rw[hz];exact hk9) (by rw[hz];exact hx)).symm.trans hC);refine A0 O (BD Bk O O Ax (Bj hx) (BM _)) (A5 A7 2 [] O (A0 O (CF [3] O (.inl ⟨O,O,O⟩) (ih k Ax b x (EK.mk d.steps d.nodes d.forms d.limit d.over) d2 pr hr1) ⟨_,_,O,O,O⟩ Aw O (.inl O)) (BO O (BG B4 O) fun b13=>A1 A7 1 [0,1] O (A2 (A6 (A0 O (A8 HA O O) ?_))))));obtain⟨prk,pri,prn,prl,prs⟩:=pr;have hprl:=Hr hr2;refine A1 A7 2 [0] O (A4 O (fun c6=>?_) (fun c6=>?_))
    ·(try simp only[sd,se] at c6);rw[WZ (r:=(Tm.mk prk pri prn prl prs,d2)) c6] at hr3;cases hr3;refine A6 (A5 A7 3 [1,0] O (A0 O (Br Bk B4 O O O O O) (A5 A7 2 [] O (A0 O (GR O O (EH (.mk zk 0 ⟨#[]⟩ [] [(.mk prk pri prn prl prs:Tm)]:Tm) ((BH w).2) AZ) (aw (Dv O) (aw (we O) (FM)))) (A1 A7 1 [2,1] O (A9 (⟨O,_,_,⟨_,_,O,(BI (i:=2) Bg O O Ap),O⟩,(CC (is:=[4]) O),?_⟩)))))))
     all_goals exact⟨by show (.agg ((Bb (apply (.mk zk 0 ⟨#[]⟩ [] [(.mk prk pri prn prl prs:Tm)]:Tm) ((BH w).2))).map .p):AV)=_;rw[hz];rfl,rfl⟩
    (try simp only[sd,se] at c6);have hp8:=c6;refine BA (BC (A5 A7 7 [0,1] O ?_));obtain⟨x1,hx1⟩:=BE (l:=prs) (i:=(((1:Int)+(zk:Int):Int) - (9:Int):Int).toNat) Ax;have hxo:=E0 hr2 (i:=(1+zk - 9).toNat) hx1;have hq:=(XG (r:=(Tm.mk prk pri prn prl prs,d2)) (h:=(BH w).1) hp8 (by rw[hz];exact hx1)).symm.trans hr3;obtain⟨hpo,hpe⟩:=HH (h:=(by rw[hq];simp));rw[hpe] at hq;refine A0 O (BD Bk O O Ax (Bj hx1) (BM _)) (A0 O (BU Bg O (BM _)) (A0 O (CF [4] O (.inl ⟨O,O,O⟩) (Fb b d2 x1 0 (CJ.1 hpo).nd) ⟨_,_,O,O,O⟩ Aw O (.inl O)) (B3 O (A0 O (BL O O (EH x1 ((BH w).2) AZ) O) (A1 A7 1 [3,1] O ?_)))));refine⟨⟨k,(apply x1 ((BH w).2)),(d2.result x1 0)⟩,Ac,⟨hq,by omega⟩,Bh ⟨we rfl,we rfl,we rfl,we rfl,trivial⟩ (leH (is:=[2,3,4]) rfl (wl (oe rfl) (wl (oe rfl) (wl (oe rfl) (DJ)))))⟩
   (try simp only[sd,se] at c5);refine A3 A7 2 [] O (A4 O (fun c6=>?_) (fun c6=>?_))
   ·(try simp only[sd,se] at c6);have hk:=(congrArg Tm.kind hz).trans c6;refine A6 (A5 A7 4 [0] O ?_);obtain⟨⟨q,d2⟩,hc1,hc2⟩:=GN ((Vj hwo hov rfl hk).symm.trans hC);refine A0 O (CF [3] O (.inl ⟨O,O,O⟩) (Tx k ds (.mk zk zi zn zl zs:Tm) ((BH w).2) b (EK.mk d.steps d.nodes d.forms d.limit d.over) d2 q (ih k Ax) hE hzo hsp.args Ax (by rw[←hz];exact hc1)) ⟨_,_,O,O,O⟩ Aw O (.inl O)) (A5 A7 3 [] O (BO O (BG B4 O) fun b14=>A1 A7 2 [0,1] O (A2 (A3 A7 2 [] O (A4 O (fun c7=>?_) (fun c7=>?_))))))
    ·(try simp only[sd,se] at c7);rw[di (by simpa using c7)] at hc2;cases hc2;refine A3 A7 2 [3,2,1] O (A9 (⟨O,_,_,⟨_,_,O,(BI (i:=2) Bg O O Ap),O⟩,(CC (is:=[4]) O),?_⟩))
     all_goals exact⟨rfl,rfl⟩
    (try simp only[sd,se] at c7);rw[ft (by simpa using c7)] at hc2;have hq:=hc2;refine BA (BC (A1 A7 2 [0,3,1] O ?_));refine⟨⟨k,(q.getD Bp),d2⟩,Ac,⟨hq,by omega⟩,Bh ⟨we rfl,we rfl,we rfl,we rfl,trivial⟩ (leH (is:=[2,3,4]) rfl (wl (oe rfl) (wl (oe rfl) (wl (oe rfl) (DJ)))))⟩
   (try simp only[sd,se] at c6);have hq:=(kR hwo hov rfl (by rw[hz];assumption) (by rw[hz];assumption) (by rw[hz];show ¬zk=9;omega) (by rw[hz];show ¬zk=10;omega) (by rw[hz];assumption)).symm.trans hC;cases hq;refine A3 A7 2 [2,1,1] O (A9 (⟨O,_,_,⟨_,_,O,(BI (i:=1) Bg O O Ap),O⟩,(CC (is:=[3]) O),?_⟩))
   all_goals exact⟨rfl,rfl⟩
  (try simp only[sd,se] at c1);have hq:=(jk (S:=Dh) (E:=ds) (n:=k) hwo (by simpa [Dh] using c1)).symm.trans hC;cases hq;refine Bo (A3 A7 2 [1,0,1] O (A9 (⟨O,_,_,⟨_,_,O,(BI (i:=0) Bg O O Ap),O⟩,(CC (is:=[2]) O),?_⟩)))
  all_goals exact⟨rfl,rfl⟩
end Go.Proofs.YtboammbpdaoojaaGreat
namespace Go.Eu
open Go.Abs
section
variable {E:List CX}{σ:Type}{S:Sys σ}{R:σ→σ→Prop}
structure kp (S:Sys σ) (R:σ→σ→Prop):Prop where
 rf:∀s,R s s
 tr:∀{a b c},R a b→R b c→R a c
 rs:∀{s t e s'},S.res s t e=some s'→R s s'
variable (h:kp S R)
include h
theorem MN {α:Type}{s:σ}{x:Tm×Int}{k:Tm→σ→Out (α×σ)}{q:α×σ}(hk:∀t s' q,k t s'= .ok q→R s' q.2) (hq:S.put s x k= .ok q):R s q.2:=by
 unfold Sys.put at hq;split at hq
 ·cases hs:S.res s x.1 x.2 with
  | none=>rw[hs] at hq;cases hq
  | some s'=>rw[hs] at hq;exact h.tr (h.rs hs) (hk _ _ _ hq)
 cases hq
theorem Rt {W:σ→Tm→Out (Tm×σ)}(hW:∀s t q,W s t= .ok q→R s q.2):∀(k:Nat) (t:FY) (vs:List Tm) (l:Tm) (s:σ) (q:(Option (Tm×List Tm)×Tm)×σ),E4 E S W k t vs l s= .ok q→R s q.2
 | 0,t,vs,l,s,q,hq=>by rw[E4] at hq;cases hq
 | k+1,t,vs,l,s,q,hq=>by
  by_cases hk:t.kind=1
  ·by_cases hb:t.var<0∨t.var≥(vs.length:Int)∨S.over s=true
   ·rw[Of hk hb] at hq;cases hq;exact h.rf _
   have hlt:t.var.toNat<vs.length:=by omega
   rw[Qb hk hb (List.getElem?_eq_getElem hlt)] at hq;obtain⟨r,h1,h2,h3⟩:=Nn hq;have hr:=hW _ _ _ h1;cases hc:DQ E r.1 with
   | none=>rw[Kj hc] at h3;cases h3;exact hr
   | some p =>
    obtain⟨d,j,f⟩:=p;cases hbr:C3 (El d j).name t.branches with
    | none=>rw[Nv hc hbr] at h3;cases h3;exact hr
    | some t'=>rw[OP hc hbr] at h3;exact h.tr hr (Rt hW k t' _ _ _ _ h3)
  rw[Mi hk] at hq;cases hq;exact h.rf _
theorem ew {d:CX}{g m:Tm}{a:List Tm}{s:σ}{q:Option Tm×σ}(hq:FG E S d g a m s= .ok q):R s q.2:=by
 unfold FG at hq;split at hq
 ·cases hq;exact h.rf _
 split at hq
 ·cases hq;exact h.rf _
 split at hq
 ·cases hq;exact h.rf _
 exact MN h (fun t s' q e=>by cases e;exact h.rf _) hq
theorem dm {g b:Tm}{vs rest:List Tm}{s:σ}{q:Option Tm×σ}(hq:Gr S g b vs rest s= .ok q):R s q.2:=by
 unfold Gr at hq;split at hq
 ·cases hq;exact h.rf _
 split at hq
 ·cases hq
 exact MN h (fun t s' q e=>by cases e;exact h.rf _) hq
theorem bz {d:CX}{g:Tm}{a:List Tm}{s:σ}{q:Option Tm×σ}(hq:FB S d g a s= .ok q):R s q.2:=by
 unfold FB at hq;split at hq
 ·cases hq;exact h.rf _
 exact MN h (fun t s' q e=>by cases e;exact h.rf _) hq
theorem Tc {W:σ→Tm→Out (Tm×σ)}(hW:∀s t q,W s t= .ok q→R s q.2) {n:Nat}{g:Tm}{a:List Tm}{s:σ}{q:Option Tm×σ}(hq:Fk E S W n g a s= .ok q):R s q.2:=by
 unfold Fk at hq;split at hq
 ·cases hq;exact h.rf _
 split at hq
 ·exact bz h hq
 split at hq
 ·unfold Sa at hq;split at hq
  ·cases hq;exact h.rf _
  obtain⟨r,h1,h2,h3⟩:=Nn hq;exact h.tr (hW _ _ _ h1) (ew h h3)
 split at hq
 ·unfold KE at hq;split at hq
  ·cases hq;exact h.rf _
  obtain⟨r,h1,h2⟩:=GN hq;have hr:=Rt h hW _ _ _ _ _ _ h1;split at h2
  ·cases h2;exact hr
  split at h2
  ·cases h2;exact hr
  exact h.tr hr (dm h h2)
 cases hq;exact h.rf _
theorem VR:∀(n:Nat) (s:σ) (t:Tm) (q:Tm×σ),FF E S n s t= .ok q→R s q.2
 | 0,s,t,q,hq=>by rw[FF] at hq;cases hq
 | n+1,s,t,q,hq=>by
  have ih:=VR n;rw[FF] at hq;split at hq
  ·cases hq
  split at hq
  ·cases hq;exact h.rf _
  split at hq
  ·cases hq
  split at hq
  ·split at hq
   ·cases hq;exact h.rf _
   unfold L1 at hq;split at hq
   ·cases hq
   exact MN h (fun t s' q e=>ih _ _ _ e) hq
  split at hq
  ·unfold Q2 at hq;split at hq
   ·exact MN h (fun t s' q e=>ih _ _ _ e) hq
   cases hq
  split at hq
  ·split at hq
   ·cases hq
   obtain⟨r,h1,h2,h3⟩:=Nn hq;have hr:=ih _ _ _ h1;split at h3
   ·cases h3;exact hr
   unfold LP at h3;split at h3
   ·cases h3
   exact h.tr hr (MN h (fun t s' q e=>ih _ _ _ e) h3)
  split at hq
  ·obtain⟨r,h1,h2⟩:=GN hq;have hr:=Tc h ih h1;split at h2
   ·cases h2;exact hr
   exact h.tr hr (ih _ _ _ h2)
  cases hq;exact h.rf _
end
theorem KL:kp CN (fun a b=>b≤a∧(0≤a→0≤b)):=by
 refine⟨fun s=>⟨Int.le_refl _,fun h=>h⟩,fun h1 h2=>⟨by omega,fun h=>h2.2 (h1.2 h)⟩,fun h=>?_⟩;simp only[CN] at h;split at h
 ·cases h
 cases h;omega
theorem Qm {E:List CX}{n:Nat}{s s':Int}{t r:Tm}(h:G0 s) (hq:FF E CN n s t= .ok (r,s')):G0 s':=by
 have h1:=VR KL n s t _ hq;have h2:=h.1;have h3:=h.2;exact⟨h1.2 h2,by have:=h1.1;simp only at this;omega⟩
def Lk (n:Int):Except Int Unit:=if n - 1<0 then .error 0 else .ok ()
def Jg (n:Int) (x:Tm×Int):Except Int (Tm×Int):=if n - 1<0∨x.2≠0 then .error 0 else .ok (x.1,n - 1)
theorem pj {n:Int}(h:0≤n - 1):Lk n= .ok ():=by rw[Lk,if_neg Ax]
theorem oL {n:Int}(h:n - 1<0):Lk n= .error 0:=by rw[Lk,if_pos h]
end Go.Eu
namespace Go.Eu
theorem VW {t:Tm}{vs:List Tm}(ht:okB t=true) (hv:∀v∈vs,okB v=true) (hl:vs.length<549755813888):GK t vs 0=CT t vs 0 :=
 ae (Zk hv hl) (CJ.1 ht).wt (CJ.1 ht).vp (by have:=FA ht;omega)
theorem gB {n e:Int}{x:Tm×Int}(h:Lk n= .error e):Jg n x= .error e:=by
 unfold Lk at h;split at h
 ·rename_i hn;cases h;rw[Jg,if_pos (.inl hn)]
 cases h
theorem ou {n:Int}{t:Tm}{vs:List Tm}(hn:0≤n) (ht:okB t=true) (hv:∀v∈vs,okB v=true) (hl:vs.length<549755813888) (he:(GK t vs 0).2≠0):Jg n (CT t vs 0)= .error 0:=by
 rw[VW ht hv hl] at he;rw[Jg,if_pos (.inr he)]
theorem oZ {n:Int}{t:Tm}{vs:List Tm}{u:Unit}(hn:Lk n= .ok u) (ht:okB t=true) (hv:∀v∈vs,okB v=true) (hl:vs.length<549755813888) (he:(GK t vs 0).2=0):Jg n (CT t vs 0)= .ok ((GK t vs 0).1,n - 1):=by
 rw[VW ht hv hl] at he ⊢;unfold Lk at hn;split at hn
 ·cases hn
 rw[Jg,if_neg Ax]
end Go.Eu
namespace Go.Eu
open Go.Abs
section
variable {α:Type}{n n2 e:Int}{x:Tm×Int}{z t:Tm}{k:Tm→Int→Out α}{u:Unit}
theorem K3 (hs:CN.put n x k≠ .stuck) (h:Jg n x= .ok (z,n2)):CN.put n x k=k z n2:=by
 rw[(Zs hs).2];unfold Jg at h;split at h
 ·cases h
 rename_i hn;cases h;rw[if_neg hn]
theorem Km (hs:CN.put n x k≠ .stuck) (h:Jg n x= .error e):(CN.put n x k).ex= .error e:=by
 rw[(Zs hs).2];unfold Jg at h;split at h
 ·rename_i hn;cases h;rw[if_pos hn];rfl
 cases h
theorem nk (h:Lk n= .ok u):Jg n (t,0)= .ok (t,n - 1):=by
 unfold Lk at h;split at h
 ·cases h
 rw[Jg,if_neg Ax]
theorem eW (hs:CN.put n (t,0) k≠ .stuck) (h:Lk n= .ok u):CN.put n (t,0) k=k t (n - 1):=K3 hs (nk h)
theorem eg (hs:CN.put n (t,0) k≠ .stuck) (h:Lk n= .error e):(CN.put n (t,0) k).ex= .error e:=Km hs (gB h)
end
theorem SH {n n2:Int}{x:Tm×Int}{z:Tm}(h:G0 n) (hp:Jg n x= .ok (z,n2)):G0 n2∧z=x.1:=by
 have h1:=h.1;have h2:=h.2;unfold Jg at hp;split at hp
 ·cases hp
 cases hp;exact⟨⟨by omega,by omega⟩,rfl⟩
section
variable {E:List CX}{g m:Tm}{a:List Tm}{s e:Int}{d:CX}{u:Unit}
theorem eM (hs:FB CN d g a s≠ .stuck) (he:(By d.value g.levels).2=0) (hn:Lk s= .ok u):FB CN d g a s= .ok (some (apply (By d.value g.levels).1 a),s - 1):=by
 rw[Kc he] at hs ⊢;exact eW hs hn
theorem eu (hs:FB CN d g a s≠ .stuck) (he:(By d.value g.levels).2=0) (hn:Lk s= .error e):(FB CN d g a s).ex= .error e:=by
 rw[Kc he] at hs ⊢;exact eg hs hn
theorem iY {c:CX}{j:Int}{f:List Tm}{r:Tm}(hs:FG E CN d g a m s≠ .stuck) (hc:DQ E m=some (c,j,f)) (hn:¬(c.name≠d.name∨j≥(d.recs.rules.length:Int))) (hr:d.recs.rules[j.toNat]?=some r) (he:(By r g.levels).2=0) (hk:Lk s= .ok u) :
  FG E CN d g a m s= .ok (some (apply (apply (apply (By r g.levels).1 (a.take (d.fixed+1+d.ctors.length).toNat)) f) (a.drop (CQ d+1).toNat)),s - 1):=by
 rw[MX hc hn hr he] at hs ⊢;exact eW hs hk
theorem ij {c:CX}{j:Int}{f:List Tm}{r:Tm}(hs:FG E CN d g a m s≠ .stuck) (hc:DQ E m=some (c,j,f)) (hn:¬(c.name≠d.name∨j≥(d.recs.rules.length:Int))) (hr:d.recs.rules[j.toNat]?=some r) (he:(By r g.levels).2=0) (hk:Lk s= .error e) :
  (FG E CN d g a m s).ex= .error e:=by
 rw[MX hc hn hr he] at hs ⊢;exact eg hs hk
end
theorem TF {E:List CX}{n k:Nat}{s s':Int}{t:FY}{vs:List Tm}{l:Tm}{q:Option (Tm×List Tm)×Tm}(h:G0 s) (hq:E4 E CN (FF E CN n) k t vs l s= .ok (q,s')):G0 s':=by
 have h1:=Rt KL (fun s t q=>VR KL n s t q) k t vs l s _ hq;have h2:=h.1;have h3:=h.2;exact⟨h1.2 h2,by have:=h1.1;simp only at this;omega⟩
theorem X1 {E:List CX}{n:Nat}{s s':Int}{g:Tm}{a:List Tm}{q:Option Tm}(h:G0 s) (hq:Fk E CN (FF E CN n) n g a s= .ok (q,s')):G0 s':=by
 have h1:=Tc KL (fun s t q=>VR KL n s t q) hq;have h2:=h.1;have h3:=h.2;exact⟨h1.2 h2,by have:=h1.1;simp only at this;omega⟩
end Go.Eu
namespace Go.Eu
theorem kh {l:List Tm}{x:Tm}(h:l[0]?=some x):l.take 1=[x]:=by
 cases l with
 | nil=>simp at h
 | cons a l=>simp at h;subst h;rfl
theorem ok_one {x:Tm}(h:okB x=true):∀v∈[x],okB v=true:=fun v hv=>by rw[List.mem_singleton.1 hv];exact h
theorem J4 {x:Tm}:[x].length<549755813888:=by simp
end Go.Eu
namespace Go.Proofs.YtboammbpdaoojaaGreat
open Go.Abs Go.Eu
theorem ZC:∀(fid:Nat) (caps:List AV),B2 Tryz.prog 159 [.fn (.func fid) [] caps] [] (eY (fun b=> .agg [.fn (.func 176) [] [.ptr b 0]]) [.fn (.func fid) [] caps]):=by
 intro fid caps;refine BF Tryz.func159 O pq (n:=5) O O (A6 (BO O (Ba O) fun b1=>BO O (BG mY O) fun b2=>Bq O (A3 A7 3 [0,0] O (A9 (⟨O,_,_,⟨_,_,O,(BI (i:=0) mu O O O),O⟩,(CC (is:=[1]) O),?_⟩)))));exact⟨_,O,O⟩
theorem Wc:∀(rep:Tm→Int→Except Int Tm) (fid:Nat) (caps:List AV) (T:List BR) (hr:∀(t:Tm) (d:Int),Nd t→Vp t→t.kind=0→0≤d→d<Dq→B2 Tryz.prog fid ([TV t,.p (I d)]++caps) T (Kq (fun(r:Tm)=>TV r) (fun e=> .p (.iface 223 (I e))) (fun r H'=>H'=T) (rep t d))) (bR:Nat) (s:Unit) (t:Tm) (d:Int),Nd t→Vp t→0≤d→d<Dq→B2 Tryz.prog 176 [TV t,.p (I d),.ptr bR 0] (.box bR [.fn (.func fid) [] caps]::T) (Kq (fun(r:(Tm×Bool)×Unit)=> .tup [TV r.1.1,.p (.bool r.1.2)]) (fun e=> .p (.iface 223 (I e))) (fun r H'=>H'= .box bR [.fn (.func fid) [] caps]::T) (KT rep s t d)):=by
 intro rep fid caps T hr bR s t d h1 h2 h3 h4;refine BF Tryz.func176 O nz (n:=16) O O (A6 (BO O (Ba O) fun b3=>BO O (BG B4 O) fun b5=>A1 A7 1 [] O (A2 (A6 (A0 O (A8 HA O O) ?_)))));obtain⟨tk,ti,tn,tl,ts⟩:=t;refine A1 A7 2 [1] O (A4 O (fun c=>?_) (fun c=>?_))
 ·(try simp only[sd,se] at c);refine A6 (A5 A7 3 [2,1] O (kS [_,_,_] O O O (.inr O) (hr (.mk tk ti tn tl ts) d h1 h2 c h3 h4) (Dg _) ?_ ?_))
  rotate_left
  ·intro e _ he;exact⟨O,_,List.nil_sublist _,⟨_,Oe c he,O⟩⟩
  rintro z _ hz rfl;refine A1 A7 2 [0,1] O (A9 (⟨O,_,_,⟨_,_,O,(BI (i:=0) Bg O O Ap),⟨_,_,O,O,O⟩⟩,(G2 [2] [_,_,_] O),?_⟩));exact⟨⟨⟨z,true⟩,()⟩,Me c hz,O,O⟩
 (try simp only[sd,se] at c);refine BA (A6 (A0 O (Bf (i:=1) Bg O O O) (A0 O (BL O O (RY (.mk tk ti tn tl ts:Tm) h1) O) (A1 A7 2 [0,1] O (A9 (⟨O,_,_,⟨_,_,O,(BI (i:=0) Bg O O Ap),⟨_,_,O,O,O⟩⟩,(G2 [2] [_,_,_] O),?_⟩))))));exact⟨⟨⟨.mk tk ti tn tl [],false⟩,()⟩,OO c,O,O⟩
theorem aB:∀(t:Tm) (d:Int) (bf bb:Nat) (fr b:Int),(Nd t)→(Vp t)→(t.kind=0)→(0≤d)→(d<Dq)→(-4611686018427387904≤b∧b≤4611686018427387904)→(-2305843009213693952≤fr∧fr≤2305843009213693952)→B2 Tryz.prog 177 [.agg ((Bb t).map .p),.p (I d),.ptr bf 0,.ptr bb 0] [.box bf [.p (I fr)],.box bb [.p (I b)]] (Kq (fun(r:Tm)=>TV r) (fun e=> .p (.iface 223 (I e))) (fun r H'=>H'=[.box bf [.p (I fr)],.box bb [.p (I b)]]) (Zw b fr t d)):=by
 intro t d bf bb fr b h1 h2 h3 h4 h5 h6 h7;obtain⟨tk,ti,tn,tl,ts⟩:=t;have hi:=h2.1 h3;simp only[Dq] at h5;refine BF Tryz.func177 O nT (n:=32) O O (A6 (BO O (Ba O) fun b4=>BO O (BG B4 O) fun b6=>Bq O (A3 A7 5 [1] O (A2 (A3 A7 3 [2] O (A4 O (fun c=>?_) (fun c=>?_)))))))
 ·(try simp only[sd,se] at c);refine A6 (A0 O (Bf (i:=1) Bg O O O) (A0 O (BL O O (RY (.mk tk ti tn tl ts:Tm) h1) O) (A1 A7 1 [0,1] O (A9 (⟨O,_,_,⟨_,_,O,(BI (i:=0) Bg O O Ap),O⟩,(CC (is:=[2,3]) O),?_⟩)))));exact⟨(.mk tk ti tn tl []),Zb c,O,O⟩
 (try simp only[sd,se] at c);refine BA (A2 (A2 (Be [3,4,6] 25 (fun y=>y= .p (.bool ((decide ((b:Int)<(0:Int)))&&(decide (((ti:Int) - (d:Int):Int)<((fr:Int) - (b:Int):Int)))))) ?_ ?_)))
 ·refine BC (A5 A7 3 [3] O (BY 19 O (fun g=>?_) (fun g=>?_)))
  ·(try simp only[sd,se] at g);exact A1 A7 6 [2,3] O (⟨O,O,AP,AJ,⟨O,O,O,Az⟩⟩)
  (try simp only[sd,se] at g);exact A1 A7 6 [] O (⟨O,O,AP,AJ,⟨O,O,O,Az⟩⟩)
 rintro _ rfl;refine A4 O (fun c1=>?_) (fun c1=>?_)
 ·(try simp only[sd,se] at c1);exact BC (Ot O O O (.inl ⟨O,O,O⟩) (Qg 24) (aw (we O) (FM)) (⟨O,_,List.nil_sublist _,⟨_,iB Ax Ax Ax,O⟩⟩))
 (try simp only[sd,se] at c1);refine BA (A6 (A5 A7 4 [1,3] O (D6 [] O O O (.inl ⟨O,O,O⟩) (Vz ((ti:Int)+(b:Int))) O Aw (aw (we O) (FM)) (fun _ _ h=>(congrArg List.length h).trans O) ?_ ?_)))
 rotate_left
 ·intro e _ he;exact⟨O,_,List.nil_sublist _,⟨_,by rw[YG Ax Ax,he],rfl⟩⟩
 rintro z _ hz rfl;refine A1 A7 1 [0,1] O (A9 (⟨O,_,_,⟨_,_,O,(BI (i:=0) Bg O O Ap),O⟩,(CC (is:=[2,3]) O),?_⟩));exact⟨z,by rw[YG Ax Ax,hz],rfl,rfl⟩
theorem _root_.Go.AR {α:Prop}(h:α:=by repeat' first | exact trivial | rfl | refine And.intro ?_ ?_):α:=h
theorem Xv:∀(t:Tm) (b fr:Int),(Nd t)→(Vp t)→(size t<Dq)→(-4611686018427387904≤b∧b≤4611686018427387904)→(-2305843009213693952≤fr∧fr≤2305843009213693952)→B2 Tryz.prog 161 [.agg ((Bb t).map .p),.p (I b),.p (I fr)] [] (Kq (fun(r:Tm)=>TV r) (fun e=> .p (.iface 223 (I e))) (fun r H'=>H'=[]) (LH b fr t)):=by
 intro t b fr h1 h2 h3 h4 h5;refine BF Tryz.func161 O mx (n:=11) O O (A6 (BO O (Ba O) fun b3=>BO O (Ba O) fun b4=>BO O (Ba O) fun b5=>BO O (BG B4 O) fun b6=>Bq O (A2 (B0 (fun k=>Nat.beq k 1||Nat.beq k 3) Dt (BP O (fun _=>E1 O O) Az (Y8 [(2,.read [.box b3 ((Bb t).map .p)] (.agg ((Bb t).map .p)))] O O O (.inl ⟨O,O,O⟩) (ZC 177 [.ptr b5 0,.ptr b4 0]) (.inl O) As fun bn=>⟨AB,Az,?_⟩))))));refine BZ A7 1 [4] O ?_;refine O7 [0,2,3] O O O (.inl ⟨O,O,O⟩) (Oo (KT (Zw b fr)) (fun _ T=>T=[.box bn [.fn (.func 177) [] [.ptr b5 0,.ptr b4 0]],.box b5 [.p (I fr)],.box b4 [.p (I b)]]) 176 [.ptr bn 0] (fun s t d T hn hp h0 hb hT=>by subst hT;exact Wc (Zw b fr) 177 [.ptr b5 0,.ptr b4 0] _ (fun t d g1 g2 g3 g4 g5=>aB t d b5 b4 fr b g1 g2 g3 g4 g5 h4 h5) bn s t d hn hp h0 hb) _ t 0 () _ (Nat.le_refl _) h1 h2 Ax Ax rfl) ⟨_,_,rfl,rfl,⟨_,_,rfl,rfl,⟨_,_,rfl,rfl,rfl⟩⟩⟩ Aw (Dg _) (fun _ _ h=>(congrArg List.length h).trans rfl) As As rfl AB ?_ ?_
 rotate_left
 ·intro e he _ _ hτ;exact⟨O,_,List.nil_sublist _,⟨_,O6 he,O⟩⟩
 rintro⟨z,_⟩ _ hz rfl;refine⟨AB,AR,?_⟩;refine Bt A7 1 [1,1] O (A9 (⟨O,_,_,⟨_,_,O,(BI (i:=1) Bg O O Ap),O⟩,(List.nil_sublist _),?_⟩));exact⟨z,RN hz,O,O⟩
theorem TN:∀(bo be:Nat) (co ce:List AV),E3 Tryz.prog 153 [.ptr bo 0,.ptr be 0] (.ret) [.box bo co,.box be ce] (fun H'=>H'=[.box bo co,.box be ce]):=by
 intro bo be co ce;refine IF (ty2:=0) Tryz.func153 O kZ (n:=9) O O O O O O (A6 (B3 O (A0 O (HV bI O O O) (Bq O ?_))));refine A4 O (fun c=>by cases c) (fun c=>?_);exact BA ⟨.inl O,O,_,(CC (is:=[0,1]) O),O⟩
theorem Sx:∀(bo be:Nat) (e:Int),E3 Tryz.prog 153 [.ptr bo 0,.ptr be 0] (.pan (.p (.iface 223 (I e)))) [.box bo [.p (I 0),.p (I 0),.p (.str ⟨#[]⟩),.p (.nils),.p (.nils)],.box be [.p (I 0)]] (fun H'=>H'=[.box bo [.p (I 0),.p (I 0),.p (.str ⟨#[]⟩),.p (.lst []),.p (.lst [])],.box be [.p (I e)]]):=by
 intro bo be e;refine IF (ty2:=0) Tryz.func153 O kZ (n:=9) O O O O O O (A6 (B3 O (A0 O (HV bI O O O) (Bx (Bd (i:=0) O) (Bq O ?_)))));refine A4 O (fun c=>?_) (fun c=>by cases c);exact BC (A5 A7 2 [] O (A0 O (BL O O (TR _) O) (A5 A7 2 [0,0,1,0] O (Bx (Bd (i:=0) O) (Bq O ⟨.inl O,O,_,(CC (is:=[0,1]) O),O⟩)))))
theorem T9:∀(t:Tm) (d:Int) (bd bv:Nat) (dp:Int) (vs:List Tm),B2 Tryz.prog 155 [.agg ((Bb t).map .p),.p (I d),.ptr bd 0,.ptr bv 0] [.box bd [.p (I dp)],.box bv [.p (.lst (BN vs))]] (Gj (.p (I (Jj vs dp t.index d))) [.box bd [.p (I dp)],.box bv [.p (.lst (BN vs))]]):=by
 intro t d bd bv dp vs;obtain⟨tk,ti,tn,tl,ts⟩:=t;refine BF Tryz.func155 O oc (n:=23) O O (A6 (BO O (Ba O) fun b4=>A1 A7 1 [] O (A2 (A6 (A5 A7 3 [0] O (A0 O (JW O O) (A0 O (CG (i:=1) DO O O O) (A0 O (JW O O) (A1 A7 1 [] O (A2 (Be [7] 21 (fun y=>y= .p (.bool ((decide ((wr ((wr ((ti:Int) - (d:Int)):Int) - (dp:Int)):Int)≥(0:Int)))&&(decide ((wr ((wr ((ti:Int) - (d:Int)):Int) - (dp:Int)):Int)<((vs.length:Nat):Int)))))) ?_ ?_)))))))))))
 ·refine BC (A5 A7 3 [] O (BY 16 O (fun g=>?_) (fun g=>?_)))
  ·(try simp only[sd,se] at g);exact A5 A7 2 [2] O (BK O (BT Bk O (Bc _)) (A1 A7 2 [] O (⟨O,O,AP,AJ,⟨O,Az⟩⟩)))
  (try simp only[sd,se] at g);exact A1 A7 5 [] O (⟨O,O,AP,AJ,⟨O,Az⟩⟩)
 rintro _ rfl;refine A4 O (fun c=>?_) (fun c=>?_)
 ·(try simp only[sd,se] at c);refine A3 A7 2 [] O (A9 (⟨O,_,_,⟨_,_,O,O,O⟩,(CC (is:=[1,2]) O),?_⟩))
  all_goals exact⟨pI (eQ Ax Ax).symm,rfl⟩
 (try simp only[sd,se] at c);refine BA (A3 A7 1 [] O (A9 (⟨O,_,_,⟨_,_,O,O,O⟩,(CC (is:=[1,2]) O),?_⟩)))
 all_goals exact⟨pI (jh (ti:=ti) Ax).symm,rfl⟩
theorem bC:∀(t:Tm) (d:Int) (bv bc bs bd bvs cb:Nat) (dp n:Int) (vs:List Tm) (sz:List Int),(sz.length=vs.length)→B2 Tryz.prog 156 [.agg ((Bb t).map .p),.p (I d),.ptr bv 0,.ptr bc 0,.ptr bs 0] [.box bv [.fn (.func 155) [] [.ptr bd 0,.ptr bvs 0]],.box bc [.ptr cb 0],.box bs [.p (.lst (List.map FT sz))],.box bd [.p (I dp)],.box bvs [.p (.lst (BN vs))],.box cb [.p (I n)]] (Kq (fun(r:(Tm×Bool)×Int)=> .tup [TV r.1.1,.p (.bool r.1.2)]) (fun e=> .p (.iface 223 (I e))) (fun r H'=>H'=[.box bv [.fn (.func 155) [] [.ptr bd 0,.ptr bvs 0]],.box bc [.ptr cb 0],.box bs [.p (.lst (List.map FT sz))],.box bd [.p (I dp)],.box bvs [.p (.lst (BN vs))],.box cb [.p (I r.2)]]) (RB vs sz dp n t d)):=by
 intro t d bv bc bs bd bvs cb dp n vs sz h1;obtain⟨tk,ti,tn,tl,ts⟩:=t;refine BF Tryz.func156 O nJ (n:=33) O O (A6 (BO O (Ba O) fun b5=>BO O (BG B4 O) fun b7=>A1 A7 1 [] O (A2 (A6 (A5 A7 3 [2,1] O (A0 O (CF [5,6] O (.inr O) (T9 (.mk tk ti tn tl ts:Tm) d bd bvs dp vs) ⟨_,_,O,O,⟨_,_,O,O,O⟩⟩ Aw O (.inl O)) (A1 A7 1 [] O (A2 (Be [3,4,5,7,9] 20 (fun y=>y= .p (.bool (((tk:Int)==(0:Int))&&(decide ((Jj vs dp (.mk tk ti tn tl ts:Tm).index d:Int)≥(0:Int)))))) ?_ ?_)))))))))
 ·refine BC (A5 A7 4 [1] O (BY 17 O (fun g=>?_) (fun g=>?_)))
  ·(try simp only[sd,se] at g);exact A1 A7 3 [] O (⟨O,O,AP,AJ,⟨O,O,O,O,O,Az⟩⟩)
  (try simp only[sd,se] at g);exact A1 A7 3 [] O (⟨O,O,AP,AJ,⟨O,O,O,O,O,Az⟩⟩)
 rintro _ rfl;refine A4 O (fun c=>?_) (fun c=>?_)
 ·(try simp only[sd,se] at c);have hvl:=U1 (vs:=vs) (dp:=dp) (ti:=(Tm.mk tk ti tn tl ts).index) (d:=d) c.2;refine B0 (fun k=>Nat.beq k 5) Dt (BZ A7 3 [3,4] O ?_);obtain⟨x,hx⟩:=BE (l:=sz) (i:=(Jj vs dp (.mk tk ti tn tl ts:Tm).index d:Int).toNat) Ax;refine BP O (fun _=>BD Fp O O Ax (Jh hx) (O)) Az (BP O (fun _=>E9 DO O) Az (O7 [7] O O O (.inl ⟨O,O,O⟩) (dP cb n x) ⟨_,_,O,O,O⟩ Aw (aw (we O) (aw (we O) (FM))) (fun _ _ h=>(congrArg List.length h).trans O) As As O AB ?_ ?_))
  rotate_left
  ·intro e he _ _ hτ;exact⟨O,_,List.nil_sublist _,⟨_,Og (SX c hx) he,O⟩⟩
  rintro r _ hz rfl;refine⟨AB,Az,?_⟩;refine Hg O As (A2 (B0 (fun k=>false) Dt (Bt A7 6 [1,0,0] O (BQ (Bd (i:=0) O) (A9 (⟨O,_,_,⟨_,_,O,(BI (i:=0) Bg O O O),⟨_,_,O,O,O⟩⟩,(CC (is:=[2,3,4,5,6,7]) O),?_⟩))))));exact⟨⟨⟨Bp,decide (tk=0)⟩,r⟩,Qc (SX c hx) hz,O,O⟩
 (try simp only[sd,se] at c);refine BC (A0 O (CG (i:=3) pW O O O) (D6 [7] O O O (.inl ⟨O,O,O⟩) (dP cb n 1) ⟨_,_,O,O,O⟩ Aw (aw (we O) (aw (we O) (FM))) (fun _ _ h=>(congrArg List.length h).trans O) ?_ ?_))
 rotate_left
 ·intro e _ he;exact⟨O,_,List.nil_sublist _,⟨_,Og (Qq (by simp_all [Tm.index])) he,O⟩⟩
 rintro r _ hz rfl;refine Bq O (A2 (B0 (fun k=>false) Dt (Bt A7 6 [1,0,0] O (BQ (Bd (i:=0) O) (A9 (⟨O,_,_,⟨_,_,O,(BI (i:=0) Bg O O O),⟨_,_,O,O,O⟩⟩,(CC (is:=[2,3,4,5,6,7]) O),?_⟩))))));exact⟨⟨⟨Bp,decide (tk=0)⟩,r⟩,Qc (Qq (by simp_all [Tm.index])) hz,O,O⟩
theorem bX:∀(t:Tm) (d:Int) (bv bvs bd:Nat) (dp:Int) (vs:List Tm),(Nd t)→(Vp t)→(t.kind=0)→(0≤d)→(d<Dq)→(Lx vs)→(Tk vs)→(∀v∈vs,size v<Dq)→(0≤dp∧dp≤65536)→(vs.length<Dq)→B2 Tryz.prog 160 [.agg ((Bb t).map .p),.p (I d),.ptr bv 0,.ptr bvs 0,.ptr bd 0] [.box bv [.fn (.func 155) [] [.ptr bd 0,.ptr bvs 0]],.box bvs [.p (.lst (BN vs))],.box bd [.p (I dp)]] (Kq (fun(r:Tm)=>TV r) (fun e=> .p (.iface 223 (I e))) (fun r H'=>H'=[.box bv [.fn (.func 155) [] [.ptr bd 0,.ptr bvs 0]],.box bvs [.p (.lst (BN vs))],.box bd [.p (I dp)]]) (LL vs dp t d)):=by
 intro t d bv bvs bd dp vs h1 h2 h3 h4 h5 h6 h7 h8 h9 h10;obtain⟨tk,ti,tn,tl,ts⟩:=t;have hti:=h2.1 h3;simp only[Dq] at h5;have hw:wr (dp+d)=dp+d:=Ej (by unfold JB;omega);refine BF Tryz.func160 O pd (n:=37) O O (A6 (BO O (Ba O) fun b5=>BO O (BG B4 O) fun b7=>Bq O (A2 (A6 (A5 A7 3 [2,1] O (A0 O (CF [4,3] O (.inr O) (T9 (.mk tk ti tn tl ts:Tm) d bd bvs dp vs) ⟨_,_,O,O,⟨_,_,O,O,O⟩⟩ Aw O (.inl O)) (A1 A7 1 [] O (A3 A7 2 [] O (A4 O (fun c=>?_) (fun c=>?_))))))))))
 ·(try simp only[sd,se] at c);have hvl:=U1 (vs:=vs) (dp:=dp) (ti:=(Tm.mk tk ti tn tl ts).index) (d:=d) c;refine A2 (B0 (fun k=>Nat.beq k 7) Dt (BZ A7 2 [3] O ?_));obtain⟨x,hx⟩:=BE (l:=vs) (i:=(Jj vs dp (.mk tk ti tn tl ts:Tm).index d:Int).toNat) Ax;refine BP O (fun _=>BD Bk O O Ax (Bj hx) (BM _)) Az (BZ A7 3 [4] O (BP O (fun _=>ES O O) Az (O7 [] O O O (.inl ⟨O,O,O⟩) (Xv x (wr ((dp:Int)+(d:Int))) 0 (Df h6 hx) (MW h7 hx) (h8 x (List.mem_of_getElem? hx)) (by rw[hw];omega) Ax) O Aw (aw (we O) (aw (we O) (aw (we O) (FM)))) (fun _ _ h=>(congrArg List.length h).trans O) As As O AB ?_ ?_)))
  rotate_left
  ·intro e he _ _ hτ;exact⟨O,_,List.nil_sublist _,⟨_,(R0 (i:=ti) c hx).trans he,O⟩⟩
  rintro z _ hz rfl;refine⟨AB,Az,?_⟩;refine Bt A7 1 [0,1] O (A9 (⟨O,_,_,⟨_,_,O,(BI (i:=0) Bg O O Ap),O⟩,(CC (is:=[2,3,4]) O),?_⟩));exact⟨z,(R0 (i:=ti) c hx).trans hz,O,O⟩
 (try simp only[sd,se] at c);refine BA (A2 (A6 (A5 A7 3 [1] O (A0 O (JW O O) (A1 A7 2 [4] O (A4 O (fun c1=>?_) (fun c1=>?_)))))))
 ·(try simp only[sd,se] at c1);refine A6 (A0 O (Bf (i:=1) Bg O O O) (A0 O (BL O O (RY (.mk tk ti tn tl ts:Tm) h1) O) (A1 A7 1 [0,1] O (A9 (⟨O,_,_,⟨_,_,O,(BI (i:=0) Bg O O Ap),O⟩,(CC (is:=[2,3,4]) O),?_⟩)))));exact⟨(.mk tk ti tn tl []),Wj (by simpa [Tm.index] using c) Ax,O,O⟩
 (try simp only[sd,se] at c1);refine BA (A6 (A5 A7 3 [1,3] O (A0 O (BT Bk O (Bc _)) (A0 O (JW O O) (D6 [] O O O (.inl ⟨O,O,O⟩) (Vz (wr ((ti:Int) - ((vs.length:Nat):Int)))) O Aw (aw (we O) (FM)) (fun _ _ h=>(congrArg List.length h).trans O) ?_ ?_)))))
 rotate_left
 ·intro e _ he;exact⟨O,_,List.nil_sublist _,⟨_,by rw[VJ (by simpa [Tm.index] using c) Ax,he],rfl⟩⟩
 rintro z _ hz rfl;refine A1 A7 1 [0,1] O (A9 (⟨O,_,_,⟨_,_,O,(BI (i:=0) Bg O O Ap),O⟩,(CC (is:=[2,3,4]) O),?_⟩));exact⟨z,by rw[VJ (by simpa [Tm.index] using c) Ax,hz],rfl,rfl⟩
theorem _root_.Go.AH {α:Prop}(h:α:=by simp only[List.length_append,List.length_map,List.length_take,List.length_replicate];omega):α:=h
set_option maxHeartbeats 2000000 in
theorem cA:∀(t:Tm) (vs:List Tm) (dp:Int),(Nd t)→(Vp t)→(size t<1099511627776)→(Lx vs)→(Tk vs)→(∀v∈vs,size v<Dq)→(0≤dp∧dp≤65536)→(vs.length<Dq)→Ep Tryz.prog 137 [.agg ((Bb t).map .p),.p (.lst (BN vs)),.p (I dp)] (.tup [.agg ((Bb ((GK t vs dp).1)).map .p),.p (I ((GK t vs dp).2))]):=by
 intro t vs dp h1 h2 h3 h4 h5 h6 h7 h8;have h8b:=h8;simp only[Dq] at h8b;refine Fl Tryz.func137 O nj (n:=49) O O (A6 (BO O (Ba O) fun b3=>BO O (Ba O) fun b4=>BO O (Ba O) fun b5=>BO O (BG B4 O) fun b6=>BO O (BG eG O) fun b7=>Bq O (A2 (A3 A7 2 [2] O (A4 O (fun c=>?_) (fun c=>?_))))))
 ·(try simp only[sd,se] at c);exact absurd c Ax
 (try simp only[sd,se] at c);refine BA (A6 (A0 O (E1 O O) (OY O O O O (Bq O (A6 (A0 O (E1 O O) (BO O (BG mq O) fun b8=>A1 A7 1 [0,0] O (A6 (A0 O (CG (i:=4) Gu O O O) (A0 O (BT Bk O (Bc _)) (Qy O O (L7 Fp cH O O Aw O O O Ax Ax Ax (lS (f:=FT) (((vs.length:Nat):Int).toNat) 0)) fun b20 cp=>BO O (BG nH O) fun b9=>A1 A7 1 [0,0] O (A2 (A6 (A0 O (CG (i:=6) Gu O O O) (A0 O (BT Bk O (Bc _)) (A1 A7 1 [] O (BJ ?_)))))))))))))))));refine Bn (α:=Nat×Option Nat×Nat) (fun(i,o,cp1)=>⟨49,mk [(3,.ptr b3 0),(4,.ptr b4 0),(5,.ptr b5 0),(6,.ptr b6 0),(7,.ptr b7 0),(8,.ptr b8 0),(9,.ptr b9 0),(21,.p (.lst (BN vs))),(22,.p (I (vs.length:Nat))),(23,.p (I (i:Int)))],[.box b9 [.vs o (List.map FT (((vs.take i).map fun v=>(size v:Int))++List.replicate (vs.length - i) 0)).length cp1],.vec o 1 (List.map FT (((vs.take i).map fun v=>(size v:Int))++List.replicate (vs.length - i) 0)) cp1,.box b8 [.fn (.func 155) [] [.ptr b5 0,.ptr b4 0]],.box b7 [.p (I 0)],.box b6 [.p (I 0),.p (I 0),.p (.str ⟨#[]⟩),.p (.nils),.p (.nils)],.box b5 [.p (I dp)],.box b4 [.p (.lst (BN vs))],.box b3 ((Bb t).map .p)],[.clo (.func 153) [.ptr b6 0,.ptr b7 0]]⟩) (fun(i,o,cp1)=>vs.length - i) (fun(i,o,cp1)=>i≤vs.length) ⟨0,(some b20),cp⟩ AW ?_ ?_
 ·exact Bh ⟨we O,we O,we O,we O,we O,we O,we O,we O,we O,we O,Az⟩ (leH (is:=[0,1,2,3,4,5,6,7]) O (wl (YR (aw (we (FI (f:=FT) (List.replicate (((vs.length:Nat):Int).toNat) 0) Ay)) (FM))) (wl (Ei (f:=FT) (List.replicate (((vs.length:Nat):Int).toNat) 0) Ay) (wl (oe O) (wl (oe O) (wl (oe O) (wl (oe O) (wl (oe O) (wl (oe O) (DJ))))))))))
 rintro⟨i,o,cp1⟩ hC
 try simp only at hC
 have hi:=hC;refine A3 A7 1 [] O (A2 (A4 O (fun c1=>?_) (fun c1=>?_)))
 ·(try simp only[sd,se] at c1);refine BA (A2 (BJ (A6 (B3 O ?_))));obtain⟨x,hx⟩:=BE (l:=vs) (i:=i) Ax;refine A0 O (BD Bk O O Ax (Bj hx) (BM _)) (A0 O (BU Bg O (BM _)) (BO O (BG B4 O) fun b11=>A1 A7 2 [0,1] O (Ib (i:=2) O Ah fun b hb=>?_)));subst hb;refine B0 (fun k=>false) Dt (BZ A7 3 [1,0] O (BP O (fun _=>BL O O (ZS x (Df h4 hx) (by have:=h6 x (List.mem_of_getElem? hx);simp only[Dq] at this;omega)) O) Az (BP O (fun _=>Cg Fp O O Ax AH) Az (FH O O (Dj (i:=2) (j:=i) DO O O O AH O O O O (cc (f:=FT) (((vs.take i).map fun v=>(size v:Int))++List.replicate (vs.length - i) 0) i (size x:Nat))) AB Az (Hg O As (BC (A1 A7 2 [] O ?_)))))));refine⟨⟨i+1,(some b),cp1⟩,Ac,by omega,Bh ⟨we rfl,we rfl,we rfl,we rfl,we rfl,we rfl,we rfl,we rfl,we rfl,we rfl,trivial⟩ (leH (is:=[1,2,3,4,5,6,7,8]) rfl (wl (YR (aw (we (UA (f:=FT) (((vs.take i).map fun v=>(size v:Int))++List.replicate (vs.length - i) 0) Ar)) (FM))) (wl (Ei (f:=FT) ((((vs.take i).map fun v=>(size v:Int))++List.replicate (vs.length - i) 0).set i (size x:Nat)) (lE hx)) (wl (oe rfl) (wl (oe rfl) (wl (oe rfl) (wl (oe rfl) (wl (oe rfl) (wl (oe rfl) (DJ))))))))))⟩
 (try simp only[sd,se] at c1);refine Bo (A6 ?_);rw[mc (vs:=vs) (i:=i) Ax];refine Bx (Db (i:=1) (j:=0) (q:=0) [] O O O (Ds Az)) (A0 O (Ca oK py O) (BO O (Ba O) fun b35=>BO O (BG qN O) fun b12=>A1 A7 1 [0,0] O (A6 (A5 A7 3 [8] O ?_))));refine D6 [3,0,2,6,7,1] O O O (.inl ⟨O,O,O⟩) (Oo (RB vs (vs.map fun v=>(size v:Int)) dp) (fun n T=>T=[.box b8 [.fn (.func 155) [] [.ptr b5 0,.ptr b4 0]],.box b12 [.ptr b35 0],.box b9 [.p (.lst (List.map FT (vs.map fun v=>(size v:Int))))],.box b5 [.p (I dp)],.box b4 [.p (.lst (BN vs))],.box b35 [.p (I n)]]) 156 [.ptr b8 0,.ptr b12 0,.ptr b9 0] (fun n t d T hn hp h0 hb hT=>by subst hT;exact bC t d b8 b12 b9 b5 b4 b35 dp n vs (vs.map fun v=>(size v:Int)) Ay) _ t 0 0 _ (Nat.le_refl _) h1 h2 Ax Ai rfl) ⟨_,_,rfl,rfl,⟨_,_,rfl,rfl,⟨_,_,rfl,rfl,⟨_,_,rfl,rfl,⟨_,_,rfl,rfl,⟨_,_,rfl,rfl,rfl⟩⟩⟩⟩⟩⟩ Aw (Dg _) (fun _ _ h=>(congrArg List.length h).trans rfl) ?_ ?_
 rotate_left
 ·intro e _ he;refine⟨_,_,_,O,Mq (is:=[1,0]) _ Aw ⟨_,_,O,O,⟨_,_,O,O,O⟩⟩,E3.eq (Sx b6 b7 _) ?_⟩;refine⟨_,[],⟨_,_,O,(BI (i:=0) Bg O O O),⟨_,_,O,(G1 (i:=1) Sd O O),O⟩⟩,(List.nil_sublist _),?_⟩;rw[JH (QB he)];exact⟨O,O⟩
 rintro⟨z,n1⟩ _ hz rfl;refine Bq O (A2 (B0 (fun k=>Nat.beq k 1||Nat.beq k 3) Dt (BP O (fun _=>E1 O O) Az (Y8 [(2,.read [.box b3 ((Bb t).map .p)] (.agg ((Bb t).map .p)))] O O O (.inl ⟨O,O,O⟩) (ZC 160 [.ptr b8 0,.ptr b4 0,.ptr b5 0]) (.inl O) As fun bn=>⟨AB,Az,?_⟩))));refine BZ A7 1 [9] O ?_;refine O7 [0,4,8,7] O O O (.inl ⟨O,O,O⟩) (Oo (KT (LL vs dp)) (fun _ T=>T=[.box bn [.fn (.func 160) [] [.ptr b8 0,.ptr b4 0,.ptr b5 0]],.box b8 [.fn (.func 155) [] [.ptr b5 0,.ptr b4 0]],.box b4 [.p (.lst (BN vs))],.box b5 [.p (I dp)]]) 176 [.ptr bn 0] (fun s t d T hn hp h0 hb hT=>by subst hT;exact Wc (LL vs dp) 160 [.ptr b8 0,.ptr b4 0,.ptr b5 0] [.box b8 [.fn (.func 155) [] [.ptr b5 0,.ptr b4 0]],.box b4 [.p (.lst (BN vs))],.box b5 [.p (I dp)]] (fun t d g1 g2 g3 g4 g5=>bX t d b8 b4 b5 dp vs g1 g2 g3 g4 g5 h4 h5 h6 h7 h8) bn s t d hn hp h0 hb) _ t 0 () _ (Nat.le_refl _) h1 h2 Ax Ai rfl) ⟨_,_,rfl,rfl,⟨_,_,rfl,rfl,⟨_,_,rfl,rfl,⟨_,_,rfl,rfl,rfl⟩⟩⟩⟩ Aw (Dg _) (fun _ _ h=>(congrArg List.length h).trans rfl) As As rfl AB ?_ ?_
 rotate_left
 ·intro e he _ _ hτ;refine⟨_,_,_,O,Mq (is:=[4,3]) _ Aw ⟨_,_,O,O,⟨_,_,O,O,O⟩⟩,E3.eq (Sx b6 b7 _) ?_⟩;refine⟨_,[],⟨_,_,O,(BI (i:=0) Bg (hτ 6 (Rs As)) O O),⟨_,_,O,(G1 (i:=1) Sd (hτ 7 (Rs As)) O),O⟩⟩,(List.nil_sublist _),?_⟩;rw[JH (QD hz he)];exact⟨O,O⟩
 rintro⟨z1,_⟩ _ hz1 rfl;refine⟨AB,AR,?_⟩;refine Bt A7 1 [6,1] O (A2 (A6 (A0 O (Bf (i:=6) Bg O O Ap) (A0 O (BL O O (Wf _ z1 (Nat.le_refl _) (jB h4 h5 h1 h2 hz1)) O) (A1 A7 1 [] O (A4 O (fun c2=>?_) (fun c2=>?_)))))))
 ·(try simp only[sd,se] at c2);refine A6 (A0 O (Ca HA B4 O) ?_);obtain⟨z1k,z1i,z1n,z1l,z1s⟩:=z1;refine A1 A7 2 [6,0,5,0] O (BQ (Bd (i:=6) O) (A9 (⟨_,_,_,O,Di (is:=[6,5]) Aw ⟨_,_,O,O,⟨_,_,O,O,O⟩⟩,E3.eq (TN b6 b7 _ _) ?_⟩)));refine⟨_,_,⟨_,_,O,(BI (i:=0) Bg O O O),⟨_,_,O,(G1 (i:=1) Sd O O),O⟩⟩,(List.nil_sublist _),?_⟩;rw[QJ (Ma hz hz1) Ax]
  all_goals exact⟨rfl,rfl⟩
 (try simp only[sd,se] at c2);refine BA (A3 A7 3 [6,6,1,5,0] O (A9 (⟨_,_,_,O,Di (is:=[6,5]) Aw ⟨_,_,O,O,⟨_,_,O,O,O⟩⟩,E3.eq (TN b6 b7 _ _) ?_⟩)));refine⟨_,_,⟨_,_,O,(BI (i:=0) Bg O O Ap),⟨_,_,O,(G1 (i:=1) Sd O O),O⟩⟩,(List.nil_sublist _),?_⟩;rw[TC (Ma hz hz1) Ax]
 all_goals exact⟨rfl,rfl⟩
theorem bu:∀(t:Tm) (vs:List Tm),(Nd t)→(Vp t)→(size t<1099511627776)→(Lx vs)→(Tk vs)→(∀v∈vs,size v<Dq)→(vs.length<Dq)→Ep Tryz.prog 105 [.agg ((Bb t).map .p),.p (.lst (BN vs))] (.tup [.agg ((Bb ((GK t vs 0).1)).map .p),.p (I ((GK t vs 0).2))]):=by
 intro t vs h1 h2 h3 h4 h5 h6 h7;refine BF Tryz.func105 O nW (n:=11) O O (A6 (BO O (Ba O) fun b2=>BO O (BG B4 O) fun b4=>A1 A7 1 [] O (A6 (A5 A7 2 [1] O (A0 O (BL O O (cA t vs 0 h1 h2 h3 h4 h5 h6 Ax h7) O) (A1 A7 4 [0,1] O (A9 (⟨O,_,_,⟨_,_,O,(BI (i:=0) Bg O O Ap),⟨_,_,O,O,O⟩⟩,(List.nil_sublist _),?_⟩))))))))
 all_goals exact⟨rfl,rfl⟩
theorem Ox:∀(m:Nat) (ds:List CX) (n:Int),(G0 n)→B2 Tryz.prog 104 [.ptr m 0] [.box m [.p (.lst (List.map Bu ds)),.p (I n)]] (Kq (fun(r:Unit)=> .tup []) (fun _=> .p (.iface 122 .unit)) (fun r H'=>H'=[.box m [.p (.lst (List.map Bu ds)),.p (I (n - 1))]]) (Lk n)):=by
 intro m ds n h1;have hn:=h1.1;have hn2:=h1.2;refine BF Tryz.func104 O ml (n:=16) O O (A3 A7 8 [0,0,0] O (A3 A7 5 [0] O (A4 O (fun c=>?_) (fun c=>?_))))
 ·(try simp only[sd,se] at c);exact BC (A0 O (Ca dM Zu O) (A0 O (Jd As O) (OV O O (Mu O) (⟨O,_,List.nil_sublist _,⟨_,oL Ax,O⟩⟩))))
 (try simp only[sd,se] at c);refine BA ⟨O,_,_,O,(CC (is:=[0]) O),?_⟩;exact⟨(),pj Ax,O,O⟩
theorem Ky:∀(m:Nat) (ds:List CX) (n:Int) (t:Tm) (vs:List Tm),(G0 n)→(okB t=true)→(∀v∈vs,okB v=true)→(vs.length<549755813888)→B2 Tryz.prog 74 [.ptr m 0,.agg ((Bb t).map .p),.p (.lst (BN vs))] [.box m [.p (.lst (List.map Bu ds)),.p (I n)]] (Kq (fun(r:Tm×Int)=>TV r.1) (fun _=> .p (.iface 122 .unit)) (fun r H'=>H'=[.box m [.p (.lst (List.map Bu ds)),.p (I r.2)]]) (Jg n (CT t vs 0))):=by
 intro m ds n t vs h1 h2 h3 h4;have hn:=h1.1;have hto:=CJ.1 h2;have hts:=hto.sz;have hvo:=E8 h3;refine BF Tryz.func74 O rX (n:=22) O O (A6 (BO O (Ba O) fun b4=>BO O (BG B4 O) fun b6=>Bq O (A6 (B3 O (D6 [2] O O O (.inl ⟨O,O,O⟩) (Ox m ds n h1) ⟨_,_,O,O,O⟩ Aw (aw (we O) (FM)) (fun _ _ h=>(congrArg List.length h).trans O) ?_ ?_)))))
 rotate_left
 ·intro e _ he;exact⟨O,_,List.nil_sublist _,⟨_,gB he,O⟩⟩
 rintro _ _ hz rfl;refine Bq O (A6 (A5 A7 2 [1] O ?_));refine A0 rfl (BL rfl rfl (bu t vs hto.nd hto.vp Ax hvo.1 hvo.2.2 (fun v hv=>by have:=FA (h3 v hv);simp only[Dq];omega) Ai) rfl) ?_;refine A5 A7 3 [] O (BO O (BG B4 O) fun b7=>A1 A7 2 [0,1] O (A2 (A3 A7 2 [] O (A4 O (fun c=>?_) (fun c=>?_)))))
 ·(try simp only[sd,se] at c);have hce:=c;exact BC (A0 O (Ca dM Zu O) (A0 O (Jd As O) (OV O O (Mu O) (⟨O,_,List.nil_sublist _,⟨_,ou Ax h2 h3 h4 hce,O⟩⟩))))
 (try simp only[sd,se] at c);refine BA (A3 A7 2 [0,1,1] O (A9 (⟨O,_,_,⟨_,_,O,(BI (i:=1) Bg O O Ap),O⟩,(CC (is:=[3]) O),?_⟩)));exact⟨⟨(GK t vs 0).1,n - 1⟩,oZ hz h2 h3 h4 c,O,O⟩
theorem KX:∀(l:List Tm),(l.length<549755813888)→B2 Tryz.prog 95 [.p (.lst (BN l))] [] (bh (fun v=>v) 5 (BN l)):=by
 intro l h1;refine BF Tryz.func95 O rC (n:=8) O O (A3 A7 1 [] O (A2 (A6 (B3 O (D2 O O (M3 Bk O O) ?_)))));rintro _ ⟨q,rfl,hq⟩;refine Bq O (A4 O (fun c=>?_) (fun c=>?_))
 ·(try simp only[sd,se] at c);refine A3 A7 1 [] O (BQ (DS (t:=2) (sz:=5) O) (A9 (⟨O,_,_,⟨_,_,O,O,O⟩,(CC (is:=[0]) O),?_⟩)));rw[show l=[] from List.length_eq_zero_iff.1 (by rw[←Bc,hq c];rfl)]
  all_goals exact⟨_,_,rfl,rfl⟩
 (try simp only[sd,se] at c);refine BA (A6 (Qy O O (LN Bk) fun b5 cp=>B3 O (EN O O (CE (i:=0) (rows':=BN l) Bk Bk B4 O O O O O O (B1 _) AY (Hk [] l)) fun o cp1=>A1 A7 1 [] O (A9 (⟨O,_,_,⟨_,_,O,O,O⟩,(CC (is:=[0]) O),?_⟩)))))
 all_goals exact⟨_,_,rfl,rfl⟩
theorem Qu:∀(m:Nat) (ds:List CX) (n:Int) (t:Tm) (vs:List Tm),(G0 n)→(okB t=true)→(∀v∈vs,okB v=true)→(vs.length<549755813888)→B2 Tryz.prog 62 [.ptr m 0,.agg ((Bb t).map .p),.p (.lst (BN vs))] [.box m [.p (.lst (List.map Bu ds)),.p (I n)]] (Kq (fun(r:Tm×Int)=>TV r.1) (fun _=> .p (.iface 122 .unit)) (fun r H'=>H'=[.box m [.p (.lst (List.map Bu ds)),.p (I r.2)]]) (Jg n (CT t vs.reverse 0))):=by
 intro m ds n t vs h1 h2 h3 h4;refine BF Tryz.func62 O qe (n:=16) O O (A6 (BO O (Ba O) fun b4=>BO O (BG B4 O) fun b6=>Bq O (A6 (B3 O (NO O O O (.inl ⟨O,O,O⟩) (KX vs h4) (.inl O) fun o cp=>A1 A7 1 [] O (A6 (B3 O (A0 O (CF [0] O (.inl ⟨O,O,O⟩) (cw vs o cp Ai) ⟨_,_,O,O,O⟩ Aw O (.inl O)) (Bq O (A6 (A5 A7 3 [2] O (Bx (Cj (t:=9) (x:= .vs o (BN vs.reverse).length cp) (Cn vs (l':=vs.reverse) Ay)) (Bx (Cj (t:=7) (x:= .vs o (BN vs.reverse).length cp) (Cn vs (l':=vs.reverse) Ay)) (Bx (Cj (t:=10) (x:= .vs o (BN vs.reverse).length cp) (Cn vs (l':=vs.reverse) Ay)) (Bx (Cj (t:=14) (x:= .vs o (BN vs.reverse).length cp) (Cn vs (l':=vs.reverse) Ay)) ?_)))))))))))))));refine Bx (Cf (i:=0) [9,7,10,14] O (Ds ⟨O,O,O,O,Az⟩)) (D6 [2] O O O (.inl ⟨O,O,O⟩) (Ky m ds n t vs.reverse h1 h2 (YB h3) (by rw[List.length_reverse];exact h4)) ⟨_,_,O,O,O⟩ Aw (aw (we O) (aw (we O) (aw (we O) (FM)))) (fun _ _ h=>(congrArg List.length h).trans O) ?_ ?_)
 rotate_left
 ·intro e _ he;exact⟨O,_,List.nil_sublist _,⟨_,he,O⟩⟩
 rintro⟨z,n2⟩ _ hz rfl;refine A1 A7 1 [0,1] O (A9 (⟨O,_,_,⟨_,_,O,(BI (i:=0) Bg O O Ap),O⟩,(CC (is:=[2]) O),?_⟩));exact⟨⟨z,n2⟩,hz,O,O⟩
theorem XK:∀(m:Nat) (ds:List CX) (s:Int) (x:Gg) (g:Tm) (a:List Tm) (d:CX),(G0 s)→(ds[x.decl.toNat]?=some d)→(0≤x.decl)→(DG d)→(okB g=true)→(a.length<549755813888)→(FB CN d g a s≠ .stuck)→B2 Tryz.prog 106 [.ptr m 0,.agg ((Dn x).map .p),.agg ((Bb g).map .p),.p (.lst (BN a))] [.box m [.p (.lst (List.map Bu ds)),.p (I s)]] (Kq (fun(r:Option Tm×Int)=> .tup [TV (r.1.getD Bp),.p (.bool r.1.isSome)]) (fun _=> .p (.iface 122 .unit)) (fun r H'=>H'=[.box m [.p (.lst (List.map Bu ds)),.p (I r.2)]]) ((FB CN d g a s).ex)):=by
 intro m ds s x g a d h1 h2 h3 h4 h5 h6 h7;obtain⟨gk,gi,gn,gl,gs⟩:=g;have hgo:=CJ.1 h5;have hgl:=hgo.nd;simp only[Nd,Dq] at hgl;refine BF Tryz.func106 O pD (n:=35) O O (A6 (BO O (Ba O) fun b5=>BO O (Ba O) fun b6=>BO O (BG B4 O) fun b8=>A1 A7 1 [] O (A2 (B0 (fun k=>Nat.beq k 15) Dt (BZ A7 5 [3] O (CY (j:=2) O O O (fun H i hi=>BB (i:=i) DO O hi (DZ _)) AB Az (BP O (fun _=>BD Hz O O Ax (EG h2) (Cx _)) Az (BP O (fun _=>B7 DD O O) Az (BP O (fun _=>DU Bg O (FZ _) (BM _)) Az (BZ A7 2 [1] O (BP O (fun _=>BL O O (MT d.value gl (CJ.1 h4.vl).nd (CJ.1 h4.vl).vp (by have:=FA h4.vl;omega) hgl.2.1 hgl.2.2.1) O) Az (BZ A7 3 [] O (GA [] O O (BG B4 O) As fun b10=>⟨AB,Az,?_⟩)))))))))))));refine Bt A7 2 [0,1] O (A2 (A3 A7 2 [] O (A4 O (fun c=>?_) (fun c=>?_))))
 ·(try simp only[sd,se] at c);have hce:=c;refine A3 A7 3 [1,0] O (BQ (Bd (i:=1) O) (A9 (⟨O,_,_,⟨_,_,O,(BI (i:=1) Bg O O O),⟨_,_,O,O,O⟩⟩,(CC (is:=[4]) O),?_⟩)));exact⟨⟨none,s⟩,DX (KN hce),O,O⟩
 (try simp only[sd,se] at c);have hce:=c;refine BA (A6 (B3 O (D6 [4] O O O (.inl ⟨O,O,O⟩) (Ox m ds s h1) ⟨_,_,O,O,O⟩ Aw (aw (we O) (FM)) (fun _ _ h=>(congrArg List.length h).trans O) ?_ ?_)))
 rotate_left
 ·intro e _ he;exact⟨O,_,List.nil_sublist _,⟨_,eu h7 hce he,O⟩⟩
 rintro _ _ hz rfl;refine Bq O (A6 (A5 A7 2 [0] O (A0 O (BL O O (Ec ((By d.value gl).1) a Ai) O) (A1 A7 2 [1,1] O (A9 (⟨O,_,_,⟨_,_,O,(BI (i:=1) Bg O O Ap),⟨_,_,O,O,O⟩⟩,(CC (is:=[4]) O),?_⟩))))));exact⟨⟨some (apply (By d.value gl).1 a),s - 1⟩,DX (eM h7 hce hz),O,O⟩
theorem Uk:∀(m:Nat) (ds:List CX) (s:Int) (d:CX) (g:Tm) (a:List Tm) (mm:Tm),(G0 s)→(KB ds)→(DG d)→(okB g=true)→(a.length<549755813888)→(okB mm=true)→(CQ d<a.length)→(FG ds CN d g a mm s≠ .stuck)→B2 Tryz.prog 110 [.ptr m 0,.agg ((Bu d).map .p),.agg ((Bb g).map .p),.p (.lst (BN a)),.agg ((Bb mm).map .p)] [.box m [.p (.lst (List.map Bu ds)),.p (I s)]] (Kq (fun(r:Option Tm×Int)=> .tup [TV (r.1.getD Bp),.p (.bool r.1.isSome)]) (fun _=> .p (.iface 122 .unit)) (fun r H'=>H'=[.box m [.p (.lst (List.map Bu ds)),.p (I r.2)]]) ((FG ds CN d g a mm s).ex)):=by
 intro m ds s d g a mm h1 h2 h3 h4 h5 h6 h7 h8;obtain⟨gk,gi,gn,gl,gs⟩:=g;have hgo:=CJ.1 h4;have hgl:=hgo.nd;simp only[Nd,Dq] at hgl;have hnr:=Ia h3;have hcl:=h3.din.cl;have hrl:=h3.din.rl;have hfx:=h3.fx;have hir:=F4 h3.din h3.fx;refine BF Tryz.func110 O nt (n:=82) O O (A6 (BO O (Ba O) fun b6=>BO O (Ba O) fun b7=>BO O (Ba O) fun b9=>BO O (BG B4 O) fun b10=>A1 A7 1 [] O (A6 (A5 A7 2 [1] O (A0 O (CF [4] O (.inl ⟨O,O,O⟩) (QV m ds s mm h2 h6) ⟨_,_,O,O,O⟩ Aw O (.inl O)) (A5 A7 5 [] O (BO O (BG Iz O) fun b12=>A1 A7 4 [0,1] O (A2 (A2 (Be [0,3,6,7,10,13,14] 42 (fun y=>y= .p (.bool (((!((CA ds mm).2.2.2))||(!((((CA ds mm).1).name).toList==d.name.toList)))||(decide (((CA ds mm).2.1:Int)≥((d.recs.rules.length:Nat):Int)))))) ?_ ?_))))))))))
 ·refine BC (A5 A7 3 [] O (BY 28 O (fun g1=>?_) (fun g1=>?_)))
  ·(try simp only[sd,se] at g1);exact A1 A7 14 [] O (⟨O,O,AP,AJ,⟨O,O,O,O,O,O,O,Az⟩⟩)
  (try simp only[sd,se] at g1);refine BK O (A8 DD O O) (BK O (BB (i:=0) Lg O O (DW _)) (BK O (A8 DD O O) (BK O (BB (i:=4) Lg O O (DW _)) (BK O (JS O O) (A5 A7 2 [] O (BY 35 O (fun g2=>?_) (fun g2=>?_)))))))
  ·(try simp only[sd,se] at g2);exact A1 A7 7 [] O (⟨O,O,AP,AJ,⟨O,O,O,O,O,O,O,Az⟩⟩)
  (try simp only[sd,se] at g2);exact A5 A7 3 [] O (BK O (BB (i:=4) Gu O O (Cw _)) (BK O (BT Bk O (Bc _)) (A1 A7 2 [] O (⟨O,O,AP,AJ,⟨O,O,O,O,O,O,O,Az⟩⟩))))
 rintro _ rfl;refine A4 O (fun c=>?_) (fun c=>?_)
 ·(try simp only[sd,se] at c);have hib:=V6 (S:=CN) (h:=(.mk gk gi gn gl gs:Tm)) (a:=a) (s:=s) c;refine A3 A7 3 [1,0] O (BQ (Bd (i:=1) O) (A9 (⟨O,_,_,⟨_,_,O,(BI (i:=1) Bg O O O),⟨_,_,O,O,O⟩⟩,(CC (is:=[5]) O),?_⟩)));exact⟨⟨none,s⟩,DX hib,O,O⟩
 (try simp only[sd,se] at c);obtain⟨hg1,hg2,hg3⟩:=Td c;have hg4:=c.2;have hfl:=Ir h2 hg1;refine BA (A2 (B0 (fun k=>Nat.beq k 12) Dt (BZ A7 2 [] O (CY (j:=4) O O O (fun H i hi=>BB (i:=i) Gu O hi (Cw _)) AB Az (BP O (fun _=>Bi O) Az ?_)))));obtain⟨x,hx⟩:=BE (l:=d.recs.rules) (i:=((CA ds mm).2.1:Int).toNat) Ax;have hro:=h3.ru _ (List.mem_of_getElem? hx);refine BP O (fun _=>BD Bk O O Ax (Bj hx) (BM _)) Az (BZ A7 3 [3] O (BP O (fun _=>BL O O (MT x gl (CJ.1 hro).nd (CJ.1 hro).vp (by have:=FA hro;omega) hgl.2.1 hgl.2.2.1) O) Az (BZ A7 3 [] O (GA [] O O (BG B4 O) As fun b16=>⟨AB,Az,?_⟩))));refine Bt A7 2 [0,1] O (A2 (A3 A7 2 [] O (A4 O (fun c1=>?_) (fun c1=>?_))))
 ·(try simp only[sd,se] at c1);have hce:=c1;refine A3 A7 3 [2,0] O (BQ (Bd (i:=2) O) (A9 (⟨O,_,_,⟨_,_,O,(BI (i:=2) Bg O O O),⟨_,_,O,O,O⟩⟩,(CC (is:=[6]) O),?_⟩)));exact⟨⟨none,s⟩,DX (Lr (h:=(.mk gk gi gn gl gs:Tm)) hg1 hg2 hx hce),O,O⟩
 (try simp only[sd,se] at c1);have hce:=c1;refine BA (A6 (B3 O (D6 [6] O O O (.inl ⟨O,O,O⟩) (Ox m ds s h1) ⟨_,_,O,O,O⟩ Aw (aw (we O) (FM)) (fun _ _ h=>(congrArg List.length h).trans O) ?_ ?_)))
 rotate_left
 ·intro e _ he;exact⟨O,_,List.nil_sublist _,⟨_,ij (g:=(.mk gk gi gn gl gs:Tm)) h8 hg1 hg2 hx hce he,O⟩⟩
 rintro _ _ hz rfl;refine Bq O (A2 (B0 (fun k=>false) Dt (BZ A7 3 [0] O (CY (j:=5) O O O (fun H i hi=>BB (i:=i) DO O hi (Cv _)) AB Az (BZ A7 2 [] O (CY (j:=5) O O O (fun H i hi=>BB (i:=i) HY O hi (CH _)) AB Az (BP O (fun _=>BT HN O (List.length_map _)) Az (BP O (fun _=>Kr O O Ax Ax) Az (BP O (fun _=>Cc (lo:=0) (hi:=(((d.fixed:Int)+(1:Int):Int)+((d.ctors.length:Nat):Int):Int).toNat) Bk O (CM (B1 _)) O ⟨_,pI Ax⟩ (Nat.zero_le _) AX (M1 a ((((d.fixed:Int)+(1:Int):Int)+((d.ctors.length:Nat):Int):Int).toNat))) Az (BP O (fun _=>BL O O (Ec ((By x gl).1) (a.take ((((d.fixed:Int)+(1:Int):Int)+((d.ctors.length:Nat):Int):Int).toNat)) (by simp only[Dq,List.length_take];omega)) O) Az ?_))))))))));refine Bt A7 1 [0,1] O (A6 (A5 A7 2 [0] O (A0 O (BL O O (Ec (apply ((By x gl).1) (a.take ((((d.fixed:Int)+(1:Int):Int)+((d.ctors.length:Nat):Int):Int).toNat))) ((CA ds mm).2.2.1) Ai) O) (A1 A7 1 [0,1] O (A2 (B0 (fun k=>false) Dt (BZ A7 3 [0,5] O (BP O (fun _=>BL O O (OM d h3.din h3.fx) O) Az (BP O (fun _=>Kr O O Ax Ax) Az (BP O (fun _=>Cc (lo:=((CQ d:Int)+(1:Int):Int).toNat) Bk O (CM (B1 _)) ⟨_,pI Ax⟩ O AX (Nat.le_refl _) (I6 a (((CQ d:Int)+(1:Int):Int).toNat))) Az (BP O (fun _=>BL O O (Ec (apply (apply ((By x gl).1) (a.take ((((d.fixed:Int)+(1:Int):Int)+((d.ctors.length:Nat):Int):Int).toNat))) ((CA ds mm).2.2.1)) (a.drop (((CQ d:Int)+(1:Int):Int).toNat)) AZ) O) Az ?_)))))))))));refine Bt A7 2 [2,1] O (A9 (⟨O,_,_,⟨_,_,O,(BI (i:=2) Bg O O Ap),⟨_,_,O,O,O⟩⟩,(CC (is:=[6]) O),?_⟩));exact⟨⟨some _,s - 1⟩,DX (iY (g:=(.mk gk gi gn gl gs:Tm)) h8 hg1 hg2 hx hce hz),O,O⟩
def nE (ds:List CX) (n:Nat):Prop:=∀(m:Nat) (t:Tm) (s:Int),G0 s→FF ds CN n s t≠ .stuck→B2 Tryz.prog 39 [.ptr m 0,.agg ((Bb t).map .p)] [.box m [.p (.lst (List.map Bu ds)),.p (I s)]] (Kq (fun(r:Tm×Int)=>TV r.1) (fun _=> .p (.iface 122 .unit)) (fun r H'=>H'=[.box m [.p (.lst (List.map Bu ds)),.p (I r.2)]]) ((FF ds CN n s t).ex))
theorem Qj:∀(n k m:Nat) (ds:List CX) (t:FY) (vs:List Tm) (s:Int),(nE ds n)→(KB ds)→(G0 s)→(SD t vs)→(E4 ds CN (FF ds CN n) k t vs Bp s≠ .stuck)→B2 Tryz.prog 61 [.ptr m 0,.agg ((C5 t).map .p),.p (.lst (BN vs))] [.box m [.p (.lst (List.map Bu ds)),.p (I s)]] (Kq (fun(r:(Option (Tm×List Tm)×Tm)×Int)=> .tup [TV (KR r.1),.p (.lst (BN (Nq r.1))),.p (.bool r.1.1.isSome),TV r.1.2]) (fun _=> .p (.iface 122 .unit)) (fun r H'=>H'=[.box m [.p (.lst (List.map Bu ds)),.p (I r.2)]]) ((E4 ds CN (FF ds CN n) k t vs Bp s).ex)):=by
 intro n k m ds t vs s hW h2 h3 h4 hns;have h4l:=h4.len;generalize hX:E4 ds CN (FF ds CN n) k t vs Bp s=X at hns ⊢;refine BF Tryz.func61 O rJ (n:=76) O O (A6 (BO O (Ba O) fun b4=>BO O (BG B4 O) fun b6=>A5 A7 2 [] O (BO O (BG B4 O) fun b9=>Bq O (A6 (B3 O (NO O O O (.inl ⟨O,O,O⟩) (KX vs Ax) (.inl O) fun o cp=>A1 A7 1 [] O (A6 (BO O (BG B4 O) fun b11=>Bq O (A2 (BJ ?_))))))))));refine Bn (α:=Nat×FY×List Tm×Tm×Int×Option Nat×Nat) (fun(k2,w,us,l,d,o1,cp1)=>⟨76,mk [(0,.ptr m 0),(4,.ptr b4 0),(6,.ptr b6 0),(9,.ptr b9 0),(10,.vs o1 (BN us).length cp1),(11,.ptr b11 0)],[.box b11 ((Bb l).map .p),.vec o1 5 (BN us) cp1,.box b9 [.p (I 0),.p (I 0),.p (.str ⟨#[]⟩),.p (.nils),.p (.nils)],.box b6 [.p (I 0),.p (I 0),.p (.str ⟨#[]⟩),.p (.nils),.p (.nils)],.box b4 ((C5 w).map .p),.box m [.p (.lst (List.map Bu ds)),.p (I d)]],[]⟩) (fun(k2,w,us,l,d,o1,cp1)=>k2) (fun(k2,w,us,l,d,o1,cp1)=>E4 ds CN (FF ds CN n) k2 w us l d=X∧SD w us∧G0 d) ⟨k,t,vs,Bp,s,o,cp⟩ (⟨hX,h4,h3⟩) ?_ ?_
 ·exact Bh ⟨we O,we O,we O,we O,we O,we O,Az⟩ (leH (is:=[0,1,2,3,4,5]) O (wl (on (O)) (wl (oe O) (wl (oe O) (wl (oe O) (wl (oe O) (wl (oe O) (DJ))))))))
 rintro⟨k2,w,us,l,d,o1,cp1⟩ hC
 try simp only at hC
 obtain⟨hC,hL,hJ⟩:=hC;obtain⟨k1,rfl⟩:=Sy hC hns;refine A2 (A6 (A0 O (A8 FK O O) (A0 O (BB (i:=4) DO O O (F6 _)) (A1 A7 1 [] O (A4 O (fun c=>?_) (fun c=>?_))))))
 ·(try simp only[sd,se] at c);have hk1:=c;refine BA (BJ (A2 (A2 (Be [0,4,6,9,10,11] 31 (fun y=>y= .p (.bool ((decide ((w.var:Int)<(0:Int)))||(decide ((w.var:Int)≥((us.length:Nat):Int)))))) ?_ ?_))))
  ·refine BC (A0 O (A8 FK O O) (A0 O (BB (i:=4) DO O O (C0 _)) (A5 A7 2 [] O (BY 25 O (fun g=>?_) (fun g=>?_)))))
   ·(try simp only[sd,se] at g);exact A1 A7 6 [] O (⟨O,O,AP,AJ,⟨O,O,O,O,O,O,Az⟩⟩)
   (try simp only[sd,se] at g);exact BK O (A8 FK O O) (BK O (BB (i:=4) DO O O (C0 _)) (BK O (Bi O) (BK O (Jf Bk O (Bc _)) (A1 A7 2 [] O (⟨O,O,AP,AJ,⟨O,O,O,O,O,O,Az⟩⟩)))))
  rintro _ rfl;refine A4 O (fun c1=>?_) (fun c1=>?_)
  ·(try simp only[sd,se] at c1);rw[Of hk1 (by simpa [CN] using c1)] at hC;refine A2 (B0 (fun k=>false) Dt (Bt A7 6 [0,3,0,2,1] O (BQ (Bd (i:=3) O) (BQ (EJ 7) (A9 (⟨O,_,_,⟨_,_,O,(BI (i:=3) Bg O O O),⟨_,_,O,O,⟨_,_,O,O,⟨_,_,O,(BI (i:=2) Bg O O Ap),O⟩⟩⟩⟩,(CC (is:=[5]) O),?_⟩))))));exact⟨⟨(none,l),d⟩,DX hC.symm,O,O⟩
  (try simp only[sd,se] at c1);have hcb:=c1;refine BA (A6 (A5 A7 3 [] O (A0 O (BB (i:=4) DO O O (C0 _)) (Ju (i:=1) O Ah fun b hb=>?_))));subst hb;refine A0 O (Cg Bk O O Ax AI) ?_;obtain⟨y,hy⟩:=BE (l:=us) (i:=(w.var:Int).toNat) AT;refine A0 O (Da (i:=1) Bg O O (Bj hy)) ?_;rw[Qb hk1 (by simpa [CN] using hcb) hy] at hC;have hn0:=hns;rw[←hC] at hn0;have hn1:=VQ hn0;refine D6 [5] O O O (.inl ⟨O,O,O⟩) (hW m y d hJ hn1) ⟨_,_,O,O,O⟩ Aw (aw (we O) (aw (we O) (FM))) (fun _ _ h=>(congrArg List.length h).trans O) ?_ ?_
  rotate_left
  ·intro e _ he;exact⟨O,_,List.nil_sublist _,⟨_,by rw[←hC];exact Ur hn0 he,rfl⟩⟩
  rintro⟨z,n2⟩ _ hz rfl;obtain⟨hr2,hr3⟩:=VH hn0 hz;rw[hr3] at hC;have hJ2:=Qm hJ (Ij hz);refine A1 A7 1 [0,1] O (A6 (A5 A7 2 [0] O (A0 O (CF [5] O (.inl ⟨O,O,O⟩) (QV m ds n2 z h2 hr2) ⟨_,_,O,O,O⟩ Aw O (.inl O)) (A5 A7 5 [] O (BO O (BG Iz O) fun b12=>A1 A7 4 [0,1] O (A2 (A3 A7 2 [] O (A4 O (fun c2=>?_) (fun c2=>?_)))))))))
  ·(try simp only[sd,se] at c2);rw[Kj (Kt c2)] at hC;refine A2 (B0 (fun k=>false) Dt (Bt A7 6 [1,4,0,3,1] O (BQ (Bd (i:=4) O) (BQ (EJ 7) (A9 (⟨O,_,_,⟨_,_,O,(BI (i:=4) Bg O O O),⟨_,_,O,O,⟨_,_,O,O,⟨_,_,O,(BI (i:=3) Bg O O Ap),O⟩⟩⟩⟩,(CC (is:=[6]) O),?_⟩))))));exact⟨⟨(none,z),n2⟩,DX hC.symm,O,O⟩
  (try simp only[sd,se] at c2);have hcs:=Jv c2;have hcf:=Ek hcs;have hlo:=hcf.lo;have hhi:=hcf.hi;have hfl:=Ir h2 hcs;refine BA (A2 (B0 (fun k=>Nat.beq k 11) Dt (BZ A7 2 [5] O (CY (j:=0) O O O (fun H i hi=>BB (i:=i) HY O hi (CH _)) AB Az (BP O (fun _=>Bi O) Az ?_)))));obtain⟨x,hx⟩:=BE (l:=((CA ds z).1).ctors) (i:=((CA ds z).2.1:Int).toNat) Ax;refine BP O (fun _=>BD HN O O Ax (EU hx) (D8 _)) Az (BP O (fun _=>B7 Iq O O) Az (BP O (fun _=>DA Lg O (FQ _)) Az (BP O (fun _=>BL O O (TI w x.name hL.tin.bl) O) Az (BZ A7 3 [] O (GA [] O O (BG Sk O) As fun b16=>⟨AB,Az,?_⟩)))));refine Bt A7 2 [0,1] O (A2 (A3 A7 2 [] O (A4 O (fun c3=>?_) (fun c3=>?_))))
  ·(try simp only[sd,se] at c3);rw[Nv hcs (by rw[El,CI hx];exact WY c3)] at hC;refine A2 (B0 (fun k=>false) Dt (Bt A7 6 [2,5,0,4,1] O (BQ (Bd (i:=5) O) (BQ (EJ 7) (A9 (⟨O,_,_,⟨_,_,O,(BI (i:=5) Bg O O O),⟨_,_,O,O,⟨_,_,O,O,⟨_,_,O,(BI (i:=4) Bg O O Ap),O⟩⟩⟩⟩,(CC (is:=[7]) O),?_⟩))))));exact⟨⟨(none,z),n2⟩,DX hC.symm,O,O⟩
  (try simp only[sd,se] at c3);have hbs:=VY c3;rw[OP hcs (by rw[El,CI hx];exact hbs)] at hC;refine BA (A3 A7 2 [0,6,1] O (BC (A5 A7 2 [] O (EN O O (CE (i:=3) (rows':=BN ((CA ds z).2.2.1)) Bk Bk B4 O O O O O O (B1 _) (by have:=hL.len;simp only[Bc,List.length_append];omega) (Hk us ((CA ds z).2.2.1))) fun o2 cp2=>A1 A7 1 [] O (⟨⟨k1,(cK x.name w.branches).1,us++(CA ds z).2.2.1,z,n2,o2,cp2⟩,Ac,⟨hC,hL.next h2 hr2 hcs hbs,hJ2⟩,Bh ⟨we O,we O,we O,we O,we O,we O,Az⟩ (leH (is:=[2,3,4,5,6,7]) O (wl (oe O) (wl (oe O) (wl (oe O) (wl (oe O) (wl (oe O) (wl (oe O) (DJ))))))))⟩)))))
 (try simp only[sd,se] at c);have hk1:=c;rw[Mi hk1] at hC;refine Bo (A6 (A0 O (A8 FK O O) (A0 O (B6 (i:=4) Bg O O (Ew _) (BM _)) (A1 A7 6 [3,1,2,0] O (BQ (Cf (i:=1) [10,74,7] O (Ds ⟨O,O,O,Az⟩)) (BQ (Bd (i:=1) O) (A9 (⟨O,_,_,⟨_,_,O,(BI (i:=2) Bg O O Ap),⟨_,_,O,O,⟨_,_,O,O,⟨_,_,O,(BI (i:=1) Bg O O O),O⟩⟩⟩⟩,(CC (is:=[4]) O),?_⟩))))))));exact⟨⟨(some (w.body,us),Bp),d⟩,DX hC.symm,O,O⟩
theorem l4:∀(n m:Nat) (ds:List CX) (s:Int) (x:Gg) (g:Tm) (a:List Tm) (d:CX),(nE ds n)→(KB ds)→(G0 s)→(ds[x.decl.toNat]?=some d)→(0≤x.decl)→(DG d)→(okB g=true)→(a.length<549755813888)→(∀y∈a,okB y=true)→(Sa ds CN (FF ds CN n) d g a s≠ .stuck)→B2 Tryz.prog 107 [.ptr m 0,.agg ((Dn x).map .p),.agg ((Bb g).map .p),.p (.lst (BN a))] [.box m [.p (.lst (List.map Bu ds)),.p (I s)]] (Kq (fun(r:Option Tm×Int)=> .tup [TV (r.1.getD Bp),.p (.bool r.1.isSome)]) (fun _=> .p (.iface 122 .unit)) (fun r H'=>H'=[.box m [.p (.lst (List.map Bu ds)),.p (I r.2)]]) ((Sa ds CN (FF ds CN n) d g a s).ex)):=by
 intro n m ds s x g a d hW h2 h3 h4 h5 h6 h7 h8 h9 hns;have hnr:=Ia h6;generalize hC:Sa ds CN (FF ds CN n) d g a s=X at hns ⊢;refine BF Tryz.func107 O mZ (n:=40) O O (A6 (BO O (Ba O) fun b5=>BO O (Ba O) fun b6=>BO O (BG B4 O) fun b8=>A1 A7 1 [] O (A2 (B0 (fun k=>Nat.beq k 8) Dt (BZ A7 5 [3] O (CY (j:=2) O O O (fun H i hi=>BB (i:=i) DO O hi (DZ _)) AB Az (BP O (fun _=>BD Hz O O Ax (EG h4) (Cx _)) Az (BP O (fun _=>BU Fg O (Cx _)) Az (GA [] O O (BG Iz O) As fun b10=>⟨AB,Az,?_⟩)))))))));refine Bt A7 1 [0,1] O (A6 (A0 O (Bf (i:=0) Fg O O Am) (A0 O (BL O O (OM d h6.din h6.fx) O) (A1 A7 1 [] O (A2 (A6 (B3 O (A0 O (BT Bk O (Bc _)) (A1 A7 2 [] O (A4 O (fun c=>?_) (fun c=>?_)))))))))))
 ·(try simp only[sd,se] at c);rw[Zg Ax] at hC;refine A3 A7 3 [1,0] O (BQ (Bd (i:=1) O) (A9 (⟨O,_,_,⟨_,_,O,(BI (i:=1) Bg O O O),⟨_,_,O,O,O⟩⟩,(CC (is:=[4]) O),?_⟩)));exact⟨⟨none,s⟩,DX hC.symm,O,O⟩
 (try simp only[sd,se] at c);refine BA (A2 (B0 (fun k=>Nat.beq k 9||Nat.beq k 10) Dt (BZ A7 7 [0,2] O ?_)));obtain⟨x1,hx1⟩:=BE (l:=a) (i:=(CQ d:Int).toNat) Ax;rw[e8 Ax hx1] at hC;have hn0:=hns;rw[←hC] at hn0;have hn1:=VQ hn0;refine BP O (fun _=>BD Bk O O Ax (Bj hx1) (BM _)) Az (BP O (fun _=>BU Bg O (BM _)) Az (O7 [4] O O O (.inl ⟨O,O,O⟩) (hW m x1 s h3 hn1) ⟨_,_,O,O,O⟩ Aw (aw (we O) (aw (we O) (FM))) (fun _ _ h=>(congrArg List.length h).trans O) As As O AB ?_ ?_))
 rotate_left
 ·intro e he _ _ hτ;exact⟨O,_,List.nil_sublist _,⟨_,by rw[←hC];exact Ur hn0 he,rfl⟩⟩
 rintro⟨z,n2⟩ _ hz rfl;refine⟨AB,Az,?_⟩;obtain⟨hr2,hr3⟩:=VH hn0 hz;rw[hr3] at hC;simp only at hC;have hJ2:=Qm h3 (Ij hz);refine O7 [4] O O O (.inl ⟨O,O,O⟩) (Uk m ds n2 d g a z hJ2 h2 h6 h7 h8 hr2 Ax (by rw[hC];exact hns)) ⟨_,_,O,O,O⟩ Aw (aw (we O) (aw (we O) (aw (we O) (aw (we O) (aw (we O) (FM)))))) (fun _ _ h=>(congrArg List.length h).trans O) As As O AB ?_ ?_
 rotate_left
 ·intro e he _ _ hτ;exact⟨O,_,List.nil_sublist _,⟨_,by rw[←hC];exact he,rfl⟩⟩
 rintro⟨q,n21⟩ _ hz1 rfl;refine⟨AB,Az,?_⟩;have hfin:=hz1;refine Bt A7 4 [1,1] O (A9 (⟨O,_,_,⟨_,_,O,(BI (i:=1) Bg O O Ap),⟨_,_,O,O,O⟩⟩,(CC (is:=[4]) O),?_⟩));exact⟨⟨q,n21⟩,by rw[←hC];exact hfin,rfl,rfl⟩
theorem Zz:∀(m:Nat) (ds:List CX) (n:Int) (g p q:Tm),(G0 n)→(g.kind=9∨g.kind=10)→(p.kids[(1+g.kind - 9).toNat]?=some q)→B2 Tryz.prog 75 [.ptr m 0,.agg ((Bb g).map .p),.agg ((Bb p).map .p)] [.box m [.p (.lst (List.map Bu ds)),.p (I n)]] (Kq (fun(r:Tm×Int)=>TV r.1) (fun _=> .p (.iface 122 .unit)) (fun r H'=>H'=[.box m [.p (.lst (List.map Bu ds)),.p (I r.2)]]) (Jg n (q,0))):=by
 intro m ds n g p q h1 h2 h3;obtain⟨gk,gi,gn,gl,gs⟩:=g;obtain⟨pk,pi,pn,pl,ps⟩:=p;simp only[Tm.kind,Tm.kids] at h2 h3;refine BF Tryz.func75 O rj (n:=17) O O (A6 (BO O (Ba O) fun b4=>BO O (Ba O) fun b5=>BO O (BG B4 O) fun b6=>Bq O (A6 (B3 O (D6 [3] O O O (.inl ⟨O,O,O⟩) (Ox m ds n h1) ⟨_,_,O,O,O⟩ Aw (aw (we O) (FM)) (fun _ _ h=>(congrArg List.length h).trans O) ?_ ?_)))))
 rotate_left
 ·intro e _ he;exact⟨O,_,List.nil_sublist _,⟨_,gB he,O⟩⟩
 rintro _ _ hz rfl;refine Bq O (A6 (A5 A7 6 [1,2] O (A0 O (BD Bk O O Ax (Bj h3) (BM _)) (A1 A7 2 [0,1] O (A9 (⟨O,_,_,⟨_,_,O,(BI (i:=0) Bg O O Ap),O⟩,(CC (is:=[3]) O),?_⟩))))));exact⟨⟨q,n - 1⟩,nk hz,O,O⟩
theorem eB:∀(n m:Nat) (ds:List CX) (s:Int) (x:Gg) (g:Tm) (a:List Tm) (d:CX) (f:Hi),(nE ds n)→(Gz ds)→(G0 s)→(ds[x.decl.toNat]?=some d)→(0≤x.decl)→(d.funs[x.item.toNat]?=some f)→(0≤x.item)→(okB g=true)→(a.length<549755813888)→(∀y∈a,okB y=true)→(KE ds CN (FF ds CN n) n f g a s≠ .stuck)→B2 Tryz.prog 108 [.ptr m 0,.agg ((Dn x).map .p),.agg ((Bb g).map .p),.p (.lst (BN a))] [.box m [.p (.lst (List.map Bu ds)),.p (I s)]] (Kq (fun(r:Option Tm×Int)=> .tup [TV (r.1.getD Bp),.p (.bool r.1.isSome)]) (fun _=> .p (.iface 122 .unit)) (fun r H'=>H'=[.box m [.p (.lst (List.map Bu ds)),.p (I r.2)]]) ((KE ds CN (FF ds CN n) n f g a s).ex)):=by
 intro n m ds s x g a d f hW h2 h3 h4 h5 h6 h7 h8 h9 h10 hns;obtain⟨gk,gi,gn,gl,gs⟩:=g;have hgo:=CJ.1 h8;have hgl:=hgo.nd;simp only[Nd,Dq] at hgl;have hdm:=List.mem_of_getElem? h4;have hfm:=List.mem_of_getElem? h6;have hfa:=(h2.g.all _ hdm).fu _ hfm;generalize hC:KE ds CN (FF ds CN n) n f (.mk gk gi gn gl gs:Tm) a s=X at hns ⊢;refine BF Tryz.func108 O me (n:=70) O O (A6 (BO O (Ba O) fun b5=>BO O (Ba O) fun b6=>BO O (BG B4 O) fun b8=>A1 A7 1 [] O (A2 (B0 (fun k=>Nat.beq k 13) Dt (BZ A7 5 [3] O (CY (j:=2) O O O (fun H i hi=>BB (i:=i) DO O hi (DZ _)) AB Az (BP O (fun _=>BD Hz O O Ax (EG h4) (Cx _)) Az (BP O (fun _=>B7 DD O O) Az (BP O (fun _=>DA HW O (CP _)) Az (BP O (fun _=>A8 Fv O O) Az (CY (j:=2) O O O (fun H i hi=>BB (i:=i) DO O hi (E2 _)) AB Az (BP O (fun _=>BD Gy O O Ax (ET h6) (DV _)) Az (BP O (fun _=>BU e7 O (DV _)) Az (GA [] O O (BG bW O) As fun b10=>⟨AB,Az,?_⟩))))))))))))));refine Bt A7 1 [0,1] O (A2 (A6 (B3 O (A0 O (BT Bk O (Bc _)) (A0 O (A8 Gw O O) (A0 O (BB (i:=0) DO O O (CU _)) (A1 A7 1 [] O (A4 O (fun c=>?_) (fun c=>?_)))))))))
 ·(try simp only[sd,se] at c);rw[Tf Ax] at hC;refine A3 A7 3 [1,0] O (BQ (Bd (i:=1) O) (A9 (⟨O,_,_,⟨_,_,O,(BI (i:=1) Bg O O O),⟨_,_,O,O,O⟩⟩,(CC (is:=[4]) O),?_⟩)));exact⟨⟨none,s⟩,DX hC.symm,O,O⟩
 (try simp only[sd,se] at c);have hl0:¬(a.length:Int)<f.arity:=by omega
 refine BA (A2 ?_);rw[XA hl0] at hC;have hn0:=hns;rw[←hC] at hn0;have hn1:=Jo hn0;obtain⟨e,he⟩ | ⟨⟨q,n2⟩,hz⟩:=GG ((E4 ds CN (FF ds CN n) n f.tree (a.take ((f.arity:Int).toNat)) Bp s).ex)
 ·refine JE ((fun _=> .p (.iface 122 .unit)) e) 7 [.val (.ptr m 0),.val (.ptr b10 (0+7)),.val (.agg ((C5 f.tree).map .p)),.val (.p (.lst (BN a))),.val (.ptr b10 (0+6)),.val (.p (I f.arity)),.val (.p (.lst (BN (a.take ((f.arity:Int).toNat))))),.val (.p .any),.val (.p .any),.val (.p .any),.val (.p .any),.val (.p .any),.val (.p .any),.new [.p (I 0),.p (I 0),.p (.str ⟨#[]⟩),.p (.nils),.p (.nils)],.new [.p (I 0),.p (I 0),.p (.str ⟨#[]⟩),.p (.nils),.p (.nils)],.val (.p .any),.val (.p .any),.val (.p .any),.val (.p .any)] Dt O As O Az (fun _ _=>by exact⟨rfl,_,List.nil_sublist _,⟨_,by rw[←hC];exact LI hn0 he,rfl⟩⟩) ?_;refine CK O O (fun Bs=>Bi O) (CK O O (fun Bs=>A8 Gw O O) (CK O O (fun Bs=>B6 (i:=Bs.length+0) JJ O (Ck O) (D5 _) (Cy _)) (CK O O (fun Bs=>Bi O) (CK O O (fun Bs=>A8 Gw O O) (CK O O (fun Bs=>BB (i:=Bs.length+0) DO O (Ck O) (CU _)) (CK O O (fun Bs=>Cc (lo:=0) (hi:=(f.arity:Int).toNat) Bk O (CM (B1 _)) O ⟨_,pI Ax⟩ (Nat.zero_le _) AX (M1 a ((f.arity:Int).toNat))) (K8 (mkp:=(fun _=> .p (.iface 122 .unit))) (e:=e) [4] he O O (.inl ⟨O,O,O⟩) (Qj n n m ds f.tree (a.take ((f.arity:Int).toNat)) s hW h2.g h3 (OQ h2 hdm hfm h10) hn1) ⟨_,_,O,O,O⟩ Aw (aw (we O) (aw (we O) (aw (we O) (FM)))) (DP O O As (DP O O As (DP O O As (DP O O As (DP O O As ?_))))))))))));exact Ua O O (fun Bs=>BG B4 O) fun _=>Ua O O (fun Bs=>BG B4 O) fun _=>DP O O As (DP O O As (DP O O As (DP O O As LD)))
 rw[Mc hz] at hC;have hlo:=SM h2.g _ _ _ _ _ _ _ (OQ h2 hdm hfm h10) (Ij hz);have hJ2:=TF h3 (Ij hz);refine IU [.box b10 ((FJ f).map .p),.box b8 [.p (I 0),.p (I 0),.p (.str ⟨#[]⟩),.p (.nils),.p (.nils)],.box b6 [.p (I gk),.p (I gi),.p (.str gn),.p (.lst (List.map B9 gl)),.p (.lst (BN gs))],.box b5 ((Dn x).map .p),.box m [.p (.lst (List.map Bu ds)),.p (I n2)]] 7 [.val (.ptr m 0),.val (.ptr b10 (0+7)),.val (.agg ((C5 f.tree).map .p)),.val (.p (.lst (BN a))),.val (.ptr b10 (0+6)),.val (.p (I f.arity)),.val (.p (.lst (BN (a.take ((f.arity:Int).toNat))))),.val (.tup [.agg ((Bb (KR q)).map .p),.p (.lst (BN (Nq q))),.p (.bool q.1.isSome),.agg ((Bb q.2).map .p)]),.val (.tup [.agg ((Bb (KR q)).map .p),.p (.lst (BN (Nq q))),.p (.bool q.1.isSome),.agg ((Bb q.2).map .p)]),.val (.agg ((Bb (KR q)).map .p)),.val (.p (.lst (BN (Nq q)))),.val (.p (.bool q.1.isSome)),.val (.agg ((Bb q.2).map .p)),.new [.p (I 0),.p (I 0),.p (.str ⟨#[]⟩),.p (.nils),.p (.nils)],.new [.p (I 0),.p (I 0),.p (.str ⟨#[]⟩),.p (.nils),.p (.nils)]] [.p .any,.p (.lst (BN (Nq q))),.p (.bool q.1.isSome),.p .any] [10,11,12] Dt O As As As O ?_ ?_
 ·exact Az
 refine Bz O O (fun Bs=>Bi O) (Bz O O (fun Bs=>A8 Gw O O) (GL O O O (fun Bs=>B6 (i:=Bs.length+0) JJ O (Ck O) (D5 _) (Cy _)) (fun Bs=>B6 (i:=Bs.length+0) JJ O (Ck O) (D5 _) (Cy _)) (Bz O O (fun Bs=>Bi O) (Bz O O (fun Bs=>A8 Gw O O) (GL O O O (fun Bs=>BB (i:=Bs.length+0) DO O (Ck O) (CU _)) (fun Bs=>BB (i:=Bs.length+0) DO O (Ck O) (CU _)) (Bz O O (fun Bs=>Cc (lo:=0) (hi:=(f.arity:Int).toNat) Bk O (CM (B1 _)) O ⟨_,pI Ax⟩ (Nat.zero_le _) AX (M1 a ((f.arity:Int).toNat))) ?_))))));refine J6 O (fun Bs=>G3 [4] O (.inl ⟨O,O,O⟩) (Kz hz (Qj n n m ds f.tree (a.take ((f.arity:Int).toNat)) s hW h2.g h3 (OQ h2 hdm hfm h10) hn1)) ⟨_,_,O,O,O⟩ Aw O (aw (we O) (aw (we O) (aw (we O) (FM))))) (Bz O O (fun Bs=>Bi O) (Bz O O (fun Bs=>Dk O O) (Bz O O (fun Bs=>Dk O O) (Bz O O (fun Bs=>Dk O O) (Bz O O (fun Bs=>Dk O O) (PD O O (fun Bs=>BG B4 O) fun b11=>PD O O (fun Bs=>BG B4 O) fun b14=>KH ?_))))));refine EB [.box b11 ((Bb (KR q)).map .p),.box b14 [.p (I 0),.p (I 0),.p (.str ⟨#[]⟩),.p (.nils),.p (.nils)],.box b10 ((FJ f).map .p),.box b8 [.p (I 0),.p (I 0),.p (.str ⟨#[]⟩),.p (.nils),.p (.nils)],.box b6 [.p (I gk),.p (I gi),.p (.str gn),.p (.lst (List.map B9 gl)),.p (.lst (BN gs))],.box b5 ((Dn x).map .p),.box m [.p (.lst (List.map Bu ds)),.p (I n2)]] O (Cq (i:=0) Bg O O O Ap Ae (FD _)) (EB [.box b11 ((Bb (KR q)).map .p),.box b14 [.p (I 0),.p (I 0),.p (.str ⟨#[]⟩),.p (.nils),.p (.nils)],.box b10 ((FJ f).map .p),.box b8 [.p (I 0),.p (I 0),.p (.str ⟨#[]⟩),.p (.nils),.p (.nils)],.box b6 [.p (I gk),.p (I gi),.p (.str gn),.p (.lst (List.map B9 gl)),.p (.lst (BN gs))],.box b5 ((Dn x).map .p),.box m [.p (.lst (List.map Bu ds)),.p (I n2)]] O (EY O) ?_)
 refine EB [.box b11 ((Bb (KR q)).map .p),.box b14 [.p (I 0),.p (I 0),.p (.str ⟨#[]⟩),.p (.nils),.p (.nils)],.box b10 ((FJ f).map .p),.box b8 [.p (I 0),.p (I 0),.p (.str ⟨#[]⟩),.p (.nils),.p (.nils)],.box b6 [.p (I gk),.p (I gi),.p (.str gn),.p (.lst (List.map B9 gl)),.p (.lst (BN gs))],.box b5 ((Dn x).map .p),.box m [.p (.lst (List.map Bu ds)),.p (I n2)]] O (EY O) (EB [.box b11 ((Bb (KR q)).map .p),.box b14 ((Bb q.2).map .p),.box b10 ((FJ f).map .p),.box b8 [.p (I 0),.p (I 0),.p (.str ⟨#[]⟩),.p (.nils),.p (.nils)],.box b6 [.p (I gk),.p (I gi),.p (.str gn),.p (.lst (List.map B9 gl)),.p (.lst (BN gs))],.box b5 ((Dn x).map .p),.box m [.p (.lst (List.map Bu ds)),.p (I n2)]] O (Cq (i:=1) Bg O O O Ap Ae (FD _)) (J7 (A2 (A3 A7 2 [] O (A4 O (fun c1=>?_) (fun c1=>?_))))))
 ·(try simp only[sd,se] at c1);rw[R2 (.inl (by simpa using c1))] at hC;refine A3 A7 3 [3,0] O (BQ (Bd (i:=3) O) (A9 (⟨O,_,_,⟨_,_,O,(BI (i:=3) Bg O O O),⟨_,_,O,O,O⟩⟩,(CC (is:=[6]) O),?_⟩)));exact⟨⟨none,n2⟩,DX hC.symm,O,O⟩
 (try simp only[sd,se] at c1);rw[SL (by simpa using c1) rfl] at hC;refine BA (A6 (A5 A7 3 [0,4] O (A0 O (BL O O (MT (KR q) gl (CJ.1 hlo.1).nd (CJ.1 hlo.1).vp (by have:=FA hlo.1;omega) hgl.2.1 hgl.2.2.1) O) (A1 A7 5 [0,1] O (A2 (A3 A7 2 [] O (A4 O (fun c2=>?_) (fun c2=>?_))))))))
 ·(try simp only[sd,se] at c2);rw[JU (h:=(.mk gk gi gn gl gs:Tm)) c2] at hC;refine A3 A7 3 [3,0] O (BQ (Bd (i:=3) O) (A9 (⟨O,_,_,⟨_,_,O,(BI (i:=3) Bg O O O),⟨_,_,O,O,O⟩⟩,(CC (is:=[6]) O),?_⟩)));exact⟨⟨none,n2⟩,DX hC.symm,O,O⟩
 (try simp only[sd,se] at c2);obtain⟨hb1,hb2,hb3,hb4⟩:=QZ (by rw[hC];exact hns) c2;rw[hb4] at hC;have hn3:=hns;rw[←hC] at hn3;refine BA (A2 ?_);obtain⟨e,he⟩ | ⟨⟨z,n21⟩,hz1⟩:=GG (Jg n2 (CT ((By (KR q) gl).1) (Nq q).reverse 0))
 ·refine JE ((fun _=> .p (.iface 122 .unit)) e) 3 [.val (.ptr m 0),.val (.agg ((Bb ((By (KR q) gl).1)).map .p)),.val (.p (.lst (BN (Nq q)))),.val (.p .any),.val (.p (.lst (BN a))),.val (.ptr b10 (0+6)),.val (.p (I f.arity)),.val (.p (.lst (BN (a.drop ((f.arity:Int).toNat))))),.val (.p .any),.val (.p .any),.val (.p .any)] Dt O As O Az (fun _ _=>by exact⟨rfl,_,List.nil_sublist _,⟨_,by rw[←hC];exact Km hn3 he,rfl⟩⟩) ?_;exact CK O O (fun Bs=>Bi O) (CK O O (fun Bs=>Bf (i:=Bs.length+0) Bg O (Ck O) Ap) (CK O O (fun Bs=>Bi O) (K8 (mkp:=(fun _=> .p (.iface 122 .unit))) (e:=e) [6] he O O (.inl ⟨O,O,O⟩) (Qu m ds n2 ((By (KR q) gl).1) (Nq q) hJ2 hb1 hb2 Ax) ⟨_,_,O,O,O⟩ Aw (aw (we O) (aw (we O) (aw (we O) (FM)))) (CK O O (fun Bs=>Bi O) (CK O O (fun Bs=>A8 Gw O O) (CK O O (fun Bs=>BB (i:=Bs.length+2) DO O (Ck O) (CU _)) (CK O O (fun Bs=>Cc (lo:=(f.arity:Int).toNat) Bk O (CM (B1 _)) ⟨_,pI Ax⟩ O AX (Nat.le_refl _) (I6 a ((f.arity:Int).toNat))) (DP O O As (DP O O As (DP O O As LD))))))))))
 rw[K3 hn3 hz1] at hC;refine IU [.box b11 ((Bb ((By (KR q) gl).1)).map .p),.box b14 ((Bb q.2).map .p),.box b10 ((FJ f).map .p),.box b8 [.p (I 0),.p (I 0),.p (.str ⟨#[]⟩),.p (.nils),.p (.nils)],.box b6 [.p (I gk),.p (I gi),.p (.str gn),.p (.lst (List.map B9 gl)),.p (.lst (BN gs))],.box b5 ((Dn x).map .p),.box m [.p (.lst (List.map Bu ds)),.p (I n21)]] 3 [.val (.ptr m 0),.val (.agg ((Bb ((By (KR q) gl).1)).map .p)),.val (.p (.lst (BN (Nq q)))),.val (.agg ((Bb z).map .p)),.val (.p (.lst (BN a))),.val (.ptr b10 (0+6)),.val (.p (I f.arity)),.val (.p (.lst (BN (a.drop ((f.arity:Int).toNat))))),.val (.agg ((Bb (apply z (a.drop ((f.arity:Int).toNat)))).map .p))] [.p .any,.p (.bool true)] [] Dt O As As As O ?_ ?_
 ·exact Az
 refine Bz O O (fun Bs=>Bi O) (GL O O O (fun Bs=>Bf (i:=Bs.length+0) Bg O (Ck O) Ap) (fun Bs=>Bf (i:=Bs.length+0) Bg O (Ck O) Ap) (Bz O O (fun Bs=>Bi O) (J6 O (fun Bs=>G3 [6] O (.inl ⟨O,O,O⟩) (Kz hz1 (Qu m ds n2 ((By (KR q) gl).1) (Nq q) hJ2 hb1 hb2 Ax)) ⟨_,_,O,O,O⟩ Aw O (aw (we O) (aw (we O) (aw (we O) (FM))))) (Bz O O (fun Bs=>Bi O) (Bz O O (fun Bs=>A8 Gw O O) (GL O O O (fun Bs=>BB (i:=Bs.length+2) DO O (Ck O) (CU _)) (fun Bs=>BB (i:=Bs.length+2) DO O (Ck O) (CU _)) (Bz O O (fun Bs=>Cc (lo:=(f.arity:Int).toNat) Bk O (CM (B1 _)) ⟨_,pI Ax⟩ O AX (Nat.le_refl _) (I6 a ((f.arity:Int).toNat))) ?_)))))));refine Bz O O (fun Bs=>BL O O (Ec z (a.drop ((f.arity:Int).toNat)) AZ) O) (KH (EB [.box b11 ((Bb ((By (KR q) gl).1)).map .p),.box b14 ((Bb q.2).map .p),.box b10 ((FJ f).map .p),.box b8 ((Bb (apply z (a.drop ((f.arity:Int).toNat)))).map .p),.box b6 [.p (I gk),.p (I gi),.p (.str gn),.p (.lst (List.map B9 gl)),.p (.lst (BN gs))],.box b5 ((Dn x).map .p),.box m [.p (.lst (List.map Bu ds)),.p (I n21)]] O (Cq (i:=3) Bg O O O Ap Ae (FD _)) ?_));refine EB [.box b11 ((Bb ((By (KR q) gl).1)).map .p),.box b14 ((Bb q.2).map .p),.box b10 ((FJ f).map .p),.box b8 ((Bb (apply z (a.drop ((f.arity:Int).toNat)))).map .p),.box b6 [.p (I gk),.p (I gi),.p (.str gn),.p (.lst (List.map B9 gl)),.p (.lst (BN gs))],.box b5 ((Dn x).map .p),.box m [.p (.lst (List.map Bu ds)),.p (I n21)]] O (EY O) (J7 (A9 (⟨O,_,_,⟨_,_,O,(BI (i:=3) Bg O O Ap),⟨_,_,O,O,O⟩⟩,(CC (is:=[6]) O),?_⟩)));exact⟨⟨some _,_⟩,DX hC.symm,O,O⟩
set_option maxHeartbeats 4000000 in
theorem fH:∀(n m:Nat) (ds:List CX) (s:Int) (g:Tm) (a:List Tm),(nE ds n)→(Gz ds)→(G0 s)→(okB g=true)→(a.length<549755813888)→(∀y∈a,okB y=true)→(Fk ds CN (FF ds CN n) n g a s≠ .stuck)→B2 Tryz.prog 76 [.ptr m 0,.agg ((Bb g).map .p),.p (.lst (BN a))] [.box m [.p (.lst (List.map Bu ds)),.p (I s)]] (Kq (fun(r:Option Tm×Int)=> .tup [TV (r.1.getD Bp),.p (.bool r.1.isSome)]) (fun _=> .p (.iface 122 .unit)) (fun r H'=>H'=[.box m [.p (.lst (List.map Bu ds)),.p (I r.2)]]) ((Fk ds CN (FF ds CN n) n g a s).ex)):=by
 intro n m ds s g a hW h2 h3 h4 h5 h6 hns;obtain⟨gk,gi,gn,gl,gs⟩:=g;have hgo:=CJ.1 h4;have hgl:=hgo.nd;simp only[Nd,Dq] at hgl;generalize hC:Fk ds CN (FF ds CN n) n (.mk gk gi gn gl gs:Tm) a s=X at hns ⊢;refine BF Tryz.func76 O qc (n:=40) O O (A6 (BO O (Ba O) fun b4=>BO O (BG B4 O) fun b6=>A1 A7 1 [] O (A6 (A5 A7 2 [1] O (A0 O (CF [2] O (.inl ⟨O,O,O⟩) (PA m ds s (.mk gk gi gn gl gs:Tm) h2.g.env) ⟨_,_,O,O,O⟩ Aw O (.inl O)) (A5 A7 3 [] O (BO O (BG Hw O) fun b8=>A1 A7 2 [0,1] O (A2 (A3 A7 2 [] O (A4 O (fun c=>?_) (fun c=>?_)))))))))))
 ·(try simp only[sd,se] at c);rw[Q5 c] at hC;refine A3 A7 3 [1,0] O (BQ (Bd (i:=1) O) (A9 (⟨O,_,_,⟨_,_,O,(BI (i:=1) Bg O O O),⟨_,_,O,O,O⟩⟩,(CC (is:=[3]) O),?_⟩)));exact⟨⟨none,s⟩,DX hC.symm,O,O⟩
 (try simp only[sd,se] at c);have hu:=c;obtain⟨ix,dd,e1,e2,e3,e4⟩:=JV hu;have hde:=e2.decl;have hdg:=h2.g.all _ e3;have hel:=h2.g.env.len;have hil:=(List.getElem?_eq_some_iff.1 e1).1;have hfx:=hdg.fx;have hnr:=Ia hdg;have hcl:=hdg.din.cl;have hfl:=hdg.din.fl;have hki:=e2.kind;have hkp:(Bw ds (Tm.mk gk gi gn gl gs).name).1.kind=0∨(Bw ds (Tm.mk gk gi gn gl gs).name).1.kind=1∨(Bw ds (Tm.mk gk gi gn gl gs).name).1.kind=2∨(Bw ds (Tm.mk gk gi gn gl gs).name).1.kind=3∨(Bw ds (Tm.mk gk gi gn gl gs).name).1.kind=4∨(Bw ds (Tm.mk gk gi gn gl gs).name).1.kind=5∨(Bw ds (Tm.mk gk gi gn gl gs).name).1.kind=6:=by omega
 refine BA (A2 ?_);rcases hkp with hkk | hkk | hkk | hkk | hkk | hkk | hkk
 ·refine BC (A5 A7 6 [] O (A0 O (Ef J5 Jx Q8 O) (A0 O (A8 Fv O O) (A0 O (BB (i:=0) DO O O (DK _)) (A0 O (Fa (j:=0) J5 Jx O O (hkk) O Aw) (A1 A7 1 [] O (A2 (A6 (B3 O (A0 O (HT As (.inl ⟨O,O⟩) O) (Bq O ?_)))))))))));refine A4 O (fun c1=>?_) (fun c1=>by cases c1);refine A6 ?_;rw[Ly hu Ax Ax Ax] at hC;refine A1 A7 3 [1,0] O (BQ (Bd (i:=1) O) (A9 (⟨O,_,_,⟨_,_,O,(BI (i:=1) Bg O O O),⟨_,_,O,O,O⟩⟩,(CC (is:=[3]) O),?_⟩)));exact⟨⟨none,s⟩,DX hC.symm,O,O⟩
 ·refine BC (A5 A7 6 [] O (A0 O (Ef J5 Jx Q8 O) (A0 O (A8 Fv O O) (A0 O (BB (i:=0) DO O O (DK _)) (A0 O (Fa (j:=1) J5 Jx O O (hkk) O Aw) (A1 A7 1 [] O (A2 (A6 (B3 O (A0 O (HT As (.inr ⟨⟨_,_,_,O⟩,O⟩) O) (Bq O ?_)))))))))));refine A4 O (fun c1=>by cases c1) (fun c1=>?_);refine BA (A6 (A5 A7 4 [0,2] O ?_));rw[Mg hu e4 hkk] at hC;refine D6 [3] O O O (.inr O) (XK m ds s ((Bw ds (.mk gk gi gn gl gs:Tm).name).1) (.mk gk gi gn gl gs:Tm) a dd h3 e4 Ax hdg h4 h5 (by rw[hC];exact hns)) ⟨_,_,O,O,O⟩ Aw (aw (we O) (aw (we O) (aw (we O) (aw (we O) (FM))))) (fun _ _ h=>(congrArg List.length h).trans O) ?_ ?_
  rotate_left
  ·intro e _ he;exact⟨O,_,List.nil_sublist _,⟨_,by rw[←hC];exact he,rfl⟩⟩
  rintro⟨q,n2⟩ _ hz rfl;have hfin:=hz;refine A1 A7 4 [1,1] O (A9 (⟨O,_,_,⟨_,_,O,(BI (i:=1) Bg O O Ap),⟨_,_,O,O,O⟩⟩,(CC (is:=[3]) O),?_⟩));exact⟨⟨q,n2⟩,by rw[←hC];exact hfin,rfl,rfl⟩
 ·refine BC (A5 A7 6 [] O (A0 O (Ef J5 Jx Q8 O) (A0 O (A8 Fv O O) (A0 O (BB (i:=0) DO O O (DK _)) (A0 O (Fa (j:=2) J5 Jx O O (hkk) O Aw) (A1 A7 1 [] O (A2 (A6 (B3 O (A0 O (HT As (.inl ⟨O,O⟩) O) (Bq O ?_)))))))))));refine A4 O (fun c1=>?_) (fun c1=>by cases c1);refine A6 ?_;rw[Ly hu Ax Ax Ax] at hC;refine A1 A7 3 [1,0] O (BQ (Bd (i:=1) O) (A9 (⟨O,_,_,⟨_,_,O,(BI (i:=1) Bg O O O),⟨_,_,O,O,O⟩⟩,(CC (is:=[3]) O),?_⟩)));exact⟨⟨none,s⟩,DX hC.symm,O,O⟩
 ·refine BC (A5 A7 6 [] O (A0 O (Ef J5 Jx Q8 O) (A0 O (A8 Fv O O) (A0 O (BB (i:=0) DO O O (DK _)) (A0 O (Fa (j:=3) J5 Jx O O (hkk) O Aw) (A1 A7 1 [] O (A2 (A6 (B3 O (A0 O (HT As (.inl ⟨O,O⟩) O) (Bq O ?_)))))))))));refine A4 O (fun c1=>?_) (fun c1=>by cases c1);refine A6 ?_;rw[Ly hu Ax Ax Ax] at hC;refine A1 A7 3 [1,0] O (BQ (Bd (i:=1) O) (A9 (⟨O,_,_,⟨_,_,O,(BI (i:=1) Bg O O O),⟨_,_,O,O,O⟩⟩,(CC (is:=[3]) O),?_⟩)));exact⟨⟨none,s⟩,DX hC.symm,O,O⟩
 ·refine BC (A5 A7 6 [] O (A0 O (Ef J5 Jx Q8 O) (A0 O (A8 Fv O O) (A0 O (BB (i:=0) DO O O (DK _)) (A0 O (Fa (j:=4) J5 Jx O O (hkk) O Aw) (A1 A7 1 [] O (A2 (A6 (B3 O (A0 O (HT As (.inl ⟨O,O⟩) O) (Bq O ?_)))))))))));refine A4 O (fun c1=>?_) (fun c1=>by cases c1);refine A6 ?_;rw[Ly hu Ax Ax Ax] at hC;refine A1 A7 3 [1,0] O (BQ (Bd (i:=1) O) (A9 (⟨O,_,_,⟨_,_,O,(BI (i:=1) Bg O O O),⟨_,_,O,O,O⟩⟩,(CC (is:=[3]) O),?_⟩)));exact⟨⟨none,s⟩,DX hC.symm,O,O⟩
 ·refine BC (A5 A7 6 [] O (A0 O (Ef J5 Jx Q8 O) (A0 O (A8 Fv O O) (A0 O (BB (i:=0) DO O O (DK _)) (A0 O (Fa (j:=5) J5 Jx O O (hkk) O Aw) (A1 A7 1 [] O (A2 (A6 (B3 O (A0 O (HT As (.inr ⟨⟨_,_,_,O⟩,O⟩) O) (Bq O ?_)))))))))));refine A4 O (fun c1=>by cases c1) (fun c1=>?_);refine BA (A6 (A5 A7 4 [0,2] O ?_));rw[Pb hu e4 hkk] at hC;refine D6 [3] O O O (.inr O) (l4 n m ds s ((Bw ds (.mk gk gi gn gl gs:Tm).name).1) (.mk gk gi gn gl gs:Tm) a dd hW h2.g h3 e4 Ax hdg h4 h5 h6 (by rw[hC];exact hns)) ⟨_,_,O,O,O⟩ Aw (aw (we O) (aw (we O) (aw (we O) (aw (we O) (FM))))) (fun _ _ h=>(congrArg List.length h).trans O) ?_ ?_
  rotate_left
  ·intro e _ he;exact⟨O,_,List.nil_sublist _,⟨_,by rw[←hC];exact he,rfl⟩⟩
  rintro⟨q,n2⟩ _ hz rfl;have hfin:=hz;refine A1 A7 4 [1,1] O (A9 (⟨O,_,_,⟨_,_,O,(BI (i:=1) Bg O O Ap),⟨_,_,O,O,O⟩⟩,(CC (is:=[3]) O),?_⟩));exact⟨⟨q,n2⟩,by rw[←hC];exact hfin,rfl,rfl⟩
 refine BC (A5 A7 6 [] O (A0 O (Ef J5 Jx Q8 O) (A0 O (A8 Fv O O) (A0 O (BB (i:=0) DO O O (DK _)) (A0 O (Fa (j:=6) J5 Jx O O (hkk) O Aw) (A1 A7 1 [] O (A2 (A6 (B3 O (A0 O (HT As (.inr ⟨⟨_,_,_,O⟩,O⟩) O) (Bq O ?_)))))))))));refine A4 O (fun c1=>by cases c1) (fun c1=>?_);refine BA (A6 (A5 A7 4 [0,2] O ?_));obtain⟨fk,ff,f1,f2⟩:=e2.func hkk;have hff:dd.funs[(Bw ds (Tm.mk gk gi gn gl gs).name).1.item.toNat]?=some ff:=by rw[f2];simpa using f1
 rw[PC hu e4 hkk hff] at hC;refine D6 [3] O O O (.inr O) (eB n m ds s ((Bw ds (.mk gk gi gn gl gs:Tm).name).1) (.mk gk gi gn gl gs:Tm) a dd ff hW h2 h3 e4 Ax hff Ax h4 h5 h6 (by rw[hC];exact hns)) ⟨_,_,O,O,O⟩ Aw (aw (we O) (aw (we O) (aw (we O) (aw (we O) (FM))))) (fun _ _ h=>(congrArg List.length h).trans O) ?_ ?_
 rotate_left
 ·intro e _ he;exact⟨O,_,List.nil_sublist _,⟨_,by rw[←hC];exact he,rfl⟩⟩
 rintro⟨q,n2⟩ _ hz rfl;have hfin:=hz;refine A1 A7 4 [1,1] O (A9 (⟨O,_,_,⟨_,_,O,(BI (i:=1) Bg O O Ap),⟨_,_,O,O,O⟩⟩,(CC (is:=[3]) O),?_⟩));exact⟨⟨q,n2⟩,by rw[←hC];exact hfin,rfl,rfl⟩
theorem tH (t:Tm):∀c∈Bb t,c≠ .nils:=by obtain⟨k,i,n,l,s⟩:=t;simp[Bb]
theorem FR (l:List Tm):∀r∈BN l,∀c∈r,c≠ .nils:=by
 intro r hr;rw[Eh] at hr;obtain⟨t,_,rfl⟩:=List.mem_map.1 hr;exact tH t
set_option maxHeartbeats 4000000 in
theorem OA:∀(ds:List CX) (hE:Gz ds) (n:Nat),nE ds n:=by
 intro ds hE n
 induction n using Nat.strongRecOn with
 | ind n ih =>
  intro m t s h1 hns;generalize hX:FF ds CN n s t=X at hns ⊢;refine BF Tryz.func39 O sB (n:=95) O O (A6 (BO O (Ba O) fun b3=>BO O (BG B4 O) fun b4=>Bq O (BJ (Bn (α:=Nat×Tm×Int) (fun(k2,w,d)=>⟨95,mk [(0,.ptr m 0),(3,.ptr b3 0),(4,.ptr b4 0)],[.box b4 [.p (I 0),.p (I 0),.p (.str ⟨#[]⟩),.p (.nils),.p (.nils)],.box b3 ((Bb w).map .p),.box m [.p (.lst (List.map Bu ds)),.p (I d)]],[]⟩) (fun(k2,w,d)=>k2) (fun(k2,w,d)=>FF ds CN k2 d w=X∧G0 d∧k2≤n) ⟨n,t,s⟩ (⟨hX,h1,Nat.le_refl _⟩) ?_ ?_))))
  ·exact Bh ⟨we O,we O,we O,Az⟩ (leH (is:=[0,1,2]) O (wl (oe O) (wl (oe O) (wl (oe O) (DJ)))))
  rintro⟨k2,w,d⟩ hC
  try simp only at hC
  obtain⟨hC,hJ,hmn⟩:=hC;obtain⟨k,rfl⟩:=ZH hC hns;have hwo:=ed hC hns;have hsp:=Rp hwo;have hsl:=hsp.len;have hss:=hsp.sz;have hsa:=hsp.asz;refine BJ (A6 (A0 O (Bf (i:=1) Bg O O Ap) (A0 O (BL O O (MC w hsp.nd Ai) O) (A5 A7 3 [] O (BO O (BG B4 O) fun b5=>A1 A7 2 [0,1] O (A2 (A6 (B3 O (A0 O (BT Bk O (Bc _)) (A1 A7 1 [] O (A4 O (fun c=>?_) (fun c=>?_))))))))))))
  ·(try simp only[sd,se] at c);exact BC (A0 O (Ca dM Zu O) (A0 O (Jd As O) (OV O O (Mu O) (⟨O,_,List.nil_sublist _,⟨_,ju (hC.symm.trans (j3 hwo O (by simp only[CN];exact decide_eq_true Ax))),O⟩⟩))))
  (try simp only[sd,se] at c);have hmany:CN.many (BH w).2.length=false:=by simp only[CN];exact decide_eq_false Ax
  refine BA (A6 (A0 O (A8 HA O O) ?_));generalize hz:(BH w).1=z;obtain⟨zk,zi,zn,zl,zs⟩:=z;have hzo:okB (.mk zk zi zn zl zs)=true:=hz▸hsp.head;have hzq:=hz;have hzl:=Hr hzo;have hzn:=(CJ.1 hzo).nd;refine A1 A7 1 [0] O (BJ (A3 A7 2 [] O (A4 O (fun c1=>?_) (fun c1=>?_))))
  ·(try simp only[sd,se] at c1);have hk:=(congrArg Tm.kind hzq).trans c1;refine A2 (A6 (B3 O (A0 O (BT Bk O (Bc _)) (A1 A7 1 [] O (A4 O (fun c2=>?_) (fun c2=>?_))))))
   ·(try simp only[sd,se] at c2);rw[Y3 hwo rfl hmany hk Ax] at hC;refine A3 A7 2 [2,1,1] O (A9 (⟨O,_,_,⟨_,_,O,(BI (i:=1) Bg O O Ap),O⟩,(CC (is:=[3]) O),?_⟩));exact⟨⟨_,_⟩,DX hC.symm,O,O⟩
   (try simp only[sd,se] at c2);refine BA ?_;obtain⟨x,hx⟩:=BE (l:=zs) (i:=1) Ax;obtain⟨x1,hx1⟩:=BE (l:=(BH w).2) (i:=0) Ax;have hxo:=E0 hzo (i:=1) hx;have hx1o:=hsp.args _ (List.mem_of_getElem? hx1);rw[gJ hwo rfl hmany hk Ax (by rw[hzq];exact hx),kh hx1] at hC;have hn3:=hns;rw[←hC] at hn3;obtain⟨e,he⟩ | ⟨⟨z1,n2⟩,hz⟩:=GG (Jg d (CT x [x1] 0))
   ·refine JE ((fun _=> .p (.iface 122 .unit)) e) 9 [.val (.ptr m 0),.val (.ptr b5 (0+4)),.val (.p (.lst (BN zs))),.val (.ref (Bb x)),.val (.agg ((Bb x).map .p)),.val (.p (.lst (BN ((BH w).2)))),.val (.ref (Bb x1)),.val (.agg ((Bb x1).map .p)),.val (.p (.lst (BN [x1]))),.val (.p .any),.val (.p (.lst (BN ((BH w).2)))),.val (.p (.lst (BN (((BH w).2).drop 1)))),.val (.p .any),.val (.p .any)] Dt O As O Az (fun _ _=>by exact⟨rfl,_,List.nil_sublist _,⟨_,by rw[←hC];exact Km hn3 he,rfl⟩⟩) ?_;refine CK O O (fun Bs=>Bi O) (CK O O (fun Bs=>A8 HA O O) (CK O O (fun Bs=>CG (i:=Bs.length+0) Gu O (Ck O) O) (CK O O (fun Bs=>BD Bk O O Ax (Bj hx) (BM _)) (CK O O (fun Bs=>BU Bg O (BM _)) (CK O O (fun Bs=>Bi O) (CK O O (fun Bs=>BD Bk O O Ax (Bj hx1) (BM _)) (CK O O (fun Bs=>BU Bg O (BM _)) (CK O O (fun Bs=>B8 (rows:=BN [x1]) Bk B4 O O O O (CM (B1 _)) (FR _)) (K8 (mkp:=(fun _=> .p (.iface 122 .unit))) (e:=e) [3] he O O (.inl ⟨O,O,O⟩) (Ky m ds d x [x1] hJ hxo (ok_one hx1o) J4) ⟨_,_,O,O,O⟩ Aw (aw (we O) (aw (we O) (aw (we O) (FM)))) (CK O O (fun Bs=>Bi O) ?_))))))))));exact CK O O (fun Bs=>Cc (lo:=1) Bk O (CM (B1 _)) ⟨_,O⟩ O AX (Nat.le_refl _) (I6 ((BH w).2) 1)) (DP O O As (DP O O As LD))
   rw[K3 hn3 hz] at hC;have hJ3:=(SH hJ hz).1;refine IU [.box b5 [.p (I zk),.p (I zi),.p (.str zn),.p (.lst (List.map B9 zl)),.p (.lst (BN zs))],.box b4 [.p (I 0),.p (I 0),.p (.str ⟨#[]⟩),.p (.nils),.p (.nils)],.box b3 ((Bb w).map .p),.box m [.p (.lst (List.map Bu ds)),.p (I n2)]] 9 [.val (.ptr m 0),.val (.ptr b5 (0+4)),.val (.p (.lst (BN zs))),.val (.ref (Bb x)),.val (.agg ((Bb x).map .p)),.val (.p (.lst (BN ((BH w).2)))),.val (.ref (Bb x1)),.val (.agg ((Bb x1).map .p)),.val (.p (.lst (BN [x1]))),.val (.agg ((Bb z1).map .p)),.val (.p (.lst (BN ((BH w).2)))),.val (.p (.lst (BN (((BH w).2).drop 1)))),.val (.agg ((Bb (apply z1 (((BH w).2).drop 1))).map .p))] [.p .any] [] Dt O As As As O ?_ ?_
   ·exact Az
   refine Bz O O (fun Bs=>Bi O) (Bz O O (fun Bs=>A8 HA O O) (GL O O O (fun Bs=>CG (i:=Bs.length+0) Gu O (Ck O) O) (fun Bs=>CG (i:=Bs.length+0) Gu O (Ck O) O) (Bz O O (fun Bs=>BD Bk O O Ax (Bj hx) (BM _)) (Bz O O (fun Bs=>BU Bg O (BM _)) (Bz O O (fun Bs=>Bi O) (Bz O O (fun Bs=>BD Bk O O Ax (Bj hx1) (BM _)) (Bz O O (fun Bs=>BU Bg O (BM _)) (Bz O O (fun Bs=>B8 (rows:=BN [x1]) Bk B4 O O O O (CM (B1 _)) (FR _)) (J6 O (fun Bs=>G3 [3] O (.inl ⟨O,O,O⟩) (Kz hz (Ky m ds d x [x1] hJ hxo (ok_one hx1o) J4)) ⟨_,_,O,O,O⟩ Aw O (aw (we O) (aw (we O) (aw (we O) (FM))))) (Bz O O (fun Bs=>Bi O) ?_))))))))));refine Bz O O (fun Bs=>Cc (lo:=1) Bk O (CM (B1 _)) ⟨_,O⟩ O AX (Nat.le_refl _) (I6 ((BH w).2) 1)) (Bz O O (fun Bs=>BL O O (Ec z1 (((BH w).2).drop 1) AZ) O) (KH (EB [.box b5 [.p (I zk),.p (I zi),.p (.str zn),.p (.lst (List.map B9 zl)),.p (.lst (BN zs))],.box b4 [.p (I 0),.p (I 0),.p (.str ⟨#[]⟩),.p (.nils),.p (.nils)],.box b3 ((Bb (apply z1 (((BH w).2).drop 1))).map .p),.box m [.p (.lst (List.map Bu ds)),.p (I n2)]] O (Cq (i:=2) Bg O O O Ap Ae (FD _)) (J7 ?_))));refine⟨⟨k,(apply z1 (((BH w).2).drop 1)),n2⟩,Ac,⟨hC,by assumption,by omega⟩,Bh ⟨we rfl,we rfl,we rfl,trivial⟩ (leH (is:=[1,2,3]) rfl (wl (oe rfl) (wl (oe rfl) (wl (oe rfl) (DJ)))))⟩
  (try simp only[sd,se] at c1);refine A3 A7 2 [] O (A4 O (fun c2=>?_) (fun c2=>?_))
  ·(try simp only[sd,se] at c2);have hk:=(congrArg Tm.kind hzq).trans c2;obtain⟨x,hx⟩:=BE (l:=zs) (i:=2) Ax;obtain⟨x1,hx1⟩:=BE (l:=zs) (i:=1) Ax;have hxo:=E0 hzo (i:=2) hx;have hx1o:=E0 hzo (i:=1) hx1;rw[da hwo rfl hmany hk (by rw[hzq];exact hx1) (by rw[hzq];exact hx)] at hC;have hn3:=hns;rw[←hC] at hn3;obtain⟨e,he⟩ | ⟨⟨z1,n2⟩,hz⟩:=GG (Jg d (CT x [x1] 0))
   ·refine JE ((fun _=> .p (.iface 122 .unit)) e) 10 [.val (.ptr m 0),.val (.ptr b5 (0+4)),.val (.p (.lst (BN zs))),.val (.ref (Bb x)),.val (.agg ((Bb x).map .p)),.val (.ptr b5 (0+4)),.val (.p (.lst (BN zs))),.val (.ref (Bb x1)),.val (.agg ((Bb x1).map .p)),.val (.p (.lst (BN [x1]))),.val (.p .any),.val (.p (.lst (BN ((BH w).2)))),.val (.p .any),.val (.p .any)] Dt O As O Az (fun _ _=>by exact⟨rfl,_,List.nil_sublist _,⟨_,by rw[←hC];exact Km hn3 he,rfl⟩⟩) ?_;refine CK O O (fun Bs=>Bi O) (CK O O (fun Bs=>A8 HA O O) (CK O O (fun Bs=>CG (i:=Bs.length+0) Gu O (Ck O) O) (CK O O (fun Bs=>BD Bk O O Ax (Bj hx) (BM _)) (CK O O (fun Bs=>BU Bg O (BM _)) (CK O O (fun Bs=>A8 HA O O) (CK O O (fun Bs=>CG (i:=Bs.length+0) Gu O (Ck O) O) (CK O O (fun Bs=>BD Bk O O Ax (Bj hx1) (BM _)) (CK O O (fun Bs=>BU Bg O (BM _)) (CK O O (fun Bs=>B8 (rows:=BN [x1]) Bk B4 O O O O (CM (B1 _)) (FR _)) (K8 (mkp:=(fun _=> .p (.iface 122 .unit))) (e:=e) [3] he O O (.inl ⟨O,O,O⟩) (Ky m ds d x [x1] hJ hxo (ok_one hx1o) J4) ⟨_,_,O,O,O⟩ Aw (aw (we O) (aw (we O) (aw (we O) (FM)))) ?_))))))))));exact CK O O (fun Bs=>Bi O) (DP O O As (DP O O As LD))
   rw[K3 hn3 hz] at hC;have hJ3:=(SH hJ hz).1;refine IU [.box b5 [.p (I zk),.p (I zi),.p (.str zn),.p (.lst (List.map B9 zl)),.p (.lst (BN zs))],.box b4 [.p (I 0),.p (I 0),.p (.str ⟨#[]⟩),.p (.nils),.p (.nils)],.box b3 ((Bb w).map .p),.box m [.p (.lst (List.map Bu ds)),.p (I n2)]] 10 [.val (.ptr m 0),.val (.ptr b5 (0+4)),.val (.p (.lst (BN zs))),.val (.ref (Bb x)),.val (.agg ((Bb x).map .p)),.val (.ptr b5 (0+4)),.val (.p (.lst (BN zs))),.val (.ref (Bb x1)),.val (.agg ((Bb x1).map .p)),.val (.p (.lst (BN [x1]))),.val (.agg ((Bb z1).map .p)),.val (.p (.lst (BN ((BH w).2)))),.val (.agg ((Bb (apply z1 ((BH w).2))).map .p))] [.p .any] [] Dt O As As As O ?_ ?_
   ·exact Az
   refine Bz O O (fun Bs=>Bi O) (Bz O O (fun Bs=>A8 HA O O) (GL O O O (fun Bs=>CG (i:=Bs.length+0) Gu O (Ck O) O) (fun Bs=>CG (i:=Bs.length+0) Gu O (Ck O) O) (Bz O O (fun Bs=>BD Bk O O Ax (Bj hx) (BM _)) (Bz O O (fun Bs=>BU Bg O (BM _)) (Bz O O (fun Bs=>A8 HA O O) (GL O O O (fun Bs=>CG (i:=Bs.length+0) Gu O (Ck O) O) (fun Bs=>CG (i:=Bs.length+0) Gu O (Ck O) O) (Bz O O (fun Bs=>BD Bk O O Ax (Bj hx1) (BM _)) (Bz O O (fun Bs=>BU Bg O (BM _)) (Bz O O (fun Bs=>B8 (rows:=BN [x1]) Bk B4 O O O O (CM (B1 _)) (FR _)) ?_)))))))));refine J6 O (fun Bs=>G3 [3] O (.inl ⟨O,O,O⟩) (Kz hz (Ky m ds d x [x1] hJ hxo (ok_one hx1o) J4)) ⟨_,_,O,O,O⟩ Aw O (aw (we O) (aw (we O) (aw (we O) (FM))))) (Bz O O (fun Bs=>Bi O) (Bz O O (fun Bs=>BL O O (Ec z1 ((BH w).2) AZ) O) (KH (EB [.box b5 [.p (I zk),.p (I zi),.p (.str zn),.p (.lst (List.map B9 zl)),.p (.lst (BN zs))],.box b4 [.p (I 0),.p (I 0),.p (.str ⟨#[]⟩),.p (.nils),.p (.nils)],.box b3 ((Bb (apply z1 ((BH w).2))).map .p),.box m [.p (.lst (List.map Bu ds)),.p (I n2)]] O (Cq (i:=2) Bg O O O Ap Ae (FD _)) (J7 ?_)))));refine⟨⟨k,(apply z1 ((BH w).2)),n2⟩,Ac,⟨hC,by assumption,by omega⟩,Bh ⟨we rfl,we rfl,we rfl,trivial⟩ (leH (is:=[1,2,3]) rfl (wl (oe rfl) (wl (oe rfl) (wl (oe rfl) (DJ)))))⟩
  (try simp only[sd,se] at c2);refine A2 (A3 A7 2 [] O (Be [0,3,4,5,6,21] 57 (fun y=>y= .p (.bool (decide (zk=9∨zk=10)))) ?_ ?_))
  ·refine A4 O (fun c3=>?_) (fun c3=>?_)
   ·(try simp only[sd,se] at c3);exact BA (⟨O,O,(List.Sublist.refl _),(by refine pB (Bool.eq_iff_iff.2 ?_);simp only[beq_iff_eq,decide_eq_true_eq];omega),⟨O,O,O,O,O,O,Az⟩⟩)
   (try simp only[sd,se] at c3);exact BC (A1 A7 2 [] O (⟨O,O,(List.Sublist.refl _),(by refine pB (Bool.eq_iff_iff.2 ?_);simp only[beq_iff_eq,decide_eq_true_eq];omega),⟨O,O,O,O,O,O,Az⟩⟩))
  rintro _ rfl;refine A4 O (fun c3=>?_) (fun c3=>?_)
  ·(try simp only[sd,se] at c3);have hk9:zk=9∨zk=10:=by simpa using c3
   refine A6 (A5 A7 3 [0] O ?_);obtain⟨x,hx⟩:=BE (l:=zs) (i:=0) Ax;rw[Z2 hwo rfl hmany (by rw[hzq];exact hk9) (by rw[hzq];exact hx)] at hC;have hn0:=hns;rw[←hC] at hn0;have hn1:=VQ hn0;refine A0 O (BD Bk O O Ax (Bj hx) (BM _)) (A0 O (BU Bg O (BM _)) (D6 [3] O O O (.inl ⟨O,O,O⟩) (ih k Ax m x d hJ hn1) ⟨_,_,O,O,O⟩ Aw (aw (we O) (aw (we O) (FM))) (fun _ _ h=>(congrArg List.length h).trans O) ?_ ?_))
   rotate_left
   ·intro e _ he;exact⟨O,_,List.nil_sublist _,⟨_,by rw[←hC];exact Ur hn0 he,rfl⟩⟩
   rintro⟨pr,n2⟩ _ hz rfl;obtain⟨hr2,hr3⟩:=VH hn0 hz;rw[hr3] at hC;have hJ2:=Qm hJ (Ij hz);refine BO O (BG B4 O) fun b7=>A1 A7 1 [0,1] O (A2 (A6 (A0 O (A8 HA O O) ?_)));obtain⟨prk,pri,prn,prl,prs⟩:=pr;have hprl:=Hr hr2;refine A1 A7 2 [0] O (A4 O (fun c4=>?_) (fun c4=>?_))
   ·(try simp only[sd,se] at c4);rw[WZ (r:=(Tm.mk prk pri prn prl prs,n2)) c4,hzq] at hC;refine A6 (A5 A7 3 [1,0] O (A0 O (B8 (rows:=BN [(.mk prk pri prn prl prs:Tm)]) Bk B4 O O O O (CM (B1 _)) (FR _)) (A5 A7 2 [] O (A0 O (GR O O (Ec (.mk zk 0 ⟨#[]⟩ [] [(.mk prk pri prn prl prs:Tm)]:Tm) ((BH w).2) AZ) (aw (Dv O) (aw (we O) (FM)))) (A1 A7 1 [2,1] O (A9 (⟨O,_,_,⟨_,_,O,(BI (i:=2) Bg O O Ap),O⟩,(CC (is:=[4]) O),?_⟩)))))));exact⟨⟨_,_⟩,DX hC.symm,O,O⟩
   (try simp only[sd,se] at c4);have hp8:=c4;refine BA (BC (A5 A7 3 [1,0] O ?_));obtain⟨cq,hcq⟩:=BE (l:=prs) (i:=(1+zk - 9).toNat) (by have:=hprl.2.2.2 hp8;omega);have hcqo:=E0 hr2 (i:=(1+zk - 9).toNat) hcq;rw[XG (r:=(Tm.mk prk pri prn prl prs,n2)) (h:=(BH w).1) hp8 (by rw[hzq];exact hcq)] at hC;have hn3:=hns;rw[←hC] at hn3;refine D6 [4] O O O (.inl ⟨O,O,O⟩) (Zz m ds n2 (.mk zk zi zn zl zs:Tm) (.mk prk pri prn prl prs:Tm) cq hJ2 hk9 hcq) ⟨_,_,O,O,O⟩ Aw (aw (we O) (aw (we O) (aw (we O) (FM)))) (fun _ _ h=>(congrArg List.length h).trans O) ?_ ?_
   rotate_left
   ·intro e _ he;exact⟨O,_,List.nil_sublist _,⟨_,by rw[←hC];exact Km hn3 he,rfl⟩⟩
   rintro⟨z1,n21⟩ _ hz1 rfl;rw[K3 hn3 hz1] at hC;have hJ3:=(SH hJ2 hz1).1;refine B3 O (A0 O (BL O O (Ec z1 ((BH w).2) AZ) O) (A1 A7 1 [3,1] O ?_));refine⟨⟨k,(apply z1 ((BH w).2)),n21⟩,Ac,⟨hC,by assumption,by omega⟩,Bh ⟨we rfl,we rfl,we rfl,trivial⟩ (leH (is:=[2,3,4]) rfl (wl (oe rfl) (wl (oe rfl) (wl (oe rfl) (DJ)))))⟩
  (try simp only[sd,se] at c3);refine A3 A7 2 [] O (A4 O (fun c4=>?_) (fun c4=>?_))
  ·(try simp only[sd,se] at c4);have hk:=(congrArg Tm.kind hzq).trans c4;refine A6 (A5 A7 3 [0] O ?_);rw[Vj hwo rfl hmany hk,hzq] at hC;have hn0:=hns;rw[←hC] at hn0;have hn1:=Jo hn0;refine D6 [3] O O O (.inl ⟨O,O,O⟩) (fH k m ds d (.mk zk zi zn zl zs:Tm) ((BH w).2) (ih k Ax) hE hJ hzo Ax hsp.args hn1) ⟨_,_,O,O,O⟩ Aw (aw (we O) (aw (we O) (aw (we O) (FM)))) (fun _ _ h=>(congrArg List.length h).trans O) ?_ ?_
   rotate_left
   ·intro e _ he;exact⟨O,_,List.nil_sublist _,⟨_,by rw[←hC];exact LI hn0 he,rfl⟩⟩
   rintro⟨q,n2⟩ _ hz rfl;rw[Mc hz] at hC;have hJ2:=X1 hJ (Ij hz);refine A5 A7 3 [] O (BO O (BG B4 O) fun b8=>A1 A7 2 [0,1] O (A2 (A3 A7 2 [] O (A4 O (fun c5=>?_) (fun c5=>?_)))))
   ·(try simp only[sd,se] at c5);rw[di (by simpa using c5)] at hC;refine A3 A7 2 [3,2,1] O (A9 (⟨O,_,_,⟨_,_,O,(BI (i:=2) Bg O O Ap),O⟩,(CC (is:=[4]) O),?_⟩));exact⟨⟨_,_⟩,DX hC.symm,O,O⟩
   (try simp only[sd,se] at c5);rw[ft (by simpa using c5)] at hC;refine BA (BC (A1 A7 2 [0,3,1] O ?_));refine⟨⟨k,(q.getD Bp),n2⟩,Ac,⟨hC,by assumption,by omega⟩,Bh ⟨we rfl,we rfl,we rfl,trivial⟩ (leH (is:=[2,3,4]) rfl (wl (oe rfl) (wl (oe rfl) (wl (oe rfl) (DJ)))))⟩
  (try simp only[sd,se] at c4);rw[kR hwo rfl hmany (by rw[hzq];assumption) (by rw[hzq];assumption) (by rw[hzq];show ¬zk=9;omega) (by rw[hzq];show ¬zk=10;omega) (by rw[hzq];assumption)] at hC;refine A3 A7 2 [2,1,1] O (A9 (⟨O,_,_,⟨_,_,O,(BI (i:=1) Bg O O Ap),O⟩,(CC (is:=[3]) O),?_⟩));exact⟨⟨_,_⟩,DX hC.symm,O,O⟩
theorem ig:∀(be:Nat) (ce:List AV),E3 Tryz.prog 71 [.ptr be 0] (.ret) [.box be ce] (fun H'=>H'=[.box be ce]):=by
 intro be ce;refine IF (ty2:=0) Tryz.func71 O nP (n:=14) O O O O O O (A6 (B3 O (A0 O (HV bI O O O) (Bq O ?_))));refine A4 O (fun c=>by cases c) (fun c=>?_);exact BA ⟨.inl O,O,_,(CC (is:=[0]) O),O⟩
theorem j4:∀(be:Nat),E3 Tryz.prog 71 [.ptr be 0] (.pan (.p (.iface 122 (.unit)))) [.box be [.p (I 0)]] (fun H'=>H'=[.box be [.p (I 11)]]):=by
 intro be;refine IF (ty2:=0) Tryz.func71 O nP (n:=14) O O O O O O (A6 (B3 O (A0 O (HV bI O O O) (Bq O ?_))));refine A4 O (fun c=>?_) (fun c=>by cases c);refine A3 A7 1 [0,0] O (A6 (B3 O (A0 O (Wv As O) (A5 A7 3 [] O (BO O (BG Zu O) fun b2=>A0 O (RC oX O O) (A1 A7 1 [] O (A3 A7 2 [] O ?_)))))));refine A4 O (fun c1=>by cases c1) (fun c1=>?_);exact BA ⟨.inl O,O,_,(CC (is:=[1]) O),O⟩
theorem VA:∀{α:Type}(x:Except Int α) (a:α) (hx:x= .ok a) (cn:α→Int) (G:α→List BR) (fid:Nat) (caps:List AV) (T:List BR) (ds:List CX) (hf:∀m,B2 Tryz.prog fid ([.ptr m 0]++caps) (.box m [.p (.lst (List.map Bu ds)),.p (I 20000)]::T) (Kq (fun _=> .tup []) (fun _=> .p (.iface 122 .unit)) (fun a H'=>H'= .box m [.p (.lst (List.map Bu ds)),.p (I (cn a))]::G a) x)),B2 Tryz.prog 37 [.p (.lst (List.map Bu ds)),.fn (.func fid) [] caps] T (Gj (.p (I 0)) (G a)):=by
 intro α x a hx cn G fid caps T ds hf;refine Fl Tryz.func37 O mv (n:=11) O O (A6 (BO O (BG eG O) fun b4=>Bq O (A6 (A0 O (E1 O O) (OY O O O O (Bq O (A6 (A5 A7 3 [] O (BO O (Ba O) fun b9=>Lo (List.Perm.swap _ _ _) (IZ [_] O O O (.inr O) (hf b9) (Dg _) ?_ ?_))))))))))
 rotate_left
 ·rintro v T2 ⟨e2,h1,_⟩;rw[hx] at h1;cases h1
 rintro v T2 ⟨a2,h1,rfl,rfl⟩;rw[hx] at h1;cases h1;refine Bq O (A3 A7 1 [0,0] O (A9 ⟨_,[_],_,O,List.Perm.refl _,E3.eq (ig b4 _) ?_⟩));refine⟨_,_,⟨_,_,O,(G1 (i:=0) Sd O O),O⟩,(G2 [] [_,_] O),?_⟩
 all_goals exact⟨rfl,rfl⟩
theorem SN:∀{α:Type}(x:Except Int α) (e:Int) (hx:x= .error e) (cn:α→Int) (G:α→List BR) (fid:Nat) (caps:List AV) (T:List BR) (ds:List CX) (hf:∀m,B2 Tryz.prog fid ([.ptr m 0]++caps) (.box m [.p (.lst (List.map Bu ds)),.p (I 20000)]::T) (Kq (fun _=> .tup []) (fun _=> .p (.iface 122 .unit)) (fun a H'=>H'= .box m [.p (.lst (List.map Bu ds)),.p (I (cn a))]::G a) x)),B2 Tryz.prog 37 [.p (.lst (List.map Bu ds)),.fn (.func fid) [] caps] T (Gj (.p (I 11)) []):=by
 intro α x e hx cn G fid caps T ds hf;refine Fl Tryz.func37 O mv (n:=11) O O (A6 (BO O (BG eG O) fun b4=>Bq O (A6 (A0 O (E1 O O) (OY O O O O (Bq O (A6 (A5 A7 3 [] O (BO O (Ba O) fun b9=>Lo (List.Perm.swap _ _ _) (IZ [_] O O O (.inr O) (hf b9) (Dg _) ?_ ?_))))))))))
 ·rintro v T2 ⟨a2,h1,_⟩;rw[hx] at h1;cases h1
 rintro v T2 ⟨e2,h1,rfl⟩;refine⟨_,_,_,O,Mq (is:=[0]) _ Aw ⟨_,_,O,O,O⟩,E3.eq (j4 b4) ?_⟩;refine⟨_,[],⟨_,_,O,(G1 (i:=0) Sd O O),O⟩,(List.nil_sublist _),?_⟩;exact⟨O,O⟩
end Go.Proofs.YtboammbpdaoojaaGreat
namespace Go.Eu
open Go.Abs
structure Lt (c:EK):Prop where
 ov:c.over=false
 lm:c.limit=1000
 s0:0≤c.steps
 s1:c.steps≤1000
 n0:0≤c.nodes
 n1:c.nodes≤2000
theorem dG:Lt LZ:=⟨rfl,rfl,by decide,by decide,by decide,by decide⟩
theorem mN {c:EK}{t:Tm}{e:Int}(h:Lt c) (ho:okB t=true) (hv:(c.result t e).over=false):e=0∧Lt (c.result t e)∧(c.result t e).steps=c.steps+1∧(c.result t e).nodes=c.nodes+size t:=by
 have hs:=FA ho;have h1:=h.s0;have h2:=h.s1;have h3:=h.n0;have h4:=h.n1;have h5:=h.lm;have hw:wr (c.steps+1)=c.steps+1:=Ej (by unfold JB;omega);have hz:E6 t=size t:=L0 Ax;have hw2:wr (c.nodes+size t)=c.nodes+size t:=Ej (by unfold JB;omega);have hw3:wr (2*1000)=2000:=Ej (by unfold JB;omega);have hv':=hv;simp only[EK.result,EK.form,hw,hz,hw2,h5,hw3,Bool.or_eq_false_iff,decide_eq_false_iff_not,bne_eq_false_iff_eq] at hv';have hst:(c.result t e).steps=c.steps+1:=by simp only[EK.result,EK.form,hw]
 have hnd:(c.result t e).nodes=c.nodes+size t:=by simp only[EK.result,EK.form,hz,hw2]
 exact⟨by omega,⟨hv,by simp only[EK.result,EK.form,h5],by omega,by omega,by omega,by omega⟩,hst,hnd⟩
theorem Nz {α:Type}{c:EK}{x:Tm×Int}{k:Tm→EK→Out (α×EK)}{k':Tm→Int→Out (α×Int)}{q:α}{c':EK}(hL:Lt c) (hk:∀t c1 q c2,k t c1= .ok (q,c2)→c2.over=false→c1.over=false) (hq:Dh.put c x k= .ok (q,c')) (hv:c'.over=false) :
  okB x.1=true∧Lt (c.result x.1 x.2)∧(c.result x.1 x.2).steps=c.steps+1∧(c.result x.1 x.2).nodes=c.nodes+size x.1∧k x.1 (c.result x.1 x.2)= .ok (q,c')∧∀l:Int,1000 - c.steps≤l→CN.put l x k'=k' x.1 (l - 1):=by
 obtain⟨h1,h2⟩:=HH (h:=(by rw[hq];simp));rw[h2] at hq;obtain⟨h3,h4,h5,h6⟩:=mN hL h1 (hk _ _ _ _ hq hv);refine⟨h1,h4,h5,h6,hq,fun l hl=>?_⟩;have:=h4.s1;unfold Sys.put;rw[if_pos h1];simp only[CN];rw[if_neg Ax]
section
variable {E:List CX}
structure rL (c c':EK) (z z':Nat):Prop where
 lt:Lt c'
 st:c.steps≤c'.steps
 nd:c.nodes≤c'.nodes
 sz:(z':Int)≤z+(c'.nodes - c.nodes)
def SW (n:Nat) (W:EK→Tm→Out (Tm×EK)) (V:Int→Tm→Out (Tm×Int)):Prop:=∀c t r c',Lt c→W c t= .ok (r,c')→c'.over=false→(size t:Int)≤30000+c.nodes →
 rL c c' (size t) (size r)∧∀l:Int,1000 - c.steps≤l→V l t= .ok (r,l - (c'.steps - c.steps))
variable {n:Nat}{W:EK→Tm→Out (Tm×EK)}{V:Int→Tm→Out (Tm×Int)}
structure j0 (c c':EK) (z:Nat) (q:Option Tm):Prop where
 lt:Lt c'
 st:c.steps≤c'.steps
 nd:c.nodes≤c'.nodes
 sz:∀x,q=some x→(size x:Int)≤z+(c'.nodes - c.nodes)
theorem aQ {d:CX}{g m:Tm}{a:List Tm}{c c':EK}{q:Option Tm}(hL:Lt c) (h:FG E Dh d g a m c= .ok (q,c')) (hv:c'.over=false):j0 c c' (Bl a+a.length) q∧∀l:Int,1000 - c.steps≤l→FG E CN d g a m l= .ok (q,l - (c'.steps - c.steps)):=by
 have self:j0 c c (Bl a+a.length) none:=⟨hL,Int.le_refl _,Int.le_refl _,fun x e=>by cases e⟩;cases hc:DQ E m with
 | none=>rw[Mk hc] at h;cases h;exact⟨self,fun l hl=>by rw[Mk hc,Int.sub_self,Int.sub_zero]⟩
 | some p =>
  obtain⟨e,j,f⟩:=p;by_cases hn:e.name≠d.name∨j≥(d.recs.rules.length:Int)
  ·rw[Qh hc hn] at h;cases h;exact⟨self,fun l hl=>by rw[Qh hc hn,Int.sub_self,Int.sub_zero]⟩
  have hlo:=(Ek hc).lo;have hlt:j.toNat<d.recs.rules.length:=by omega
  have hr:=List.getElem?_eq_getElem hlt;by_cases he:(By d.recs.rules[j.toNat] g.levels).2=0
  ·rw[MX hc hn hr he] at h;obtain⟨h1,h2,h3,h4,h5,h6⟩:=Nz hL (fun t c1 q c2 e hv=>by cases e;exact hv) h hv (k':=fun t s'=> .ok (some (apply t (a.drop (CQ d+1).toNat)),s'));simp only at h3 h4 h5;cases h5;have u:=DM (a.drop (CQ d+1).toNat) (apply (apply (By d.recs.rules[j.toNat] g.levels).1 (a.take (d.fixed+1+d.ctors.length).toNat)) f);have u2:=DL a (CQ d+1).toNat;have u3:(a.drop (CQ d+1).toNat).length≤a.length:=by rw[List.length_drop];omega
   refine⟨⟨h2,by omega,by omega,fun x e=>?_⟩,fun l hl=>?_⟩
   ·cases e;have:((Bl a+a.length:Nat):Int)=Bl a+a.length:=by omega
    omega
   rw[MX hc hn hr he,h6 l hl];congr 2;omega
  rw[Lr hc hn hr he] at h;cases h;exact⟨self,fun l hl=>by rw[Lr hc hn hr he,Int.sub_self,Int.sub_zero]⟩
theorem YN {d:CX}{g:Tm}{a:List Tm}{c c':EK}{q:Option Tm}(hL:Lt c) (h:FB Dh d g a c= .ok (q,c')) (hv:c'.over=false):j0 c c' (Bl a+a.length) q∧∀l:Int,1000 - c.steps≤l→FB CN d g a l= .ok (q,l - (c'.steps - c.steps)):=by
 by_cases he:(By d.value g.levels).2=0
 ·rw[Kc he] at h;obtain⟨h1,h2,h3,h4,h5,h6⟩:=Nz hL (fun t c1 q c2 e hv=>by cases e;exact hv) h hv (k':=fun t s'=> .ok (some (apply t a),s'));simp only at h3 h4 h5;cases h5;have u:=DM a (By d.value g.levels).1;refine⟨⟨h2,by omega,by omega,fun x e=>by cases e;omega⟩,fun l hl=>?_⟩;rw[Kc he,h6 l hl];congr 2;omega
 rw[KN he] at h;cases h;exact⟨⟨hL,Int.le_refl _,Int.le_refl _,fun x e=>by cases e⟩,fun l hl=>by rw[KN he,Int.sub_self,Int.sub_zero]⟩
theorem aJ {g b:Tm}{vs a:List Tm}{c c':EK}{q:Option Tm}(hL:Lt c) (h:Gr Dh g b vs a c= .ok (q,c')) (hv:c'.over=false):j0 c c' (Bl a+a.length) q∧∀l:Int,1000 - c.steps≤l→Gr CN g b vs a l= .ok (q,l - (c'.steps - c.steps)):=by
 by_cases he:(By b g.levels).2=0
 ·have hg:∀{σ:Type} (S:Sys σ) (s:σ),Gr S g b vs a s=if okB (By b g.levels).1=false∨vs.all okB=false∨1125899906842624≤Bl vs then .stuck else S.put s (CT (By b g.levels).1 vs.reverse 0) fun t s'=> .ok (some (apply t a),s'):=fun S s=>by rw[Gr,if_neg Ax]
  rw[hg] at h;split at h
  ·cases h
  rename_i hn;obtain⟨h1,h2,h3,h4,h5,h6⟩:=Nz hL (fun t c1 q c2 e hv=>by cases e;exact hv) h hv (k':=fun t s'=> .ok (some (apply t a),s'));cases h5;have u:=DM a (CT (By b g.levels).1 vs.reverse 0).1;refine⟨⟨h2,by omega,by omega,fun x e=>by cases e;omega⟩,fun l hl=>?_⟩;rw[hg,if_neg hn,h6 l hl];congr 2;omega
 rw[JU he] at h;cases h;exact⟨⟨hL,Int.le_refl _,Int.le_refl _,fun x e=>by cases e⟩,fun l hl=>by rw[JU he,Int.sub_self,Int.sub_zero]⟩
end
section
variable {E:List CX}{n:Nat}
end
section
variable {E:List CX}
def Yu {α:Type}(c:EK) (o:Int→Out (α×Int)) (q:α):Prop:=∀l:Int,1000 - c.steps≤l→∃l',o l= .ok (q,l')
theorem PY {c c':EK}{x:Tm×Int}{f:Tm→Tm}{q:Option Tm}(hL:Lt c) (h:Dh.put c x (fun t s=> .ok (some (f t),s))= .ok (q,c')) (hv:c'.over=false):Yu c (fun l=>CN.put l x fun t s=> .ok (some (f t),s)) q:=by
 obtain⟨h1,h2,h3,h4,h5,h6⟩:=Nz hL (fun t c1 q c2 e hv=>by cases e;exact hv) h hv (k':=fun t s=>Out.ok (some (f t),s));cases h5;exact fun l hl=>⟨l - 1,h6 l hl⟩
theorem WR {T:EK→Tm→Out (Option Tm×EK)}{U:Int→Tm→Out (Option Tm×Int)}(hT:∀c t q c',Lt c→T c t= .ok (q,c')→c'.over=false→Yu c (fun l=>U l t) q) {h:Tm}{ar:Int}{a:List Tm}:∀(m:Nat) (t:FY) (vs:List Tm) (pl:List (Int×List Int)) (c c':EK) (q:Option Tm),Lt c→GX E Dh T h ar a m t vs pl c= .ok (q,c')→c'.over=false→Yu c (fun l=>GX E CN U h ar a m t vs pl l) q
 | 0,t,vs,pl,c,c',q,hL,hq,hv=>by rw[GX] at hq;cases hq
 | m+1,t,vs,pl,c,c',q,hL,hq,hv=>by
  intro l hl;simp only;rw[GX] at hq ⊢;split at hq
  ·rename_i hk;rw[if_pos hk];split at hq
   ·rename_i hb;rw[if_pos hb];cases hq;exact⟨l,O⟩
   rename_i hb;rw[if_neg hb];cases hc:DQ E (vs.getD t.var.toNat default) with
   | none =>
    rw[hc] at hq;simp only at hq ⊢;obtain⟨⟨x,c1⟩,h1,h2⟩:=GN hq;have hv1:c1.over=false:=by
     cases x with
     | none=>cases h2;exact hv
     | some x =>
      simp only at h2;split at h2
      ·cases h2
      cases h2;exact hv
    obtain⟨l',hl'⟩:=hT _ _ _ _ hL h1 hv1 l hl;simp only at hl';rw[hl'];simp only[Out.bind];cases x with
    | none=>cases h2;exact⟨l',rfl⟩
    | some x =>
     simp only at h2 ⊢;split at h2
     ·cases h2
     ·rename_i y hy;cases h2;exact⟨l',rfl⟩
   | some p =>
    obtain⟨d,j,f⟩:=p;rw[hc] at hq;simp only at hq ⊢;cases hbr:C3 (El d j).name t.branches with
    | none=>rw[hbr] at hq;cases hq;exact⟨l,rfl⟩
    | some t' =>
     rw[hbr] at hq;exact WR hT m t' _ _ c c' q hL hq hv l hl
  rename_i hk;rw[if_neg hk];obtain⟨s1,s2⟩:=aJ hL hq hv;exact⟨_,s2 l hl⟩
theorem WX:∀(n:Nat) (c c':EK) (t:Tm) (q:Option Tm),Lt c→DY E Dh n c t= .ok (q,c')→c'.over=false→Yu c (fun l=>DY E CN n l t) q
 | 0,c,c',t,q,hL,h,hv=>by rw[DY] at h;cases h
 | n+1,c,c',t,q,hL,h,hv=>by
  have ih:=WX n;intro l hl;simp only;rw[DY] at h ⊢;split at h
  ·cases h
  rename_i ho;rw[if_neg ho];split at h
  ·rename_i k5;rw[if_pos k5];split at h
   ·rename_i hl0;rw[if_pos hl0];cases h;exact⟨l,rfl⟩
   rename_i hl0;rw[if_neg hl0];unfold L1 at h ⊢;split at h
   ·cases h
   exact PY (f:=fun x=>apply x ((BH t).2.drop 1)) hL h hv l hl
  rename_i k5;rw[if_neg k5];split at h
  ·rename_i k11;rw[if_pos k11];unfold Q2 at h ⊢;split at h
   ·exact PY (f:=fun x=>apply x (BH t).2) hL h hv l hl
   cases h
  rename_i k11;rw[if_neg k11];split at h
  ·rename_i k9;rw[if_pos k9];split at h
   ·cases h
   rename_i p hp;split at h
   ·rename_i k8;rw[if_pos k8];unfold LP at h ⊢;split at h
    ·cases h
    exact PY (f:=fun x=>apply x (BH t).2) hL h hv l hl
   rename_i k8;rw[if_neg k8];obtain⟨⟨x,c1⟩,h1,h2⟩:=GN h;cases x with
   | none =>
    cases h2;obtain⟨l',hl'⟩:=ih _ _ _ _ hL h1 hv l hl;simp only at hl';rw[hl'];exact⟨l',O⟩
   | some x =>
    cases h2;obtain⟨l',hl'⟩:=ih _ _ _ _ hL h1 hv l hl;simp only at hl';rw[hl'];exact⟨l',O⟩
  rename_i k9;rw[if_neg k9];split at h
  ·rename_i k3;rw[if_pos k3];split at h
   ·cases h;exact⟨l,rfl⟩
   rename_i x hx;split at h
   ·rename_i k1;rw[if_pos k1];obtain⟨s1,s2⟩:=YN hL h hv;exact⟨_,s2 l hl⟩
   rename_i k1;rw[if_neg k1];split at h
   ·rename_i kr;rw[if_pos kr];split at h
    ·obtain⟨s1,s2⟩:=aQ hL h hv;exact⟨_,s2 l hl⟩
    obtain⟨⟨y,c1⟩,h1,h2⟩:=GN h;cases y with
    | none =>
     cases h2;obtain⟨l',hl'⟩:=ih _ _ _ _ hL h1 hv l hl;simp only at hl';rw[hl'];exact⟨l',O⟩
    | some y =>
     cases h2;obtain⟨l',hl'⟩:=ih _ _ _ _ hL h1 hv l hl;simp only at hl';rw[hl'];exact⟨l',O⟩
   rename_i kr;rw[if_neg kr];split at h
   ·rename_i kf;rw[if_pos kf];exact WR (fun c t q c' g1 g2 g3=>ih c c' t q g1 g2 g3) n _ _ _ c c' q hL h hv l hl
   rename_i kf;rw[if_neg kf];cases h;exact⟨l,O⟩
  rename_i k3;rw[if_neg k3];cases h;exact⟨l,O⟩
end
section
variable {E:List CX}
end
end Go.Eu
