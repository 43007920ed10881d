/- Part of the proofs: an abstract program logic, plain models and contracts of functions. -/
import Derived.Test.YtboammbpdaoojaaGreatPg
import Derived.Test.YtboammbpdaoojaaGreatPd
import Derived.Test.YtboammbpdaoojaaGreatPb
set_option linter.unusedVariables false
set_option linter.unusedSimpArgs false
set_option maxRecDepth 100000
namespace Go.Proofs.YtboammbpdaoojaaGreat
open Go.Abs Go.Eu
theorem Tx:∀(t:ES) (nm:ByteArray),(t.branches.length<2000000)→ET Tryz.prog 97 [.agg ((Cz t).map .p),.p (.str nm)] (.tup [.agg ((Cz ((e9 nm t.branches).1)).map .p),.p (.bool ((e9 nm t.branches).2))]):=by
 intro t nm h1;refine A5 Tryz.func97 O vD (n:=28) O O (Aw (BF O (BN O) fun b2=>BF O (BN O) fun b3=>BF O (A7 Wx O) fun b4=>Ar Ay 1 [] O (Aw (Aq O (Az FG O O) (Aq O (A0 (i:=2) Kh O O (CH _)) (Aq O (Ej O O) (Aq O (CE [1] O (.inl ⟨O,O,O⟩) (pW b3 nm t.branches h1) ⟨_,_,O,O,O⟩ Am O (.inl O)) (Ar Ay 1 [] O (As (Aw (Ax Ay 3 [] O (BO 13 O (fun g=>?_) (fun g=>?_)))))))))))))
 ·simp only[sd,se] at g;have hbn:=iD (by simpa using g);refine Ar Ay 7 [] O ?_;refine Av O (fun c=>?_) (fun c=>by cases c);refine Au Ay 3 [0,0] O (BH (BW (i:=0) O) (A1 (⟨O,_,_,⟨_,_,O,(BA (i:=0) Jl O O O),⟨_,_,O,O,O⟩⟩,(List.nil_sublist _),?_⟩)))
  all_goals exact⟨by show (.tup [.agg [.p (I 0),.p (I 0),.p (I 0),.p (.str ⟨#[]⟩),.p (.lst []),.p (.lst []),.p (I 0),.p (.lst [])],.p (.bool false)]:AV)=_;rw[fZ hbn];rfl,rfl⟩
 simp only[sd,se] at g;obtain⟨bx,hbx,hbr⟩:=pw (nm:=nm) (l:=t.branches) (by simpa using g);refine BB O (Az FG O O) (BB O (A0 (i:=2) Kh O O (CH _)) (BB O (Ba O) (BB O (A4 Jt O O An (FQ hbx) (DL _)) (BB O (B1 IZ O O) (BB O (DB sE O (GU _)) (Ar Ay 1 [] O (Av O (fun c=>?_) (fun c=>?_))))))))
 ·refine Au Ay 3 [0,0] O (BH (BW (i:=0) O) (A1 (⟨O,_,_,⟨_,_,O,(BA (i:=0) Jl O O O),⟨_,_,O,O,O⟩⟩,(List.nil_sublist _),?_⟩)))
  all_goals exact⟨by show (.tup [.agg [.p (I 0),.p (I 0),.p (I 0),.p (.str ⟨#[]⟩),.p (.lst []),.p (.lst []),.p (I 0),.p (.lst [])],.p (.bool false)]:AV)=_;rw[fZ (by rw[hbr,if_pos (by simpa using c)])];rfl,rfl⟩
 refine A2 (Aw (Aq O (Az FG O O) (Aq O (A0 (i:=2) Kh O O (CH _)) (Br O (Aq O (A4 Jt O O An (FQ hbx) (DL _)) (Aq O (B1 IZ O O) (Aq O (DP Jl O (Fp _) (Co _)) (Ar Ay 2 [0,1] O (A1 (⟨O,_,_,⟨_,_,O,(BA (i:=0) Jl O O (by simp[Co])),⟨_,_,O,O,O⟩⟩,(List.nil_sublist _),?_⟩))))))))))
 all_goals exact⟨by show (.tup [.agg ((Cz bx.tree).map .p),.p (.bool true)]:AV)=_;rw[jL (by rw[hbr,if_neg (by simpa using c)])],rfl⟩
theorem cm:∀(t:ES) (nm:ByteArray),(t.branches.length<2000000)→ET Tryz.prog 87 [.agg ((Cz t).map .p),.p (.str nm)] (.tup [.agg ((Cz ((ZB nm t.branches).1)).map .p),.p (.bool ((ZB nm t.branches).2))]):=by
 intro t nm h1;refine A5 Tryz.func87 O wE (n:=36) O O (Aw (BF O (BN O) fun b2=>BF O (A7 Wx O) fun b4=>Ar Ay 1 [] O (As (Au Ay 1 [] O (A9 (Bc (α:=Nat) (fun i=>⟨36,mk [(1,.p (.str nm)),(2,.ptr b2 0),(4,.ptr b4 0),(6,.p (I (i:Int)))],[.box b4 [.p (I 0),.p (I 0),.p (I 0),.p (.str ⟨#[]⟩),.p (.nils),.p (.nils),.p (I 0),.p (.nils)],.box b2 ((Cz t).map .p)],[]⟩) (fun i=>t.branches.length - i) (fun i=>i≤t.branches.length∧(ZB nm (t.branches.drop i)=ZB nm t.branches)) 0 (⟨by omega,rfl⟩) ?_ ?_))))))
 ·exact BS ⟨we O,we O,we O,we O,Ap⟩ (leH (is:=[0,1]) O (wl (oe O) (wl (oe O) (C2))))
 rintro i hC
 try simp only at hC
 obtain⟨hi,hC⟩:=hC;refine As (Aw (Ax Ay 2 [] O (Aq O (A0 (i:=1) Kh O O (CH _)) (Aq O (BJ Jt O (F6 _)) (Ar Ay 1 [] O (Av O (fun c=>?_) (fun c=>?_)))))))
 ·simp only[sd,se] at c;refine A2 (As (A9 (Aw (Aq O (Az FG O O) (Aq O (A0 (i:=1) Kh O O (CH _)) (Br O ?_))))));obtain⟨x,hx⟩:=A6 (l:=t.branches) (i:=i) An;refine Aq O (A4 Jt O O An (FQ hx) (DL _)) (Aq O (B1 IZ O O) (Aq O (DB MI O (Gd _)) (Br O (Aq O (FV O O) (Bg O (Av O (fun c1=>?_) (fun c1=>?_)))))))
  ·simp only[sd,se] at c1;refine As (Bt (fun k=>false) Dn (BG O (fun _=>Az FG O O) Ap (CV (j:=1) O O O (fun H i hi=>A0 (i:=i) Kh O hi (CH _)) AB Ap (BG O (fun _=>Ba O) Ap (BG O (fun _=>A4 Jt O O An (FQ hx) (DL _)) Ap (BG O (fun _=>B1 IZ O O) Ap (BG O (fun _=>DP Jl O (Fp _) (Co _)) Ap (BG O (fun _=>Az FG O O) Ap (CV (j:=1) O O O (fun H i hi=>A0 (i:=i) Kh O hi (CH _)) AB Ap (BG O (fun _=>Ba O) Ap (BG O (fun _=>A4 Jt O O An (FQ hx) (DL _)) Ap (BG O (fun _=>B1 IZ O O) Ap (BG O (fun _=>DB sE O (GU _)) Ap (Bk Ay 3 [0,1] O (A1 ?_)))))))))))))));refine⟨O,_,_,⟨_,_,O,(BA (i:=0) Jl O O (by simp[Co])),⟨_,_,O,O,O⟩⟩,(List.nil_sublist _),?_⟩
   all_goals exact⟨by show (.tup [.agg ((Cz x.tree).map .p),.p (.bool (!x.absurd))]:AV)=_;rw[←hC,jo hx,if_pos (F3 (by simpa using c1))],rfl⟩
  simp only[sd,se] at c1;refine A2 (A3 (Ar Ay 3 [] O ?_));refine⟨(i+1),AW,⟨by omega,by rw[←hC,jo hx,if_neg (fun e=>by simp[e] at c1)]⟩,BS ⟨we rfl,we rfl,we rfl,we rfl,trivial⟩ (leH (is:=[0,1]) rfl (wl (oe rfl) (wl (oe rfl) (C2))))⟩
 simp only[sd,se] at c;refine Be (Au Ay 3 [0,0] O (BH (BW (i:=0) O) (A1 (⟨O,_,_,⟨_,_,O,(BA (i:=0) Jl O O O),⟨_,_,O,O,O⟩⟩,(List.nil_sublist _),?_⟩))))
 all_goals exact⟨by show (.tup [.agg [.p (I 0),.p (I 0),.p (I 0),.p (.str ⟨#[]⟩),.p (.lst []),.p (.lst []),.p (I 0),.p (.lst [])],.p (.bool false)]:AV)=_;rw[←hC,List.drop_eq_nil_of_le An];rfl,rfl⟩
theorem IL:∀(b:Nat) (c:Et) (t:Tm) (e:Int),(Nd t)→Bn Tryz.prog 40 [.ptr b 0,.agg ((BP t).map .p),.p (I e)] [.box b ((JA c).map .p)] (Gk (.agg ((BP t).map .p)) [.box b ((JA (c.result t e)).map .p)]):=by
 intro b c t e h1;refine A5 Tryz.func40 O vY (n:=28) O O (Aw (BF O (BN O) fun b4=>BF O (A7 Bx O) fun b6=>Bg O (Aw (Ax Ay 4 [2] O (Aq O (EA O O) (Ar Ay 3 [2,0] O (As (Bt (fun k=>false) Dn (BR Ay 5 [2,1] O (BG O (fun _=>BC O O (O4 _ t (Nat.le_refl _) h1) O) Ap (BG O (fun _=>EA O O) Ap (Bk Ay 3 [2,0] O (Aw (Ax Ay 3 [1] O (Aq O (CE [2] O (.inl ⟨O,O,O⟩) (mC b (Et.mk (wr ((c.steps:Int)+(1:Int))) (wr ((c.nodes:Int)+(Ev t:Int))) c.forms c.limit c.over) t e h1) ⟨_,_,O,O,O⟩ Am O (.inl O)) (Bg O (Au Ay 2 [1,0,1] O (A1 (⟨O,_,_,⟨_,_,O,(BA (i:=0) BZ O O Ag),O⟩,(B8 (is:=[2]) O),?_⟩)))))))))))))))))))
 all_goals exact⟨rfl,rfl⟩
def vu (ds:List B5) (n:Nat):Prop:=∀(b:Nat) (t:Tm) (c c2:Et) (r:Tm),DK ds Db n c t= .ok (r,c2)→Bn Tryz.prog 14 [.p (.lst (List.map Bi ds)),.agg ((BP t).map .p),.ptr b 0] [.box b ((JA c).map .p)] (Gk (.agg ((BP r).map .p)) [.box b ((JA c2).map .p)])
theorem _root_.Go.AP {α:Prop}(h:α:=by first | omega | (simp_all;done) | (simp_all;omega)):α:=h
theorem _root_.Go.AH {α:Prop}(h:α:=by first | (simp only[List.length_map,BQ];omega) | (simp_all;done) | (simp_all;omega)):α:=h
theorem il:∀(n k:Nat) (ds:List B5) (t:ES) (vs:List Tm) (b:Nat) (c c2:Et) (q:Option (Tm×List Tm)×Tm),(vu ds n)→(Ju ds)→(Tg t vs)→(Dp ds Db (DK ds Db n) k t vs Bh c= .ok (q,c2))→Bn Tryz.prog 54 [.p (.lst (List.map Bi ds)),.agg ((Cz t).map .p),.p (.lst (BE vs)),.ptr b 0] [.box b ((JA c).map .p)] (Gk (.tup [.agg ((BP (KY q)).map .p),.p (.lst (BE (N9 q))),.p (.bool q.1.isSome),.agg ((BP q.2).map .p)]) [.box b ((JA c2).map .p)]):=by
 intro n k ds t vs b c c2 q hW h2 h3 h4;have h3l:=h3.len;refine A5 Tryz.func54 O wA (n:=87) O O (Aw (BF O (BN O) fun b5=>BF O (A7 Bx O) fun b8=>Ax Ay 2 [] O (BF O (A7 Bx O) fun b11=>Bg O (Aw (bA O (B4 (EN (t:=12) (sz:=5) O) (Bg O (Aw (Ax Ay 2 [] O (FP O O (CR (i:=0) (rows':=BE vs) Bf Bf Bx O O O O O O (Bv _) (by simp only[BQ,List.length_nil];omega) (Kc [] vs)) fun o cp=>Ar Ay 1 [] O (Aw (Aq O (CO HJ Bx O) (BF O (A7 Bx O) fun b13=>Ar Ay 1 [0,0] O (As (A9 ?_)))))))))))))));refine Bc (α:=Nat×ES×List Tm×Tm×Et×Option Nat×Nat) (fun(m,w,us,l,d,o1,cp1)=>⟨87,mk [(0,.p (.lst (List.map Bi ds))),(3,.ptr b 0),(5,.ptr b5 0),(8,.ptr b8 0),(11,.ptr b11 0),(12,.vs o1 (BE us).length cp1),(13,.ptr b13 0)],[.box b13 ((BP l).map .p),.vec o1 5 (BE us) cp1,.box b11 [.p (I 0),.p (I 0),.p (.str ⟨#[]⟩),.p (.nils),.p (.nils)],.box b8 [.p (I 0),.p (I 0),.p (.str ⟨#[]⟩),.p (.nils),.p (.nils)],.box b5 ((Cz w).map .p),.box b ((JA d).map .p)],[]⟩) (fun(m,w,us,l,d,o1,cp1)=>m) (fun(m,w,us,l,d,o1,cp1)=>Dp ds Db (DK ds Db n) m w us l d= .ok (q,c2)∧Tg w us) ⟨k,t,vs,Bh,c,o,cp⟩ (⟨h4,h3⟩) ?_ ?_
 ·exact BS ⟨we O,we O,we O,we O,we O,we O,we O,Ap⟩ (leH (is:=[0,1,2,3,4,5]) O (wl (on (O)) (wl (oe O) (wl (oe O) (wl (oe O) (wl (oe O) (wl (oe O) (C2))))))))
 rintro⟨m,w,us,l,d,o1,cp1⟩ hC
 try simp only at hC
 obtain⟨hC,hL⟩:=hC;obtain⟨k1,rfl⟩:=Uy hC Ao;refine As (Aw (Aq O (Az FG O O) (Aq O (A0 (i:=4) DM O O (Gc _)) (Ar Ay 1 [] O (Av O (fun c1=>?_) (fun c1=>?_))))))
 ·simp only[sd,se] at c1;have hk1:=c1;refine A2 (A9 (As (As (BT [0,3,5,8,11,12,13] 41 (fun y=>y= .p (.bool (((decide ((w.var:Int)<(0:Int)))||(decide ((w.var:Int)≥((us.length:Nat):Int))))||d.over))) ?_ ?_))))
  ·refine A3 (Aq O (Az FG O O) (Aq O (A0 (i:=4) DM O O (DE _)) (Ax Ay 2 [] O (BO 29 O (fun g=>?_) (fun g=>?_)))))
   ·simp only[sd,se] at g;exact Ar Ay 12 [] O (⟨O,O,AM,AI,⟨O,O,O,O,O,O,O,Ap⟩⟩)
   simp only[sd,se] at g;refine BB O (Az FG O O) (BB O (A0 (i:=4) DM O O (DE _)) (BB O (Ba O) (BB O (Kj Bf O (BQ _)) (Ax Ay 3 [] O (BO 36 O (fun g1=>?_) (fun g1=>?_))))))
   ·simp only[sd,se] at g1;exact Ar Ay 5 [] O (⟨O,O,AM,AI,⟨O,O,O,O,O,O,O,Ap⟩⟩)
   simp only[sd,se] at g1;exact Ar Ay 5 [5] O (⟨O,O,AM,AI,⟨O,O,O,O,O,O,O,Ap⟩⟩)
  rintro _ rfl;refine Av O (fun c3=>?_) (fun c3=>?_)
  ·simp only[sd,se] at c3;have hb:=(JP hk1 (by simpa [or_assoc,Db] using c3)).symm.trans hC;cases hb;refine As (Bt (fun k=>false) Dn (Bk Ay 6 [0,3,0,2,1] O (BH (BW (i:=3) O) (BH (D3 9) (A1 (⟨O,_,_,⟨_,_,O,(BA (i:=3) BZ O O O),⟨_,_,O,O,⟨_,_,O,O,⟨_,_,O,(BA (i:=2) BZ O O Ag),O⟩⟩⟩⟩,(B8 (is:=[5]) O),?_⟩))))))
   all_goals exact⟨rfl,rfl⟩
  simp only[sd,se] at c3;have hcb:=c3;refine A2 (Aw (Ax Ay 3 [] O (Aq O (A0 (i:=4) DM O O (DE _)) (M8 (i:=1) O Aa fun b1 hb=>?_))));subst hb;refine Aq O (C0 Bf O O An AH) ?_;obtain⟨y,hy⟩:=A6 (l:=us) (i:=(w.var:Int).toNat) AP;refine Aq O (Ei (i:=1) BZ O O (Bd hy)) (Br O ?_);obtain⟨⟨r,d2⟩,hr1,hr2,hr3⟩:=H7 ((LW hk1 (by simpa [or_assoc,and_assoc,Db] using hcb) hy).symm.trans hC);refine Aq O (CE [5] O (.inl ⟨O,O,O⟩) (hW b y (Et.mk d.steps d.nodes d.forms d.limit d.over) d2 r hr1) ⟨_,_,O,O,O⟩ Am O (.inl O)) (Ar Ay 1 [0,1] O (Aw (Ax Ay 2 [0] O (Aq O (BC O O (Ww ds r h2 hr2) O) (Ax Ay 5 [] O (BF O (A7 Jw O) fun b14=>Ar Ay 4 [0,1] O (As (Au Ay 2 [] O (Av O (fun c4=>?_) (fun c4=>?_))))))))))
  ·simp only[sd,se] at c4;have hcn:=Ob c4;rw[GW hcn] at hr3;cases hr3;refine As (Bt (fun k=>false) Dn (Bk Ay 6 [1,4,0,3,1] O (BH (BW (i:=4) O) (BH (D3 9) (A1 (⟨O,_,_,⟨_,_,O,(BA (i:=4) BZ O O O),⟨_,_,O,O,⟨_,_,O,O,⟨_,_,O,(BA (i:=3) BZ O O Ag),O⟩⟩⟩⟩,(B8 (is:=[6]) O),?_⟩))))))
   all_goals exact⟨rfl,rfl⟩
  simp only[sd,se] at c4;have hcs:=M0 c4;have hcf:=Eo hcs;have hlo:=hcf.lo;have hhi:=hcf.hi;have hfl:=Io h2 hcs;refine A2 (As (Bt (fun k=>Nat.beq k 11) Dn (BR Ay 2 [5] O (CV (j:=0) O O O (fun H i hi=>A0 (i:=i) H4 O hi (CC _)) AB Ap (BG O (fun _=>Ba O) Ap ?_)))));obtain⟨x,hx⟩:=A6 (l:=((CL ds r).1).ctors) (i:=((CL ds r).2.1:Int).toNat) An;refine BG O (fun _=>A4 Hc O O An (Em hx) (EE _)) Ap (BG O (fun _=>B1 Jh O O) Ap (BG O (fun _=>DB MI O (Fg _)) Ap (BG O (fun _=>BC O O (cm w x.name hL.tin.bl) O) Ap (BR Ay 3 [] O (HC [] O O (A7 Wx O) Aj fun b18=>⟨AB,Ap,?_⟩)))));refine Bk Ay 2 [0,1] O (As (Au Ay 2 [] O (Av O (fun c5=>?_) (fun c5=>?_))))
  ·simp only[sd,se] at c5;have hbn:=gz c5;rw[Ia hcs (by rw[Df,B6 hx];exact hbn)] at hr3;cases hr3;refine As (Bt (fun k=>false) Dn (Bk Ay 6 [2,5,0,4,1] O (BH (BW (i:=5) O) (BH (D3 9) (A1 (⟨O,_,_,⟨_,_,O,(BA (i:=5) BZ O O O),⟨_,_,O,O,⟨_,_,O,O,⟨_,_,O,(BA (i:=4) BZ O O Ag),O⟩⟩⟩⟩,(B8 (is:=[7]) O),?_⟩))))))
   all_goals exact⟨rfl,rfl⟩
  simp only[sd,se] at c5;have hbs:=iW c5;rw[Ic hcs (by rw[Df,B6 hx];exact hbs)] at hr3;refine A2 (Au Ay 2 [0,6,1] O (A3 (Ax Ay 2 [] O (FP O O (CR (i:=3) (rows':=BE ((CL ds r).2.2.1)) Bf Bf Bx O O O O O O (Bv _) (by have:=hL.len;simp only[BQ,List.length_append];omega) (Kc us ((CL ds r).2.2.1))) fun o2 cp2=>Ar Ay 1 [] O (⟨⟨k1,(ZB x.name w.branches).1,us++(CL ds r).2.2.1,r,d2,o2,cp2⟩,AW,⟨hr3,hL.next h2 hr2 hcs hbs⟩,BS ⟨we O,we O,we O,we O,we O,we O,we O,Ap⟩ (leH (is:=[2,3,4,5,6,7]) O (wl (oe O) (wl (oe O) (wl (oe O) (wl (oe O) (wl (oe O) (wl (oe O) (C2))))))))⟩)))))
 simp only[sd,se] at c1;have hk1:=c1;rw[Hz hk1] at hC;cases hC;refine Be (Aw (Aq O (Az FG O O) (Aq O (Bw (i:=4) BZ O O (E2 _) (BD _)) (Ar Ay 6 [3,1,2,0] O (BH (Ck (i:=1) [12,85,9] O (D5 ⟨O,O,O,Ap⟩)) (BH (BW (i:=1) O) (A1 (⟨O,_,_,⟨_,_,O,(BA (i:=2) BZ O O Ag),⟨_,_,O,O,⟨_,_,O,O,⟨_,_,O,(BA (i:=1) BZ O O O),O⟩⟩⟩⟩,(B8 (is:=[4]) O),?_⟩))))))))
 all_goals exact⟨rfl,rfl⟩
end Go.Proofs.YtboammbpdaoojaaGreat
namespace Go.Eu
open Go.Abs
section
variable {E:List B5}{σ:Type}{S:Sys σ}{W:σ→Tm→Out (Tm×σ)}{n:Nat}{h m:Tm}{a:List Tm}{s:σ}{d:B5}{x:Fq}
theorem dD {a b:ByteArray}(h:¬a.toList=b.toList):a≠b:=fun e=>h (by rw[e])
theorem Wp (hc:((CL E m).2.2.2=false∨¬(CL E m).1.name.toList=d.name.toList)∨(d.recs.rules.length:Int)≤(CL E m).2.1):Es E S d h a m s= .ok (none,s):=by
 cases hk:(CL E m).2.2.2 with
 | false=>exact Mz (Ob hk)
 | true =>
  refine RK (M0 hk) ?_;rcases hc with (hc | hc) | hc
  ·rw[hk] at hc;cases hc
  ·exact .inl (dD hc)
  exact .inr hc
theorem UD (hc:((CL E m).2.2.2=true∧(CL E m).1.name.toList=d.name.toList)∧(CL E m).2.1<(d.recs.rules.length:Int)):C8 E m=some ((CL E m).1,(CL E m).2.1,(CL E m).2.2.1)∧¬((CL E m).1.name≠d.name∨(CL E m).2.1≥(d.recs.rules.length:Int))∧0≤(CL E m).2.1:=by
 have h1:=M0 hc.1.1;refine⟨h1,fun h=>?_,(Eo h1).lo⟩;rcases h with h | h
 ·exact h (F3 hc.1.2)
 omega
end
theorem Ih {d:B5}(h:DG d):0≤d.fixed∧d.fixed+1+d.ctors.length≤CB d∧CB d≤4000001:=by
 have h1:=Fa h.din h.fx;have h2:=h.fx;have h3:=h.din.cl;unfold CB;omega
section
variable {E:List B5}{σ:Type}{S:Sys σ}{W:σ→Tm→Out (Tm×σ)}{n:Nat}{h m:Tm}{a:List Tm}{s:σ}{d:B5}{x:Fq}
theorem Jo {f:Hp}{q:Option (Tm×List Tm)×Tm}(hq:q.1.isSome=false∨S.over s=true):PY S f h a (q,s)= .ok (none,s):=by
 unfold PY;obtain⟨q1,q2⟩:=q;cases q1 with
 | none=>rfl
 | some bv =>
  obtain⟨b,v⟩:=bv;rcases hq with hq | hq
  ·cases hq
  simp only[hq,if_true]
theorem LL {f:Hp}{q:Option (Tm×List Tm)×Tm}(hq:q.1.isSome=true) (ho:S.over s=false):PY S f h a (q,s)=GD S h (KY q) (N9 q) (a.drop f.arity.toNat) s:=by
 unfold PY;obtain⟨q1,q2⟩:=q;cases q1 with
 | none=>cases hq
 | some bv=>obtain⟨b,v⟩:=bv;simp only[ho,Bool.false_eq_true,if_false];rfl
theorem S4 (hE:Ju E):∀(k:Nat) (t:ES) (vs:List Tm) (l:Tm) (s s':σ) (q:Option (Tm×List Tm)×Tm),Tg t vs→Dp E S W k t vs l s= .ok (q,s')→okB (KY q)=true∧(∀v∈N9 q,okB v=true)∧(N9 q).length≤100000000
 | 0,t,vs,l,s,s',q,hl,h=>by rw[Dp] at h;cases h
 | k+1,t,vs,l,s,s',q,hl,h=>by
  have hnone:∀l',okB (KY (none,l'))=true∧(∀v∈N9 (none,l'),okB v=true)∧(N9 (none,l')).length≤100000000:=fun l'=>⟨IY,fun v hv=>by simp[N9] at hv,Nat.zero_le _⟩;by_cases hk:t.kind=1
  ·by_cases hb:t.var<0∨t.var≥(vs.length:Int)∨S.over s=true
   ·rw[JP hk hb] at h;cases h;exact hnone _
   have hlt:t.var.toNat<vs.length:=by omega
   rw[LW hk hb (List.getElem?_eq_getElem hlt)] at h;obtain⟨⟨r,s1⟩,h1,h2,h3⟩:=H7 h;cases hc:C8 E r with
   | none=>rw[GW hc] at h3;cases h3;exact hnone _
   | some p =>
    obtain⟨d,j,f⟩:=p;cases hbr:Ca (Df d j).name t.branches with
    | none=>rw[Ia hc hbr] at h3;cases h3;exact hnone _
    | some t'=>rw[Ic hc hbr] at h3;exact S4 hE k t' _ _ _ _ _ (hl.next hE h2 hc hbr) h3
  rw[Hz hk] at h;cases h;obtain⟨kk,b,v,l2⟩:=t;have:=hl.tok;simp only[EW] at this;exact⟨this.1,hl.ok,by have:=hl.len;show vs.length≤_;omega⟩
end
theorem VD:∀(l:List Tm),BX l.reverse=BX l
 | []=>rfl
 | a::l=>by rw[List.reverse_cons,Hi,VD l];simp only[BX];omega
theorem fW {l:List Tm}(h:∀v∈l,okB v=true):∀v∈l.reverse,okB v=true:=fun v hv=>h v (List.mem_reverse.1 hv)
theorem QZ {E:List B5}{d:B5}{f:Hp}{a:List Tm}(hE:Gi E) (hd:d∈E) (hf:f∈d.funs) (ha:∀x∈a,okB x=true):Tg f.tree (a.take f.arity.toNat):=by
 have h1:=hE.g.all d hd;have h2:=h1.fu f hf;have h3:=hE.fu d hd f hf;exact⟨(h1.din.fs f hf).tr,h2.2.2,by rw[List.length_take];omega,fun v hv=>ha v (List.mem_of_mem_take hv)⟩
theorem oT {E:List B5}{nm:ByteArray}{x:B5}(h:(Bb E nm).2=0) (h3:(Bb E nm).1.kind=5) (hx:E[(Bb E nm).1.decl.toNat]?=some x):(Cd E nm).1=x:=by rw[fo h h3 hx]
theorem mz {E:List B5}{h:Tm}(hu:Tl E h=true):(Bb E h.name).2=0:=by
 simp only[Tl,Bool.and_eq_true,decide_eq_true_eq] at hu;exact hu.1
end Go.Eu
namespace Go.Proofs.YtboammbpdaoojaaGreat
open Go.Abs Go.Eu
theorem bV:∀(a b:CS),(Nj a)→(Nj b)→ET Tryz.prog 189 [.agg ((By a).map .p),.agg ((By b).map .p)] (.agg ((By (I5 a b)).map .p)):=by
 intro a b h1 h2;have hl:=h1.vars;have hl2:=h2.vars;simp only[DY] at hl hl2;refine A5 Tryz.func189 O q9 (n:=138) O O (Aw (BF O (BN O) fun b2=>BF O (BN O) fun b3=>BF O (A7 EI O) fun b4=>Bg O (Aw (Ax Ay 4 [2,1] O (Aq O (FI O O) (Aq O (CO Up EI O) (BF O (A7 EI O) fun b5=>Ar Ay 1 [0,0] O (Aw (B4 (IA (i:=0) O (Ys (aw (we O) (aw (JM) (E0))))) (B4 (H6 (sz:=2)) (Ar Ay 2 [] O (Au Ay 1 [] O (As (A9 ?_))))))))))))));refine Bc (α:=Nat×Nat×List CF×Int×Option Nat×Nat) (fun(i,k,vs,m,o,cp)=>⟨138,mk [(2,.ptr b2 0),(3,.ptr b3 0),(4,.ptr b4 0),(5,.ptr b5 0),(6,.p (I (i:Int))),(7,.p (I (k:Int))),(8,.p (I m))],[.vec o 2 (List.map Dt vs) cp,.box b5 [.p (I (max (a.const:Int) (b.const:Int))),.vs o (List.map Dt vs).length cp],.box b4 [.p (I 0),.p (.nils)],.box b3 [.p (I b.const),.p (.lst (List.map Dt b.vars))],.box b2 [.p (I a.const),.p (.lst (List.map Dt a.vars))]],[]⟩) (fun(i,k,vs,m,o,cp)=>(a.vars.length - i)+(b.vars.length - k)) (fun(i,k,vs,m,o,cp)=>Nu a.vars b.vars i k vs m) ⟨0,0,[],0,none,0⟩ (Nu.zero) ?_ ?_
 ·exact BS ⟨we O,we O,we O,we O,we O,we O,we O,Ap⟩ (leH (is:=[0,1,2,3,4]) O (wl (oe O) (wl (oe O) (wl (oe O) (wl (oe O) (wl (oe O) (C2)))))))
 rintro⟨i,k,vs,m,o,cp⟩ hC
 try simp only at hC
 have hi0:=hC.hi;have hk0:=hC.hk;refine As (As (BT [2,3,4,5,6,7,8] 27 (fun y=>y= .p (.bool ((decide (((i:Int):Int)<((a.vars.length:Nat):Int)))||(decide (((k:Int):Int)<((b.vars.length:Nat):Int)))))) ?_ ?_))
 ·refine A3 (Ax Ay 3 [4] O (Aq O (BJ CY O (List.length_map _)) (Ax Ay 2 [] O (BO 21 O (fun g=>?_) (fun g=>?_)))))
  ·simp only[sd,se] at g;exact Ar Ay 6 [] O (⟨O,O,AM,AI,⟨O,O,O,O,O,O,O,Ap⟩⟩)
  simp only[sd,se] at g;exact Ax Ay 3 [3] O (BB O (BJ CY O (List.length_map _)) (Ar Ay 2 [] O (⟨O,O,AM,AI,⟨O,O,O,O,O,O,O,Ap⟩⟩)))
 rintro _ rfl;refine Av O (fun c=>?_) (fun c=>?_)
 ·simp only[sd,se] at c;refine A2 (A9 (Aw (Aq O (CO nD F8 O) (BF O (A7 F8 O) fun b9=>Ar Ay 1 [0,0] O (As (A9 (As (BT [2,3,4,5,6,7,8,9] 53 (fun y=>y= .p (.bool (Qr a.vars b.vars i k))) ?_ ?_))))))))
  ·refine Bt (fun k=>false) Dn (BR Ay 3 [4] O (BG O (fun _=>BJ CY O (List.length_map _)) Ap (BR Ay 2 [] O (D6 59 O (fun g=>?_) (fun g=>?_)))))
   ·simp only[sd,se] at g;exact Bk Ay 22 [] O (⟨O,O,AM,(by first | exact pB (Of An) | exact pB (Q7 An An) | exact pB (OJ hx hx1)),⟨O,O,O,O,O,O,O,O,Ap⟩⟩)
   simp only[sd,se] at g;refine BR Ay 3 [5] O (Ce O (fun _=>BJ CY O (List.length_map _)) Ap (BR Ay 2 [] O (D6 65 O (fun g1=>?_) (fun g1=>?_))))
   ·simp only[sd,se] at g1;refine BR Ay 3 [5] O ?_;obtain⟨x,hx⟩:=A6 (l:=a.vars) (i:=i) An;refine Ce O (fun _=>A4 CY O O An (Cl hx) (O)) Ap (BR Ay 5 [4] O ?_);obtain⟨x1,hx1⟩:=A6 (l:=b.vars) (i:=k) An;exact Ce O (fun _=>A4 CY O O An (Cl hx1) (O)) Ap (Bk Ay 6 [] O (⟨O,O,AM,(by first | exact pB (Of An) | exact pB (Q7 An An) | exact pB (OJ hx hx1)),⟨O,O,O,O,O,O,O,O,Ap⟩⟩))
   simp only[sd,se] at g1;exact Bk Ay 16 [] O (⟨O,O,AM,(by first | exact pB (Of An) | exact pB (Q7 An An) | exact pB (OJ hx hx1)),⟨O,O,O,O,O,O,O,O,Ap⟩⟩)
  rintro _ rfl;refine Av O (fun c1=>?_) (fun c1=>?_)
  ·have hi:=ku c1 (by simpa using c);refine Aw (Ax Ay 3 [5] O ?_);obtain⟨x,hx⟩:=A6 (l:=a.vars) (i:=i) An;refine Aq O (A4 CY O O An (Cl hx) (O)) (Ar Ay 2 [0,1] O (A3 (Ar Ay 3 [] O (Aw (Ax Ay 3 [0] O (Aq O (FI O O) (Ar Ay 1 [] O (A3 (Ax Ay 3 [2,0] O (Aq O (Bl CY F8 O O O O O) (FP O O (CR (i:=1) (rows':=List.map Dt [(CF.mk x.index x.plus)]) CY CY F8 O O O O O O (GG _) (by have:=hC.ln;have:=hC.hi;have:=hC.hk;simp only[List.length_map,List.length_append,List.length_cons,List.length_nil];omega) (GP (f:=Dt) vs [(CF.mk x.index x.plus)])) fun o1 cp1=>Ar Ay 2 [2,0] O ?_)))))))))));refine⟨⟨i+1,k,vs++[(CF.mk x.index x.plus)],max (m:Int) (x.plus:Int),o1,cp1⟩,AW,(by first | exact hC.left hx c1 | exact hC.right hx c1 c2 | exact hC.both hx hx1 c1 c2),BS ⟨we O,we O,we O,we O,we O,we O,we O,Ap⟩ (leH (is:=[1,2,3,4,5]) O (wl (oe O) (wl (oe O) (wl (oe O) (wl (oe O) (wl (oe O) (C2)))))))⟩
  have hk:=ka c1 hC.hk;refine As (BT [2,3,4,5,6,7,8,9] 88 (fun y=>y= .p (.bool (Xe a.vars b.vars i k))) ?_ ?_)
  ·refine Bt (fun k=>false) Dn (BR Ay 3 [5] O (BG O (fun _=>BJ CY O (List.length_map _)) Ap (BR Ay 2 [] O (D6 94 O (fun g=>?_) (fun g=>?_)))))
   ·simp only[sd,se] at g;exact Bk Ay 15 [] O (⟨O,O,AM,(by first | exact pB (Re An) | exact pB (M9 hx1 hx) | exact pB (M9 hx hx1)),⟨O,O,O,O,O,O,O,O,Ap⟩⟩)
   simp only[sd,se] at g;refine BR Ay 3 [4] O ?_;obtain⟨x,hx⟩:=A6 (l:=b.vars) (i:=k) An;refine Ce O (fun _=>A4 CY O O An (Cl hx) (O)) Ap (BR Ay 5 [5] O ?_);obtain⟨x1,hx1⟩:=A6 (l:=a.vars) (i:=i) An;exact Ce O (fun _=>A4 CY O O An (Cl hx1) (O)) Ap (Bk Ay 5 [] O (⟨O,O,AM,(by first | exact pB (Re An) | exact pB (M9 hx1 hx) | exact pB (M9 hx hx1)),⟨O,O,O,O,O,O,O,O,Ap⟩⟩))
  rintro _ rfl;refine Av O (fun c2=>?_) (fun c2=>?_)
  ·refine Aw (Ax Ay 3 [4] O ?_);obtain⟨x,hx⟩:=A6 (l:=b.vars) (i:=k) An;refine Aq O (A4 CY O O An (Cl hx) (O)) (Ar Ay 2 [0,1] O (A3 (Ar Ay 3 [] O (Aw (Ax Ay 3 [0] O (Aq O (FI O O) (Ar Ay 1 [] O (A3 (Ax Ay 3 [2,0] O (Aq O (Bl CY F8 O O O O O) (FP O O (CR (i:=1) (rows':=List.map Dt [(CF.mk x.index x.plus)]) CY CY F8 O O O O O O (GG _) (by have:=hC.ln;have:=hC.hi;have:=hC.hk;simp only[List.length_map,List.length_append,List.length_cons,List.length_nil];omega) (GP (f:=Dt) vs [(CF.mk x.index x.plus)])) fun o1 cp1=>Ar Ay 2 [2,0] O ?_)))))))))));refine⟨⟨i,k+1,vs++[(CF.mk x.index x.plus)],max (m:Int) (x.plus:Int),o1,cp1⟩,AW,(by first | exact hC.left hx c1 | exact hC.right hx c1 c2 | exact hC.both hx hx1 c1 c2),BS ⟨we O,we O,we O,we O,we O,we O,we O,Ap⟩ (leH (is:=[1,2,3,4,5]) O (wl (oe O) (wl (oe O) (wl (oe O) (wl (oe O) (wl (oe O) (C2)))))))⟩
  have hi:=mi c2 hC.hi;refine As (Bt (fun k=>false) Dn (BR Ay 3 [5] O ?_));obtain⟨x,hx⟩:=A6 (l:=a.vars) (i:=i) An;refine BG O (fun _=>A4 CY O O An (Cl hx) (O)) Ap (BR Ay 5 [5] O (BG O (fun _=>A4 CY O O An (Cl hx) (O)) Ap (BR Ay 5 [4] O ?_)));obtain⟨x1,hx1⟩:=A6 (l:=b.vars) (i:=k) An;refine BG O (fun _=>A4 CY O O An (Cl hx1) (O)) Ap (BR Ay 2 [] O (BG O (fun _=>FI O O) Ap (Bk Ay 2 [0,0] O (Au Ay 3 [] O (A3 (Ar Ay 3 [] O (Aw (Ax Ay 3 [0] O (Aq O (FI O O) (Ar Ay 1 [] O (A3 (Ax Ay 3 [2,0] O (Aq O (Bl CY F8 O O O O O) (FP O O (CR (i:=1) (rows':=List.map Dt [(CF.mk x.index (max (x.plus:Int) (x1.plus:Int)))]) CY CY F8 O O O O O O (GG _) (by have:=hC.ln;have:=hC.hi;have:=hC.hk;simp only[List.length_map,List.length_append,List.length_cons,List.length_nil];omega) (GP (f:=Dt) vs [(CF.mk x.index (max (x.plus:Int) (x1.plus:Int)))])) fun o1 cp1=>Ar Ay 2 [2,0] O ?_))))))))))))));refine⟨⟨i+1,k+1,vs++[(CF.mk x.index (max (x.plus:Int) (x1.plus:Int)))],max (m:Int) (max (x.plus:Int) (x1.plus:Int):Int),o1,cp1⟩,AW,(by first | exact hC.left hx c1 | exact hC.right hx c1 c2 | exact hC.both hx hx1 c1 c2),BS ⟨we O,we O,we O,we O,we O,we O,we O,Ap⟩ (leH (is:=[1,2,3,4,5]) O (wl (oe O) (wl (oe O) (wl (oe O) (wl (oe O) (wl (oe O) (C2)))))))⟩
 simp only[sd,se] at c;refine Be (As (As (BT [4,5] 135 (fun y=>y= .p (.bool ((decide (((vs.length:Nat):Int) > (0:Int)))&&(decide ((max (a.const:Int) (b.const:Int):Int)≤(m:Int)))))) ?_ ?_)))
 ·refine A3 (Ax Ay 2 [1] O (Aq O (Kj CY O (List.length_map _)) (Ax Ay 2 [] O (BO 130 O (fun g=>?_) (fun g=>?_)))))
  ·simp only[sd,se] at g;exact Ar Ay 5 [1] O (⟨O,O,AM,AI,⟨O,O,Ap⟩⟩)
  simp only[sd,se] at g;exact Ar Ay 5 [] O (⟨O,O,AM,AI,⟨O,O,Ap⟩⟩)
 rintro _ rfl;refine Av O (fun c1=>?_) (fun c1=>?_)
 ·simp only[sd,se] at c1;refine A3 (B4 (DJ (i:=0) (j:=1) (q:=1) [] O O O (D5 Ap)) (Ar Ay 2 [0,0] O (Au Ay 2 [0,1,0] O (A1 (⟨O,_,_,⟨_,_,O,(BA (i:=1) DU O O O),O⟩,(List.nil_sublist _),?_⟩)))))
  all_goals exact⟨by show (.agg [.p (I 0),.p (.lst (List.map Dt vs))]:AV)=_;rw[xJ (hC.fin An) An c1.2];rfl,rfl⟩
 simp only[sd,se] at c1;refine A2 (Aw (B4 (DJ (i:=0) (j:=1) (q:=1) [] O O O (D5 Ap)) (Ar Ay 2 [0,1,0] O (A1 (⟨O,_,_,⟨_,_,O,(BA (i:=1) DU O O O),O⟩,(List.nil_sublist _),?_⟩)))))
 all_goals exact⟨by show (.agg [.p (I (max (a.const:Int) (b.const:Int))),.p (.lst (List.map Dt vs))]:AV)=_;rw[w6 (hC.fin An) An];rfl,rfl⟩
theorem ll:∀(l:CS) (ps:List CS),(B9 l=true)→(ps.length<DY)→(∀p∈ps,B9 p=true)→ET Tryz.prog 169 [.agg ((By l).map .p),.p (.lst (List.map By ps)),.p (.bool false)] (.tup [.agg ((By ((GK ps ⟨l.const,[]⟩ l.vars).1)).map .p),.p (I ((GK ps ⟨l.const,[]⟩ l.vars).2))]):=by
 intro l ps h1 h2 h3;have hL:=JG.of h1;have hl:=hL.len;simp only[DY] at h2;refine A5 Tryz.func169 O qM (n:=69) O O (Aw (BF O (BN O) fun b3=>BF O (A7 EI O) fun b6=>Ar Ay 1 [] O (Aw (Ax Ay 2 [1] O (Aq O (BC O O (dh l.const) O) (BF O (A7 EI O) fun b8=>Ar Ay 1 [0,1] O (As (Au Ay 1 [] O (A9 (Bc (α:=Nat×CS) (fun(i,q)=>⟨69,mk [(1,.p (.lst (List.map By ps))),(2,.p (.bool false)),(3,.ptr b3 0),(6,.ptr b6 0),(8,.ptr b8 0),(9,.p (I (i:Int)))],[.box b8 ((By q).map .p),.box b6 [.p (I 0),.p (.nils)],.box b3 [.p (I l.const),.p (.lst (List.map Dt l.vars))]],[]⟩) (fun(i,q)=>l.vars.length - i) (fun(i,q)=>i≤l.vars.length∧(JG q∧GK ps q (l.vars.drop i)=GK ps ⟨l.const,[]⟩ l.vars)) ⟨0,(⟨l.const,[]⟩:CS)⟩ (⟨by omega,JG.num hL.c,rfl⟩) ?_ ?_))))))))))
 ·exact BS ⟨we O,we O,we O,we O,we O,we O,Ap⟩ (leH (is:=[0,1,2]) O (wl (oe O) (wl (oe O) (wl (oe O) (C2)))))
 rintro⟨i,q⟩ hC
 try simp only at hC
 obtain⟨hi,hC⟩:=hC;refine As (Aw (Ax Ay 3 [2] O (Aq O (BJ CY O (List.length_map _)) (Ar Ay 1 [] O (Av O (fun c=>?_) (fun c=>?_))))))
 ·simp only[sd,se] at c;refine A2 (As (A9 (Aw (Ax Ay 3 [2] O ?_))));obtain⟨x,hx⟩:=A6 (l:=l.vars) (i:=i) An;have hv:=Lh h1 hx;refine Aq O (A4 CY O O An (Cl hx) (O)) (Aq O (BM OL O (O)) (BF O (A7 F8 O) fun b10=>Ar Ay 1 [0,1] O (Au Ay 3 [0] O (As (Au Ay 1 [] O ?_)))));refine Av O (fun c1=>by cases c1) (fun c1=>?_);refine A2 (Aw (Aq O (BU (i:=0) OL O O O) (Aq O (Bl CY F8 O O O O O) (Aq O (CO Up EI O) (BF O (A7 EI O) fun b12=>Ar Ay 1 [0,0] O (As (As (BT [1,2,3,6,8,9,10,11,12] 49 (fun y=>y= .p (.bool (((decide ((x.index:Int)<(0:Int)))==false)&&(decide ((x.index:Int)<((ps.length:Nat):Int)))))) ?_ ?_))))))))
  ·refine A3 (Ax Ay 4 [1] O (Aq O (Y3 wW O O) (Br O (BO 44 O (fun g=>?_) (fun g=>?_)))))
   ·simp only[sd,se] at g;exact Ax Ay 2 [] O (BB O (BJ EV O (List.length_map _)) (Ar Ay 2 [] O (⟨O,O,AM,AI,⟨O,O,O,O,O,O,O,O,O,Ap⟩⟩)))
   simp only[sd,se] at g;exact Ar Ay 5 [] O (⟨O,O,AM,AI,⟨O,O,O,O,O,O,O,O,O,Ap⟩⟩)
  rintro _ rfl;refine Av O (fun c2=>?_) (fun c2=>?_)
  ·simp only[sd,se] at c2;refine As (Bt (fun k=>Nat.beq k 10) Dn (BR Ay 2 [] O ?_));obtain⟨x1,hx1⟩:=A6 (l:=ps) (i:=(x.index:Int).toNat) An;have hv:=Lh h1 hx;refine BG O (fun _=>A4 EV O O An (Fu hx1) (Dg _)) Ap (BR Ay 3 [1] O (BG O (fun _=>BC O O (m4 x1 x.plus (JG.of (h3 _ (List.mem_of_getElem? hx1))).nd) O) Ap (BR Ay 3 [] O (HC [] O O (A7 EI O) Aj fun b13=>⟨AB,Ap,?_⟩))));refine Bk Ay 2 [0,1] O (As (Au Ay 2 [] O (Av O (fun c3=>?_) (fun c3=>?_))))
   ·simp only[sd,se] at c3;refine Au Ay 4 [4,0] O (BH (BW (i:=4) O) (A1 (⟨O,_,_,⟨_,_,O,(BA (i:=4) DU O O O),⟨_,_,O,O,O⟩⟩,(List.nil_sublist _),?_⟩)))
    all_goals exact⟨by show (.tup [.agg [.p (I 0),.p (.lst [])],.p (I ((E4 x1 x.plus).2))]:AV)=_;rw[show GK ps ⟨l.const,[]⟩ l.vars=_ from hC.2.symm.trans (xB hx c2.1 c2.2 hx1 c3)];rfl,rfl⟩
   simp only[sd,se] at c3;refine A2 (A3 (Ar Ay 2 [0,1,1] O (A3 (Ax Ay 2 [3,1] O (Aq O (BC O O (bV q ((E4 x1 x.plus).1) hC.1.nd (by first | exact(JG.one hv).nd | exact(JG.plus (h3 _ (List.mem_of_getElem? hx1)) hv.1.1 hv.1.2 c3).nd)) O) (Ar Ay 1 [3,1] O (A3 (Ar Ay 3 [] O ?_))))))));refine⟨⟨i+1,I5 q ((E4 x1 x.plus).1)⟩,AW,⟨by omega,(by first | exact⟨hC.1.join (JG.plus (h3 _ (List.mem_of_getElem? hx1)) hv.1.1 hv.1.2 c3),(wj hx c2.1 c2.2 hx1 c3).symm.trans hC.2⟩ | exact⟨hC.1.join (JG.one hv),(uK hx An).symm.trans hC.2⟩ | exact⟨hC.1.join (JG.one hv),(uK hx (fun hh=>by have:=c2 hh.1;omega)).symm.trans hC.2⟩)⟩,BS ⟨we rfl,we rfl,we rfl,we rfl,we rfl,we rfl,trivial⟩ (leH (is:=[3,4,5]) rfl (wl (oe rfl) (wl (oe rfl) (wl (oe rfl) (C2)))))⟩
  simp only[sd,se] at c2;refine A2 (A3 (Ax Ay 2 [2,0] O (Aq O (BC O O (bV q (CS.mk 0 [(CF.mk x.index x.plus)]) hC.1.nd (by first | exact(JG.one hv).nd | exact(JG.plus (h3 _ (List.mem_of_getElem? hx1)) hv.1.1 hv.1.2 c3).nd)) O) (Ar Ay 1 [2,1] O (A3 (Ar Ay 3 [] O ?_))))));refine⟨⟨i+1,I5 q (CS.mk 0 [(CF.mk x.index x.plus)])⟩,AW,⟨by omega,(by first | exact⟨hC.1.join (JG.plus (h3 _ (List.mem_of_getElem? hx1)) hv.1.1 hv.1.2 c3),(wj hx c2.1 c2.2 hx1 c3).symm.trans hC.2⟩ | exact⟨hC.1.join (JG.one hv),(uK hx An).symm.trans hC.2⟩ | exact⟨hC.1.join (JG.one hv),(uK hx (fun hh=>by have:=c2 hh.1;omega)).symm.trans hC.2⟩)⟩,BS ⟨we rfl,we rfl,we rfl,we rfl,we rfl,we rfl,trivial⟩ (leH (is:=[2,3,4]) rfl (wl (oe rfl) (wl (oe rfl) (wl (oe rfl) (C2)))))⟩
 simp only[sd,se] at c;refine Be (Au Ay 3 [0,1,1] O (A1 (⟨O,_,_,⟨_,_,O,(BA (i:=1) DU O O Ae),⟨_,_,O,O,O⟩⟩,(List.nil_sublist _),?_⟩)))
 all_goals exact⟨by show (.tup [.agg ((By q).map .p),.p (I 0)]:AV)=_;rw[←hC.2,List.drop_eq_nil_of_le An];rfl,rfl⟩
theorem jT:∀(l:CS) (ps:List CS),(Nj l)→(ps.length<DY)→(∀p∈ps,Nj p)→ET Tryz.prog 139 [.agg ((By l).map .p),.p (.lst (List.map By ps))] (.tup [.agg ((By ((Cu l ps).1)).map .p),.p (I ((Cu l ps).2))]):=by
 intro l ps h1 h2 h3;have hl:=h1.vars;have hl2:=h2;simp only[DY] at hl hl2;refine A5 Tryz.func139 O uG (n:=26) O O (Aw (BF O (BN O) fun b2=>BF O (A7 EI O) fun b4=>Ar Ay 1 [] O (As (As (BT [1,2,4] 13 (fun y=>y= .p (.bool ((!(B9 l))||(!(ps.all B9))))) ?_ ?_)))))
 ·refine A3 (Aq O (BU (i:=1) DU O O Ae) (Aq O (BC O O (L7 l h1) O) (Ax Ay 2 [] O (BO 9 O (fun g=>?_) (fun g=>?_)))))
  ·simp only[sd,se] at g;exact Ar Ay 4 [] O (⟨O,O,AM,AI,⟨O,O,O,Ap⟩⟩)
  simp only[sd,se] at g;exact BB O (Ba O) (BB O (BC O O (X4 ps h2 h3) O) (Ar Ay 2 [] O (⟨O,O,AM,AI,⟨O,O,O,Ap⟩⟩)))
 rintro _ rfl;refine Av O (fun c=>?_) (fun c=>?_)
 ·simp only[sd,se] at c;refine Au Ay 3 [0,0] O (BH (BW (i:=0) O) (A1 (⟨O,_,_,⟨_,_,O,(BA (i:=0) DU O O O),⟨_,_,O,O,O⟩⟩,(List.nil_sublist _),?_⟩)))
  all_goals exact⟨by show (.tup [.agg [.p (I 0),.p (.lst [])],.p (I 3)]:AV)=_;rw[show Cu l ps=(FU,3) by rw[Cu,if_pos (by simpa using c)]];rfl,rfl⟩
 simp only[sd,se] at c;have hv:B9 l=true∧ps.all B9=true:=by simpa using c
 refine A2 (As (Aw (Aq O (BU (i:=1) DU O O Ae) (Aq O (BC O O (cZ l h1) O) (Br O (Aq O (BJ EV O (List.length_map _)) (Ar Ay 1 [] O (Av O (fun c1=>?_) (fun c1=>?_)))))))))
 ·simp only[sd,se] at c1;refine Au Ay 3 [0,0] O (BH (BW (i:=0) O) (A1 (⟨O,_,_,⟨_,_,O,(BA (i:=0) DU O O O),⟨_,_,O,O,O⟩⟩,(List.nil_sublist _),?_⟩)))
  all_goals exact⟨by show (.tup [.agg [.p (I 0),.p (.lst [])],.p (I 24)]:AV)=_;rw[show Cu l ps=(FU,24) by rw[Cu,if_neg (by simp[hv]),if_pos c1]];rfl,rfl⟩
 simp only[sd,se] at c1;refine A2 (Aw (Ax Ay 2 [1] O (Aq O (BC O O (ll l ps hv.1 h2 (List.all_eq_true.1 hv.2)) O) (Ar Ay 4 [0,1] O (A1 (⟨O,_,_,⟨_,_,O,(BA (i:=0) DU O O Ae),⟨_,_,O,O,O⟩⟩,(List.nil_sublist _),?_⟩))))))
 all_goals exact⟨by show (.tup [.agg ((By ((GK ps ⟨l.const,[]⟩ l.vars).1)).map .p),.p (I ((GK ps ⟨l.const,[]⟩ l.vars).2))]:AV)=_;rw[show Cu l ps=GK ps ⟨l.const,[]⟩ l.vars by rw[Cu,if_neg (by simp[hv]),if_neg An]],rfl⟩
theorem e8:∀(n:Nat) (t:Tm) (ps:List CS) (b:Nat) (er nd:Int),(size t≤n)→(Nd t)→(ps.length<DY)→(∀p∈ps,Nj p)→Bn Tryz.prog 109 [.ptr b 0,.agg ((BP t).map .p),.p (.lst (List.map By ps)),.p (.bool false)] [.box b [.p (I er),.p (I nd)]] (Gk (.agg ((BP ((Fx ps er t).1)).map .p)) [.box b [.p (I ((Fx ps er t).2)),.p (I nd)]]):=by
 intro n
 induction n with
 | zero=>intro t ps b er nd h;cases t;simp[size] at h
 | succ n ih =>
  intro t ps b er nd h1 h2 h3 h4;obtain⟨tk,ti,tn,tl,ts⟩:=t;simp only[size] at h1;have h2n:=h2;simp only[Nd,DY] at h2;refine A5 Tryz.func109 O sI (n:=76) O O (Aw (BF O (BN O) fun b5=>BF O (A7 Bx O) fun b8=>Bg O (Au Ay 1 [] O (As (Au Ay 1 [] O (A9 (BH (EN (t:=9) (sz:=2) O) ?_)))))));refine Bc (α:=Nat×List CS×Int×Option Nat×Nat) (fun(i,ys,e,o,cp)=>⟨76,mk [(0,.ptr b 0),(2,.p (.lst (List.map By ps))),(3,.p (.bool false)),(5,.ptr b5 0),(8,.ptr b8 0),(9,.vs o (List.map By ys).length cp),(10,.p (I (i:Int)))],[.vec o 2 (List.map By ys) cp,.box b8 [.p (I 0),.p (I 0),.p (.str ⟨#[]⟩),.p (.nils),.p (.nils)],.box b5 [.p (I tk),.p (I ti),.p (.str tn),.p (.lst (List.map By tl)),.p (.lst (BE ts))],.box b [.p (I e),.p (I nd)]],[]⟩) (fun(i,ys,e,o,cp)=>tl.length - i) (fun(i,ys,e,o,cp)=>i≤tl.length∧(ys.length=i∧(ys++(EO ps e (tl.drop i)).1,(EO ps e (tl.drop i)).2)=EO ps er tl)) ⟨0,[],er,none,0⟩ (⟨by omega,by simp⟩) ?_ ?_
  ·exact BS ⟨we O,we O,we O,we O,we O,we O,we O,Ap⟩ (leH (is:=[0,1,2,3]) O (wl (oe O) (wl (oe O) (wl (oe O) (wl (oe O) (C2))))))
  rintro⟨i,ys,e,o,cp⟩ hC
  try simp only at hC
  obtain⟨hi,hl,hC⟩:=hC;refine As (Aw (Ax Ay 3 [2] O (Aq O (BJ EV O (List.length_map _)) (Ar Ay 1 [] O (Av O (fun c=>?_) (fun c=>?_))))))
  ·simp only[sd,se] at c;refine A2 (As (A9 (Aw (Ax Ay 3 [2] O ?_))));obtain⟨x,hx⟩:=A6 (l:=tl) (i:=i) An;refine Aq O (A4 EV O O An (Fu hx) (Dg _)) (Ax Ay 2 [] O (Aq O (BC O O (jT x ps (h2.2.2.1 _ (List.mem_of_getElem? hx)) h3 h4) O) (Ax Ay 3 [] O (BF O (A7 EI O) fun b11=>Ar Ay 2 [0,1] O (As (Au Ay 1 [] O ?_))))));refine Av O (fun c1=>by cases c1) (fun c1=>?_);refine A2 (As (Au Ay 2 [] O (Av O (fun c2=>?_) (fun c2=>?_))))
   ·simp only[sd,se] at c2;refine A3 (Ax Ay 2 [] O (Aq O (CE [4] O (.inl ⟨O,O,O⟩) (Zx b e nd ((Cu x ps).2)) ⟨_,_,O,O,O⟩ Am O (.inl O)) (Bg O (A3 (Ax Ay 2 [0] O (Aq O (Bl EV EI O O O O O) (FP O O (CR (i:=1) (rows':=List.map By [(CS.mk (((Cu x ps).1).const) (((Cu x ps).1).vars))]) EV EV EI O O O O O O (Mo _) AD (GP (f:=By) ys [(CS.mk (((Cu x ps).1).const) (((Cu x ps).1).vars))])) fun o1 cp1=>Ar Ay 1 [] O (A3 (Ar Ay 3 [] O ?_)))))))));refine⟨⟨i+1,ys++[(Cu x ps).1],GB e ((Cu x ps).2),o1,cp1⟩,AW,⟨by omega,⟨by simp[hl],by rw[←hC,Cg hx];first | (simp[EO];done) | (simp[EO,ZF,c2];done)⟩⟩,BS ⟨we rfl,we rfl,we rfl,we rfl,we rfl,we rfl,we rfl,trivial⟩ (leH (is:=[1,2,3,4]) rfl (wl (oe rfl) (wl (oe rfl) (wl (oe rfl) (wl (oe rfl) (C2))))))⟩
   simp only[sd,se] at c2;refine A2 (A3 (Ax Ay 2 [0] O (Aq O (Bl EV EI O O O O O) (FP O O (CR (i:=1) (rows':=List.map By [(CS.mk (((Cu x ps).1).const) (((Cu x ps).1).vars))]) EV EV EI O O O O O O (Mo _) AD (GP (f:=By) ys [(CS.mk (((Cu x ps).1).const) (((Cu x ps).1).vars))])) fun o1 cp1=>Ar Ay 1 [] O (A3 (Ar Ay 3 [] O ?_))))));refine⟨⟨i+1,ys++[(Cu x ps).1],e,o1,cp1⟩,AW,⟨by omega,⟨by simp[hl],by rw[←hC,Cg hx];first | (simp[EO];done) | (simp[EO,ZF,c2];done)⟩⟩,BS ⟨we rfl,we rfl,we rfl,we rfl,we rfl,we rfl,we rfl,trivial⟩ (leH (is:=[1,2,3,4]) rfl (wl (oe rfl) (wl (oe rfl) (wl (oe rfl) (wl (oe rfl) (C2))))))⟩
  simp only[sd,se] at c;refine Be (Aw (Ax Ay 2 [] O (B4 (Ck (i:=0) [9,52] O (D5 ⟨O,O,Ap⟩)) (Ar Ay 1 [1,0] O (Au Ay 1 [] O (As (Au Ay 1 [] O (A9 (BH (EN (t:=13) (sz:=5) O) ?_)))))))));refine Bc (α:=Nat×List Tm×Int×Option Nat×Nat) (fun(i,zs,e2,o1,cp1)=>⟨76,mk [(0,.ptr b 0),(2,.p (.lst (List.map By ps))),(3,.p (.bool false)),(5,.ptr b5 0),(8,.ptr b8 0),(13,.vs o1 (BE zs).length cp1),(14,.p (I (i:Int)))],[.vec o1 5 (BE zs) cp1,.box b8 [.p (I 0),.p (I 0),.p (.str ⟨#[]⟩),.p (.nils),.p (.nils)],.box b5 [.p (I tk),.p (I ti),.p (.str tn),.p (.lst (List.map By ys)),.p (.lst (BE ts))],.box b [.p (I e2),.p (I nd)]],[]⟩) (fun(i,zs,e2,o1,cp1)=>ts.length - i) (fun(i,zs,e2,o1,cp1)=>i≤ts.length∧(zs.length=i∧(zs++(Fe ps e2 (ts.drop i)).1,(Fe ps e2 (ts.drop i)).2)=Fe ps e ts)) ⟨0,[],e,none,0⟩ (⟨by omega,by simp⟩) ?_ ?_
  ·exact BS ⟨we O,we O,we O,we O,we O,we O,we O,Ap⟩ (leH (is:=[0,1,2,3]) O (wl (oe O) (wl (oe O) (wl (oe O) (wl (oe O) (C2))))))
  rintro⟨i,zs,e2,o1,cp1⟩ hC1
  try simp only at hC1
  obtain⟨hi,hl2,hC2⟩:=hC1;refine As (Aw (Ax Ay 3 [2] O (Aq O (BJ Bf O (BQ _)) (Ar Ay 1 [] O (Av O (fun c1=>?_) (fun c1=>?_))))))
  ·simp only[sd,se] at c1;refine A2 (As (A9 (A3 (Ax Ay 5 [2] O ?_))));obtain⟨x,hx⟩:=A6 (l:=ts) (i:=i) An;refine Aq O (A4 Bf O O An (Bd hx) (BD _)) (Ax Ay 3 [] O (Aq O (CE [3] O (.inl ⟨O,O,O⟩) (ih x ps b e2 nd (by have:=Cb hx;omega) (DX h2.2.2.2.2.1 hx) h3 h4) ⟨_,_,O,O,O⟩ Am O (.inl O)) ?_));generalize hz:(Fx ps e2 x).1=z;obtain⟨zk,zi,zn,zl,zs1⟩:=z;refine Aq O (Bl Bf Bx O O O O O) (FP O O (CR (i:=0) (rows':=BE [(.mk zk zi zn zl zs1:Tm)]) Bf Bf Bx O O O O O O (Bv _) AD (Kc zs [(.mk zk zi zn zl zs1:Tm)])) fun o2 cp2=>Ar Ay 1 [] O (A3 (Ar Ay 3 [] O ?_)));refine⟨⟨i+1,zs++[(Fx ps e2 x).1],(Fx ps e2 x).2,o2,cp2⟩,AW,⟨by omega,⟨by simp[hl2],by rw[←hC2,Cg hx];simp[Fe]⟩⟩,BS ⟨we rfl,we rfl,we rfl,we rfl,we rfl,we (Mb (zs++[(.mk zk zi zn zl zs1:Tm)]) (by rw[hz])),we rfl,trivial⟩ (leH (is:=[0,1,2,3]) rfl (wl (KK (zs++[(.mk zk zi zn zl zs1:Tm)]) (by rw[hz])) (wl (oe rfl) (wl (oe rfl) (wl (oe rfl) (C2))))))⟩
  simp only[sd,se] at c1;refine Be (Aw (Ax Ay 2 [] O (B4 (Ck (i:=0) [13,73] O (D5 ⟨O,O,Ap⟩)) (Ar Ay 1 [1,0] O (Au Ay 2 [1,0,0] O (A1 (⟨O,_,_,⟨_,_,O,(BA (i:=0) BZ O O O),O⟩,(B8 (is:=[2]) O),?_⟩)))))));refine⟨by show (.agg [.p (I tk),.p (I ti),.p (.str tn),.p (.lst (List.map By ys)),.p (.lst (BE zs))]:AV)=_;rw[bC (jb hC An) (iV hC2 An)];rfl,?_⟩;show ([.box b [.p (I e2),.p (I nd)]]:List BK)=_;rw[bC (jb hC An) (iV hC2 An)]
theorem Ni:∀(t:Tm) (ps:List CS),(Nd t)→(ps.length<DY)→(∀p∈ps,Nj p)→ET Tryz.prog 79 [.agg ((BP t).map .p),.p (.lst (List.map By ps))] (.tup [.agg ((BP ((BY t ps).1)).map .p),.p (I ((BY t ps).2))]):=by
 intro t ps h1 h2 h3;refine A5 Tryz.func79 O ui (n:=25) O O (Aw (BF O (BN O) fun b2=>BF O (A7 Bx O) fun b4=>Ar Ay 1 [] O (Aw (Aq O (CO fQ jX O) (BF O (BN O) fun b9=>Ar Ay 1 [] O (Aw (Ax Ay 3 [2] O (Aq O (CE [0] O (.inl ⟨O,O,O⟩) (e8 _ t ps b9 0 0 (Nat.le_refl _) h1 h2 h3) ⟨_,_,O,O,O⟩ Am O (.inl O)) (BF O (A7 Bx O) fun b7=>Ar Ay 1 [0,1] O (As (Au Ay 5 [1] O (Av O (fun c=>?_) (fun c=>?_)))))))))))))
 ·simp only[sd,se] at c;refine As (Bt (fun k=>false) Dn (Bk Ay 7 [1,2,0] O (BH (BW (i:=2) O) (A1 (⟨O,_,_,⟨_,_,O,(BA (i:=2) BZ O O O),⟨_,_,O,O,O⟩⟩,(List.nil_sublist _),?_⟩)))))
  all_goals exact⟨by show (.tup [.agg [.p (I 0),.p (I 0),.p (.str ⟨#[]⟩),.p (.lst []),.p (.lst [])],.p (I ((Fx ps 0 t).2))]:AV)=_;rw[show BY t ps=(Bh,(Fx ps 0 t).2) by rw[BY,if_pos c]];rfl,rfl⟩
 simp only[sd,se] at c;refine A2 (Au Ay 3 [0,2,1] O (A1 (⟨O,_,_,⟨_,_,O,(BA (i:=2) BZ O O Ag),⟨_,_,O,O,O⟩⟩,(List.nil_sublist _),?_⟩)))
 all_goals exact⟨by show (.tup [.agg ((BP ((Fx ps 0 t).1)).map .p),.p (I 0)]:AV)=_;rw[show BY t ps=((Fx ps 0 t).1,0) by rw[BY,if_neg An]],rfl⟩
theorem _root_.Go.AS {α:Prop}(h:α:=by simp only[DY,List.length_drop];omega):α:=h
theorem jQ:∀(ds:List B5) (g:Tm) (a:List Tm) (m:Tm) (b:Nat) (c c2:Et) (q:Option Tm),(Ju ds)→((Cd ds g.name).1∈ds)→(okB g=true)→(okB m=true)→(CB (Cd ds g.name).1<a.length)→(a.length<549755813888)→(Es ds Db (Cd ds g.name).1 g a m c= .ok (q,c2))→Bn Tryz.prog 50 [.p (.lst (List.map Bi ds)),.agg ((BP g).map .p),.p (.lst (BE a)),.agg ((BP m).map .p),.ptr b 0] [.box b ((JA c).map .p)] (Gk (.tup [.agg ((BP (q.getD Bh)).map .p),.p (.bool q.isSome)]) [.box b ((JA c2).map .p)]):=by
 intro ds g a m b c c2 q h1 h2 h3 h4 h5 h6 h7;obtain⟨gk,gi,gn,gl,gs⟩:=g;simp only[Tm.name] at h2 h5 h7;have hdg:=h1.all _ h2;have hnr:=Ih hdg;have hgo:=B2.1 h3;have hgl:=hgo.nd;simp only[Nd,DY] at hgl;have hcl:=hdg.din.cl;have hrl:=hdg.din.rl;have hfx:=hdg.fx;have hir:=Fa hdg.din hdg.fx;refine A5 Tryz.func50 O vX (n:=93) O O (Aw (BF O (BN O) fun b6=>BF O (BN O) fun b8=>BF O (A7 Bx O) fun b10=>Ar Ay 1 [] O (Aw (Ax Ay 3 [2] O (Aq O (BC O O (TS ds gn h1.env) O) (Ax Ay 4 [] O (BF O (A7 Jw O) fun b12=>Ar Ay 3 [0,1] O (Aw (Ax Ay 2 [2] O (Aq O (BC O O (Ww ds m h1 h4) O) (Ax Ay 5 [] O (BF O (A7 Jw O) fun b15=>Ar Ay 4 [0,1] O (As (As (BT [2,4,6,10,12,16,17] 54 (fun y=>y= .p (.bool (((!((CL ds m).2.2.2))||(!((((CL ds m).1).name).toList==(((Cd ds gn).1).name).toList)))||(decide (((CL ds m).2.1:Int)≥(((((Cd ds gn).1).recs.rules).length:Nat):Int)))))) ?_ ?_)))))))))))))))
 ·refine A3 (Ax Ay 3 [] O (BO 40 O (fun g1=>?_) (fun g1=>?_)))
  ·simp only[sd,se] at g1;exact Ar Ay 14 [] O (⟨O,O,AM,AI,⟨O,O,O,O,O,O,O,Ap⟩⟩)
  simp only[sd,se] at g1;refine BB O (Az C5 O O) (BB O (A0 (i:=0) MI O O (DF _)) (BB O (Az C5 O O) (BB O (A0 (i:=1) MI O O (DF _)) (BB O (JJ O O) (Ax Ay 2 [] O (BO 47 O (fun g2=>?_) (fun g2=>?_)))))))
  ·simp only[sd,se] at g2;exact Ar Ay 7 [] O (⟨O,O,AM,AI,⟨O,O,O,O,O,O,O,Ap⟩⟩)
  simp only[sd,se] at g2;exact Ax Ay 3 [] O (BB O (A0 (i:=1) Gn O O (Cj _)) (BB O (BJ Bf O (BQ _)) (Ar Ay 2 [] O (⟨O,O,AM,AI,⟨O,O,O,O,O,O,O,Ap⟩⟩))))
 rintro _ rfl;refine Av O (fun c1=>?_) (fun c1=>?_)
 ·simp only[sd,se] at c1;have hq:=(Wp (S:=Db) (h:= .mk gk gi gn gl gs) (a:=a) (s:=c) c1).symm.trans h7;cases hq;refine Au Ay 3 [2,0] O (BH (BW (i:=2) O) (A1 (⟨O,_,_,⟨_,_,O,(BA (i:=2) BZ O O O),⟨_,_,O,O,O⟩⟩,(B8 (is:=[5]) O),?_⟩)))
  all_goals exact⟨rfl,rfl⟩
 simp only[sd,se] at c1;obtain⟨hg1,hg2,hg3⟩:=UD c1;have hg4:=c1.2;have hfl:=Io h1 hg1;refine A2 (As (Bt (fun k=>Nat.beq k 12) Dn (BR Ay 2 [] O (CV (j:=1) O O O (fun H i hi=>A0 (i:=i) Gn O hi (Cj _)) AB Ap (BG O (fun _=>Ba O) Ap ?_)))));obtain⟨x,hx⟩:=A6 (l:=((Cd ds gn).1).recs.rules) (i:=((CL ds m).2.1:Int).toNat) An;have hro:=B2.1 (hdg.ru _ (List.mem_of_getElem? hx));refine BG O (fun _=>A4 Bf O O An (Bd hx) (BD _)) Ap (BR Ay 3 [4] O (BG O (fun _=>BC O O (Ni x gl hro.nd hgl.2.1 hgl.2.2.1) O) Ap (BR Ay 3 [] O (HC [] O O (A7 Bx O) Aj fun b19=>⟨AB,Ap,?_⟩))));refine Bk Ay 2 [0,1] O (As (Au Ay 2 [] O (Av O (fun c3=>?_) (fun c3=>?_))))
 ·simp only[sd,se] at c3;have hq:=(Mf (S:=Db) (h:= .mk gk gi gn gl gs) (a:=a) (s:=c) hg1 hg2 hx c3).symm.trans h7;cases hq;refine Au Ay 3 [3,0] O (BH (BW (i:=3) O) (A1 (⟨O,_,_,⟨_,_,O,(BA (i:=3) BZ O O O),⟨_,_,O,O,O⟩⟩,(B8 (is:=[6]) O),?_⟩)))
  all_goals exact⟨rfl,rfl⟩
 simp only[sd,se] at c3;have hq:=(NG (S:=Db) (h:= .mk gk gi gn gl gs) (a:=a) (s:=c) hg1 hg2 hx c3).symm.trans h7;obtain⟨hpo,hpe⟩:=Lc (h:=(by rw[hq];simp));rw[hpe] at hq;cases hq;refine A2 (As (Bt (fun k=>Nat.beq k 11) Dn (BR Ay 3 [0] O (CV (j:=2) O O O (fun H i hi=>A0 (i:=i) DM O hi (Cr _)) AB Ap (BR Ay 2 [] O (CV (j:=2) O O O (fun H i hi=>A0 (i:=i) H4 O hi (CC _)) AB Ap (BG O (fun _=>BJ Hc O (List.length_map _)) Ap (BG O (fun _=>Ld O O An An) Ap (BG O (fun _=>CZ (lo:=0) (hi:=(((((Cd ds gn).1).fixed:Int)+(1:Int):Int)+(((((Cd ds gn).1).ctors).length:Nat):Int):Int).toNat) Bf O (CG (Bv _)) O ⟨_,pI An⟩ (Nat.zero_le _) AR (OE a ((((((Cd ds gn).1).fixed:Int)+(1:Int):Int)+(((((Cd ds gn).1).ctors).length:Nat):Int):Int).toNat))) Ap ?_)))))))));refine BG O (fun _=>BC O O (GM ((BY x gl).1) (a.take ((((((Cd ds gn).1).fixed:Int)+(1:Int):Int)+(((((Cd ds gn).1).ctors).length:Nat):Int):Int).toNat)) (by simp only[DY,List.length_take];omega)) O) Ap (HC [] O O (A7 Bx O) Aj fun b21=>⟨AB,Ap,?_⟩);refine Bk Ay 1 [0,1] O (As (Bt (fun k=>false) Dn (BR Ay 3 [0] O (BG O (fun _=>BC O O (GM (apply ((BY x gl).1) (a.take ((((((Cd ds gn).1).fixed:Int)+(1:Int):Int)+(((((Cd ds gn).1).ctors).length:Nat):Int):Int).toNat))) ((CL ds m).2.2.1) Ab) O) Ap (GX O O (CE [7] O (.inl ⟨O,O,O⟩) (IL b c (apply (apply ((BY x gl).1) (a.take ((((((Cd ds gn).1).fixed:Int)+(1:Int):Int)+(((((Cd ds gn).1).ctors).length:Nat):Int):Int).toNat))) ((CL ds m).2.2.1)) 0 (B2.1 hpo).nd) ⟨_,_,O,O,O⟩ Am O (.inl O)) AB Ap (BR Ay 2 [3] O (BG O (fun _=>BC O O (Rr ((Cd ds gn).1) hdg.din hdg.fx) O) Ap (BG O (fun _=>Ld O O An An) Ap ?_))))))));refine BG O (fun _=>CZ (lo:=((CB ((Cd ds gn).1):Int)+(1:Int):Int).toNat) Bf O (CG (Bv _)) ⟨_,pI An⟩ O AR (Nat.le_refl _) (J0 a (((CB ((Cd ds gn).1):Int)+(1:Int):Int).toNat))) Ap (BG O (fun _=>BC O O (GM (apply (apply ((BY x gl).1) (a.take ((((((Cd ds gn).1).fixed:Int)+(1:Int):Int)+(((((Cd ds gn).1).ctors).length:Nat):Int):Int).toNat))) ((CL ds m).2.2.1)) (a.drop (((CB ((Cd ds gn).1):Int)+(1:Int):Int).toNat)) AS) O) Ap (Bk Ay 2 [4,1] O (A1 (⟨O,_,_,⟨_,_,O,(BA (i:=4) BZ O O Ag),⟨_,_,O,O,O⟩⟩,(B8 (is:=[7]) O),?_⟩))))
 all_goals exact⟨rfl,rfl⟩
theorem _root_.Go.AY {α:Prop}(h:α:=by first | rfl | simp[BD]):α:=h
theorem dN:∀(n:Nat) (ds:List B5) (g:Tm) (a:List Tm) (b:Nat) (c c2:Et) (q:Option Tm),(vu ds n)→(Gi ds)→(okB g=true)→(∀x∈a,okB x=true)→(a.length<549755813888)→(ED ds Db (DK ds Db n) n g a c= .ok (q,c2))→Bn Tryz.prog 41 [.p (.lst (List.map Bi ds)),.agg ((BP g).map .p),.p (.lst (BE a)),.ptr b 0] [.box b ((JA c).map .p)] (Gk (.tup [.agg ((BP (q.getD Bh)).map .p),.p (.bool q.isSome)]) [.box b ((JA c2).map .p)]):=by
 intro n ds g a b c c2 q hW h2 h3 h4 h5 h6;obtain⟨gk,gi,gn,gl,gs⟩:=g;have hgo:=B2.1 h3;have hgl:=hgo.nd;simp only[Nd,DY] at hgl;refine A5 Tryz.func41 O vw (n:=143) O O (Aw (BF O (BN O) fun b5=>BF O (A7 Bx O) fun b8=>Ar Ay 1 [] O (Aw (Ax Ay 2 [1] O (Aq O (BC O O (Zu ds (.mk gk gi gn gl gs:Tm) h2.g.env) O) (Ax Ay 3 [] O (BF O (A7 IK O) fun b10=>Ar Ay 2 [0,1] O (As (Au Ay 2 [] O (Av O (fun c1=>?_) (fun c1=>?_)))))))))))
 ·simp only[sd,se] at c1;have hq:=(JT (E:=ds) (S:=Db) (W:=DK ds Db n) (n:=n) (h:=(.mk gk gi gn gl gs:Tm)) (a:=a) (s:=c) c1).symm.trans h6;cases hq;refine Au Ay 3 [1,0] O (BH (BW (i:=1) O) (A1 (⟨O,_,_,⟨_,_,O,(BA (i:=1) BZ O O O),⟨_,_,O,O,O⟩⟩,(B8 (is:=[3]) O),?_⟩)))
  all_goals exact⟨rfl,rfl⟩
 simp only[sd,se] at c1;have hu:=c1;obtain⟨ix,dd,e1,e2,e3,e4⟩:=JS hu;have hde:=e2.decl;have hdg:=h2.g.all _ e3;have hel:=h2.g.env.len;have hil:=(List.getElem?_eq_some_iff.1 e1).1;have hfx:=hdg.fx;have hnr:=Ih hdg;have hcl:=hdg.din.cl;have hfl:=hdg.din.fl;refine A2 (Aw (Ax Ay 2 [] O (Aq O (A0 (i:=0) DM O O (DW _)) (Aq O (A4 IF O O An (D8 e4) (Cp _)) (Aq O (BM FZ O (Cp _)) (BF O (A7 Jw O) fun b12=>Ar Ay 1 [0,1] O (As (Aw (Aq O (Az GO O O) (Aq O (A0 (i:=1) DM O O (DV _)) (Bg O (A9 (Au Ay 2 [] O (Av O (fun c3=>?_) (fun c3=>?_)))))))))))))))
 ·simp only[sd,se] at c3;have hk1:=c3;refine Aw (Aq O (Az C5 O O) (Aq O (Bw (i:=0) BZ O O (FA _) (BD _)) (Ax Ay 2 [3] O (Aq O (BC O O (Ni dd.value gl (B2.1 hdg.vl).nd hgl.2.1 hgl.2.2.1) O) (Ax Ay 3 [] O (BF O (A7 Bx O) fun b13=>Ar Ay 2 [0,1] O (As (Au Ay 2 [] O (Av O (fun c4=>?_) (fun c4=>?_))))))))))
  ·simp only[sd,se] at c4;have hq:=((JI (E:=ds) (S:=Db) (W:=DK ds Db n) (n:=n) (h:=(.mk gk gi gn gl gs:Tm)) (a:=a) (s:=c) (d:=dd) hu e4 hk1).trans (JO (h:=(.mk gk gi gn gl gs:Tm)) c4)).symm.trans h6;cases hq;refine Au Ay 3 [3,0] O (BH (BW (i:=3) O) (A1 (⟨O,_,_,⟨_,_,O,(BA (i:=3) BZ O O O),⟨_,_,O,O,O⟩⟩,(B8 (is:=[5]) O),?_⟩)))
   all_goals exact⟨rfl,rfl⟩
  simp only[sd,se] at c4;have hq:=((JI (E:=ds) (S:=Db) (W:=DK ds Db n) (n:=n) (h:=(.mk gk gi gn gl gs:Tm)) (a:=a) (s:=c) (d:=dd) hu e4 hk1).trans (Jr (h:=(.mk gk gi gn gl gs:Tm)) c4)).symm.trans h6;obtain⟨hpo,hpe⟩:=Lc (h:=(by rw[hq];simp));rw[hpe] at hq;cases hq;refine A2 (Aw (Ax Ay 2 [0] O (Aq O (CE [5] O (.inl ⟨O,O,O⟩) (IL b c ((BY dd.value gl).1) 0 (B2.1 hpo).nd) ⟨_,_,O,O,O⟩ Am O (.inl O)) (Br O (Aq O (BC O O (GM ((BY dd.value gl).1) a Ab) O) (Ar Ay 2 [3,1] O (A1 (⟨O,_,_,⟨_,_,O,(BA (i:=3) BZ O O Ag),⟨_,_,O,O,O⟩⟩,(B8 (is:=[5]) O),?_⟩))))))))
  all_goals exact⟨rfl,rfl⟩
 simp only[sd,se] at c3;have hk1:=c3;refine Au Ay 2 [] O (Av O (fun c4=>?_) (fun c4=>?_))
 ·simp only[sd,se] at c4;have hk5:=c4;refine As (Aw (Br O (Aq O (BJ Bf O (BQ _)) (Aq O (BU (i:=0) FZ O O Ad) (Aq O (BC O O (Rr dd hdg.din hdg.fx) O) (Ar Ay 1 [] O (Av O (fun c5=>?_) (fun c5=>?_))))))))
  ·simp only[sd,se] at c5;have hq:=((Hx (E:=ds) (S:=Db) (W:=DK ds Db n) (n:=n) (h:=(.mk gk gi gn gl gs:Tm)) (a:=a) (s:=c) (d:=dd) hu e4 hk5).trans (Oo An)).symm.trans h6;cases hq;refine Au Ay 3 [2,0] O (BH (BW (i:=2) O) (A1 (⟨O,_,_,⟨_,_,O,(BA (i:=2) BZ O O O),⟨_,_,O,O,O⟩⟩,(B8 (is:=[4]) O),?_⟩)))
   all_goals exact⟨rfl,rfl⟩
  simp only[sd,se] at c5;refine A2 (As (Bt (fun k=>false) Dn (BR Ay 6 [3,0] O (BG O (fun _=>BC O O (Rr dd hdg.din hdg.fx) O) Ap ?_))));obtain⟨x,hx⟩:=A6 (l:=a) (i:=(CB dd:Int).toNat) An;obtain⟨⟨r,d2⟩,hr1,hr2,hr3⟩:=H7 (((Hx (E:=ds) (S:=Db) (W:=DK ds Db n) (n:=n) (h:=(.mk gk gi gn gl gs:Tm)) (a:=a) (s:=c) (d:=dd) hu e4 hk5).trans (RY An hx)).symm.trans h6);have hfd:=oT (mz hu) hk5 e4;refine BG O (fun _=>A4 Bf O O An (Bd hx) (BD _)) Ap (BR Ay 2 [] O (GX O O (CE [4] O (.inl ⟨O,O,O⟩) (hW b x c d2 r hr1) ⟨_,_,O,O,O⟩ Am O (.inl O)) AB Ap (BG O (fun _=>Ba O) Ap (GX O O (CE [4] O (.inl ⟨O,O,O⟩) (jQ ds (.mk gk gi gn gl gs:Tm) a r b d2 c2 q h2.g (hfd▸e3) h3 hr2 (by rw[hfd];omega) h5 (by rw[hfd];exact hr3)) ⟨_,_,O,O,O⟩ Am O (.inl O)) AB Ap (Bk Ay 4 [2,1] O (A1 (⟨O,_,_,⟨_,_,O,(BA (i:=2) BZ O O Ag),⟨_,_,O,O,O⟩⟩,(B8 (is:=[4]) O),?_⟩)))))))
  all_goals exact⟨rfl,rfl⟩
 simp only[sd,se] at c4;have hk5:=c4;refine Au Ay 2 [] O (Av O (fun c5=>?_) (fun c5=>?_))
 ·simp only[sd,se] at c5;have hk6:=c5;obtain⟨fk,ff,f1,f2⟩:=e2.func hk6;have hfi:=(List.getElem?_eq_some_iff.1 f1).1;have hff:dd.funs[(Bb ds (Tm.mk gk gi gn gl gs).name).1.item.toNat]?=some ff:=by rw[f2];simpa using f1
  have hfm:=List.mem_of_getElem? f1;have hfa:=hdg.fu ff hfm;refine Aw (Aq O (Az C5 O O) (Aq O (A0 (i:=0) Hq O O (CJ _)) (Aq O (Az GO O O) (Aq O (A0 (i:=1) DM O O (Fm _)) (Aq O (A4 HV O O An (EZ hff) (DZ _)) (Aq O (BM jN O (DZ _)) (BF O (A7 dR O) fun b15=>Ar Ay 1 [0,1] O (As (Aw (Br O (Aq O (BJ Bf O (BQ _)) (Aq O (Az HE O O) (Aq O (A0 (i:=0) DM O O (CU _)) (Ar Ay 1 [] O (Av O (fun c6=>?_) (fun c6=>?_))))))))))))))))
  ·simp only[sd,se] at c6;have hq:=((HM (E:=ds) (S:=Db) (W:=DK ds Db n) (n:=n) (h:=(.mk gk gi gn gl gs:Tm)) (a:=a) (s:=c) (d:=dd) (f:=ff) hu e4 hk6 hff).trans (Ki An)).symm.trans h6;cases hq;refine Au Ay 3 [3,0] O (BH (BW (i:=3) O) (A1 (⟨O,_,_,⟨_,_,O,(BA (i:=3) BZ O O O),⟨_,_,O,O,O⟩⟩,(B8 (is:=[5]) O),?_⟩)))
   all_goals exact⟨rfl,rfl⟩
  simp only[sd,se] at c6;have hl0:¬(a.length:Int)<ff.arity:=by omega
  refine A2 (As ?_);obtain⟨⟨lq,d2⟩,hl1,hl2⟩:=G6 (((HM (E:=ds) (S:=Db) (W:=DK ds Db n) (n:=n) (h:=(.mk gk gi gn gl gs:Tm)) (a:=a) (s:=c) (d:=dd) (f:=ff) hu e4 hk6 hff).trans (Kq hl0)).symm.trans h6);have hlo:=S4 h2.g _ _ _ _ _ _ _ (QZ h2 e3 hfm h4) hl1;refine IU [.box b15 ((FH ff).map .p),.box b12 ((Bi dd).map .p),.box b10 ((DS ((Bb ds (.mk gk gi gn gl gs:Tm).name).1)).map .p),.box b8 [.p (I 0),.p (I 0),.p (.str ⟨#[]⟩),.p (.nils),.p (.nils)],.box b5 [.p (I gk),.p (I gi),.p (.str gn),.p (.lst (List.map By gl)),.p (.lst (BE gs))],.box b ((JA d2).map .p)] 8 [.val (.p (.lst (List.map Bi ds))),.val (.ptr b15 (0+7)),.val (.agg ((Cz ff.tree).map .p)),.val (.p (.lst (BE a))),.val (.ptr b15 (0+6)),.val (.p (I ff.arity)),.val (.p (.lst (BE (a.take ((ff.arity:Int).toNat))))),.val (.ptr b 0),.val (.tup [.agg ((BP (KY lq)).map .p),.p (.lst (BE (N9 lq))),.p (.bool lq.1.isSome),.agg ((BP lq.2).map .p)]),.val (.tup [.agg ((BP (KY lq)).map .p),.p (.lst (BE (N9 lq))),.p (.bool lq.1.isSome),.agg ((BP lq.2).map .p)]),.val (.agg ((BP (KY lq)).map .p)),.val (.p (.lst (BE (N9 lq)))),.val (.p (.bool lq.1.isSome)),.val (.agg ((BP lq.2).map .p)),.new [.p (I 0),.p (I 0),.p (.str ⟨#[]⟩),.p (.nils),.p (.nils)],.new [.p (I 0),.p (I 0),.p (.str ⟨#[]⟩),.p (.nils),.p (.nils)]] [.p .any,.p (.lst (BE (N9 lq))),.p (.bool lq.1.isSome),.p .any] [11,12,13] Dn O Aj Aj Aj O ?_;refine Bj O O (fun Bs=>Ba O) (Bj O O (fun Bs=>Az HE O O) (F7 O O O (fun Bs=>Bw (i:=Bs.length+0) Jl O (CX O) (D1 _) (Co _)) (fun _ Bs=>Bw (i:=Bs.length+0) Jl O (CX O) (D1 _) (Co _)) (Bj O O (fun Bs=>Ba O) (Bj O O (fun Bs=>Az HE O O) (F7 O O O (fun Bs=>A0 (i:=Bs.length+0) DM O (CX O) (CU _)) (fun _ Bs=>A0 (i:=Bs.length+0) DM O (CX O) (CU _)) (Bj O O (fun Bs=>CZ (lo:=0) (hi:=(ff.arity:Int).toNat) Bf O (CG (Bv _)) O ⟨_,pI An⟩ (Nat.zero_le _) AR (OE a ((ff.arity:Int).toNat))) (Bj O O (fun Bs=>Ba O) ?_)))))))
  refine KS O O (fun Bs=>G2 [5] O (.inl ⟨O,O,O⟩) (il n n ds ff.tree (a.take ((ff.arity:Int).toNat)) b c d2 lq hW h2.g (QZ h2 e3 hfm h4) hl1) ⟨_,_,O,O,O⟩ Am O (aw (we O) (aw (we O) (aw (we O) (aw (we O) (E0)))))) (Bj O O (fun Bs=>Ba O) (Bj O O (fun Bs=>DN O O) (Bj O O (fun Bs=>DN O O) (Bj O O (fun Bs=>DN O O) (Bj O O (fun Bs=>DN O O) (QB O O (fun Bs=>A7 Bx O) fun b16=>QB O O (fun Bs=>A7 Bx O) fun b19=>Hk ?_))))));refine Dq [.box b16 ((BP (KY lq)).map .p),.box b19 [.p (I 0),.p (I 0),.p (.str ⟨#[]⟩),.p (.nils),.p (.nils)],.box b15 ((FH ff).map .p),.box b12 ((Bi dd).map .p),.box b10 ((DS ((Bb ds (.mk gk gi gn gl gs:Tm).name).1)).map .p),.box b8 [.p (I 0),.p (I 0),.p (.str ⟨#[]⟩),.p (.nils),.p (.nils)],.box b5 [.p (I gk),.p (I gi),.p (.str gn),.p (.lst (List.map By gl)),.p (.lst (BE gs))],.box b ((JA d2).map .p)] O (Cc (i:=0) BZ O O O Ag AY (FX _)) ?_;refine Dq [.box b16 ((BP (KY lq)).map .p),.box b19 [.p (I 0),.p (I 0),.p (.str ⟨#[]⟩),.p (.nils),.p (.nils)],.box b15 ((FH ff).map .p),.box b12 ((Bi dd).map .p),.box b10 ((DS ((Bb ds (.mk gk gi gn gl gs:Tm).name).1)).map .p),.box b8 [.p (I 0),.p (I 0),.p (.str ⟨#[]⟩),.p (.nils),.p (.nils)],.box b5 [.p (I gk),.p (I gi),.p (.str gn),.p (.lst (List.map By gl)),.p (.lst (BE gs))],.box b ((JA d2).map .p)] O (EC O) ?_;refine Dq [.box b16 ((BP (KY lq)).map .p),.box b19 [.p (I 0),.p (I 0),.p (.str ⟨#[]⟩),.p (.nils),.p (.nils)],.box b15 ((FH ff).map .p),.box b12 ((Bi dd).map .p),.box b10 ((DS ((Bb ds (.mk gk gi gn gl gs:Tm).name).1)).map .p),.box b8 [.p (I 0),.p (I 0),.p (.str ⟨#[]⟩),.p (.nils),.p (.nils)],.box b5 [.p (I gk),.p (I gi),.p (.str gn),.p (.lst (List.map By gl)),.p (.lst (BE gs))],.box b ((JA d2).map .p)] O (EC O) ?_;refine Dq [.box b16 ((BP (KY lq)).map .p),.box b19 ((BP lq.2).map .p),.box b15 ((FH ff).map .p),.box b12 ((Bi dd).map .p),.box b10 ((DS ((Bb ds (.mk gk gi gn gl gs:Tm).name).1)).map .p),.box b8 [.p (I 0),.p (I 0),.p (.str ⟨#[]⟩),.p (.nils),.p (.nils)],.box b5 [.p (I gk),.p (I gi),.p (.str gn),.p (.lst (List.map By gl)),.p (.lst (BE gs))],.box b ((JA d2).map .p)] O (Cc (i:=1) BZ O O O Ag AY (FX _)) (Jb (As (As (BT [2,3,5,8,15,16,17] 114 (fun y=>y= .p (.bool ((!lq.1.isSome)||d2.over))) ?_ ?_))))
  ·refine A3 (Ax Ay 3 [] O (BO 109 O (fun g1=>?_) (fun g1=>?_)))
   ·simp only[sd,se] at g1;exact Ar Ay 5 [] O (⟨O,O,AM,AI,⟨O,O,O,O,O,O,O,Ap⟩⟩)
   simp only[sd,se] at g1;exact Ar Ay 5 [7] O (⟨O,O,AM,AI,⟨O,O,O,O,O,O,O,Ap⟩⟩)
  rintro _ rfl;refine Av O (fun c7=>?_) (fun c7=>?_)
  ·simp only[sd,se] at c7;rw[Jo (by simpa [Db] using c7)] at hl2;cases hl2;refine Au Ay 3 [5,0] O (BH (BW (i:=5) O) (A1 (⟨O,_,_,⟨_,_,O,(BA (i:=5) BZ O O O),⟨_,_,O,O,O⟩⟩,(B8 (is:=[7]) O),?_⟩)))
   all_goals exact⟨rfl,rfl⟩
  simp only[sd,se] at c7;rw[LL (by simpa using c7.1) (by simpa [Db] using c7.2)] at hl2;refine A2 (Aw (Ax Ay 3 [0,6] O (Aq O (BC O O (Ni (KY lq) gl (B2.1 hlo.1).nd hgl.2.1 hgl.2.2.1) O) (Ax Ay 3 [] O (BF O (A7 Bx O) fun b20=>Ar Ay 2 [0,1] O (As (Au Ay 2 [] O (Av O (fun c8=>?_) (fun c8=>?_)))))))))
  ·simp only[sd,se] at c8;rw[Ig (h:=(.mk gk gi gn gl gs:Tm)) c8] at hl2;cases hl2;refine Au Ay 3 [6,0] O (BH (BW (i:=6) O) (A1 (⟨O,_,_,⟨_,_,O,(BA (i:=6) BZ O O O),⟨_,_,O,O,O⟩⟩,(B8 (is:=[8]) O),?_⟩)))
   all_goals exact⟨rfl,rfl⟩
  simp only[sd,se] at c8;obtain⟨hb1,hb2,hb3,hb4⟩:=RF (by rw[hl2];simp) c8;rw[hb4] at hl2;obtain⟨hpo,hpe⟩:=Lc (h:=(by rw[hl2];simp));rw[hpe] at hl2;cases hl2;refine A2 (As (Bt (fun k=>false) Dn (BR Ay 2 [0] O (BG O (fun _=>BC O O (VP (N9 lq) Ab) O) Ap ?_))));refine BG O (fun _=>BC O O (Rx ((BY (KY lq) gl).1) ((N9 lq).reverse) (by have:=FC (t:=(BY (KY lq) gl).1) hb1;omega) (B2.1 hb1).nd (FD (fW hb2)).1 (by rw[VD];omega)) O) Ap ?_;refine Bk Ay 5 [0,1] O (As (Bt (fun k=>false) Dn (BR Ay 3 [0] O (GX O O (CE [8] O (.inl ⟨O,O,O⟩) (IL b (Et.mk d2.steps d2.nodes d2.forms d2.limit d2.over) ((CD ((BY (KY lq) gl).1) ((N9 lq).reverse) 0).1) ((CD ((BY (KY lq) gl).1) ((N9 lq).reverse) 0).2) (B2.1 hpo).nd) ⟨_,_,O,O,O⟩ Am O (.inl O)) AB Ap (BR Ay 2 [] O (CV (j:=3) O O O (fun H i hi=>A0 (i:=i) DM O hi (CU _)) AB Ap (BG O (fun _=>CZ (lo:=(ff.arity:Int).toNat) Bf O (CG (Bv _)) ⟨_,pI An⟩ O AR (Nat.le_refl _) (J0 a ((ff.arity:Int).toNat))) Ap (BG O (fun _=>BC O O (GM ((CD ((BY (KY lq) gl).1) ((N9 lq).reverse) 0).1) (a.drop ((ff.arity:Int).toNat)) AS) O) Ap (Bk Ay 2 [6,1] O (A1 ?_))))))))));refine⟨O,_,_,⟨_,_,O,(BA (i:=6) BZ O O Ag),⟨_,_,O,O,O⟩⟩,(B8 (is:=[8]) O),?_⟩
  all_goals exact⟨rfl,rfl⟩
 simp only[sd,se] at c5;have hq:=(Ip (E:=ds) (S:=Db) (W:=DK ds Db n) (n:=n) (h:=(.mk gk gi gn gl gs:Tm)) (a:=a) (s:=c) hu hk1 hk5 c5).symm.trans h6;cases hq;refine A2 (Au Ay 3 [2,0] O (BH (BW (i:=2) O) (A1 (⟨O,_,_,⟨_,_,O,(BA (i:=2) BZ O O O),⟨_,_,O,O,O⟩⟩,(B8 (is:=[4]) O),?_⟩))))
 all_goals exact⟨rfl,rfl⟩
end Go.Proofs.YtboammbpdaoojaaGreat
namespace Go.Eu
open Go.Abs
theorem Jp {k i:Int}{n:ByteArray}{l:List CS}{ks:List Tm}(h:okB (.mk k i n l ks)=true):(k=5→ks.length=2)∧(k=11→ks.length=3)∧(k=9∨k=10→ks.length=1)∧(k=8→ks.length=3):=by
 have hw:=(B2.1 h).wt;simp only[Wt] at hw;have h1:=hw.1;unfold arity at h1;refine⟨fun e=>?_,fun e=>?_,fun e=>?_,fun e=>?_⟩
 ·rw[if_pos An] at h1;omega
 ·rw[if_neg An,if_pos An] at h1;omega
 ·rw[if_neg An,if_neg An,if_pos An] at h1;omega
 rw[if_neg An,if_pos An] at h1;omega
theorem ZS {l:List Tm}{v:Tm}(h:l[1]?=some v):(l.take 2).drop 1=[v]:=by
 cases l with
 | nil=>simp at h
 | cons a l =>
  cases l with
  | nil=>simp at h
  | cons b l=>simp at h;subst h;rfl
section
variable {E:List B5}{σ:Type}{S:Sys σ}{n:Nat}{t:Tm}{s:σ}
theorem Ru {q:Option Tm}(h:q.isSome=false):YZ E S n t (q,s)= .ok (t,s):=by
 cases q with
 | none=>rfl
 | some x=>cases h
theorem TO {q:Option Tm}(h:q.isSome=true):YZ E S n t (q,s)=DK E S n s (q.getD Bh):=by
 cases q with
 | none=>cases h
 | some x=>rfl
end
structure qG (w:Tm):Prop where
 ok:okB w=true
 nd:Nd w
 sz:size w<549755813888
 len:(A8 w).2.length<549755813888
 head:okB (A8 w).1=true
 args:∀x∈(A8 w).2,okB x=true
 asz:BX (A8 w).2+(A8 w).2.length<size w
theorem YI {w:Tm}(h:okB w=true):qG w:=by
 have h1:=FC h;have h2:=Fk w;have h3:=size_pos (A8 w).1;exact⟨h,(B2.1 h).nd,h1,by omega,(FO h).1,(FO h).2,by omega⟩
theorem eX {l:List Tm}(h:∀x∈l,okB x=true):NI (l.take 1):=(FD fun v hv=>h v (List.mem_of_mem_take hv)).1
end Go.Eu
namespace Go.Proofs.YtboammbpdaoojaaGreat
open Go.Abs Go.Eu
set_option maxHeartbeats 4000000 in
theorem gS:∀(ds:List B5) (hE:Gi ds) (n:Nat),vu ds n:=by
 intro ds hE n
 induction n using Nat.strongRecOn with
 | ind n ih =>
  intro b t c c2 r h1;refine A5 Tryz.func14 O vn (n:=118) O O (Aw (BF O (BN O) fun b4=>BF O (A7 Bx O) fun b6=>Bg O (As (A9 (Bc (α:=Nat×Tm×Et) (fun(m,w,d)=>⟨118,mk [(0,.p (.lst (List.map Bi ds))),(2,.ptr b 0),(4,.ptr b4 0),(6,.ptr b6 0)],[.box b6 [.p (I 0),.p (I 0),.p (.str ⟨#[]⟩),.p (.nils),.p (.nils)],.box b4 ((BP w).map .p),.box b ((JA d).map .p)],[]⟩) (fun(m,w,d)=>m) (fun(m,w,d)=>DK ds Db m d w= .ok (r,c2)∧m≤n) ⟨n,t,c⟩ (⟨h1,Nat.le_refl _⟩) ?_ ?_)))))
  ·exact BS ⟨we O,we O,we O,we O,Ap⟩ (leH (is:=[0,1,2]) O (wl (oe O) (wl (oe O) (wl (oe O) (C2)))))
  rintro⟨m,w,d⟩ hC
  try simp only at hC
  obtain⟨hC,hmn⟩:=hC;obtain⟨k,rfl⟩:=bW hC Ao;have hwo:=VO hC Ao;have hsp:=YI hwo;have hsl:=hsp.len;have hss:=hsp.sz;have hsa:=hsp.asz;refine As (Au Ay 5 [2] O (Av O (fun c1=>?_) (fun c1=>?_)))
  ·simp only[sd,se] at c1;have hov:Db.over d=false:=by simpa [Db] using c1
   refine A2 (A9 (Aw (Aq O (BU (i:=1) BZ O O Ag) (Aq O (BC O O (Ri _ w (Nat.le_refl _) Ab) O) (Ax Ay 3 [] O (BF O (A7 Bx O) fun b7=>Ar Ay 2 [0,1] O (Aw (Aq O (Az HJ O O) ?_))))))));generalize hz:(A8 w).1=z;obtain⟨zk,zi,zn,zl,zs⟩:=z;have hzo:okB (.mk zk zi zn zl zs)=true:=hz▸hsp.head;have hzl:=Jp hzo;have hzn:=(B2.1 hzo).nd;refine Ar Ay 1 [0] O (A9 (Au Ay 2 [] O (Av O (fun c3=>?_) (fun c3=>?_))))
   ·simp only[sd,se] at c3;have hk:=(congrArg Tm.kind hz).trans c3;refine As (Aw (Br O (Aq O (BJ Bf O (BQ _)) (Ar Ay 1 [] O (Av O (fun c4=>?_) (fun c4=>?_))))))
    ·simp only[sd,se] at c4;have hq:=(My hwo hov rfl hk An).symm.trans hC;cases hq;refine Au Ay 2 [2,1,1] O (A1 (⟨O,_,_,⟨_,_,O,(BA (i:=1) BZ O O Ag),O⟩,(B8 (is:=[3]) O),?_⟩))
     all_goals exact⟨rfl,rfl⟩
    simp only[sd,se] at c4;refine A2 (As (Bt (fun k=>Nat.beq k 10) Dn (BR Ay 2 [0] O ?_)));obtain⟨x,hx⟩:=A6 (l:=zs) (i:=1) An;have hxo:=ER hzo (i:=1) hx;have hq:=(QC hwo hov rfl hk An (by rw[hz];exact hx)).symm.trans hC;obtain⟨hpo,hpe⟩:=Lc (h:=(by rw[hq];simp));rw[hpe] at hq;refine BG O (fun _=>A4 Bf O O An (Bd hx) (BD _)) Ap (BR Ay 2 [] O (BG O (fun _=>CZ (lo:=0) (hi:=1) Bf O (CG (Bv _)) O ⟨_,O⟩ (Nat.zero_le _) AR (OE ((A8 w).2) 1)) Ap (BG O (fun _=>BC O O (Rx x (((A8 w).2).take 1) (by have:=FC hxo;omega) (B2.1 hxo).nd (eX hsp.args) (by have:=DC (A8 w).2 1;omega)) O) Ap (BR Ay 3 [] O (HC [] O O (A7 Bx O) Aj fun b9=>⟨AB,Ap,?_⟩)))));refine Bk Ay 2 [0,1] O (Bt (fun k=>false) Dn (BR Ay 3 [0] O (GX O O (CE [4] O (.inl ⟨O,O,O⟩) (IL b (Et.mk d.steps d.nodes d.forms d.limit d.over) ((CD x (((A8 w).2).take 1) 0).1) ((CD x (((A8 w).2).take 1) 0).2) (B2.1 hpo).nd) ⟨_,_,O,O,O⟩ Am O (.inl O)) AB Ap (BG O (fun _=>Ba O) Ap (BG O (fun _=>CZ (lo:=1) Bf O (CG (Bv _)) ⟨_,O⟩ O AR (Nat.le_refl _) (J0 ((A8 w).2) 1)) Ap (BG O (fun _=>BC O O (GM ((CD x (((A8 w).2).take 1) 0).1) (((A8 w).2).drop 1) AS) O) Ap (Bk Ay 1 [3,1] O ?_)))))));refine⟨⟨k,(apply ((CD x (((A8 w).2).take 1) 0).1) (((A8 w).2).drop 1)),((Et.mk d.steps d.nodes d.forms d.limit d.over).result ((CD x (((A8 w).2).take 1) 0).1) ((CD x (((A8 w).2).take 1) 0).2))⟩,AW,⟨hq,by omega⟩,BS ⟨we rfl,we rfl,we rfl,we rfl,trivial⟩ (leH (is:=[2,3,4]) rfl (wl (oe rfl) (wl (oe rfl) (wl (oe rfl) (C2)))))⟩
   simp only[sd,se] at c3;refine Au Ay 2 [] O (Av O (fun c4=>?_) (fun c4=>?_))
   ·simp only[sd,se] at c4;have hk:=(congrArg Tm.kind hz).trans c4;refine As (Bt (fun k=>Nat.beq k 11) Dn (BR Ay 2 [0] O ?_));obtain⟨x,hx⟩:=A6 (l:=zs) (i:=2) An;have hxo:=ER hzo (i:=2) hx;obtain⟨v,hv⟩:=A6 (l:=zs) (i:=1) An;have hvo:=ER hzo (i:=1) hv;have hq:=(PQ hwo hov rfl hk (by rw[hz];exact hv) (by rw[hz];exact hx)).symm.trans hC;rw[←ZS hv] at hq;obtain⟨hpo,hpe⟩:=Lc (h:=(by rw[hq];simp));rw[hpe] at hq;refine BG O (fun _=>A4 Bf O O An (Bd hx) (BD _)) Ap (BR Ay 3 [0] O (BG O (fun _=>CZ (lo:=1) (hi:=2) Bf O (CG (Bv _)) ⟨_,O⟩ ⟨_,O⟩ (by first | decide | (simp only[BQ];omega)) (by first | decide | (simp only[BQ];omega)) (ox zs 1 2)) Ap (BG O (fun _=>BC O O (Rx x ((zs.take 2).drop 1) (by have:=FC hxo;omega) (B2.1 hxo).nd (by rw[ZS hv];exact⟨(B2.1 hvo).nd,trivial⟩) (by rw[ZS hv];have:=FC hvo;simp only[BX];omega)) O) Ap (BR Ay 3 [] O (HC [] O O (A7 Bx O) Aj fun b11=>⟨AB,Ap,?_⟩)))));refine Bk Ay 2 [0,1] O (A3 (Ax Ay 3 [0] O (Aq O (CE [4] O (.inl ⟨O,O,O⟩) (IL b (Et.mk d.steps d.nodes d.forms d.limit d.over) ((CD x ((zs.take 2).drop 1) 0).1) ((CD x ((zs.take 2).drop 1) 0).2) (B2.1 hpo).nd) ⟨_,_,O,O,O⟩ Am O (.inl O)) (Br O (Aq O (BC O O (GM ((CD x ((zs.take 2).drop 1) 0).1) ((A8 w).2) AS) O) (Ar Ay 1 [3,1] O ?_))))));refine⟨⟨k,(apply ((CD x ((zs.take 2).drop 1) 0).1) ((A8 w).2)),((Et.mk d.steps d.nodes d.forms d.limit d.over).result ((CD x ((zs.take 2).drop 1) 0).1) ((CD x ((zs.take 2).drop 1) 0).2))⟩,AW,⟨hq,by omega⟩,BS ⟨we rfl,we rfl,we rfl,we rfl,trivial⟩ (leH (is:=[2,3,4]) rfl (wl (oe rfl) (wl (oe rfl) (wl (oe rfl) (C2)))))⟩
   simp only[sd,se] at c4;refine As (Au Ay 2 [] O (BT [0,2,4,6,7,8,27] 71 (fun y=>y= .p (.bool (decide (zk=9∨zk=10)))) ?_ ?_))
   ·refine Av O (fun c5=>?_) (fun c5=>?_)
    ·simp only[sd,se] at c5;exact A2 (⟨O,O,(List.Sublist.refl _),(by refine pB (Bool.eq_iff_iff.2 ?_);simp only[beq_iff_eq,decide_eq_true_eq];omega),⟨O,O,O,O,O,O,O,Ap⟩⟩)
    simp only[sd,se] at c5;exact A3 (Ar Ay 2 [] O (⟨O,O,(List.Sublist.refl _),(by refine pB (Bool.eq_iff_iff.2 ?_);simp only[beq_iff_eq,decide_eq_true_eq];omega),⟨O,O,O,O,O,O,O,Ap⟩⟩))
   rintro _ rfl;refine Av O (fun c5=>?_) (fun c5=>?_)
   ·simp only[sd,se] at c5;have hk9:zk=9∨zk=10:=by simpa using c5
    refine Aw (Ax Ay 3 [0] O ?_);obtain⟨x,hx⟩:=A6 (l:=zs) (i:=0) An;obtain⟨⟨pr,d2⟩,hr1,hr2,hr3⟩:=H7 ((Ml hwo hov rfl (by rw[hz];exact hk9) (by rw[hz];exact hx)).symm.trans hC);refine Aq O (A4 Bf O O An (Bd hx) (BD _)) (Ax Ay 2 [] O (Aq O (CE [3] O (.inl ⟨O,O,O⟩) (ih k An b x (Et.mk d.steps d.nodes d.forms d.limit d.over) d2 pr hr1) ⟨_,_,O,O,O⟩ Am O (.inl O)) (BF O (A7 Bx O) fun b13=>Ar Ay 1 [0,1] O (As (Aw (Aq O (Az HJ O O) ?_))))));obtain⟨prk,pri,prn,prl,prs⟩:=pr;have hprl:=Jp hr2;refine Ar Ay 2 [0] O (Av O (fun c6=>?_) (fun c6=>?_))
    ·simp only[sd,se] at c6;rw[KV (r:=(Tm.mk prk pri prn prl prs,d2)) c6] at hr3;cases hr3;refine Aw (Ax Ay 3 [1,0] O (Aq O (Bl Bf Bx O O O O O) (Ax Ay 2 [] O (Aq O (Gz O O (GM (.mk zk 0 ⟨#[]⟩ [] [(.mk prk pri prn prl prs:Tm)]:Tm) ((A8 w).2) AS) (aw (E1 O) (aw (we O) (E0)))) (Ar Ay 1 [2,1] O (A1 (⟨O,_,_,⟨_,_,O,(BA (i:=2) BZ O O Ag),O⟩,(B8 (is:=[4]) O),?_⟩)))))))
     all_goals exact⟨by show (.agg ((BP (apply (.mk zk 0 ⟨#[]⟩ [] [(.mk prk pri prn prl prs:Tm)]:Tm) ((A8 w).2))).map .p):AV)=_;rw[hz];rfl,rfl⟩
    simp only[sd,se] at c6;have hp8:=c6;refine A2 (A3 (Ax Ay 7 [0,1] O ?_));obtain⟨x1,hx1⟩:=A6 (l:=prs) (i:=(((1:Int)+(zk:Int):Int) - (9:Int):Int).toNat) An;have hxo:=ER hr2 (i:=(1+zk - 9).toNat) hx1;have hq:=(L5 (r:=(Tm.mk prk pri prn prl prs,d2)) (h:=(A8 w).1) hp8 (by rw[hz];exact hx1)).symm.trans hr3;obtain⟨hpo,hpe⟩:=Lc (h:=(by rw[hq];simp));rw[hpe] at hq;refine Aq O (A4 Bf O O An (Bd hx1) (BD _)) (Aq O (BM BZ O (BD _)) (Aq O (CE [4] O (.inl ⟨O,O,O⟩) (IL b d2 x1 0 (B2.1 hpo).nd) ⟨_,_,O,O,O⟩ Am O (.inl O)) (Br O (Aq O (BC O O (GM x1 ((A8 w).2) AS) O) (Ar Ay 1 [3,1] O ?_)))));refine⟨⟨k,(apply x1 ((A8 w).2)),(d2.result x1 0)⟩,AW,⟨hq,by omega⟩,BS ⟨we rfl,we rfl,we rfl,we rfl,trivial⟩ (leH (is:=[2,3,4]) rfl (wl (oe rfl) (wl (oe rfl) (wl (oe rfl) (C2)))))⟩
   simp only[sd,se] at c5;refine Au Ay 2 [] O (Av O (fun c6=>?_) (fun c6=>?_))
   ·simp only[sd,se] at c6;have hk:=(congrArg Tm.kind hz).trans c6;refine Aw (Ax Ay 4 [0] O ?_);obtain⟨⟨q,d2⟩,hc1,hc2⟩:=G6 ((Jq hwo hov rfl hk).symm.trans hC);refine Aq O (CE [3] O (.inl ⟨O,O,O⟩) (dN k ds (.mk zk zi zn zl zs:Tm) ((A8 w).2) b (Et.mk d.steps d.nodes d.forms d.limit d.over) d2 q (ih k An) hE hzo hsp.args An (by rw[←hz];exact hc1)) ⟨_,_,O,O,O⟩ Am O (.inl O)) (Ax Ay 3 [] O (BF O (A7 Bx O) fun b14=>Ar Ay 2 [0,1] O (As (Au Ay 2 [] O (Av O (fun c7=>?_) (fun c7=>?_))))))
    ·simp only[sd,se] at c7;rw[Ru (by simpa using c7)] at hc2;cases hc2;refine Au Ay 2 [3,2,1] O (A1 (⟨O,_,_,⟨_,_,O,(BA (i:=2) BZ O O Ag),O⟩,(B8 (is:=[4]) O),?_⟩))
     all_goals exact⟨rfl,rfl⟩
    simp only[sd,se] at c7;rw[TO (by simpa using c7)] at hc2;have hq:=hc2;refine A2 (A3 (Ar Ay 2 [0,3,1] O ?_));refine⟨⟨k,(q.getD Bh),d2⟩,AW,⟨hq,by omega⟩,BS ⟨we rfl,we rfl,we rfl,we rfl,trivial⟩ (leH (is:=[2,3,4]) rfl (wl (oe rfl) (wl (oe rfl) (wl (oe rfl) (C2)))))⟩
   simp only[sd,se] at c6;have hq:=(Tw hwo hov rfl (by rw[hz];assumption) (by rw[hz];assumption) (by rw[hz];show ¬zk=9;omega) (by rw[hz];show ¬zk=10;omega) (by rw[hz];assumption)).symm.trans hC;cases hq;refine Au Ay 2 [2,1,1] O (A1 (⟨O,_,_,⟨_,_,O,(BA (i:=1) BZ O O Ag),O⟩,(B8 (is:=[3]) O),?_⟩))
   all_goals exact⟨rfl,rfl⟩
  simp only[sd,se] at c1;have hq:=(bO (S:=Db) (E:=ds) (n:=k) hwo (by simpa [Db] using c1)).symm.trans hC;cases hq;refine Be (Au Ay 2 [1,0,1] O (A1 (⟨O,_,_,⟨_,_,O,(BA (i:=0) BZ O O Ag),O⟩,(B8 (is:=[2]) O),?_⟩)))
  all_goals exact⟨rfl,rfl⟩
end Go.Proofs.YtboammbpdaoojaaGreat
namespace Go.Eu
open Go.Abs
section
variable {E:List B5}{σ:Type}{S:Sys σ}{R:σ→σ→Prop}
structure gp (S:Sys σ) (R:σ→σ→Prop):Prop where
 rf:∀s,R s s
 tr:∀{a b c},R a b→R b c→R a c
 rs:∀{s t e s'},S.res s t e=some s'→R s s'
variable (h:gp S R)
include h
theorem La {α:Type}{s:σ}{x:Tm×Int}{k:Tm→σ→Out (α×σ)}{q:α×σ}(hk:∀t s' q,k t s'= .ok q→R s' q.2) (hq:S.put s x k= .ok q):R s q.2:=by
 unfold Sys.put at hq;split at hq
 ·cases hs:S.res s x.1 x.2 with
  | none=>rw[hs] at hq;cases hq
  | some s'=>rw[hs] at hq;exact h.tr (h.rs hs) (hk _ _ _ hq)
 cases hq
theorem Oc {W:σ→Tm→Out (Tm×σ)}(hW:∀s t q,W s t= .ok q→R s q.2):∀(k:Nat) (t:ES) (vs:List Tm) (l:Tm) (s:σ) (q:(Option (Tm×List Tm)×Tm)×σ),Dp E S W k t vs l s= .ok q→R s q.2
 | 0,t,vs,l,s,q,hq=>by rw[Dp] at hq;cases hq
 | k+1,t,vs,l,s,q,hq=>by
  by_cases hk:t.kind=1
  ·by_cases hb:t.var<0∨t.var≥(vs.length:Int)∨S.over s=true
   ·rw[JP hk hb] at hq;cases hq;exact h.rf _
   have hlt:t.var.toNat<vs.length:=by omega
   rw[LW hk hb (List.getElem?_eq_getElem hlt)] at hq;obtain⟨r,h1,h2,h3⟩:=H7 hq;have hr:=hW _ _ _ h1;cases hc:C8 E r.1 with
   | none=>rw[GW hc] at h3;cases h3;exact hr
   | some p =>
    obtain⟨d,j,f⟩:=p;cases hbr:Ca (Df d j).name t.branches with
    | none=>rw[Ia hc hbr] at h3;cases h3;exact hr
    | some t'=>rw[Ic hc hbr] at h3;exact h.tr hr (Oc hW k t' _ _ _ _ h3)
  rw[Hz hk] at hq;cases hq;exact h.rf _
theorem Yb {d:B5}{g m:Tm}{a:List Tm}{s:σ}{q:Option Tm×σ}(hq:Es E S d g a m s= .ok q):R s q.2:=by
 unfold Es at hq;split at hq
 ·cases hq;exact h.rf _
 split at hq
 ·cases hq;exact h.rf _
 split at hq
 ·cases hq;exact h.rf _
 exact La h (fun t s' q e=>by cases e;exact h.rf _) hq
theorem fe {g b:Tm}{vs rest:List Tm}{s:σ}{q:Option Tm×σ}(hq:GD S g b vs rest s= .ok q):R s q.2:=by
 unfold GD at hq;split at hq
 ·cases hq;exact h.rf _
 split at hq
 ·cases hq
 exact La h (fun t s' q e=>by cases e;exact h.rf _) hq
theorem eJ {d:B5}{g:Tm}{a:List Tm}{s:σ}{q:Option Tm×σ}(hq:Eg S d g a s= .ok q):R s q.2:=by
 unfold Eg at hq;split at hq
 ·cases hq;exact h.rf _
 exact La h (fun t s' q e=>by cases e;exact h.rf _) hq
theorem UH {W:σ→Tm→Out (Tm×σ)}(hW:∀s t q,W s t= .ok q→R s q.2) {n:Nat}{g:Tm}{a:List Tm}{s:σ}{q:Option Tm×σ}(hq:ED E S W n g a s= .ok q):R s q.2:=by
 unfold ED at hq;split at hq
 ·cases hq;exact h.rf _
 split at hq
 ·exact eJ h hq
 split at hq
 ·unfold Qx at hq;split at hq
  ·cases hq;exact h.rf _
  obtain⟨r,h1,h2,h3⟩:=H7 hq;exact h.tr (hW _ _ _ h1) (Yb h h3)
 split at hq
 ·unfold I0 at hq;split at hq
  ·cases hq;exact h.rf _
  obtain⟨r,h1,h2⟩:=G6 hq;have hr:=Oc h hW _ _ _ _ _ _ h1;split at h2
  ·cases h2;exact hr
  split at h2
  ·cases h2;exact hr
  exact h.tr hr (fe h h2)
 cases hq;exact h.rf _
theorem Rm:∀(n:Nat) (s:σ) (t:Tm) (q:Tm×σ),DK E S n s t= .ok q→R s q.2
 | 0,s,t,q,hq=>by rw[DK] at hq;cases hq
 | n+1,s,t,q,hq=>by
  have ih:=Rm n;rw[DK] at hq;split at hq
  ·cases hq
  split at hq
  ·cases hq;exact h.rf _
  split at hq
  ·cases hq
  split at hq
  ·split at hq
   ·cases hq;exact h.rf _
   unfold PJ at hq;split at hq
   ·cases hq
   exact La h (fun t s' q e=>ih _ _ _ e) hq
  split at hq
  ·unfold Vq at hq;split at hq
   ·exact La h (fun t s' q e=>ih _ _ _ e) hq
   cases hq
  split at hq
  ·split at hq
   ·cases hq
   obtain⟨r,h1,h2,h3⟩:=H7 hq;have hr:=ih _ _ _ h1;split at h3
   ·cases h3;exact hr
   unfold NP at h3;split at h3
   ·cases h3
   exact h.tr hr (La h (fun t s' q e=>ih _ _ _ e) h3)
  split at hq
  ·obtain⟨r,h1,h2⟩:=G6 hq;have hr:=UH h ih h1;split at h2
   ·cases h2;exact hr
   exact h.tr hr (ih _ _ _ h2)
  cases hq;exact h.rf _
end
theorem KT:gp Bp (fun a b=>b≤a∧(0≤a→0≤b)):=by
 refine⟨fun s=>⟨Int.le_refl _,fun h=>h⟩,fun h1 h2=>⟨by omega,fun h=>h2.2 (h1.2 h)⟩,fun h=>?_⟩;simp only[Bp] at h;split at h
 ·cases h
 cases h;omega
theorem RO {E:List B5}{n:Nat}{s s':Int}{t r:Tm}(h:Gl s) (hq:DK E Bp n s t= .ok (r,s')):Gl s':=by
 have h1:=Rm KT n s t _ hq;have h2:=h.1;have h3:=h.2;exact⟨h1.2 h2,by have:=h1.1;simp only at this;omega⟩
def MV (n:Int):Except Int Unit:=if n - 1<0 then .error 0 else .ok ()
def Ja (n:Int) (x:Tm×Int):Except Int (Tm×Int):=if n - 1<0∨x.2≠0 then .error 0 else .ok (x.1,n - 1)
theorem tA {n:Int}(h:0≤n - 1):MV n= .ok ():=by rw[MV,if_neg An]
theorem qd {n:Int}(h:n - 1<0):MV n= .error 0:=by rw[MV,if_pos h]
end Go.Eu
namespace Go.Eu
theorem YE {t:Tm}{vs:List Tm}(ht:okB t=true) (hv:∀v∈vs,okB v=true) (hl:vs.length<549755813888):Gj t vs 0=CD t vs 0 :=
 eI (cK hv hl) (B2.1 ht).wt (B2.1 ht).vp (by have:=FC ht;omega)
theorem ig {n e:Int}{x:Tm×Int}(h:MV n= .error e):Ja n x= .error e:=by
 unfold MV at h;split at h
 ·rename_i hn;cases h;rw[Ja,if_pos (.inl hn)]
 cases h
theorem s7 {n:Int}{t:Tm}{vs:List Tm}(hn:0≤n) (ht:okB t=true) (hv:∀v∈vs,okB v=true) (hl:vs.length<549755813888) (he:(Gj t vs 0).2≠0):Ja n (CD t vs 0)= .error 0:=by
 rw[YE ht hv hl] at he;rw[Ja,if_pos (.inr he)]
theorem rz {n:Int}{t:Tm}{vs:List Tm}{u:Unit}(hn:MV n= .ok u) (ht:okB t=true) (hv:∀v∈vs,okB v=true) (hl:vs.length<549755813888) (he:(Gj t vs 0).2=0):Ja n (CD t vs 0)= .ok ((Gj t vs 0).1,n - 1):=by
 rw[YE ht hv hl] at he ⊢;unfold MV at hn;split at hn
 ·cases hn
 rw[Ja,if_neg An]
end Go.Eu
namespace Go.Eu
open Go.Abs
section
variable {α:Type}{n n2 e:Int}{x:Tm×Int}{z t:Tm}{k:Tm→Int→Out α}{u:Unit}
theorem LU (hs:Bp.put n x k≠ .stuck) (h:Ja n x= .ok (z,n2)):Bp.put n x k=k z n2:=by
 rw[(Vy hs).2];unfold Ja at h;split at h
 ·cases h
 rename_i hn;cases h;rw[if_neg hn]
theorem LQ (hs:Bp.put n x k≠ .stuck) (h:Ja n x= .error e):(Bp.put n x k).ex= .error e:=by
 rw[(Vy hs).2];unfold Ja at h;split at h
 ·rename_i hn;cases h;rw[if_pos hn];rfl
 cases h
theorem uA (h:MV n= .ok u):Ja n (t,0)= .ok (t,n - 1):=by
 unfold MV at h;split at h
 ·cases h
 rw[Ja,if_neg An]
theorem jE (hs:Bp.put n (t,0) k≠ .stuck) (h:MV n= .ok u):Bp.put n (t,0) k=k t (n - 1):=LU hs (uA h)
theorem gB (hs:Bp.put n (t,0) k≠ .stuck) (h:MV n= .error e):(Bp.put n (t,0) k).ex= .error e:=LQ hs (ig h)
end
theorem Rb {n n2:Int}{x:Tm×Int}{z:Tm}(h:Gl n) (hp:Ja n x= .ok (z,n2)):Gl n2∧z=x.1:=by
 have h1:=h.1;have h2:=h.2;unfold Ja at hp;split at hp
 ·cases hp
 cases hp;exact⟨⟨by omega,by omega⟩,rfl⟩
section
variable {E:List B5}{g m:Tm}{a:List Tm}{s e:Int}{d:B5}{u:Unit}
theorem jR (hs:Eg Bp d g a s≠ .stuck) (he:(BY d.value g.levels).2=0) (hn:MV s= .ok u):Eg Bp d g a s= .ok (some (apply (BY d.value g.levels).1 a),s - 1):=by
 rw[Jr he] at hs ⊢;exact jE hs hn
theorem ft (hs:Eg Bp d g a s≠ .stuck) (he:(BY d.value g.levels).2=0) (hn:MV s= .error e):(Eg Bp d g a s).ex= .error e:=by
 rw[Jr he] at hs ⊢;exact gB hs hn
theorem lS {c:B5}{j:Int}{f:List Tm}{r:Tm}(hs:Es E Bp d g a m s≠ .stuck) (hc:C8 E m=some (c,j,f)) (hn:¬(c.name≠d.name∨j≥(d.recs.rules.length:Int))) (hr:d.recs.rules[j.toNat]?=some r) (he:(BY r g.levels).2=0) (hk:MV s= .ok u) :
  Es E Bp d g a m s= .ok (some (apply (apply (apply (BY r g.levels).1 (a.take (d.fixed+1+d.ctors.length).toNat)) f) (a.drop (CB d+1).toNat)),s - 1):=by
 rw[NG hc hn hr he] at hs ⊢;exact jE hs hk
theorem m8 {c:B5}{j:Int}{f:List Tm}{r:Tm}(hs:Es E Bp d g a m s≠ .stuck) (hc:C8 E m=some (c,j,f)) (hn:¬(c.name≠d.name∨j≥(d.recs.rules.length:Int))) (hr:d.recs.rules[j.toNat]?=some r) (he:(BY r g.levels).2=0) (hk:MV s= .error e) :
  (Es E Bp d g a m s).ex= .error e:=by
 rw[NG hc hn hr he] at hs ⊢;exact gB hs hk
end
theorem VH {E:List B5}{n k:Nat}{s s':Int}{t:ES}{vs:List Tm}{l:Tm}{q:Option (Tm×List Tm)×Tm}(h:Gl s) (hq:Dp E Bp (DK E Bp n) k t vs l s= .ok (q,s')):Gl s':=by
 have h1:=Oc KT (fun s t q=>Rm KT n s t q) k t vs l s _ hq;have h2:=h.1;have h3:=h.2;exact⟨h1.2 h2,by have:=h1.1;simp only at this;omega⟩
theorem Y9 {E:List B5}{n:Nat}{s s':Int}{g:Tm}{a:List Tm}{q:Option Tm}(h:Gl s) (hq:ED E Bp (DK E Bp n) n g a s= .ok (q,s')):Gl s':=by
 have h1:=UH KT (fun s t q=>Rm KT n s t q) hq;have h2:=h.1;have h3:=h.2;exact⟨h1.2 h2,by have:=h1.1;simp only at this;omega⟩
end Go.Eu
namespace Go.Eu
theorem nA {l:List Tm}{x:Tm}(h:l[0]?=some x):l.take 1=[x]:=by
 cases l with
 | nil=>simp at h
 | cons a l=>simp at h;subst h;rfl
theorem ok_one {x:Tm}(h:okB x=true):∀v∈[x],okB v=true:=fun v hv=>by rw[List.mem_singleton.1 hv];exact h
theorem J4 {x:Tm}:[x].length<549755813888:=by simp
end Go.Eu
namespace Go.Proofs.YtboammbpdaoojaaGreat
open Go.Abs Go.Eu
theorem aI:∀(fid:Nat) (caps:List AV),Bn Tryz.prog 159 [.fn (.func fid) [] caps] [] (fp (fun b=> .agg [.fn (.func 176) [] [.ptr b 0]]) [.fn (.func fid) [] caps]):=by
 intro fid caps;refine A5 Tryz.func159 O qu (n:=5) O O (Aw (BF O (BN O) fun b1=>BF O (A7 sS O) fun b2=>Bg O (Au Ay 3 [0,0] O (A1 (⟨O,_,_,⟨_,_,O,(BA (i:=0) qq O O O),O⟩,(B8 (is:=[1]) O),?_⟩)))));exact⟨_,O,O⟩
theorem YD:∀(rep:Tm→Int→Except Int Tm) (fid:Nat) (caps:List AV) (T:List BK) (hr:∀(t:Tm) (d:Int),Nd t→Vp t→t.kind=0→0≤d→d<DY→Bn Tryz.prog fid ([TV t,.p (I d)]++caps) T (Lm (fun(r:Tm)=>TV r) (fun e=> .p (.iface 223 (I e))) (fun r H'=>H'=T) (rep t d))) (bR:Nat) (s:Unit) (t:Tm) (d:Int),Nd t→Vp t→0≤d→d<DY→Bn Tryz.prog 176 [TV t,.p (I d),.ptr bR 0] (.box bR [.fn (.func fid) [] caps]::T) (Lm (fun(r:(Tm×Bool)×Unit)=> .tup [TV r.1.1,.p (.bool r.1.2)]) (fun e=> .p (.iface 223 (I e))) (fun r H'=>H'= .box bR [.fn (.func fid) [] caps]::T) (KX rep s t d)):=by
 intro rep fid caps T hr bR s t d h1 h2 h3 h4;refine A5 Tryz.func176 O tH (n:=16) O O (Aw (BF O (BN O) fun b3=>BF O (A7 Bx O) fun b5=>Ar Ay 1 [] O (As (Aw (Aq O (Az HJ O O) ?_)))));obtain⟨tk,ti,tn,tl,ts⟩:=t;refine Ar Ay 2 [1] O (Av O (fun c=>?_) (fun c=>?_))
 ·simp only[sd,se] at c;refine Aw (Ax Ay 3 [2,1] O (nO [_,_,_] O O O (.inr O) (hr (.mk tk ti tn tl ts) d h1 h2 c h3 h4) (DQ _) ?_ ?_))
  rotate_left
  ·intro e _ he;exact⟨O,_,List.nil_sublist _,⟨_,PC c he,O⟩⟩
  rintro z _ hz rfl;refine Ar Ay 2 [0,1] O (A1 (⟨O,_,_,⟨_,_,O,(BA (i:=0) BZ O O Ag),⟨_,_,O,O,O⟩⟩,(G3 [2] [_,_,_] O),?_⟩));exact⟨⟨⟨z,true⟩,()⟩,M3 c hz,O,O⟩
 simp only[sd,se] at c;refine A2 (Aw (Aq O (BU (i:=1) BZ O O O) (Aq O (BC O O (TG (.mk tk ti tn tl ts:Tm) h1) O) (Ar Ay 2 [0,1] O (A1 (⟨O,_,_,⟨_,_,O,(BA (i:=0) BZ O O Ag),⟨_,_,O,O,O⟩⟩,(G3 [2] [_,_,_] O),?_⟩))))));exact⟨⟨⟨.mk tk ti tn tl [],false⟩,()⟩,O0 c,O,O⟩
theorem eV:∀(t:Tm) (d:Int) (bf bb:Nat) (fr b:Int),(Nd t)→(Vp t)→(t.kind=0)→(0≤d)→(d<DY)→(-4611686018427387904≤b∧b≤4611686018427387904)→(-2305843009213693952≤fr∧fr≤2305843009213693952)→Bn Tryz.prog 177 [.agg ((BP t).map .p),.p (I d),.ptr bf 0,.ptr bb 0] [.box bf [.p (I fr)],.box bb [.p (I b)]] (Lm (fun(r:Tm)=>TV r) (fun e=> .p (.iface 223 (I e))) (fun r H'=>H'=[.box bf [.p (I fr)],.box bb [.p (I b)]]) (cH b fr t d)):=by
 intro t d bf bb fr b h1 h2 h3 h4 h5 h6 h7;obtain⟨tk,ti,tn,tl,ts⟩:=t;have hi:=h2.1 h3;simp only[DY] at h5;refine A5 Tryz.func177 O sB (n:=32) O O (Aw (BF O (BN O) fun b4=>BF O (A7 Bx O) fun b6=>Bg O (Au Ay 5 [1] O (As (Au Ay 3 [2] O (Av O (fun c=>?_) (fun c=>?_)))))))
 ·simp only[sd,se] at c;refine Aw (Aq O (BU (i:=1) BZ O O O) (Aq O (BC O O (TG (.mk tk ti tn tl ts:Tm) h1) O) (Ar Ay 1 [0,1] O (A1 (⟨O,_,_,⟨_,_,O,(BA (i:=0) BZ O O Ag),O⟩,(B8 (is:=[2,3]) O),?_⟩)))));exact⟨(.mk tk ti tn tl []),aJ c,O,O⟩
 simp only[sd,se] at c;refine A2 (As (As (BT [3,4,6] 25 (fun y=>y= .p (.bool ((decide ((b:Int)<(0:Int)))&&(decide (((ti:Int) - (d:Int):Int)<((fr:Int) - (b:Int):Int)))))) ?_ ?_)))
 ·refine A3 (Ax Ay 3 [3] O (BO 19 O (fun g=>?_) (fun g=>?_)))
  ·simp only[sd,se] at g;exact Ar Ay 6 [2,3] O (⟨O,O,AM,AI,⟨O,O,O,Ap⟩⟩)
  simp only[sd,se] at g;exact Ar Ay 6 [] O (⟨O,O,AM,AI,⟨O,O,O,Ap⟩⟩)
 rintro _ rfl;refine Av O (fun c1=>?_) (fun c1=>?_)
 ·simp only[sd,se] at c1;exact A3 (PF O O O (.inl ⟨O,O,O⟩) (Q6 24) (aw (we O) (E0)) (⟨O,_,List.nil_sublist _,⟨_,lH An An An,O⟩⟩))
 simp only[sd,se] at c1;refine A2 (Aw (Ax Ay 4 [1,3] O (Dm [] O O O (.inl ⟨O,O,O⟩) (Yh ((ti:Int)+(b:Int))) O Am (aw (we O) (E0)) (fun _ _ h=>(congrArg List.length h).trans O) ?_ ?_)))
 rotate_left
 ·intro e _ he;exact⟨O,_,List.nil_sublist _,⟨_,by rw[aA An An,he],rfl⟩⟩
 rintro z _ hz rfl;refine Ar Ay 1 [0,1] O (A1 (⟨O,_,_,⟨_,_,O,(BA (i:=0) BZ O O Ag),O⟩,(B8 (is:=[2,3]) O),?_⟩));exact⟨z,by rw[aA An An,hz],rfl,rfl⟩
theorem _root_.Go.AO {α:Prop}(h:α:=by repeat' first | exact trivial | rfl | refine And.intro ?_ ?_):α:=h
theorem Zr:∀(t:Tm) (b fr:Int),(Nd t)→(Vp t)→(size t<DY)→(-4611686018427387904≤b∧b≤4611686018427387904)→(-2305843009213693952≤fr∧fr≤2305843009213693952)→Bn Tryz.prog 161 [.agg ((BP t).map .p),.p (I b),.p (I fr)] [] (Lm (fun(r:Tm)=>TV r) (fun e=> .p (.iface 223 (I e))) (fun r H'=>H'=[]) (Lk b fr t)):=by
 intro t b fr h1 h2 h3 h4 h5;refine A5 Tryz.func161 O tG (n:=11) O O (Aw (BF O (BN O) fun b3=>BF O (BN O) fun b4=>BF O (BN O) fun b5=>BF O (A7 Bx O) fun b6=>Bg O (As (Bt (fun k=>Nat.beq k 1||Nat.beq k 3) Dn (BG O (fun _=>Ej O O) Ap (bF [(2,.read [.box b3 ((BP t).map .p)] (.agg ((BP t).map .p)))] O O O (.inl ⟨O,O,O⟩) (aI 177 [.ptr b5 0,.ptr b4 0]) (.inl O) Aj fun bn=>⟨AB,Ap,?_⟩))))));refine BR Ay 1 [4] O ?_;refine PX [0,2,3] O O O (.inl ⟨O,O,O⟩) (Og (KX (cH b fr)) (fun _ T=>T=[.box bn [.fn (.func 177) [] [.ptr b5 0,.ptr b4 0]],.box b5 [.p (I fr)],.box b4 [.p (I b)]]) 176 [.ptr bn 0] (fun s t d T hn hp h0 hb hT=>by subst hT;exact YD (cH b fr) 177 [.ptr b5 0,.ptr b4 0] _ (fun t d g1 g2 g3 g4 g5=>eV t d b5 b4 fr b g1 g2 g3 g4 g5 h4 h5) bn s t d hn hp h0 hb) _ t 0 () _ (Nat.le_refl _) h1 h2 An An rfl) ⟨_,_,rfl,rfl,⟨_,_,rfl,rfl,⟨_,_,rfl,rfl,rfl⟩⟩⟩ Am (DQ _) (fun _ _ h=>(congrArg List.length h).trans rfl) Aj Aj rfl AB ?_ ?_
 rotate_left
 ·intro e he _ _ hτ;exact⟨O,_,List.nil_sublist _,⟨_,Pb he,O⟩⟩
 rintro⟨z,_⟩ _ hz rfl;refine⟨AB,AO,?_⟩;refine Bk Ay 1 [1,1] O (A1 (⟨O,_,_,⟨_,_,O,(BA (i:=1) BZ O O Ag),O⟩,(List.nil_sublist _),?_⟩));exact⟨z,Sz hz,O,O⟩
theorem VF:∀(bo be:Nat) (co ce:List AV),Eb Tryz.prog 153 [.ptr bo 0,.ptr be 0] (.ret) [.box bo co,.box be ce] (fun H'=>H'=[.box bo co,.box be ce]):=by
 intro bo be co ce;refine IB (ty2:=0) Tryz.func153 O ni (n:=9) O O O O O O (Aw (Br O (Aq O (HN e6 O O O) (Bg O ?_))));refine Av O (fun c=>by cases c) (fun c=>?_);exact A2 ⟨.inl O,O,_,(B8 (is:=[0,1]) O),O⟩
theorem T6:∀(bo be:Nat) (e:Int),Eb Tryz.prog 153 [.ptr bo 0,.ptr be 0] (.pan (.p (.iface 223 (I e)))) [.box bo [.p (I 0),.p (I 0),.p (.str ⟨#[]⟩),.p (.nils),.p (.nils)],.box be [.p (I 0)]] (fun H'=>H'=[.box bo [.p (I 0),.p (I 0),.p (.str ⟨#[]⟩),.p (.lst []),.p (.lst [])],.box be [.p (I e)]]):=by
 intro bo be e;refine IB (ty2:=0) Tryz.func153 O ni (n:=9) O O O O O O (Aw (Br O (Aq O (HN e6 O O O) (B4 (BW (i:=0) O) (Bg O ?_)))));refine Av O (fun c=>?_) (fun c=>by cases c);exact A3 (Ax Ay 2 [] O (Aq O (BC O O (U7 _) O) (Ax Ay 2 [0,0,1,0] O (B4 (BW (i:=0) O) (Bg O ⟨.inl O,O,_,(B8 (is:=[0,1]) O),O⟩)))))
theorem T9:∀(t:Tm) (d:Int) (bd bv:Nat) (dp:Int) (vs:List Tm),Bn Tryz.prog 155 [.agg ((BP t).map .p),.p (I d),.ptr bd 0,.ptr bv 0] [.box bd [.p (I dp)],.box bv [.p (.lst (BE vs))]] (Gk (.p (I (Jk vs dp t.index d))) [.box bd [.p (I dp)],.box bv [.p (.lst (BE vs))]]):=by
 intro t d bd bv dp vs;obtain⟨tk,ti,tn,tl,ts⟩:=t;refine A5 Tryz.func155 O qm (n:=23) O O (Aw (BF O (BN O) fun b4=>Ar Ay 1 [] O (As (Aw (Ax Ay 3 [0] O (Aq O (Jc O O) (Aq O (B7 (i:=1) DM O O O) (Aq O (Jc O O) (Ar Ay 1 [] O (As (BT [7] 21 (fun y=>y= .p (.bool ((decide ((wr ((wr ((ti:Int) - (d:Int)):Int) - (dp:Int)):Int)≥(0:Int)))&&(decide ((wr ((wr ((ti:Int) - (d:Int)):Int) - (dp:Int)):Int)<((vs.length:Nat):Int)))))) ?_ ?_)))))))))))
 ·refine A3 (Ax Ay 3 [] O (BO 16 O (fun g=>?_) (fun g=>?_)))
  ·simp only[sd,se] at g;exact Ax Ay 2 [2] O (BB O (BJ Bf O (BQ _)) (Ar Ay 2 [] O (⟨O,O,AM,AI,⟨O,Ap⟩⟩)))
  simp only[sd,se] at g;exact Ar Ay 5 [] O (⟨O,O,AM,AI,⟨O,Ap⟩⟩)
 rintro _ rfl;refine Av O (fun c=>?_) (fun c=>?_)
 ·simp only[sd,se] at c;refine Au Ay 2 [] O (A1 (⟨O,_,_,⟨_,_,O,O,O⟩,(B8 (is:=[1,2]) O),?_⟩))
  all_goals exact⟨pI (jP An An).symm,rfl⟩
 simp only[sd,se] at c;refine A2 (Au Ay 1 [] O (A1 (⟨O,_,_,⟨_,_,O,O,O⟩,(B8 (is:=[1,2]) O),?_⟩)))
 all_goals exact⟨pI (lT (ti:=ti) An).symm,rfl⟩
theorem ec:∀(t:Tm) (d:Int) (bv bc bs bd bvs cb:Nat) (dp n:Int) (vs:List Tm) (sz:List Int),(sz.length=vs.length)→Bn Tryz.prog 156 [.agg ((BP t).map .p),.p (I d),.ptr bv 0,.ptr bc 0,.ptr bs 0] [.box bv [.fn (.func 155) [] [.ptr bd 0,.ptr bvs 0]],.box bc [.ptr cb 0],.box bs [.p (.lst (List.map G0 sz))],.box bd [.p (I dp)],.box bvs [.p (.lst (BE vs))],.box cb [.p (I n)]] (Lm (fun(r:(Tm×Bool)×Int)=> .tup [TV r.1.1,.p (.bool r.1.2)]) (fun e=> .p (.iface 223 (I e))) (fun r H'=>H'=[.box bv [.fn (.func 155) [] [.ptr bd 0,.ptr bvs 0]],.box bc [.ptr cb 0],.box bs [.p (.lst (List.map G0 sz))],.box bd [.p (I dp)],.box bvs [.p (.lst (BE vs))],.box cb [.p (I r.2)]]) (Ss vs sz dp n t d)):=by
 intro t d bv bc bs bd bvs cb dp n vs sz h1;obtain⟨tk,ti,tn,tl,ts⟩:=t;refine A5 Tryz.func156 O qt (n:=33) O O (Aw (BF O (BN O) fun b5=>BF O (A7 Bx O) fun b7=>Ar Ay 1 [] O (As (Aw (Ax Ay 3 [2,1] O (Aq O (CE [5,6] O (.inr O) (T9 (.mk tk ti tn tl ts:Tm) d bd bvs dp vs) ⟨_,_,O,O,⟨_,_,O,O,O⟩⟩ Am O (.inl O)) (Ar Ay 1 [] O (As (BT [3,4,5,7,9] 20 (fun y=>y= .p (.bool (((tk:Int)==(0:Int))&&(decide ((Jk vs dp (.mk tk ti tn tl ts:Tm).index d:Int)≥(0:Int)))))) ?_ ?_)))))))))
 ·refine A3 (Ax Ay 4 [1] O (BO 17 O (fun g=>?_) (fun g=>?_)))
  ·simp only[sd,se] at g;exact Ar Ay 3 [] O (⟨O,O,AM,AI,⟨O,O,O,O,O,Ap⟩⟩)
  simp only[sd,se] at g;exact Ar Ay 3 [] O (⟨O,O,AM,AI,⟨O,O,O,O,O,Ap⟩⟩)
 rintro _ rfl;refine Av O (fun c=>?_) (fun c=>?_)
 ·simp only[sd,se] at c;have hvl:=WE (vs:=vs) (dp:=dp) (ti:=(Tm.mk tk ti tn tl ts).index) (d:=d) c.2;refine Bt (fun k=>Nat.beq k 5) Dn (BR Ay 3 [3,4] O ?_);obtain⟨x,hx⟩:=A6 (l:=sz) (i:=(Jk vs dp (.mk tk ti tn tl ts:Tm).index d:Int).toNat) An;refine BG O (fun _=>A4 Hr O O An (MS hx) (O)) Ap (BG O (fun _=>FB DM O) Ap (PX [7] O O O (.inl ⟨O,O,O⟩) (iG cb n x) ⟨_,_,O,O,O⟩ Am (aw (we O) (aw (we O) (E0))) (fun _ _ h=>(congrArg List.length h).trans O) Aj Aj O AB ?_ ?_))
  rotate_left
  ·intro e he _ _ hτ;exact⟨O,_,List.nil_sublist _,⟨_,O1 (S3 c hx) he,O⟩⟩
  rintro r _ hz rfl;refine⟨AB,Ap,?_⟩;refine Je O Aj (As (Bt (fun k=>false) Dn (Bk Ay 6 [1,0,0] O (BH (BW (i:=0) O) (A1 (⟨O,_,_,⟨_,_,O,(BA (i:=0) BZ O O O),⟨_,_,O,O,O⟩⟩,(B8 (is:=[2,3,4,5,6,7]) O),?_⟩))))));exact⟨⟨⟨Bh,decide (tk=0)⟩,r⟩,Q5 (S3 c hx) hz,O,O⟩
 simp only[sd,se] at c;refine A3 (Aq O (B7 (i:=3) rG O O O) (Dm [7] O O O (.inl ⟨O,O,O⟩) (iG cb n 1) ⟨_,_,O,O,O⟩ Am (aw (we O) (aw (we O) (E0))) (fun _ _ h=>(congrArg List.length h).trans O) ?_ ?_))
 rotate_left
 ·intro e _ he;exact⟨O,_,List.nil_sublist _,⟨_,O1 (RA (by simp_all [Tm.index])) he,O⟩⟩
 rintro r _ hz rfl;refine Bg O (As (Bt (fun k=>false) Dn (Bk Ay 6 [1,0,0] O (BH (BW (i:=0) O) (A1 (⟨O,_,_,⟨_,_,O,(BA (i:=0) BZ O O O),⟨_,_,O,O,O⟩⟩,(B8 (is:=[2,3,4,5,6,7]) O),?_⟩))))));exact⟨⟨⟨Bh,decide (tk=0)⟩,r⟩,Q5 (RA (by simp_all [Tm.index])) hz,O,O⟩
theorem eU:∀(t:Tm) (d:Int) (bv bvs bd:Nat) (dp:Int) (vs:List Tm),(Nd t)→(Vp t)→(t.kind=0)→(0≤d)→(d<DY)→(NI vs)→(Oh vs)→(∀v∈vs,size v<DY)→(0≤dp∧dp≤65536)→(vs.length<DY)→Bn Tryz.prog 160 [.agg ((BP t).map .p),.p (I d),.ptr bv 0,.ptr bvs 0,.ptr bd 0] [.box bv [.fn (.func 155) [] [.ptr bd 0,.ptr bvs 0]],.box bvs [.p (.lst (BE vs))],.box bd [.p (I dp)]] (Lm (fun(r:Tm)=>TV r) (fun e=> .p (.iface 223 (I e))) (fun r H'=>H'=[.box bv [.fn (.func 155) [] [.ptr bd 0,.ptr bvs 0]],.box bvs [.p (.lst (BE vs))],.box bd [.p (I dp)]]) (Ky vs dp t d)):=by
 intro t d bv bvs bd dp vs h1 h2 h3 h4 h5 h6 h7 h8 h9 h10;obtain⟨tk,ti,tn,tl,ts⟩:=t;have hti:=h2.1 h3;simp only[DY] at h5;have hw:wr (dp+d)=dp+d:=EP (by unfold JE;omega);refine A5 Tryz.func160 O uC (n:=37) O O (Aw (BF O (BN O) fun b5=>BF O (A7 Bx O) fun b7=>Bg O (As (Aw (Ax Ay 3 [2,1] O (Aq O (CE [4,3] O (.inr O) (T9 (.mk tk ti tn tl ts:Tm) d bd bvs dp vs) ⟨_,_,O,O,⟨_,_,O,O,O⟩⟩ Am O (.inl O)) (Ar Ay 1 [] O (Au Ay 2 [] O (Av O (fun c=>?_) (fun c=>?_))))))))))
 ·simp only[sd,se] at c;have hvl:=WE (vs:=vs) (dp:=dp) (ti:=(Tm.mk tk ti tn tl ts).index) (d:=d) c;refine As (Bt (fun k=>Nat.beq k 7) Dn (BR Ay 2 [3] O ?_));obtain⟨x,hx⟩:=A6 (l:=vs) (i:=(Jk vs dp (.mk tk ti tn tl ts:Tm).index d:Int).toNat) An;refine BG O (fun _=>A4 Bf O O An (Bd hx) (BD _)) Ap (BR Ay 3 [4] O (BG O (fun _=>EA O O) Ap (PX [] O O O (.inl ⟨O,O,O⟩) (Zr x (wr ((dp:Int)+(d:Int))) 0 (DX h6 hx) (Mj h7 hx) (h8 x (List.mem_of_getElem? hx)) (by rw[hw];omega) An) O Am (aw (we O) (aw (we O) (aw (we O) (E0)))) (fun _ _ h=>(congrArg List.length h).trans O) Aj Aj O AB ?_ ?_)))
  rotate_left
  ·intro e he _ _ hτ;exact⟨O,_,List.nil_sublist _,⟨_,(S8 (i:=ti) c hx).trans he,O⟩⟩
  rintro z _ hz rfl;refine⟨AB,Ap,?_⟩;refine Bk Ay 1 [0,1] O (A1 (⟨O,_,_,⟨_,_,O,(BA (i:=0) BZ O O Ag),O⟩,(B8 (is:=[2,3,4]) O),?_⟩));exact⟨z,(S8 (i:=ti) c hx).trans hz,O,O⟩
 simp only[sd,se] at c;refine A2 (As (Aw (Ax Ay 3 [1] O (Aq O (Jc O O) (Ar Ay 2 [4] O (Av O (fun c1=>?_) (fun c1=>?_)))))))
 ·simp only[sd,se] at c1;refine Aw (Aq O (BU (i:=1) BZ O O O) (Aq O (BC O O (TG (.mk tk ti tn tl ts:Tm) h1) O) (Ar Ay 1 [0,1] O (A1 (⟨O,_,_,⟨_,_,O,(BA (i:=0) BZ O O Ag),O⟩,(B8 (is:=[2,3,4]) O),?_⟩)))));exact⟨(.mk tk ti tn tl []),X6 (by simpa [Tm.index] using c) An,O,O⟩
 simp only[sd,se] at c1;refine A2 (Aw (Ax Ay 3 [1,3] O (Aq O (BJ Bf O (BQ _)) (Aq O (Jc O O) (Dm [] O O O (.inl ⟨O,O,O⟩) (Yh (wr ((ti:Int) - ((vs.length:Nat):Int)))) O Am (aw (we O) (E0)) (fun _ _ h=>(congrArg List.length h).trans O) ?_ ?_)))))
 rotate_left
 ·intro e _ he;exact⟨O,_,List.nil_sublist _,⟨_,by rw[Vc (by simpa [Tm.index] using c) An,he],rfl⟩⟩
 rintro z _ hz rfl;refine Ar Ay 1 [0,1] O (A1 (⟨O,_,_,⟨_,_,O,(BA (i:=0) BZ O O Ag),O⟩,(B8 (is:=[2,3,4]) O),?_⟩));exact⟨z,by rw[Vc (by simpa [Tm.index] using c) An,hz],rfl,rfl⟩
theorem _root_.Go.AG {α:Prop}(h:α:=by simp only[List.length_append,List.length_map,List.length_take,List.length_replicate];omega):α:=h
set_option maxHeartbeats 2000000 in
theorem dH:∀(t:Tm) (vs:List Tm) (dp:Int),(Nd t)→(Vp t)→(size t<1099511627776)→(NI vs)→(Oh vs)→(∀v∈vs,size v<DY)→(0≤dp∧dp≤65536)→(vs.length<DY)→ET Tryz.prog 137 [.agg ((BP t).map .p),.p (.lst (BE vs)),.p (I dp)] (.tup [.agg ((BP ((Gj t vs dp).1)).map .p),.p (I ((Gj t vs dp).2))]):=by
 intro t vs dp h1 h2 h3 h4 h5 h6 h7 h8;have h8b:=h8;simp only[DY] at h8b;refine FW Tryz.func137 O sU (n:=49) O O (Aw (BF O (BN O) fun b3=>BF O (BN O) fun b4=>BF O (BN O) fun b5=>BF O (A7 Bx O) fun b6=>BF O (A7 j8 O) fun b7=>Bg O (As (Au Ay 2 [2] O (Av O (fun c=>?_) (fun c=>?_))))))
 ·simp only[sd,se] at c;exact absurd c An
 simp only[sd,se] at c;refine A2 (Aw (Aq O (Ej O O) (OW O O O O (Bg O (Aw (Aq O (Ej O O) (BF O (A7 rq O) fun b8=>Ar Ay 1 [0,0] O (Aw (Aq O (B7 (i:=4) Gn O O O) (Aq O (BJ Bf O (BQ _)) (Sa O O (Mc Hr ki O O Am O O O An An An (p4 (f:=G0) (((vs.length:Nat):Int).toNat) 0)) fun b20 cp=>BF O (A7 sR O) fun b9=>Ar Ay 1 [0,0] O (As (Aw (Aq O (B7 (i:=6) Gn O O O) (Aq O (BJ Bf O (BQ _)) (Ar Ay 1 [] O (A9 ?_)))))))))))))))));refine Bc (α:=Nat×Option Nat×Nat) (fun(i,o,cp1)=>⟨49,mk [(3,.ptr b3 0),(4,.ptr b4 0),(5,.ptr b5 0),(6,.ptr b6 0),(7,.ptr b7 0),(8,.ptr b8 0),(9,.ptr b9 0),(21,.p (.lst (BE vs))),(22,.p (I (vs.length:Nat))),(23,.p (I (i:Int)))],[.box b9 [.vs o (List.map G0 (((vs.take i).map fun v=>(size v:Int))++List.replicate (vs.length - i) 0)).length cp1],.vec o 1 (List.map G0 (((vs.take i).map fun v=>(size v:Int))++List.replicate (vs.length - i) 0)) cp1,.box b8 [.fn (.func 155) [] [.ptr b5 0,.ptr b4 0]],.box b7 [.p (I 0)],.box b6 [.p (I 0),.p (I 0),.p (.str ⟨#[]⟩),.p (.nils),.p (.nils)],.box b5 [.p (I dp)],.box b4 [.p (.lst (BE vs))],.box b3 ((BP t).map .p)],[.clo (.func 153) [.ptr b6 0,.ptr b7 0]]⟩) (fun(i,o,cp1)=>vs.length - i) (fun(i,o,cp1)=>i≤vs.length) ⟨0,(some b20),cp⟩ AQ ?_ ?_
 ·exact BS ⟨we O,we O,we O,we O,we O,we O,we O,we O,we O,we O,Ap⟩ (leH (is:=[0,1,2,3,4,5,6,7]) O (wl (Ys (aw (we (Gb (f:=G0) (List.replicate (((vs.length:Nat):Int).toNat) 0) Ao)) (E0))) (wl (Fl (f:=G0) (List.replicate (((vs.length:Nat):Int).toNat) 0) Ao) (wl (oe O) (wl (oe O) (wl (oe O) (wl (oe O) (wl (oe O) (wl (oe O) (C2))))))))))
 rintro⟨i,o,cp1⟩ hC
 try simp only at hC
 have hi:=hC;refine Au Ay 1 [] O (As (Av O (fun c1=>?_) (fun c1=>?_)))
 ·simp only[sd,se] at c1;refine A2 (As (A9 (Aw (Br O ?_))));obtain⟨x,hx⟩:=A6 (l:=vs) (i:=i) An;refine Aq O (A4 Bf O O An (Bd hx) (BD _)) (Aq O (BM BZ O (BD _)) (BF O (A7 Bx O) fun b11=>Ar Ay 2 [0,1] O (MU (i:=2) O Aa fun b hb=>?_)));subst hb;refine Bt (fun k=>false) Dn (BR Ay 3 [1,0] O (BG O (fun _=>BC O O (bI x (DX h4 hx) (by have:=h6 x (List.mem_of_getElem? hx);simp only[DY] at this;omega)) O) Ap (BG O (fun _=>C0 Hr O O An AG) Ap (GX O O (EH (i:=2) (j:=i) DM O O O AG O O O O (gf (f:=G0) (((vs.take i).map fun v=>(size v:Int))++List.replicate (vs.length - i) 0) i (size x:Nat))) AB Ap (Je O Aj (A3 (Ar Ay 2 [] O ?_)))))));refine⟨⟨i+1,(some b),cp1⟩,AW,by omega,BS ⟨we rfl,we rfl,we rfl,we rfl,we rfl,we rfl,we rfl,we rfl,we rfl,we rfl,trivial⟩ (leH (is:=[1,2,3,4,5,6,7,8]) rfl (wl (Ys (aw (we (Tz (f:=G0) (((vs.take i).map fun v=>(size v:Int))++List.replicate (vs.length - i) 0) Ai)) (E0))) (wl (Fl (f:=G0) ((((vs.take i).map fun v=>(size v:Int))++List.replicate (vs.length - i) 0).set i (size x:Nat)) (oH hx)) (wl (oe rfl) (wl (oe rfl) (wl (oe rfl) (wl (oe rfl) (wl (oe rfl) (wl (oe rfl) (C2))))))))))⟩
 simp only[sd,se] at c1;refine Be (Aw ?_);rw[qy (vs:=vs) (i:=i) An];refine B4 (DJ (i:=1) (j:=0) (q:=0) [] O O O (D5 Ap)) (Aq O (CO qk tO O) (BF O (BN O) fun b35=>BF O (A7 qH O) fun b12=>Ar Ay 1 [0,0] O (Aw (Ax Ay 3 [8] O ?_))));refine Dm [3,0,2,6,7,1] O O O (.inl ⟨O,O,O⟩) (Og (Ss vs (vs.map fun v=>(size v:Int)) dp) (fun n T=>T=[.box b8 [.fn (.func 155) [] [.ptr b5 0,.ptr b4 0]],.box b12 [.ptr b35 0],.box b9 [.p (.lst (List.map G0 (vs.map fun v=>(size v:Int))))],.box b5 [.p (I dp)],.box b4 [.p (.lst (BE vs))],.box b35 [.p (I n)]]) 156 [.ptr b8 0,.ptr b12 0,.ptr b9 0] (fun n t d T hn hp h0 hb hT=>by subst hT;exact ec t d b8 b12 b9 b5 b4 b35 dp n vs (vs.map fun v=>(size v:Int)) Ao) _ t 0 0 _ (Nat.le_refl _) h1 h2 An Ab rfl) ⟨_,_,rfl,rfl,⟨_,_,rfl,rfl,⟨_,_,rfl,rfl,⟨_,_,rfl,rfl,⟨_,_,rfl,rfl,⟨_,_,rfl,rfl,rfl⟩⟩⟩⟩⟩⟩ Am (DQ _) (fun _ _ h=>(congrArg List.length h).trans rfl) ?_ ?_
 rotate_left
 ·intro e _ he;refine⟨_,_,_,O,Mx (is:=[1,0]) _ Am ⟨_,_,O,O,⟨_,_,O,O,O⟩⟩,Eb.eq (T6 b6 b7 _) ?_⟩;refine⟨_,[],⟨_,_,O,(BA (i:=0) BZ O O O),⟨_,_,O,(Gu (i:=1) Tu O O),O⟩⟩,(List.nil_sublist _),?_⟩;rw[I8 (QV he)];exact⟨O,O⟩
 rintro⟨z,n1⟩ _ hz rfl;refine Bg O (As (Bt (fun k=>Nat.beq k 1||Nat.beq k 3) Dn (BG O (fun _=>Ej O O) Ap (bF [(2,.read [.box b3 ((BP t).map .p)] (.agg ((BP t).map .p)))] O O O (.inl ⟨O,O,O⟩) (aI 160 [.ptr b8 0,.ptr b4 0,.ptr b5 0]) (.inl O) Aj fun bn=>⟨AB,Ap,?_⟩))));refine BR Ay 1 [9] O ?_;refine PX [0,4,8,7] O O O (.inl ⟨O,O,O⟩) (Og (KX (Ky vs dp)) (fun _ T=>T=[.box bn [.fn (.func 160) [] [.ptr b8 0,.ptr b4 0,.ptr b5 0]],.box b8 [.fn (.func 155) [] [.ptr b5 0,.ptr b4 0]],.box b4 [.p (.lst (BE vs))],.box b5 [.p (I dp)]]) 176 [.ptr bn 0] (fun s t d T hn hp h0 hb hT=>by subst hT;exact YD (Ky vs dp) 160 [.ptr b8 0,.ptr b4 0,.ptr b5 0] [.box b8 [.fn (.func 155) [] [.ptr b5 0,.ptr b4 0]],.box b4 [.p (.lst (BE vs))],.box b5 [.p (I dp)]] (fun t d g1 g2 g3 g4 g5=>eU t d b8 b4 b5 dp vs g1 g2 g3 g4 g5 h4 h5 h6 h7 h8) bn s t d hn hp h0 hb) _ t 0 () _ (Nat.le_refl _) h1 h2 An Ab rfl) ⟨_,_,rfl,rfl,⟨_,_,rfl,rfl,⟨_,_,rfl,rfl,⟨_,_,rfl,rfl,rfl⟩⟩⟩⟩ Am (DQ _) (fun _ _ h=>(congrArg List.length h).trans rfl) Aj Aj rfl AB ?_ ?_
 rotate_left
 ·intro e he _ _ hτ;refine⟨_,_,_,O,Mx (is:=[4,3]) _ Am ⟨_,_,O,O,⟨_,_,O,O,O⟩⟩,Eb.eq (T6 b6 b7 _) ?_⟩;refine⟨_,[],⟨_,_,O,(BA (i:=0) BZ (hτ 6 (TE Aj)) O O),⟨_,_,O,(Gu (i:=1) Tu (hτ 7 (TE Aj)) O),O⟩⟩,(List.nil_sublist _),?_⟩;rw[I8 (QP hz he)];exact⟨O,O⟩
 rintro⟨z1,_⟩ _ hz1 rfl;refine⟨AB,AO,?_⟩;refine Bk Ay 1 [6,1] O (As (Aw (Aq O (BU (i:=6) BZ O O Ag) (Aq O (BC O O (Ym _ z1 (Nat.le_refl _) (kl h4 h5 h1 h2 hz1)) O) (Ar Ay 1 [] O (Av O (fun c2=>?_) (fun c2=>?_)))))))
 ·simp only[sd,se] at c2;refine Aw (Aq O (CO HJ Bx O) ?_);obtain⟨z1k,z1i,z1n,z1l,z1s⟩:=z1;refine Ar Ay 2 [6,0,5,0] O (BH (BW (i:=6) O) (A1 (⟨_,_,_,O,DO (is:=[6,5]) Am ⟨_,_,O,O,⟨_,_,O,O,O⟩⟩,Eb.eq (VF b6 b7 _ _) ?_⟩)));refine⟨_,_,⟨_,_,O,(BA (i:=0) BZ O O O),⟨_,_,O,(Gu (i:=1) Tu O O),O⟩⟩,(List.nil_sublist _),?_⟩;rw[QJ (M4 hz hz1) An]
  all_goals exact⟨rfl,rfl⟩
 simp only[sd,se] at c2;refine A2 (Au Ay 3 [6,6,1,5,0] O (A1 (⟨_,_,_,O,DO (is:=[6,5]) Am ⟨_,_,O,O,⟨_,_,O,O,O⟩⟩,Eb.eq (VF b6 b7 _ _) ?_⟩)));refine⟨_,_,⟨_,_,O,(BA (i:=0) BZ O O Ag),⟨_,_,O,(Gu (i:=1) Tu O O),O⟩⟩,(List.nil_sublist _),?_⟩;rw[U8 (M4 hz hz1) An]
 all_goals exact⟨rfl,rfl⟩
theorem dm:∀(t:Tm) (vs:List Tm),(Nd t)→(Vp t)→(size t<1099511627776)→(NI vs)→(Oh vs)→(∀v∈vs,size v<DY)→(vs.length<DY)→ET Tryz.prog 105 [.agg ((BP t).map .p),.p (.lst (BE vs))] (.tup [.agg ((BP ((Gj t vs 0).1)).map .p),.p (I ((Gj t vs 0).2))]):=by
 intro t vs h1 h2 h3 h4 h5 h6 h7;refine A5 Tryz.func105 O rD (n:=11) O O (Aw (BF O (BN O) fun b2=>BF O (A7 Bx O) fun b4=>Ar Ay 1 [] O (Aw (Ax Ay 2 [1] O (Aq O (BC O O (dH t vs 0 h1 h2 h3 h4 h5 h6 An h7) O) (Ar Ay 4 [0,1] O (A1 (⟨O,_,_,⟨_,_,O,(BA (i:=0) BZ O O Ag),⟨_,_,O,O,O⟩⟩,(List.nil_sublist _),?_⟩))))))))
 all_goals exact⟨rfl,rfl⟩
theorem Oy:∀(m:Nat) (ds:List B5) (n:Int),(Gl n)→Bn Tryz.prog 104 [.ptr m 0] [.box m [.p (.lst (List.map Bi ds)),.p (I n)]] (Lm (fun(r:Unit)=> .tup []) (fun _=> .p (.iface 122 .unit)) (fun r H'=>H'=[.box m [.p (.lst (List.map Bi ds)),.p (I (n - 1))]]) (MV n)):=by
 intro m ds n h1;have hn:=h1.1;have hn2:=h1.2;refine A5 Tryz.func104 O qI (n:=16) O O (Au Ay 8 [0,0,0] O (Au Ay 5 [0] O (Av O (fun c=>?_) (fun c=>?_))))
 ·simp only[sd,se] at c;exact A3 (Aq O (CO fM bK O) (Aq O (JW Aj O) (PA O O (Mi O) (⟨O,_,List.nil_sublist _,⟨_,qd An,O⟩⟩))))
 simp only[sd,se] at c;refine A2 ⟨O,_,_,O,(B8 (is:=[0]) O),?_⟩;exact⟨(),tA An,O,O⟩
theorem Lf:∀(m:Nat) (ds:List B5) (n:Int) (t:Tm) (vs:List Tm),(Gl n)→(okB t=true)→(∀v∈vs,okB v=true)→(vs.length<549755813888)→Bn Tryz.prog 74 [.ptr m 0,.agg ((BP t).map .p),.p (.lst (BE vs))] [.box m [.p (.lst (List.map Bi ds)),.p (I n)]] (Lm (fun(r:Tm×Int)=>TV r.1) (fun _=> .p (.iface 122 .unit)) (fun r H'=>H'=[.box m [.p (.lst (List.map Bi ds)),.p (I r.2)]]) (Ja n (CD t vs 0))):=by
 intro m ds n t vs h1 h2 h3 h4;have hn:=h1.1;have hto:=B2.1 h2;have hts:=hto.sz;have hvo:=FD h3;refine A5 Tryz.func74 O wK (n:=22) O O (Aw (BF O (BN O) fun b4=>BF O (A7 Bx O) fun b6=>Bg O (Aw (Br O (Dm [2] O O O (.inl ⟨O,O,O⟩) (Oy m ds n h1) ⟨_,_,O,O,O⟩ Am (aw (we O) (E0)) (fun _ _ h=>(congrArg List.length h).trans O) ?_ ?_)))))
 rotate_left
 ·intro e _ he;exact⟨O,_,List.nil_sublist _,⟨_,ig he,O⟩⟩
 rintro _ _ hz rfl;refine Bg O (Aw (Ax Ay 2 [1] O ?_));refine Aq rfl (BC rfl rfl (dm t vs hto.nd hto.vp An hvo.1 hvo.2.2.1 (fun v hv=>by have:=FC (h3 v hv);simp only[DY];omega) Ab) rfl) ?_;refine Ax Ay 3 [] O (BF O (A7 Bx O) fun b7=>Ar Ay 2 [0,1] O (As (Au Ay 2 [] O (Av O (fun c=>?_) (fun c=>?_)))))
 ·simp only[sd,se] at c;have hce:=c;exact A3 (Aq O (CO fM bK O) (Aq O (JW Aj O) (PA O O (Mi O) (⟨O,_,List.nil_sublist _,⟨_,s7 An h2 h3 h4 hce,O⟩⟩))))
 simp only[sd,se] at c;refine A2 (Au Ay 2 [0,1,1] O (A1 (⟨O,_,_,⟨_,_,O,(BA (i:=1) BZ O O Ag),O⟩,(B8 (is:=[3]) O),?_⟩)));exact⟨⟨(Gj t vs 0).1,n - 1⟩,rz hz h2 h3 h4 c,O,O⟩
theorem KW:∀(l:List Tm),(l.length<549755813888)→Bn Tryz.prog 95 [.p (.lst (BE l))] [] (eD (fun v=>v) 5 (BE l)):=by
 intro l h1;refine A5 Tryz.func95 O wL (n:=8) O O (Au Ay 1 [] O (As (Aw (Br O (Du O O (NM Bf O O) ?_)))));rintro _ ⟨q,rfl,hq⟩;refine Bg O (Av O (fun c=>?_) (fun c=>?_))
 ·refine Au Ay 1 [] O (BH (EN (t:=2) (sz:=5) O) (A1 (⟨O,_,_,⟨_,_,O,O,O⟩,(B8 (is:=[0]) O),?_⟩)));rw[show l=[] from List.length_eq_zero_iff.1 (by rw[←BQ,hq c];rfl)]
  all_goals exact⟨_,_,rfl,rfl⟩
 refine A2 (Aw (Sa O O (Ly Bf) fun b5 cp=>Br O (FP O O (CR (i:=0) (rows':=BE l) Bf Bf Bx O O O O O O (Bv _) (by simp only[BQ,List.length_nil];omega) (Kc [] l)) fun o cp1=>Ar Ay 1 [] O (A1 (⟨O,_,_,⟨_,_,O,O,O⟩,(B8 (is:=[0]) O),?_⟩)))))
 all_goals exact⟨_,_,rfl,rfl⟩
theorem RU:∀(m:Nat) (ds:List B5) (n:Int) (t:Tm) (vs:List Tm),(Gl n)→(okB t=true)→(∀v∈vs,okB v=true)→(vs.length<549755813888)→Bn Tryz.prog 62 [.ptr m 0,.agg ((BP t).map .p),.p (.lst (BE vs))] [.box m [.p (.lst (List.map Bi ds)),.p (I n)]] (Lm (fun(r:Tm×Int)=>TV r.1) (fun _=> .p (.iface 122 .unit)) (fun r H'=>H'=[.box m [.p (.lst (List.map Bi ds)),.p (I r.2)]]) (Ja n (CD t vs.reverse 0))):=by
 intro m ds n t vs h1 h2 h3 h4;refine A5 Tryz.func62 O um (n:=16) O O (Aw (BF O (BN O) fun b4=>BF O (A7 Bx O) fun b6=>Bg O (Aw (Br O (Nx O O O (.inl ⟨O,O,O⟩) (KW vs h4) (.inl O) fun o cp=>Ar Ay 1 [] O (Aw (Br O (Aq O (CE [0] O (.inl ⟨O,O,O⟩) (gq vs o cp Ab) ⟨_,_,O,O,O⟩ Am O (.inl O)) (Bg O (Aw (Ax Ay 3 [2] O (B4 (DA (t:=9) (x:= .vs o (BE vs.reverse).length cp) (DI vs (l':=vs.reverse) Ao)) (B4 (DA (t:=7) (x:= .vs o (BE vs.reverse).length cp) (DI vs (l':=vs.reverse) Ao)) (B4 (DA (t:=10) (x:= .vs o (BE vs.reverse).length cp) (DI vs (l':=vs.reverse) Ao)) (B4 (DA (t:=14) (x:= .vs o (BE vs.reverse).length cp) (DI vs (l':=vs.reverse) Ao)) ?_)))))))))))))));refine B4 (Ck (i:=0) [9,7,10,14] O (D5 ⟨O,O,O,O,Ap⟩)) (Dm [2] O O O (.inl ⟨O,O,O⟩) (Lf m ds n t vs.reverse h1 h2 (fW h3) (by rw[List.length_reverse];exact h4)) ⟨_,_,O,O,O⟩ Am (aw (we O) (aw (we O) (aw (we O) (E0)))) (fun _ _ h=>(congrArg List.length h).trans O) ?_ ?_)
 rotate_left
 ·intro e _ he;exact⟨O,_,List.nil_sublist _,⟨_,he,O⟩⟩
 rintro⟨z,n2⟩ _ hz rfl;refine Ar Ay 1 [0,1] O (A1 (⟨O,_,_,⟨_,_,O,(BA (i:=0) BZ O O Ag),O⟩,(B8 (is:=[2]) O),?_⟩));exact⟨⟨z,n2⟩,hz,O,O⟩
theorem YJ:∀(m:Nat) (ds:List B5) (s:Int) (x:Fq) (g:Tm) (a:List Tm) (d:B5),(Gl s)→(ds[x.decl.toNat]?=some d)→(0≤x.decl)→(DG d)→(okB g=true)→(a.length<549755813888)→(Eg Bp d g a s≠ .stuck)→Bn Tryz.prog 106 [.ptr m 0,.agg ((DS x).map .p),.agg ((BP g).map .p),.p (.lst (BE a))] [.box m [.p (.lst (List.map Bi ds)),.p (I s)]] (Lm (fun(r:Option Tm×Int)=> .tup [TV (r.1.getD Bh),.p (.bool r.1.isSome)]) (fun _=> .p (.iface 122 .unit)) (fun r H'=>H'=[.box m [.p (.lst (List.map Bi ds)),.p (I r.2)]]) ((Eg Bp d g a s).ex)):=by
 intro m ds s x g a d h1 h2 h3 h4 h5 h6 h7;obtain⟨gk,gi,gn,gl,gs⟩:=g;have hgo:=B2.1 h5;have hgl:=hgo.nd;simp only[Nd,DY] at hgl;refine A5 Tryz.func106 O sJ (n:=35) O O (Aw (BF O (BN O) fun b5=>BF O (BN O) fun b6=>BF O (A7 Bx O) fun b8=>Ar Ay 1 [] O (As (Bt (fun k=>Nat.beq k 15) Dn (BR Ay 5 [3] O (CV (j:=2) O O O (fun H i hi=>A0 (i:=i) DM O hi (DW _)) AB Ap (BG O (fun _=>A4 IF O O An (D8 h2) (Cp _)) Ap (BG O (fun _=>B1 C5 O O) Ap (BG O (fun _=>DP BZ O (FA _) (BD _)) Ap (BR Ay 2 [1] O (BG O (fun _=>BC O O (Mt d.value gl (B2.1 h4.vl).nd (B2.1 h4.vl).vp (by have:=FC h4.vl;omega) hgl.2.1 hgl.2.2.1) O) Ap (BR Ay 3 [] O (HC [] O O (A7 Bx O) Aj fun b10=>⟨AB,Ap,?_⟩)))))))))))));refine Bk Ay 2 [0,1] O (As (Au Ay 2 [] O (Av O (fun c=>?_) (fun c=>?_))))
 ·simp only[sd,se] at c;have hce:=c;refine Au Ay 3 [1,0] O (BH (BW (i:=1) O) (A1 (⟨O,_,_,⟨_,_,O,(BA (i:=1) BZ O O O),⟨_,_,O,O,O⟩⟩,(B8 (is:=[4]) O),?_⟩)));exact⟨⟨none,s⟩,DH (JO hce),O,O⟩
 simp only[sd,se] at c;have hce:=c;refine A2 (Aw (Br O (Dm [4] O O O (.inl ⟨O,O,O⟩) (Oy m ds s h1) ⟨_,_,O,O,O⟩ Am (aw (we O) (E0)) (fun _ _ h=>(congrArg List.length h).trans O) ?_ ?_)))
 rotate_left
 ·intro e _ he;exact⟨O,_,List.nil_sublist _,⟨_,ft h7 hce he,O⟩⟩
 rintro _ _ hz rfl;refine Bg O (Aw (Ax Ay 2 [0] O (Aq O (BC O O (EK ((BY d.value gl).1) a Ab) O) (Ar Ay 2 [1,1] O (A1 (⟨O,_,_,⟨_,_,O,(BA (i:=1) BZ O O Ag),⟨_,_,O,O,O⟩⟩,(B8 (is:=[4]) O),?_⟩))))));exact⟨⟨some (apply (BY d.value gl).1 a),s - 1⟩,DH (jR h7 hce hz),O,O⟩
theorem V8:∀(m:Nat) (ds:List B5) (s:Int) (d:B5) (g:Tm) (a:List Tm) (mm:Tm),(Gl s)→(Ju ds)→(DG d)→(okB g=true)→(a.length<549755813888)→(okB mm=true)→(CB d<a.length)→(Es ds Bp d g a mm s≠ .stuck)→Bn Tryz.prog 110 [.ptr m 0,.agg ((Bi d).map .p),.agg ((BP g).map .p),.p (.lst (BE a)),.agg ((BP mm).map .p)] [.box m [.p (.lst (List.map Bi ds)),.p (I s)]] (Lm (fun(r:Option Tm×Int)=> .tup [TV (r.1.getD Bh),.p (.bool r.1.isSome)]) (fun _=> .p (.iface 122 .unit)) (fun r H'=>H'=[.box m [.p (.lst (List.map Bi ds)),.p (I r.2)]]) ((Es ds Bp d g a mm s).ex)):=by
 intro m ds s d g a mm h1 h2 h3 h4 h5 h6 h7 h8;obtain⟨gk,gi,gn,gl,gs⟩:=g;have hgo:=B2.1 h4;have hgl:=hgo.nd;simp only[Nd,DY] at hgl;have hnr:=Ih h3;have hcl:=h3.din.cl;have hrl:=h3.din.rl;have hfx:=h3.fx;have hir:=Fa h3.din h3.fx;refine A5 Tryz.func110 O tj (n:=82) O O (Aw (BF O (BN O) fun b6=>BF O (BN O) fun b7=>BF O (BN O) fun b9=>BF O (A7 Bx O) fun b10=>Ar Ay 1 [] O (Aw (Ax Ay 2 [1] O (Aq O (CE [4] O (.inl ⟨O,O,O⟩) (RG m ds s mm h2 h6) ⟨_,_,O,O,O⟩ Am O (.inl O)) (Ax Ay 5 [] O (BF O (A7 Jw O) fun b12=>Ar Ay 4 [0,1] O (As (As (BT [0,3,6,7,10,13,14] 42 (fun y=>y= .p (.bool (((!((CL ds mm).2.2.2))||(!((((CL ds mm).1).name).toList==d.name.toList)))||(decide (((CL ds mm).2.1:Int)≥((d.recs.rules.length:Nat):Int)))))) ?_ ?_))))))))))
 ·refine A3 (Ax Ay 3 [] O (BO 28 O (fun g1=>?_) (fun g1=>?_)))
  ·simp only[sd,se] at g1;exact Ar Ay 14 [] O (⟨O,O,AM,AI,⟨O,O,O,O,O,O,O,Ap⟩⟩)
  simp only[sd,se] at g1;refine BB O (Az C5 O O) (BB O (A0 (i:=0) MI O O (DF _)) (BB O (Az C5 O O) (BB O (A0 (i:=4) MI O O (DF _)) (BB O (JJ O O) (Ax Ay 2 [] O (BO 35 O (fun g2=>?_) (fun g2=>?_)))))))
  ·simp only[sd,se] at g2;exact Ar Ay 7 [] O (⟨O,O,AM,AI,⟨O,O,O,O,O,O,O,Ap⟩⟩)
  simp only[sd,se] at g2;exact Ax Ay 3 [] O (BB O (A0 (i:=4) Gn O O (Cj _)) (BB O (BJ Bf O (BQ _)) (Ar Ay 2 [] O (⟨O,O,AM,AI,⟨O,O,O,O,O,O,O,Ap⟩⟩))))
 rintro _ rfl;refine Av O (fun c=>?_) (fun c=>?_)
 ·simp only[sd,se] at c;have hib:=Wp (S:=Bp) (h:=(.mk gk gi gn gl gs:Tm)) (a:=a) (s:=s) c;refine Au Ay 3 [1,0] O (BH (BW (i:=1) O) (A1 (⟨O,_,_,⟨_,_,O,(BA (i:=1) BZ O O O),⟨_,_,O,O,O⟩⟩,(B8 (is:=[5]) O),?_⟩)));exact⟨⟨none,s⟩,DH hib,O,O⟩
 simp only[sd,se] at c;obtain⟨hg1,hg2,hg3⟩:=UD c;have hg4:=c.2;have hfl:=Io h2 hg1;refine A2 (As (Bt (fun k=>Nat.beq k 12) Dn (BR Ay 2 [] O (CV (j:=4) O O O (fun H i hi=>A0 (i:=i) Gn O hi (Cj _)) AB Ap (BG O (fun _=>Ba O) Ap ?_)))));obtain⟨x,hx⟩:=A6 (l:=d.recs.rules) (i:=((CL ds mm).2.1:Int).toNat) An;have hro:=h3.ru _ (List.mem_of_getElem? hx);refine BG O (fun _=>A4 Bf O O An (Bd hx) (BD _)) Ap (BR Ay 3 [3] O (BG O (fun _=>BC O O (Mt x gl (B2.1 hro).nd (B2.1 hro).vp (by have:=FC hro;omega) hgl.2.1 hgl.2.2.1) O) Ap (BR Ay 3 [] O (HC [] O O (A7 Bx O) Aj fun b16=>⟨AB,Ap,?_⟩))));refine Bk Ay 2 [0,1] O (As (Au Ay 2 [] O (Av O (fun c1=>?_) (fun c1=>?_))))
 ·simp only[sd,se] at c1;have hce:=c1;refine Au Ay 3 [2,0] O (BH (BW (i:=2) O) (A1 (⟨O,_,_,⟨_,_,O,(BA (i:=2) BZ O O O),⟨_,_,O,O,O⟩⟩,(B8 (is:=[6]) O),?_⟩)));exact⟨⟨none,s⟩,DH (Mf (h:=(.mk gk gi gn gl gs:Tm)) hg1 hg2 hx hce),O,O⟩
 simp only[sd,se] at c1;have hce:=c1;refine A2 (Aw (Br O (Dm [6] O O O (.inl ⟨O,O,O⟩) (Oy m ds s h1) ⟨_,_,O,O,O⟩ Am (aw (we O) (E0)) (fun _ _ h=>(congrArg List.length h).trans O) ?_ ?_)))
 rotate_left
 ·intro e _ he;exact⟨O,_,List.nil_sublist _,⟨_,m8 (g:=(.mk gk gi gn gl gs:Tm)) h8 hg1 hg2 hx hce he,O⟩⟩
 rintro _ _ hz rfl;refine Bg O (As (Bt (fun k=>false) Dn (BR Ay 3 [0] O (CV (j:=5) O O O (fun H i hi=>A0 (i:=i) DM O hi (Cr _)) AB Ap (BR Ay 2 [] O (CV (j:=5) O O O (fun H i hi=>A0 (i:=i) H4 O hi (CC _)) AB Ap (BG O (fun _=>BJ Hc O (List.length_map _)) Ap (BG O (fun _=>Ld O O An An) Ap (BG O (fun _=>CZ (lo:=0) (hi:=(((d.fixed:Int)+(1:Int):Int)+((d.ctors.length:Nat):Int):Int).toNat) Bf O (CG (Bv _)) O ⟨_,pI An⟩ (Nat.zero_le _) AR (OE a ((((d.fixed:Int)+(1:Int):Int)+((d.ctors.length:Nat):Int):Int).toNat))) Ap (BG O (fun _=>BC O O (EK ((BY x gl).1) (a.take ((((d.fixed:Int)+(1:Int):Int)+((d.ctors.length:Nat):Int):Int).toNat)) (by simp only[DY,List.length_take];omega)) O) Ap ?_))))))))));refine Bk Ay 1 [0,1] O (Aw (Ax Ay 2 [0] O (Aq O (BC O O (EK (apply ((BY x gl).1) (a.take ((((d.fixed:Int)+(1:Int):Int)+((d.ctors.length:Nat):Int):Int).toNat))) ((CL ds mm).2.2.1) Ab) O) (Ar Ay 1 [0,1] O (As (Bt (fun k=>false) Dn (BR Ay 3 [0,5] O (BG O (fun _=>BC O O (OB d h3.din h3.fx) O) Ap (BG O (fun _=>Ld O O An An) Ap (BG O (fun _=>CZ (lo:=((CB d:Int)+(1:Int):Int).toNat) Bf O (CG (Bv _)) ⟨_,pI An⟩ O AR (Nat.le_refl _) (J0 a (((CB d:Int)+(1:Int):Int).toNat))) Ap (BG O (fun _=>BC O O (EK (apply (apply ((BY x gl).1) (a.take ((((d.fixed:Int)+(1:Int):Int)+((d.ctors.length:Nat):Int):Int).toNat))) ((CL ds mm).2.2.1)) (a.drop (((CB d:Int)+(1:Int):Int).toNat)) AS) O) Ap ?_)))))))))));refine Bk Ay 2 [2,1] O (A1 (⟨O,_,_,⟨_,_,O,(BA (i:=2) BZ O O Ag),⟨_,_,O,O,O⟩⟩,(B8 (is:=[6]) O),?_⟩));exact⟨⟨some _,s - 1⟩,DH (lS (g:=(.mk gk gi gn gl gs:Tm)) h8 hg1 hg2 hx hce hz),O,O⟩
def qo (ds:List B5) (n:Nat):Prop:=∀(m:Nat) (t:Tm) (s:Int),Gl s→DK ds Bp n s t≠ .stuck→Bn Tryz.prog 39 [.ptr m 0,.agg ((BP t).map .p)] [.box m [.p (.lst (List.map Bi ds)),.p (I s)]] (Lm (fun(r:Tm×Int)=>TV r.1) (fun _=> .p (.iface 122 .unit)) (fun r H'=>H'=[.box m [.p (.lst (List.map Bi ds)),.p (I r.2)]]) ((DK ds Bp n s t).ex))
theorem RV:∀(n k m:Nat) (ds:List B5) (t:ES) (vs:List Tm) (s:Int),(qo ds n)→(Ju ds)→(Gl s)→(Tg t vs)→(Dp ds Bp (DK ds Bp n) k t vs Bh s≠ .stuck)→Bn Tryz.prog 61 [.ptr m 0,.agg ((Cz t).map .p),.p (.lst (BE vs))] [.box m [.p (.lst (List.map Bi ds)),.p (I s)]] (Lm (fun(r:(Option (Tm×List Tm)×Tm)×Int)=> .tup [TV (KY r.1),.p (.lst (BE (N9 r.1))),.p (.bool r.1.1.isSome),TV r.1.2]) (fun _=> .p (.iface 122 .unit)) (fun r H'=>H'=[.box m [.p (.lst (List.map Bi ds)),.p (I r.2)]]) ((Dp ds Bp (DK ds Bp n) k t vs Bh s).ex)):=by
 intro n k m ds t vs s hW h2 h3 h4 hns;have h4l:=h4.len;generalize hX:Dp ds Bp (DK ds Bp n) k t vs Bh s=X at hns ⊢;refine A5 Tryz.func61 O vr (n:=76) O O (Aw (BF O (BN O) fun b4=>BF O (A7 Bx O) fun b6=>Ax Ay 2 [] O (BF O (A7 Bx O) fun b9=>Bg O (Aw (Br O (Nx O O O (.inl ⟨O,O,O⟩) (KW vs An) (.inl O) fun o cp=>Ar Ay 1 [] O (Aw (BF O (A7 Bx O) fun b11=>Bg O (As (A9 ?_))))))))));refine Bc (α:=Nat×ES×List Tm×Tm×Int×Option Nat×Nat) (fun(k2,w,us,l,d,o1,cp1)=>⟨76,mk [(0,.ptr m 0),(4,.ptr b4 0),(6,.ptr b6 0),(9,.ptr b9 0),(10,.vs o1 (BE us).length cp1),(11,.ptr b11 0)],[.box b11 ((BP l).map .p),.vec o1 5 (BE us) cp1,.box b9 [.p (I 0),.p (I 0),.p (.str ⟨#[]⟩),.p (.nils),.p (.nils)],.box b6 [.p (I 0),.p (I 0),.p (.str ⟨#[]⟩),.p (.nils),.p (.nils)],.box b4 ((Cz w).map .p),.box m [.p (.lst (List.map Bi ds)),.p (I d)]],[]⟩) (fun(k2,w,us,l,d,o1,cp1)=>k2) (fun(k2,w,us,l,d,o1,cp1)=>Dp ds Bp (DK ds Bp n) k2 w us l d=X∧Tg w us∧Gl d) ⟨k,t,vs,Bh,s,o,cp⟩ (⟨hX,h4,h3⟩) ?_ ?_
 ·exact BS ⟨we O,we O,we O,we O,we O,we O,Ap⟩ (leH (is:=[0,1,2,3,4,5]) O (wl (on (O)) (wl (oe O) (wl (oe O) (wl (oe O) (wl (oe O) (wl (oe O) (C2))))))))
 rintro⟨k2,w,us,l,d,o1,cp1⟩ hC
 try simp only at hC
 obtain⟨hC,hL,hJ⟩:=hC;obtain⟨k1,rfl⟩:=Uy hC hns;refine As (Aw (Aq O (Az FG O O) (Aq O (A0 (i:=4) DM O O (Gc _)) (Ar Ay 1 [] O (Av O (fun c=>?_) (fun c=>?_))))))
 ·simp only[sd,se] at c;have hk1:=c;refine A2 (A9 (As (As (BT [0,4,6,9,10,11] 31 (fun y=>y= .p (.bool ((decide ((w.var:Int)<(0:Int)))||(decide ((w.var:Int)≥((us.length:Nat):Int)))))) ?_ ?_))))
  ·refine A3 (Aq O (Az FG O O) (Aq O (A0 (i:=4) DM O O (DE _)) (Ax Ay 2 [] O (BO 25 O (fun g=>?_) (fun g=>?_)))))
   ·simp only[sd,se] at g;exact Ar Ay 6 [] O (⟨O,O,AM,AI,⟨O,O,O,O,O,O,Ap⟩⟩)
   simp only[sd,se] at g;exact BB O (Az FG O O) (BB O (A0 (i:=4) DM O O (DE _)) (BB O (Ba O) (BB O (Kj Bf O (BQ _)) (Ar Ay 2 [] O (⟨O,O,AM,AI,⟨O,O,O,O,O,O,Ap⟩⟩)))))
  rintro _ rfl;refine Av O (fun c1=>?_) (fun c1=>?_)
  ·simp only[sd,se] at c1;rw[JP hk1 (by simpa [Bp] using c1)] at hC;refine As (Bt (fun k=>false) Dn (Bk Ay 6 [0,3,0,2,1] O (BH (BW (i:=3) O) (BH (D3 7) (A1 (⟨O,_,_,⟨_,_,O,(BA (i:=3) BZ O O O),⟨_,_,O,O,⟨_,_,O,O,⟨_,_,O,(BA (i:=2) BZ O O Ag),O⟩⟩⟩⟩,(B8 (is:=[5]) O),?_⟩))))));exact⟨⟨(none,l),d⟩,DH hC.symm,O,O⟩
  simp only[sd,se] at c1;have hcb:=c1;refine A2 (Aw (Ax Ay 3 [] O (Aq O (A0 (i:=4) DM O O (DE _)) (M8 (i:=1) O Aa fun b hb=>?_))));subst hb;refine Aq O (C0 Bf O O An AH) ?_;obtain⟨y,hy⟩:=A6 (l:=us) (i:=(w.var:Int).toNat) AP;refine Aq O (Ei (i:=1) BZ O O (Bd hy)) ?_;rw[LW hk1 (by simpa [Bp] using hcb) hy] at hC;have hn0:=hns;rw[←hC] at hn0;have hn1:=WU hn0;refine Dm [5] O O O (.inl ⟨O,O,O⟩) (hW m y d hJ hn1) ⟨_,_,O,O,O⟩ Am (aw (we O) (aw (we O) (E0))) (fun _ _ h=>(congrArg List.length h).trans O) ?_ ?_
  rotate_left
  ·intro e _ he;exact⟨O,_,List.nil_sublist _,⟨_,by rw[←hC];exact WN hn0 he,rfl⟩⟩
  rintro⟨z,n2⟩ _ hz rfl;obtain⟨hr2,hr3⟩:=Vg hn0 hz;rw[hr3] at hC;have hJ2:=RO hJ (IV hz);refine Ar Ay 1 [0,1] O (Aw (Ax Ay 2 [0] O (Aq O (CE [5] O (.inl ⟨O,O,O⟩) (RG m ds n2 z h2 hr2) ⟨_,_,O,O,O⟩ Am O (.inl O)) (Ax Ay 5 [] O (BF O (A7 Jw O) fun b12=>Ar Ay 4 [0,1] O (As (Au Ay 2 [] O (Av O (fun c2=>?_) (fun c2=>?_)))))))))
  ·simp only[sd,se] at c2;rw[GW (Ob c2)] at hC;refine As (Bt (fun k=>false) Dn (Bk Ay 6 [1,4,0,3,1] O (BH (BW (i:=4) O) (BH (D3 7) (A1 (⟨O,_,_,⟨_,_,O,(BA (i:=4) BZ O O O),⟨_,_,O,O,⟨_,_,O,O,⟨_,_,O,(BA (i:=3) BZ O O Ag),O⟩⟩⟩⟩,(B8 (is:=[6]) O),?_⟩))))));exact⟨⟨(none,z),n2⟩,DH hC.symm,O,O⟩
  simp only[sd,se] at c2;have hcs:=M0 c2;have hcf:=Eo hcs;have hlo:=hcf.lo;have hhi:=hcf.hi;have hfl:=Io h2 hcs;refine A2 (As (Bt (fun k=>Nat.beq k 11) Dn (BR Ay 2 [5] O (CV (j:=0) O O O (fun H i hi=>A0 (i:=i) H4 O hi (CC _)) AB Ap (BG O (fun _=>Ba O) Ap ?_)))));obtain⟨x,hx⟩:=A6 (l:=((CL ds z).1).ctors) (i:=((CL ds z).2.1:Int).toNat) An;refine BG O (fun _=>A4 Hc O O An (Em hx) (EE _)) Ap (BG O (fun _=>B1 Jh O O) Ap (BG O (fun _=>DB MI O (Fg _)) Ap (BG O (fun _=>BC O O (Tx w x.name hL.tin.bl) O) Ap (BR Ay 3 [] O (HC [] O O (A7 Wx O) Aj fun b16=>⟨AB,Ap,?_⟩)))));refine Bk Ay 2 [0,1] O (As (Au Ay 2 [] O (Av O (fun c3=>?_) (fun c3=>?_))))
  ·simp only[sd,se] at c3;rw[Ia hcs (by rw[Df,B6 hx];exact Wq c3)] at hC;refine As (Bt (fun k=>false) Dn (Bk Ay 6 [2,5,0,4,1] O (BH (BW (i:=5) O) (BH (D3 7) (A1 (⟨O,_,_,⟨_,_,O,(BA (i:=5) BZ O O O),⟨_,_,O,O,⟨_,_,O,O,⟨_,_,O,(BA (i:=4) BZ O O Ag),O⟩⟩⟩⟩,(B8 (is:=[7]) O),?_⟩))))));exact⟨⟨(none,z),n2⟩,DH hC.symm,O,O⟩
  simp only[sd,se] at c3;have hbs:=W5 c3;rw[Ic hcs (by rw[Df,B6 hx];exact hbs)] at hC;refine A2 (Au Ay 2 [0,6,1] O (A3 (Ax Ay 2 [] O (FP O O (CR (i:=3) (rows':=BE ((CL ds z).2.2.1)) Bf Bf Bx O O O O O O (Bv _) (by have:=hL.len;simp only[BQ,List.length_append];omega) (Kc us ((CL ds z).2.2.1))) fun o2 cp2=>Ar Ay 1 [] O (⟨⟨k1,(e9 x.name w.branches).1,us++(CL ds z).2.2.1,z,n2,o2,cp2⟩,AW,⟨hC,hL.next h2 hr2 hcs hbs,hJ2⟩,BS ⟨we O,we O,we O,we O,we O,we O,Ap⟩ (leH (is:=[2,3,4,5,6,7]) O (wl (oe O) (wl (oe O) (wl (oe O) (wl (oe O) (wl (oe O) (wl (oe O) (C2))))))))⟩)))))
 simp only[sd,se] at c;have hk1:=c;rw[Hz hk1] at hC;refine Be (Aw (Aq O (Az FG O O) (Aq O (Bw (i:=4) BZ O O (E2 _) (BD _)) (Ar Ay 6 [3,1,2,0] O (BH (Ck (i:=1) [10,74,7] O (D5 ⟨O,O,O,Ap⟩)) (BH (BW (i:=1) O) (A1 (⟨O,_,_,⟨_,_,O,(BA (i:=2) BZ O O Ag),⟨_,_,O,O,⟨_,_,O,O,⟨_,_,O,(BA (i:=1) BZ O O O),O⟩⟩⟩⟩,(B8 (is:=[4]) O),?_⟩))))))));exact⟨⟨(some (w.body,us),Bh),d⟩,DH hC.symm,O,O⟩
theorem pO:∀(n m:Nat) (ds:List B5) (s:Int) (x:Fq) (g:Tm) (a:List Tm) (d:B5),(qo ds n)→(Ju ds)→(Gl s)→(ds[x.decl.toNat]?=some d)→(0≤x.decl)→(DG d)→(okB g=true)→(a.length<549755813888)→(∀y∈a,okB y=true)→(Qx ds Bp (DK ds Bp n) d g a s≠ .stuck)→Bn Tryz.prog 107 [.ptr m 0,.agg ((DS x).map .p),.agg ((BP g).map .p),.p (.lst (BE a))] [.box m [.p (.lst (List.map Bi ds)),.p (I s)]] (Lm (fun(r:Option Tm×Int)=> .tup [TV (r.1.getD Bh),.p (.bool r.1.isSome)]) (fun _=> .p (.iface 122 .unit)) (fun r H'=>H'=[.box m [.p (.lst (List.map Bi ds)),.p (I r.2)]]) ((Qx ds Bp (DK ds Bp n) d g a s).ex)):=by
 intro n m ds s x g a d hW h2 h3 h4 h5 h6 h7 h8 h9 hns;have hnr:=Ih h6;generalize hC:Qx ds Bp (DK ds Bp n) d g a s=X at hns ⊢;refine A5 Tryz.func107 O sH (n:=40) O O (Aw (BF O (BN O) fun b5=>BF O (BN O) fun b6=>BF O (A7 Bx O) fun b8=>Ar Ay 1 [] O (As (Bt (fun k=>Nat.beq k 8) Dn (BR Ay 5 [3] O (CV (j:=2) O O O (fun H i hi=>A0 (i:=i) DM O hi (DW _)) AB Ap (BG O (fun _=>A4 IF O O An (D8 h4) (Cp _)) Ap (BG O (fun _=>BM FZ O (Cp _)) Ap (HC [] O O (A7 Jw O) Aj fun b10=>⟨AB,Ap,?_⟩)))))))));refine Bk Ay 1 [0,1] O (Aw (Aq O (BU (i:=0) FZ O O Ad) (Aq O (BC O O (OB d h6.din h6.fx) O) (Ar Ay 1 [] O (As (Aw (Br O (Aq O (BJ Bf O (BQ _)) (Ar Ay 2 [] O (Av O (fun c=>?_) (fun c=>?_)))))))))))
 ·simp only[sd,se] at c;rw[Oo An] at hC;refine Au Ay 3 [1,0] O (BH (BW (i:=1) O) (A1 (⟨O,_,_,⟨_,_,O,(BA (i:=1) BZ O O O),⟨_,_,O,O,O⟩⟩,(B8 (is:=[4]) O),?_⟩)));exact⟨⟨none,s⟩,DH hC.symm,O,O⟩
 simp only[sd,se] at c;refine A2 (As (Bt (fun k=>Nat.beq k 9||Nat.beq k 10) Dn (BR Ay 7 [0,2] O ?_)));obtain⟨x1,hx1⟩:=A6 (l:=a) (i:=(CB d:Int).toNat) An;rw[RY An hx1] at hC;have hn0:=hns;rw[←hC] at hn0;have hn1:=WU hn0;refine BG O (fun _=>A4 Bf O O An (Bd hx1) (BD _)) Ap (BG O (fun _=>BM BZ O (BD _)) Ap (PX [4] O O O (.inl ⟨O,O,O⟩) (hW m x1 s h3 hn1) ⟨_,_,O,O,O⟩ Am (aw (we O) (aw (we O) (E0))) (fun _ _ h=>(congrArg List.length h).trans O) Aj Aj O AB ?_ ?_))
 rotate_left
 ·intro e he _ _ hτ;exact⟨O,_,List.nil_sublist _,⟨_,by rw[←hC];exact WN hn0 he,rfl⟩⟩
 rintro⟨z,n2⟩ _ hz rfl;refine⟨AB,Ap,?_⟩;obtain⟨hr2,hr3⟩:=Vg hn0 hz;rw[hr3] at hC;simp only at hC;have hJ2:=RO h3 (IV hz);refine PX [4] O O O (.inl ⟨O,O,O⟩) (V8 m ds n2 d g a z hJ2 h2 h6 h7 h8 hr2 An (by rw[hC];exact hns)) ⟨_,_,O,O,O⟩ Am (aw (we O) (aw (we O) (aw (we O) (aw (we O) (aw (we O) (E0)))))) (fun _ _ h=>(congrArg List.length h).trans O) Aj Aj O AB ?_ ?_
 rotate_left
 ·intro e he _ _ hτ;exact⟨O,_,List.nil_sublist _,⟨_,by rw[←hC];exact he,rfl⟩⟩
 rintro⟨q,n21⟩ _ hz1 rfl;refine⟨AB,Ap,?_⟩;have hfin:=hz1;refine Bk Ay 4 [1,1] O (A1 (⟨O,_,_,⟨_,_,O,(BA (i:=1) BZ O O Ag),⟨_,_,O,O,O⟩⟩,(B8 (is:=[4]) O),?_⟩));exact⟨⟨q,n21⟩,by rw[←hC];exact hfin,rfl,rfl⟩
theorem au:∀(m:Nat) (ds:List B5) (n:Int) (g p q:Tm),(Gl n)→(g.kind=9∨g.kind=10)→(p.kids[(1+g.kind - 9).toNat]?=some q)→Bn Tryz.prog 75 [.ptr m 0,.agg ((BP g).map .p),.agg ((BP p).map .p)] [.box m [.p (.lst (List.map Bi ds)),.p (I n)]] (Lm (fun(r:Tm×Int)=>TV r.1) (fun _=> .p (.iface 122 .unit)) (fun r H'=>H'=[.box m [.p (.lst (List.map Bi ds)),.p (I r.2)]]) (Ja n (q,0))):=by
 intro m ds n g p q h1 h2 h3;obtain⟨gk,gi,gn,gl,gs⟩:=g;obtain⟨pk,pi,pn,pl,ps⟩:=p;simp only[Tm.kind,Tm.kids] at h2 h3;refine A5 Tryz.func75 O vM (n:=17) O O (Aw (BF O (BN O) fun b4=>BF O (BN O) fun b5=>BF O (A7 Bx O) fun b6=>Bg O (Aw (Br O (Dm [3] O O O (.inl ⟨O,O,O⟩) (Oy m ds n h1) ⟨_,_,O,O,O⟩ Am (aw (we O) (E0)) (fun _ _ h=>(congrArg List.length h).trans O) ?_ ?_)))))
 rotate_left
 ·intro e _ he;exact⟨O,_,List.nil_sublist _,⟨_,ig he,O⟩⟩
 rintro _ _ hz rfl;refine Bg O (Aw (Ax Ay 6 [1,2] O (Aq O (A4 Bf O O An (Bd h3) (BD _)) (Ar Ay 2 [0,1] O (A1 (⟨O,_,_,⟨_,_,O,(BA (i:=0) BZ O O Ag),O⟩,(B8 (is:=[3]) O),?_⟩))))));exact⟨⟨q,n - 1⟩,uA hz,O,O⟩
theorem gI:∀(n m:Nat) (ds:List B5) (s:Int) (x:Fq) (g:Tm) (a:List Tm) (d:B5) (f:Hp),(qo ds n)→(Gi ds)→(Gl s)→(ds[x.decl.toNat]?=some d)→(0≤x.decl)→(d.funs[x.item.toNat]?=some f)→(0≤x.item)→(okB g=true)→(a.length<549755813888)→(∀y∈a,okB y=true)→(I0 ds Bp (DK ds Bp n) n f g a s≠ .stuck)→Bn Tryz.prog 108 [.ptr m 0,.agg ((DS x).map .p),.agg ((BP g).map .p),.p (.lst (BE a))] [.box m [.p (.lst (List.map Bi ds)),.p (I s)]] (Lm (fun(r:Option Tm×Int)=> .tup [TV (r.1.getD Bh),.p (.bool r.1.isSome)]) (fun _=> .p (.iface 122 .unit)) (fun r H'=>H'=[.box m [.p (.lst (List.map Bi ds)),.p (I r.2)]]) ((I0 ds Bp (DK ds Bp n) n f g a s).ex)):=by
 intro n m ds s x g a d f hW h2 h3 h4 h5 h6 h7 h8 h9 h10 hns;obtain⟨gk,gi,gn,gl,gs⟩:=g;have hgo:=B2.1 h8;have hgl:=hgo.nd;simp only[Nd,DY] at hgl;have hdm:=List.mem_of_getElem? h4;have hfm:=List.mem_of_getElem? h6;have hfa:=(h2.g.all _ hdm).fu _ hfm;generalize hC:I0 ds Bp (DK ds Bp n) n f (.mk gk gi gn gl gs:Tm) a s=X at hns ⊢;refine A5 Tryz.func108 O qc (n:=70) O O (Aw (BF O (BN O) fun b5=>BF O (BN O) fun b6=>BF O (A7 Bx O) fun b8=>Ar Ay 1 [] O (As (Bt (fun k=>Nat.beq k 13) Dn (BR Ay 5 [3] O (CV (j:=2) O O O (fun H i hi=>A0 (i:=i) DM O hi (DW _)) AB Ap (BG O (fun _=>A4 IF O O An (D8 h4) (Cp _)) Ap (BG O (fun _=>B1 C5 O O) Ap (BG O (fun _=>DB Hq O (CJ _)) Ap (BG O (fun _=>Az GO O O) Ap (CV (j:=2) O O O (fun H i hi=>A0 (i:=i) DM O hi (Fm _)) AB Ap (BG O (fun _=>A4 HV O O An (EZ h6) (DZ _)) Ap (BG O (fun _=>BM jN O (DZ _)) Ap (HC [] O O (A7 dR O) Aj fun b10=>⟨AB,Ap,?_⟩))))))))))))));refine Bk Ay 1 [0,1] O (As (Aw (Br O (Aq O (BJ Bf O (BQ _)) (Aq O (Az HE O O) (Aq O (A0 (i:=0) DM O O (CU _)) (Ar Ay 1 [] O (Av O (fun c=>?_) (fun c=>?_)))))))))
 ·simp only[sd,se] at c;rw[Ki An] at hC;refine Au Ay 3 [1,0] O (BH (BW (i:=1) O) (A1 (⟨O,_,_,⟨_,_,O,(BA (i:=1) BZ O O O),⟨_,_,O,O,O⟩⟩,(B8 (is:=[4]) O),?_⟩)));exact⟨⟨none,s⟩,DH hC.symm,O,O⟩
 simp only[sd,se] at c;have hl0:¬(a.length:Int)<f.arity:=by omega
 refine A2 (As ?_);rw[Kq hl0] at hC;have hn0:=hns;rw[←hC] at hn0;have hn1:=J2 hn0;obtain⟨e,he⟩ | ⟨⟨q,n2⟩,hz⟩:=Fy ((Dp ds Bp (DK ds Bp n) n f.tree (a.take ((f.arity:Int).toNat)) Bh s).ex)
 ·refine JD ((fun _=> .p (.iface 122 .unit)) e) 7 [.val (.ptr m 0),.val (.ptr b10 (0+7)),.val (.agg ((Cz f.tree).map .p)),.val (.p (.lst (BE a))),.val (.ptr b10 (0+6)),.val (.p (I f.arity)),.val (.p (.lst (BE (a.take ((f.arity:Int).toNat))))),.val (.p .any),.val (.p .any),.val (.p .any),.val (.p .any),.val (.p .any),.val (.p .any),.new [.p (I 0),.p (I 0),.p (.str ⟨#[]⟩),.p (.nils),.p (.nils)],.new [.p (I 0),.p (I 0),.p (.str ⟨#[]⟩),.p (.nils),.p (.nils)],.val (.p .any),.val (.p .any),.val (.p .any),.val (.p .any)] Dn O Aj O Ap (fun _ _=>by exact⟨rfl,_,List.nil_sublist _,⟨_,by rw[←hC];exact Kz hn0 he,rfl⟩⟩) ?_;refine CA O O (fun Bs=>Ba O) (CA O O (fun Bs=>Az HE O O) (CA O O (fun Bs=>Bw (i:=Bs.length+0) Jl O (CX O) (D1 _) (Co _)) (CA O O (fun Bs=>Ba O) (CA O O (fun Bs=>Az HE O O) (CA O O (fun Bs=>A0 (i:=Bs.length+0) DM O (CX O) (CU _)) (CA O O (fun Bs=>CZ (lo:=0) (hi:=(f.arity:Int).toNat) Bf O (CG (Bv _)) O ⟨_,pI An⟩ (Nat.zero_le _) AR (OE a ((f.arity:Int).toNat))) (LX (mkp:=(fun _=> .p (.iface 122 .unit))) (e:=e) [4] he O O (.inl ⟨O,O,O⟩) (RV n n m ds f.tree (a.take ((f.arity:Int).toNat)) s hW h2.g h3 (QZ h2 hdm hfm h10) hn1) ⟨_,_,O,O,O⟩ Am (aw (we O) (aw (we O) (aw (we O) (E0)))) (DD O O Aj (DD O O Aj (DD O O Aj (DD O O Aj (DD O O Aj ?_))))))))))));exact WB O O (fun Bs=>A7 Bx O) fun _=>WB O O (fun Bs=>A7 Bx O) fun _=>DD O O Aj (DD O O Aj (DD O O Aj (DD O O Aj LF)))
 rw[Mw hz] at hC;have hlo:=S4 h2.g _ _ _ _ _ _ _ (QZ h2 hdm hfm h10) (IV hz);have hJ2:=VH h3 (IV hz);refine IU [.box b10 ((FH f).map .p),.box b8 [.p (I 0),.p (I 0),.p (.str ⟨#[]⟩),.p (.nils),.p (.nils)],.box b6 [.p (I gk),.p (I gi),.p (.str gn),.p (.lst (List.map By gl)),.p (.lst (BE gs))],.box b5 ((DS x).map .p),.box m [.p (.lst (List.map Bi ds)),.p (I n2)]] 7 [.val (.ptr m 0),.val (.ptr b10 (0+7)),.val (.agg ((Cz f.tree).map .p)),.val (.p (.lst (BE a))),.val (.ptr b10 (0+6)),.val (.p (I f.arity)),.val (.p (.lst (BE (a.take ((f.arity:Int).toNat))))),.val (.tup [.agg ((BP (KY q)).map .p),.p (.lst (BE (N9 q))),.p (.bool q.1.isSome),.agg ((BP q.2).map .p)]),.val (.tup [.agg ((BP (KY q)).map .p),.p (.lst (BE (N9 q))),.p (.bool q.1.isSome),.agg ((BP q.2).map .p)]),.val (.agg ((BP (KY q)).map .p)),.val (.p (.lst (BE (N9 q)))),.val (.p (.bool q.1.isSome)),.val (.agg ((BP q.2).map .p)),.new [.p (I 0),.p (I 0),.p (.str ⟨#[]⟩),.p (.nils),.p (.nils)],.new [.p (I 0),.p (I 0),.p (.str ⟨#[]⟩),.p (.nils),.p (.nils)]] [.p .any,.p (.lst (BE (N9 q))),.p (.bool q.1.isSome),.p .any] [10,11,12] Dn O Aj Aj Aj O ?_;refine Bj O O (fun Bs=>Ba O) (Bj O O (fun Bs=>Az HE O O) (F7 O O O (fun Bs=>Bw (i:=Bs.length+0) Jl O (CX O) (D1 _) (Co _)) (fun _ Bs=>Bw (i:=Bs.length+0) Jl O (CX O) (D1 _) (Co _)) (Bj O O (fun Bs=>Ba O) (Bj O O (fun Bs=>Az HE O O) (F7 O O O (fun Bs=>A0 (i:=Bs.length+0) DM O (CX O) (CU _)) (fun _ Bs=>A0 (i:=Bs.length+0) DM O (CX O) (CU _)) (Bj O O (fun Bs=>CZ (lo:=0) (hi:=(f.arity:Int).toNat) Bf O (CG (Bv _)) O ⟨_,pI An⟩ (Nat.zero_le _) AR (OE a ((f.arity:Int).toNat))) ?_))))));refine KS O O (fun Bs=>G2 [4] O (.inl ⟨O,O,O⟩) (Lj hz (RV n n m ds f.tree (a.take ((f.arity:Int).toNat)) s hW h2.g h3 (QZ h2 hdm hfm h10) hn1)) ⟨_,_,O,O,O⟩ Am O (aw (we O) (aw (we O) (aw (we O) (E0))))) (Bj O O (fun Bs=>Ba O) (Bj O O (fun Bs=>DN O O) (Bj O O (fun Bs=>DN O O) (Bj O O (fun Bs=>DN O O) (Bj O O (fun Bs=>DN O O) (QB O O (fun Bs=>A7 Bx O) fun b11=>QB O O (fun Bs=>A7 Bx O) fun b14=>Hk ?_))))))
 refine Dq [.box b11 ((BP (KY q)).map .p),.box b14 [.p (I 0),.p (I 0),.p (.str ⟨#[]⟩),.p (.nils),.p (.nils)],.box b10 ((FH f).map .p),.box b8 [.p (I 0),.p (I 0),.p (.str ⟨#[]⟩),.p (.nils),.p (.nils)],.box b6 [.p (I gk),.p (I gi),.p (.str gn),.p (.lst (List.map By gl)),.p (.lst (BE gs))],.box b5 ((DS x).map .p),.box m [.p (.lst (List.map Bi ds)),.p (I n2)]] O (Cc (i:=0) BZ O O O Ag AY (FX _)) (Dq [.box b11 ((BP (KY q)).map .p),.box b14 [.p (I 0),.p (I 0),.p (.str ⟨#[]⟩),.p (.nils),.p (.nils)],.box b10 ((FH f).map .p),.box b8 [.p (I 0),.p (I 0),.p (.str ⟨#[]⟩),.p (.nils),.p (.nils)],.box b6 [.p (I gk),.p (I gi),.p (.str gn),.p (.lst (List.map By gl)),.p (.lst (BE gs))],.box b5 ((DS x).map .p),.box m [.p (.lst (List.map Bi ds)),.p (I n2)]] O (EC O) ?_);refine Dq [.box b11 ((BP (KY q)).map .p),.box b14 [.p (I 0),.p (I 0),.p (.str ⟨#[]⟩),.p (.nils),.p (.nils)],.box b10 ((FH f).map .p),.box b8 [.p (I 0),.p (I 0),.p (.str ⟨#[]⟩),.p (.nils),.p (.nils)],.box b6 [.p (I gk),.p (I gi),.p (.str gn),.p (.lst (List.map By gl)),.p (.lst (BE gs))],.box b5 ((DS x).map .p),.box m [.p (.lst (List.map Bi ds)),.p (I n2)]] O (EC O) (Dq [.box b11 ((BP (KY q)).map .p),.box b14 ((BP q.2).map .p),.box b10 ((FH f).map .p),.box b8 [.p (I 0),.p (I 0),.p (.str ⟨#[]⟩),.p (.nils),.p (.nils)],.box b6 [.p (I gk),.p (I gi),.p (.str gn),.p (.lst (List.map By gl)),.p (.lst (BE gs))],.box b5 ((DS x).map .p),.box m [.p (.lst (List.map Bi ds)),.p (I n2)]] O (Cc (i:=1) BZ O O O Ag AY (FX _)) (Jb (As (Au Ay 2 [] O (Av O (fun c1=>?_) (fun c1=>?_))))))
 ·simp only[sd,se] at c1;rw[Jo (.inl (by simpa using c1))] at hC;refine Au Ay 3 [3,0] O (BH (BW (i:=3) O) (A1 (⟨O,_,_,⟨_,_,O,(BA (i:=3) BZ O O O),⟨_,_,O,O,O⟩⟩,(B8 (is:=[6]) O),?_⟩)));exact⟨⟨none,n2⟩,DH hC.symm,O,O⟩
 simp only[sd,se] at c1;rw[LL (by simpa using c1) rfl] at hC;refine A2 (Aw (Ax Ay 3 [0,4] O (Aq O (BC O O (Mt (KY q) gl (B2.1 hlo.1).nd (B2.1 hlo.1).vp (by have:=FC hlo.1;omega) hgl.2.1 hgl.2.2.1) O) (Ar Ay 5 [0,1] O (As (Au Ay 2 [] O (Av O (fun c2=>?_) (fun c2=>?_))))))))
 ·simp only[sd,se] at c2;rw[Ig (h:=(.mk gk gi gn gl gs:Tm)) c2] at hC;refine Au Ay 3 [3,0] O (BH (BW (i:=3) O) (A1 (⟨O,_,_,⟨_,_,O,(BA (i:=3) BZ O O O),⟨_,_,O,O,O⟩⟩,(B8 (is:=[6]) O),?_⟩)));exact⟨⟨none,n2⟩,DH hC.symm,O,O⟩
 simp only[sd,se] at c2;obtain⟨hb1,hb2,hb3,hb4⟩:=RF (by rw[hC];exact hns) c2;rw[hb4] at hC;have hn3:=hns;rw[←hC] at hn3;refine A2 (As ?_);obtain⟨e,he⟩ | ⟨⟨z,n21⟩,hz1⟩:=Fy (Ja n2 (CD ((BY (KY q) gl).1) (N9 q).reverse 0))
 ·refine JD ((fun _=> .p (.iface 122 .unit)) e) 3 [.val (.ptr m 0),.val (.agg ((BP ((BY (KY q) gl).1)).map .p)),.val (.p (.lst (BE (N9 q)))),.val (.p .any),.val (.p (.lst (BE a))),.val (.ptr b10 (0+6)),.val (.p (I f.arity)),.val (.p (.lst (BE (a.drop ((f.arity:Int).toNat))))),.val (.p .any),.val (.p .any),.val (.p .any)] Dn O Aj O Ap (fun _ _=>by exact⟨rfl,_,List.nil_sublist _,⟨_,by rw[←hC];exact LQ hn3 he,rfl⟩⟩) ?_;exact CA O O (fun Bs=>Ba O) (CA O O (fun Bs=>BU (i:=Bs.length+0) BZ O (CX O) Ag) (CA O O (fun Bs=>Ba O) (LX (mkp:=(fun _=> .p (.iface 122 .unit))) (e:=e) [6] he O O (.inl ⟨O,O,O⟩) (RU m ds n2 ((BY (KY q) gl).1) (N9 q) hJ2 hb1 hb2 An) ⟨_,_,O,O,O⟩ Am (aw (we O) (aw (we O) (aw (we O) (E0)))) (CA O O (fun Bs=>Ba O) (CA O O (fun Bs=>Az HE O O) (CA O O (fun Bs=>A0 (i:=Bs.length+2) DM O (CX O) (CU _)) (CA O O (fun Bs=>CZ (lo:=(f.arity:Int).toNat) Bf O (CG (Bv _)) ⟨_,pI An⟩ O AR (Nat.le_refl _) (J0 a ((f.arity:Int).toNat))) (DD O O Aj (DD O O Aj (DD O O Aj LF))))))))))
 rw[LU hn3 hz1] at hC;refine IU [.box b11 ((BP ((BY (KY q) gl).1)).map .p),.box b14 ((BP q.2).map .p),.box b10 ((FH f).map .p),.box b8 [.p (I 0),.p (I 0),.p (.str ⟨#[]⟩),.p (.nils),.p (.nils)],.box b6 [.p (I gk),.p (I gi),.p (.str gn),.p (.lst (List.map By gl)),.p (.lst (BE gs))],.box b5 ((DS x).map .p),.box m [.p (.lst (List.map Bi ds)),.p (I n21)]] 3 [.val (.ptr m 0),.val (.agg ((BP ((BY (KY q) gl).1)).map .p)),.val (.p (.lst (BE (N9 q)))),.val (.agg ((BP z).map .p)),.val (.p (.lst (BE a))),.val (.ptr b10 (0+6)),.val (.p (I f.arity)),.val (.p (.lst (BE (a.drop ((f.arity:Int).toNat))))),.val (.agg ((BP (apply z (a.drop ((f.arity:Int).toNat)))).map .p))] [.p .any,.p (.bool true)] [] Dn O Aj Aj Aj O (Bj O O (fun Bs=>Ba O) ?_);refine F7 O O O (fun Bs=>BU (i:=Bs.length+0) BZ O (CX O) Ag) (fun _ Bs=>BU (i:=Bs.length+0) BZ O (CX O) Ag) (Bj O O (fun Bs=>Ba O) (KS O O (fun Bs=>G2 [6] O (.inl ⟨O,O,O⟩) (Lj hz1 (RU m ds n2 ((BY (KY q) gl).1) (N9 q) hJ2 hb1 hb2 An)) ⟨_,_,O,O,O⟩ Am O (aw (we O) (aw (we O) (aw (we O) (E0))))) (Bj O O (fun Bs=>Ba O) (Bj O O (fun Bs=>Az HE O O) (F7 O O O (fun Bs=>A0 (i:=Bs.length+2) DM O (CX O) (CU _)) (fun _ Bs=>A0 (i:=Bs.length+2) DM O (CX O) (CU _)) (Bj O O (fun Bs=>CZ (lo:=(f.arity:Int).toNat) Bf O (CG (Bv _)) ⟨_,pI An⟩ O AR (Nat.le_refl _) (J0 a ((f.arity:Int).toNat))) ?_))))));refine Bj O O (fun Bs=>BC O O (EK z (a.drop ((f.arity:Int).toNat)) AS) O) (Hk (Dq [.box b11 ((BP ((BY (KY q) gl).1)).map .p),.box b14 ((BP q.2).map .p),.box b10 ((FH f).map .p),.box b8 ((BP (apply z (a.drop ((f.arity:Int).toNat)))).map .p),.box b6 [.p (I gk),.p (I gi),.p (.str gn),.p (.lst (List.map By gl)),.p (.lst (BE gs))],.box b5 ((DS x).map .p),.box m [.p (.lst (List.map Bi ds)),.p (I n21)]] O (Cc (i:=3) BZ O O O Ag AY (FX _)) ?_));refine Dq [.box b11 ((BP ((BY (KY q) gl).1)).map .p),.box b14 ((BP q.2).map .p),.box b10 ((FH f).map .p),.box b8 ((BP (apply z (a.drop ((f.arity:Int).toNat)))).map .p),.box b6 [.p (I gk),.p (I gi),.p (.str gn),.p (.lst (List.map By gl)),.p (.lst (BE gs))],.box b5 ((DS x).map .p),.box m [.p (.lst (List.map Bi ds)),.p (I n21)]] O (EC O) (Jb (A1 (⟨O,_,_,⟨_,_,O,(BA (i:=3) BZ O O Ag),⟨_,_,O,O,O⟩⟩,(B8 (is:=[6]) O),?_⟩)));exact⟨⟨some _,_⟩,DH hC.symm,O,O⟩
set_option maxHeartbeats 4000000 in
theorem jt:∀(n m:Nat) (ds:List B5) (s:Int) (g:Tm) (a:List Tm),(qo ds n)→(Gi ds)→(Gl s)→(okB g=true)→(a.length<549755813888)→(∀y∈a,okB y=true)→(ED ds Bp (DK ds Bp n) n g a s≠ .stuck)→Bn Tryz.prog 76 [.ptr m 0,.agg ((BP g).map .p),.p (.lst (BE a))] [.box m [.p (.lst (List.map Bi ds)),.p (I s)]] (Lm (fun(r:Option Tm×Int)=> .tup [TV (r.1.getD Bh),.p (.bool r.1.isSome)]) (fun _=> .p (.iface 122 .unit)) (fun r H'=>H'=[.box m [.p (.lst (List.map Bi ds)),.p (I r.2)]]) ((ED ds Bp (DK ds Bp n) n g a s).ex)):=by
 intro n m ds s g a hW h2 h3 h4 h5 h6 hns;obtain⟨gk,gi,gn,gl,gs⟩:=g;have hgo:=B2.1 h4;have hgl:=hgo.nd;simp only[Nd,DY] at hgl;generalize hC:ED ds Bp (DK ds Bp n) n (.mk gk gi gn gl gs:Tm) a s=X at hns ⊢;refine A5 Tryz.func76 O vf (n:=40) O O (Aw (BF O (BN O) fun b4=>BF O (A7 Bx O) fun b6=>Ar Ay 1 [] O (Aw (Ax Ay 2 [1] O (Aq O (CE [2] O (.inl ⟨O,O,O⟩) (PZ m ds s (.mk gk gi gn gl gs:Tm) h2.g.env) ⟨_,_,O,O,O⟩ Am O (.inl O)) (Ax Ay 3 [] O (BF O (A7 IK O) fun b8=>Ar Ay 2 [0,1] O (As (Au Ay 2 [] O (Av O (fun c=>?_) (fun c=>?_)))))))))))
 ·simp only[sd,se] at c;rw[JT c] at hC;refine Au Ay 3 [1,0] O (BH (BW (i:=1) O) (A1 (⟨O,_,_,⟨_,_,O,(BA (i:=1) BZ O O O),⟨_,_,O,O,O⟩⟩,(B8 (is:=[3]) O),?_⟩)));exact⟨⟨none,s⟩,DH hC.symm,O,O⟩
 simp only[sd,se] at c;have hu:=c;obtain⟨ix,dd,e1,e2,e3,e4⟩:=JS hu;have hde:=e2.decl;have hdg:=h2.g.all _ e3;have hel:=h2.g.env.len;have hil:=(List.getElem?_eq_some_iff.1 e1).1;have hfx:=hdg.fx;have hnr:=Ih hdg;have hcl:=hdg.din.cl;have hfl:=hdg.din.fl;have hki:=e2.kind;have hkp:(Bb ds (Tm.mk gk gi gn gl gs).name).1.kind=0∨(Bb ds (Tm.mk gk gi gn gl gs).name).1.kind=1∨(Bb ds (Tm.mk gk gi gn gl gs).name).1.kind=2∨(Bb ds (Tm.mk gk gi gn gl gs).name).1.kind=3∨(Bb ds (Tm.mk gk gi gn gl gs).name).1.kind=4∨(Bb ds (Tm.mk gk gi gn gl gs).name).1.kind=5∨(Bb ds (Tm.mk gk gi gn gl gs).name).1.kind=6:=by omega
 refine A2 (As ?_);rcases hkp with hkk | hkk | hkk | hkk | hkk | hkk | hkk
 ·refine A3 (Ax Ay 6 [] O (Aq O (EJ KD KA S9 O) (Aq O (Az GO O O) (Aq O (A0 (i:=0) DM O O (DV _)) (Aq O (E9 (j:=0) KD KA O O (hkk) O Am) (Ar Ay 1 [] O (As (Aw (Br O (Aq O (HF Aj (.inl ⟨O,O⟩) O) (Bg O ?_)))))))))));refine Av O (fun c1=>?_) (fun c1=>by cases c1);refine Aw ?_;rw[Ip hu An An An] at hC;refine Ar Ay 3 [1,0] O (BH (BW (i:=1) O) (A1 (⟨O,_,_,⟨_,_,O,(BA (i:=1) BZ O O O),⟨_,_,O,O,O⟩⟩,(B8 (is:=[3]) O),?_⟩)));exact⟨⟨none,s⟩,DH hC.symm,O,O⟩
 ·refine A3 (Ax Ay 6 [] O (Aq O (EJ KD KA S9 O) (Aq O (Az GO O O) (Aq O (A0 (i:=0) DM O O (DV _)) (Aq O (E9 (j:=1) KD KA O O (hkk) O Am) (Ar Ay 1 [] O (As (Aw (Br O (Aq O (HF Aj (.inr ⟨⟨_,_,_,O⟩,O⟩) O) (Bg O ?_)))))))))));refine Av O (fun c1=>by cases c1) (fun c1=>?_);refine A2 (Aw (Ax Ay 4 [0,2] O ?_));rw[JI hu e4 hkk] at hC;refine Dm [3] O O O (.inr O) (YJ m ds s ((Bb ds (.mk gk gi gn gl gs:Tm).name).1) (.mk gk gi gn gl gs:Tm) a dd h3 e4 An hdg h4 h5 (by rw[hC];exact hns)) ⟨_,_,O,O,O⟩ Am (aw (we O) (aw (we O) (aw (we O) (aw (we O) (E0))))) (fun _ _ h=>(congrArg List.length h).trans O) ?_ ?_
  rotate_left
  ·intro e _ he;exact⟨O,_,List.nil_sublist _,⟨_,by rw[←hC];exact he,rfl⟩⟩
  rintro⟨q,n2⟩ _ hz rfl;have hfin:=hz;refine Ar Ay 4 [1,1] O (A1 (⟨O,_,_,⟨_,_,O,(BA (i:=1) BZ O O Ag),⟨_,_,O,O,O⟩⟩,(B8 (is:=[3]) O),?_⟩));exact⟨⟨q,n2⟩,by rw[←hC];exact hfin,rfl,rfl⟩
 ·refine A3 (Ax Ay 6 [] O (Aq O (EJ KD KA S9 O) (Aq O (Az GO O O) (Aq O (A0 (i:=0) DM O O (DV _)) (Aq O (E9 (j:=2) KD KA O O (hkk) O Am) (Ar Ay 1 [] O (As (Aw (Br O (Aq O (HF Aj (.inl ⟨O,O⟩) O) (Bg O ?_)))))))))));refine Av O (fun c1=>?_) (fun c1=>by cases c1);refine Aw ?_;rw[Ip hu An An An] at hC;refine Ar Ay 3 [1,0] O (BH (BW (i:=1) O) (A1 (⟨O,_,_,⟨_,_,O,(BA (i:=1) BZ O O O),⟨_,_,O,O,O⟩⟩,(B8 (is:=[3]) O),?_⟩)));exact⟨⟨none,s⟩,DH hC.symm,O,O⟩
 ·refine A3 (Ax Ay 6 [] O (Aq O (EJ KD KA S9 O) (Aq O (Az GO O O) (Aq O (A0 (i:=0) DM O O (DV _)) (Aq O (E9 (j:=3) KD KA O O (hkk) O Am) (Ar Ay 1 [] O (As (Aw (Br O (Aq O (HF Aj (.inl ⟨O,O⟩) O) (Bg O ?_)))))))))));refine Av O (fun c1=>?_) (fun c1=>by cases c1);refine Aw ?_;rw[Ip hu An An An] at hC;refine Ar Ay 3 [1,0] O (BH (BW (i:=1) O) (A1 (⟨O,_,_,⟨_,_,O,(BA (i:=1) BZ O O O),⟨_,_,O,O,O⟩⟩,(B8 (is:=[3]) O),?_⟩)));exact⟨⟨none,s⟩,DH hC.symm,O,O⟩
 ·refine A3 (Ax Ay 6 [] O (Aq O (EJ KD KA S9 O) (Aq O (Az GO O O) (Aq O (A0 (i:=0) DM O O (DV _)) (Aq O (E9 (j:=4) KD KA O O (hkk) O Am) (Ar Ay 1 [] O (As (Aw (Br O (Aq O (HF Aj (.inl ⟨O,O⟩) O) (Bg O ?_)))))))))));refine Av O (fun c1=>?_) (fun c1=>by cases c1);refine Aw ?_;rw[Ip hu An An An] at hC;refine Ar Ay 3 [1,0] O (BH (BW (i:=1) O) (A1 (⟨O,_,_,⟨_,_,O,(BA (i:=1) BZ O O O),⟨_,_,O,O,O⟩⟩,(B8 (is:=[3]) O),?_⟩)));exact⟨⟨none,s⟩,DH hC.symm,O,O⟩
 ·refine A3 (Ax Ay 6 [] O (Aq O (EJ KD KA S9 O) (Aq O (Az GO O O) (Aq O (A0 (i:=0) DM O O (DV _)) (Aq O (E9 (j:=5) KD KA O O (hkk) O Am) (Ar Ay 1 [] O (As (Aw (Br O (Aq O (HF Aj (.inr ⟨⟨_,_,_,O⟩,O⟩) O) (Bg O ?_)))))))))));refine Av O (fun c1=>by cases c1) (fun c1=>?_);refine A2 (Aw (Ax Ay 4 [0,2] O ?_));rw[Hx hu e4 hkk] at hC;refine Dm [3] O O O (.inr O) (pO n m ds s ((Bb ds (.mk gk gi gn gl gs:Tm).name).1) (.mk gk gi gn gl gs:Tm) a dd hW h2.g h3 e4 An hdg h4 h5 h6 (by rw[hC];exact hns)) ⟨_,_,O,O,O⟩ Am (aw (we O) (aw (we O) (aw (we O) (aw (we O) (E0))))) (fun _ _ h=>(congrArg List.length h).trans O) ?_ ?_
  rotate_left
  ·intro e _ he;exact⟨O,_,List.nil_sublist _,⟨_,by rw[←hC];exact he,rfl⟩⟩
  rintro⟨q,n2⟩ _ hz rfl;have hfin:=hz;refine Ar Ay 4 [1,1] O (A1 (⟨O,_,_,⟨_,_,O,(BA (i:=1) BZ O O Ag),⟨_,_,O,O,O⟩⟩,(B8 (is:=[3]) O),?_⟩));exact⟨⟨q,n2⟩,by rw[←hC];exact hfin,rfl,rfl⟩
 refine A3 (Ax Ay 6 [] O (Aq O (EJ KD KA S9 O) (Aq O (Az GO O O) (Aq O (A0 (i:=0) DM O O (DV _)) (Aq O (E9 (j:=6) KD KA O O (hkk) O Am) (Ar Ay 1 [] O (As (Aw (Br O (Aq O (HF Aj (.inr ⟨⟨_,_,_,O⟩,O⟩) O) (Bg O ?_)))))))))));refine Av O (fun c1=>by cases c1) (fun c1=>?_);refine A2 (Aw (Ax Ay 4 [0,2] O ?_));obtain⟨fk,ff,f1,f2⟩:=e2.func hkk;have hff:dd.funs[(Bb ds (Tm.mk gk gi gn gl gs).name).1.item.toNat]?=some ff:=by rw[f2];simpa using f1
 rw[HM hu e4 hkk hff] at hC;refine Dm [3] O O O (.inr O) (gI n m ds s ((Bb ds (.mk gk gi gn gl gs:Tm).name).1) (.mk gk gi gn gl gs:Tm) a dd ff hW h2 h3 e4 An hff An h4 h5 h6 (by rw[hC];exact hns)) ⟨_,_,O,O,O⟩ Am (aw (we O) (aw (we O) (aw (we O) (aw (we O) (E0))))) (fun _ _ h=>(congrArg List.length h).trans O) ?_ ?_
 rotate_left
 ·intro e _ he;exact⟨O,_,List.nil_sublist _,⟨_,by rw[←hC];exact he,rfl⟩⟩
 rintro⟨q,n2⟩ _ hz rfl;have hfin:=hz;refine Ar Ay 4 [1,1] O (A1 (⟨O,_,_,⟨_,_,O,(BA (i:=1) BZ O O Ag),⟨_,_,O,O,O⟩⟩,(B8 (is:=[3]) O),?_⟩));exact⟨⟨q,n2⟩,by rw[←hC];exact hfin,rfl,rfl⟩
theorem wo (t:Tm):∀c∈BP t,c≠ .nils:=by obtain⟨k,i,n,l,s⟩:=t;simp[BP]
theorem E6 (l:List Tm):∀r∈BE l,∀c∈r,c≠ .nils:=by
 intro r hr;rw[EL] at hr;obtain⟨t,_,rfl⟩:=List.mem_map.1 hr;exact wo t
set_option maxHeartbeats 4000000 in
theorem Oi:∀(ds:List B5) (hE:Gi ds) (n:Nat),qo ds n:=by
 intro ds hE n
 induction n using Nat.strongRecOn with
 | ind n ih =>
  intro m t s h1 hns;generalize hX:DK ds Bp n s t=X at hns ⊢;refine A5 Tryz.func39 O vh (n:=95) O O (Aw (BF O (BN O) fun b3=>BF O (A7 Bx O) fun b4=>Bg O (A9 (Bc (α:=Nat×Tm×Int) (fun(k2,w,d)=>⟨95,mk [(0,.ptr m 0),(3,.ptr b3 0),(4,.ptr b4 0)],[.box b4 [.p (I 0),.p (I 0),.p (.str ⟨#[]⟩),.p (.nils),.p (.nils)],.box b3 ((BP w).map .p),.box m [.p (.lst (List.map Bi ds)),.p (I d)]],[]⟩) (fun(k2,w,d)=>k2) (fun(k2,w,d)=>DK ds Bp k2 d w=X∧Gl d∧k2≤n) ⟨n,t,s⟩ (⟨hX,h1,Nat.le_refl _⟩) ?_ ?_))))
  ·exact BS ⟨we O,we O,we O,Ap⟩ (leH (is:=[0,1,2]) O (wl (oe O) (wl (oe O) (wl (oe O) (C2)))))
  rintro⟨k2,w,d⟩ hC
  try simp only at hC
  obtain⟨hC,hJ,hmn⟩:=hC;obtain⟨k,rfl⟩:=bW hC hns;have hwo:=VO hC hns;have hsp:=YI hwo;have hsl:=hsp.len;have hss:=hsp.sz;have hsa:=hsp.asz;refine A9 (Aw (Aq O (BU (i:=1) BZ O O Ag) (Aq O (BC O O (Ma w hsp.nd Ab) O) (Ax Ay 3 [] O (BF O (A7 Bx O) fun b5=>Ar Ay 2 [0,1] O (As (Aw (Br O (Aq O (BJ Bf O (BQ _)) (Ar Ay 1 [] O (Av O (fun c=>?_) (fun c=>?_))))))))))))
  ·simp only[sd,se] at c;exact A3 (Aq O (CO fM bK O) (Aq O (JW Aj O) (PA O O (Mi O) (⟨O,_,List.nil_sublist _,⟨_,kI (hC.symm.trans (Vn hwo O (by simp only[Bp];exact decide_eq_true An))),O⟩⟩))))
  simp only[sd,se] at c;have hmany:Bp.many (A8 w).2.length=false:=by simp only[Bp];exact decide_eq_false An
  refine A2 (Aw (Aq O (Az HJ O O) ?_));generalize hz:(A8 w).1=z;obtain⟨zk,zi,zn,zl,zs⟩:=z;have hzo:okB (.mk zk zi zn zl zs)=true:=hz▸hsp.head;have hzq:=hz;have hzl:=Jp hzo;have hzn:=(B2.1 hzo).nd;refine Ar Ay 1 [0] O (A9 (Au Ay 2 [] O (Av O (fun c1=>?_) (fun c1=>?_))))
  ·simp only[sd,se] at c1;have hk:=(congrArg Tm.kind hzq).trans c1;refine As (Aw (Br O (Aq O (BJ Bf O (BQ _)) (Ar Ay 1 [] O (Av O (fun c2=>?_) (fun c2=>?_))))))
   ·simp only[sd,se] at c2;rw[My hwo rfl hmany hk An] at hC;refine Au Ay 2 [2,1,1] O (A1 (⟨O,_,_,⟨_,_,O,(BA (i:=1) BZ O O Ag),O⟩,(B8 (is:=[3]) O),?_⟩));exact⟨⟨_,_⟩,DH hC.symm,O,O⟩
   simp only[sd,se] at c2;refine A2 ?_;obtain⟨x,hx⟩:=A6 (l:=zs) (i:=1) An;obtain⟨x1,hx1⟩:=A6 (l:=(A8 w).2) (i:=0) An;have hxo:=ER hzo (i:=1) hx;have hx1o:=hsp.args _ (List.mem_of_getElem? hx1);rw[QC hwo rfl hmany hk An (by rw[hzq];exact hx),nA hx1] at hC;have hn3:=hns;rw[←hC] at hn3;obtain⟨e,he⟩ | ⟨⟨z1,n2⟩,hz⟩:=Fy (Ja d (CD x [x1] 0))
   ·refine JD ((fun _=> .p (.iface 122 .unit)) e) 9 [.val (.ptr m 0),.val (.ptr b5 (0+4)),.val (.p (.lst (BE zs))),.val (.ref (BP x)),.val (.agg ((BP x).map .p)),.val (.p (.lst (BE ((A8 w).2)))),.val (.ref (BP x1)),.val (.agg ((BP x1).map .p)),.val (.p (.lst (BE [x1]))),.val (.p .any),.val (.p (.lst (BE ((A8 w).2)))),.val (.p (.lst (BE (((A8 w).2).drop 1)))),.val (.p .any),.val (.p .any)] Dn O Aj O Ap (fun _ _=>by exact⟨rfl,_,List.nil_sublist _,⟨_,by rw[←hC];exact LQ hn3 he,rfl⟩⟩) ?_;refine CA O O (fun Bs=>Ba O) (CA O O (fun Bs=>Az HJ O O) (CA O O (fun Bs=>B7 (i:=Bs.length+0) Gn O (CX O) O) (CA O O (fun Bs=>A4 Bf O O An (Bd hx) (BD _)) (CA O O (fun Bs=>BM BZ O (BD _)) (CA O O (fun Bs=>Ba O) (CA O O (fun Bs=>A4 Bf O O An (Bd hx1) (BD _)) (CA O O (fun Bs=>BM BZ O (BD _)) (CA O O (fun Bs=>Bu (rows:=BE [x1]) Bf Bx O O O O (CG (Bv _)) (E6 _)) (LX (mkp:=(fun _=> .p (.iface 122 .unit))) (e:=e) [3] he O O (.inl ⟨O,O,O⟩) (Lf m ds d x [x1] hJ hxo (ok_one hx1o) J4) ⟨_,_,O,O,O⟩ Am (aw (we O) (aw (we O) (aw (we O) (E0)))) (CA O O (fun Bs=>Ba O) ?_))))))))));exact CA O O (fun Bs=>CZ (lo:=1) Bf O (CG (Bv _)) ⟨_,O⟩ O AR (Nat.le_refl _) (J0 ((A8 w).2) 1)) (DD O O Aj (DD O O Aj LF))
   rw[LU hn3 hz] at hC;have hJ3:=(Rb hJ hz).1;refine IU [.box b5 [.p (I zk),.p (I zi),.p (.str zn),.p (.lst (List.map By zl)),.p (.lst (BE zs))],.box b4 [.p (I 0),.p (I 0),.p (.str ⟨#[]⟩),.p (.nils),.p (.nils)],.box b3 ((BP w).map .p),.box m [.p (.lst (List.map Bi ds)),.p (I n2)]] 9 [.val (.ptr m 0),.val (.ptr b5 (0+4)),.val (.p (.lst (BE zs))),.val (.ref (BP x)),.val (.agg ((BP x).map .p)),.val (.p (.lst (BE ((A8 w).2)))),.val (.ref (BP x1)),.val (.agg ((BP x1).map .p)),.val (.p (.lst (BE [x1]))),.val (.agg ((BP z1).map .p)),.val (.p (.lst (BE ((A8 w).2)))),.val (.p (.lst (BE (((A8 w).2).drop 1)))),.val (.agg ((BP (apply z1 (((A8 w).2).drop 1))).map .p))] [.p .any] [] Dn O Aj Aj Aj O (Bj O O (fun Bs=>Ba O) (Bj O O (fun Bs=>Az HJ O O) ?_));refine F7 O O O (fun Bs=>B7 (i:=Bs.length+0) Gn O (CX O) O) (fun _ Bs=>B7 (i:=Bs.length+0) Gn O (CX O) O) (Bj O O (fun Bs=>A4 Bf O O An (Bd hx) (BD _)) (Bj O O (fun Bs=>BM BZ O (BD _)) (Bj O O (fun Bs=>Ba O) (Bj O O (fun Bs=>A4 Bf O O An (Bd hx1) (BD _)) (Bj O O (fun Bs=>BM BZ O (BD _)) (Bj O O (fun Bs=>Bu (rows:=BE [x1]) Bf Bx O O O O (CG (Bv _)) (E6 _)) (KS O O (fun Bs=>G2 [3] O (.inl ⟨O,O,O⟩) (Lj hz (Lf m ds d x [x1] hJ hxo (ok_one hx1o) J4)) ⟨_,_,O,O,O⟩ Am O (aw (we O) (aw (we O) (aw (we O) (E0))))) (Bj O O (fun Bs=>Ba O) ?_))))))));refine Bj O O (fun Bs=>CZ (lo:=1) Bf O (CG (Bv _)) ⟨_,O⟩ O AR (Nat.le_refl _) (J0 ((A8 w).2) 1)) (Bj O O (fun Bs=>BC O O (EK z1 (((A8 w).2).drop 1) AS) O) (Hk (Dq [.box b5 [.p (I zk),.p (I zi),.p (.str zn),.p (.lst (List.map By zl)),.p (.lst (BE zs))],.box b4 [.p (I 0),.p (I 0),.p (.str ⟨#[]⟩),.p (.nils),.p (.nils)],.box b3 ((BP (apply z1 (((A8 w).2).drop 1))).map .p),.box m [.p (.lst (List.map Bi ds)),.p (I n2)]] O (Cc (i:=2) BZ O O O Ag AY (FX _)) (Jb ?_))));refine⟨⟨k,(apply z1 (((A8 w).2).drop 1)),n2⟩,AW,⟨hC,by assumption,by omega⟩,BS ⟨we rfl,we rfl,we rfl,trivial⟩ (leH (is:=[1,2,3]) rfl (wl (oe rfl) (wl (oe rfl) (wl (oe rfl) (C2)))))⟩
  simp only[sd,se] at c1;refine Au Ay 2 [] O (Av O (fun c2=>?_) (fun c2=>?_))
  ·simp only[sd,se] at c2;have hk:=(congrArg Tm.kind hzq).trans c2;obtain⟨x,hx⟩:=A6 (l:=zs) (i:=2) An;obtain⟨x1,hx1⟩:=A6 (l:=zs) (i:=1) An;have hxo:=ER hzo (i:=2) hx;have hx1o:=ER hzo (i:=1) hx1;rw[PQ hwo rfl hmany hk (by rw[hzq];exact hx1) (by rw[hzq];exact hx)] at hC;have hn3:=hns;rw[←hC] at hn3;obtain⟨e,he⟩ | ⟨⟨z1,n2⟩,hz⟩:=Fy (Ja d (CD x [x1] 0))
   ·refine JD ((fun _=> .p (.iface 122 .unit)) e) 10 [.val (.ptr m 0),.val (.ptr b5 (0+4)),.val (.p (.lst (BE zs))),.val (.ref (BP x)),.val (.agg ((BP x).map .p)),.val (.ptr b5 (0+4)),.val (.p (.lst (BE zs))),.val (.ref (BP x1)),.val (.agg ((BP x1).map .p)),.val (.p (.lst (BE [x1]))),.val (.p .any),.val (.p (.lst (BE ((A8 w).2)))),.val (.p .any),.val (.p .any)] Dn O Aj O Ap (fun _ _=>by exact⟨rfl,_,List.nil_sublist _,⟨_,by rw[←hC];exact LQ hn3 he,rfl⟩⟩) ?_;refine CA O O (fun Bs=>Ba O) (CA O O (fun Bs=>Az HJ O O) (CA O O (fun Bs=>B7 (i:=Bs.length+0) Gn O (CX O) O) (CA O O (fun Bs=>A4 Bf O O An (Bd hx) (BD _)) (CA O O (fun Bs=>BM BZ O (BD _)) (CA O O (fun Bs=>Az HJ O O) (CA O O (fun Bs=>B7 (i:=Bs.length+0) Gn O (CX O) O) (CA O O (fun Bs=>A4 Bf O O An (Bd hx1) (BD _)) (CA O O (fun Bs=>BM BZ O (BD _)) (CA O O (fun Bs=>Bu (rows:=BE [x1]) Bf Bx O O O O (CG (Bv _)) (E6 _)) (LX (mkp:=(fun _=> .p (.iface 122 .unit))) (e:=e) [3] he O O (.inl ⟨O,O,O⟩) (Lf m ds d x [x1] hJ hxo (ok_one hx1o) J4) ⟨_,_,O,O,O⟩ Am (aw (we O) (aw (we O) (aw (we O) (E0)))) ?_))))))))));exact CA O O (fun Bs=>Ba O) (DD O O Aj (DD O O Aj LF))
   rw[LU hn3 hz] at hC;have hJ3:=(Rb hJ hz).1;refine IU [.box b5 [.p (I zk),.p (I zi),.p (.str zn),.p (.lst (List.map By zl)),.p (.lst (BE zs))],.box b4 [.p (I 0),.p (I 0),.p (.str ⟨#[]⟩),.p (.nils),.p (.nils)],.box b3 ((BP w).map .p),.box m [.p (.lst (List.map Bi ds)),.p (I n2)]] 10 [.val (.ptr m 0),.val (.ptr b5 (0+4)),.val (.p (.lst (BE zs))),.val (.ref (BP x)),.val (.agg ((BP x).map .p)),.val (.ptr b5 (0+4)),.val (.p (.lst (BE zs))),.val (.ref (BP x1)),.val (.agg ((BP x1).map .p)),.val (.p (.lst (BE [x1]))),.val (.agg ((BP z1).map .p)),.val (.p (.lst (BE ((A8 w).2)))),.val (.agg ((BP (apply z1 ((A8 w).2))).map .p))] [.p .any] [] Dn O Aj Aj Aj O (Bj O O (fun Bs=>Ba O) (Bj O O (fun Bs=>Az HJ O O) ?_));refine F7 O O O (fun Bs=>B7 (i:=Bs.length+0) Gn O (CX O) O) (fun _ Bs=>B7 (i:=Bs.length+0) Gn O (CX O) O) (Bj O O (fun Bs=>A4 Bf O O An (Bd hx) (BD _)) (Bj O O (fun Bs=>BM BZ O (BD _)) (Bj O O (fun Bs=>Az HJ O O) (F7 O O O (fun Bs=>B7 (i:=Bs.length+0) Gn O (CX O) O) (fun _ Bs=>B7 (i:=Bs.length+0) Gn O (CX O) O) (Bj O O (fun Bs=>A4 Bf O O An (Bd hx1) (BD _)) (Bj O O (fun Bs=>BM BZ O (BD _)) (Bj O O (fun Bs=>Bu (rows:=BE [x1]) Bf Bx O O O O (CG (Bv _)) (E6 _)) ?_)))))));refine KS O O (fun Bs=>G2 [3] O (.inl ⟨O,O,O⟩) (Lj hz (Lf m ds d x [x1] hJ hxo (ok_one hx1o) J4)) ⟨_,_,O,O,O⟩ Am O (aw (we O) (aw (we O) (aw (we O) (E0))))) (Bj O O (fun Bs=>Ba O) (Bj O O (fun Bs=>BC O O (EK z1 ((A8 w).2) AS) O) (Hk (Dq [.box b5 [.p (I zk),.p (I zi),.p (.str zn),.p (.lst (List.map By zl)),.p (.lst (BE zs))],.box b4 [.p (I 0),.p (I 0),.p (.str ⟨#[]⟩),.p (.nils),.p (.nils)],.box b3 ((BP (apply z1 ((A8 w).2))).map .p),.box m [.p (.lst (List.map Bi ds)),.p (I n2)]] O (Cc (i:=2) BZ O O O Ag AY (FX _)) (Jb ?_)))));refine⟨⟨k,(apply z1 ((A8 w).2)),n2⟩,AW,⟨hC,by assumption,by omega⟩,BS ⟨we rfl,we rfl,we rfl,trivial⟩ (leH (is:=[1,2,3]) rfl (wl (oe rfl) (wl (oe rfl) (wl (oe rfl) (C2)))))⟩
  simp only[sd,se] at c2;refine As (Au Ay 2 [] O (BT [0,3,4,5,6,21] 57 (fun y=>y= .p (.bool (decide (zk=9∨zk=10)))) ?_ ?_))
  ·refine Av O (fun c3=>?_) (fun c3=>?_)
   ·simp only[sd,se] at c3;exact A2 (⟨O,O,(List.Sublist.refl _),(by refine pB (Bool.eq_iff_iff.2 ?_);simp only[beq_iff_eq,decide_eq_true_eq];omega),⟨O,O,O,O,O,O,Ap⟩⟩)
   simp only[sd,se] at c3;exact A3 (Ar Ay 2 [] O (⟨O,O,(List.Sublist.refl _),(by refine pB (Bool.eq_iff_iff.2 ?_);simp only[beq_iff_eq,decide_eq_true_eq];omega),⟨O,O,O,O,O,O,Ap⟩⟩))
  rintro _ rfl;refine Av O (fun c3=>?_) (fun c3=>?_)
  ·simp only[sd,se] at c3;have hk9:zk=9∨zk=10:=by simpa using c3
   refine Aw (Ax Ay 3 [0] O ?_);obtain⟨x,hx⟩:=A6 (l:=zs) (i:=0) An;rw[Ml hwo rfl hmany (by rw[hzq];exact hk9) (by rw[hzq];exact hx)] at hC;have hn0:=hns;rw[←hC] at hn0;have hn1:=WU hn0;refine Aq O (A4 Bf O O An (Bd hx) (BD _)) (Aq O (BM BZ O (BD _)) (Dm [3] O O O (.inl ⟨O,O,O⟩) (ih k An m x d hJ hn1) ⟨_,_,O,O,O⟩ Am (aw (we O) (aw (we O) (E0))) (fun _ _ h=>(congrArg List.length h).trans O) ?_ ?_))
   rotate_left
   ·intro e _ he;exact⟨O,_,List.nil_sublist _,⟨_,by rw[←hC];exact WN hn0 he,rfl⟩⟩
   rintro⟨pr,n2⟩ _ hz rfl;obtain⟨hr2,hr3⟩:=Vg hn0 hz;rw[hr3] at hC;have hJ2:=RO hJ (IV hz);refine BF O (A7 Bx O) fun b7=>Ar Ay 1 [0,1] O (As (Aw (Aq O (Az HJ O O) ?_)));obtain⟨prk,pri,prn,prl,prs⟩:=pr;have hprl:=Jp hr2;refine Ar Ay 2 [0] O (Av O (fun c4=>?_) (fun c4=>?_))
   ·simp only[sd,se] at c4;rw[KV (r:=(Tm.mk prk pri prn prl prs,n2)) c4,hzq] at hC;refine Aw (Ax Ay 3 [1,0] O (Aq O (Bu (rows:=BE [(.mk prk pri prn prl prs:Tm)]) Bf Bx O O O O (CG (Bv _)) (E6 _)) (Ax Ay 2 [] O (Aq O (Gz O O (EK (.mk zk 0 ⟨#[]⟩ [] [(.mk prk pri prn prl prs:Tm)]:Tm) ((A8 w).2) AS) (aw (E1 O) (aw (we O) (E0)))) (Ar Ay 1 [2,1] O (A1 (⟨O,_,_,⟨_,_,O,(BA (i:=2) BZ O O Ag),O⟩,(B8 (is:=[4]) O),?_⟩)))))));exact⟨⟨_,_⟩,DH hC.symm,O,O⟩
   simp only[sd,se] at c4;have hp8:=c4;refine A2 (A3 (Ax Ay 3 [1,0] O ?_));obtain⟨cq,hcq⟩:=A6 (l:=prs) (i:=(1+zk - 9).toNat) (by have:=hprl.2.2.2 hp8;omega);have hcqo:=ER hr2 (i:=(1+zk - 9).toNat) hcq;rw[L5 (r:=(Tm.mk prk pri prn prl prs,n2)) (h:=(A8 w).1) hp8 (by rw[hzq];exact hcq)] at hC;have hn3:=hns;rw[←hC] at hn3;refine Dm [4] O O O (.inl ⟨O,O,O⟩) (au m ds n2 (.mk zk zi zn zl zs:Tm) (.mk prk pri prn prl prs:Tm) cq hJ2 hk9 hcq) ⟨_,_,O,O,O⟩ Am (aw (we O) (aw (we O) (aw (we O) (E0)))) (fun _ _ h=>(congrArg List.length h).trans O) ?_ ?_
   rotate_left
   ·intro e _ he;exact⟨O,_,List.nil_sublist _,⟨_,by rw[←hC];exact LQ hn3 he,rfl⟩⟩
   rintro⟨z1,n21⟩ _ hz1 rfl;rw[LU hn3 hz1] at hC;have hJ3:=(Rb hJ2 hz1).1;refine Br O (Aq O (BC O O (EK z1 ((A8 w).2) AS) O) (Ar Ay 1 [3,1] O ?_));refine⟨⟨k,(apply z1 ((A8 w).2)),n21⟩,AW,⟨hC,by assumption,by omega⟩,BS ⟨we rfl,we rfl,we rfl,trivial⟩ (leH (is:=[2,3,4]) rfl (wl (oe rfl) (wl (oe rfl) (wl (oe rfl) (C2)))))⟩
  simp only[sd,se] at c3;refine Au Ay 2 [] O (Av O (fun c4=>?_) (fun c4=>?_))
  ·simp only[sd,se] at c4;have hk:=(congrArg Tm.kind hzq).trans c4;refine Aw (Ax Ay 3 [0] O ?_);rw[Jq hwo rfl hmany hk,hzq] at hC;have hn0:=hns;rw[←hC] at hn0;have hn1:=J2 hn0;refine Dm [3] O O O (.inl ⟨O,O,O⟩) (jt k m ds d (.mk zk zi zn zl zs:Tm) ((A8 w).2) (ih k An) hE hJ hzo An hsp.args hn1) ⟨_,_,O,O,O⟩ Am (aw (we O) (aw (we O) (aw (we O) (E0)))) (fun _ _ h=>(congrArg List.length h).trans O) ?_ ?_
   rotate_left
   ·intro e _ he;exact⟨O,_,List.nil_sublist _,⟨_,by rw[←hC];exact Kz hn0 he,rfl⟩⟩
   rintro⟨q,n2⟩ _ hz rfl;rw[Mw hz] at hC;have hJ2:=Y9 hJ (IV hz);refine Ax Ay 3 [] O (BF O (A7 Bx O) fun b8=>Ar Ay 2 [0,1] O (As (Au Ay 2 [] O (Av O (fun c5=>?_) (fun c5=>?_)))))
   ·simp only[sd,se] at c5;rw[Ru (by simpa using c5)] at hC;refine Au Ay 2 [3,2,1] O (A1 (⟨O,_,_,⟨_,_,O,(BA (i:=2) BZ O O Ag),O⟩,(B8 (is:=[4]) O),?_⟩));exact⟨⟨_,_⟩,DH hC.symm,O,O⟩
   simp only[sd,se] at c5;rw[TO (by simpa using c5)] at hC;refine A2 (A3 (Ar Ay 2 [0,3,1] O ?_));refine⟨⟨k,(q.getD Bh),n2⟩,AW,⟨hC,by assumption,by omega⟩,BS ⟨we rfl,we rfl,we rfl,trivial⟩ (leH (is:=[2,3,4]) rfl (wl (oe rfl) (wl (oe rfl) (wl (oe rfl) (C2)))))⟩
  simp only[sd,se] at c4;rw[Tw hwo rfl hmany (by rw[hzq];assumption) (by rw[hzq];assumption) (by rw[hzq];show ¬zk=9;omega) (by rw[hzq];show ¬zk=10;omega) (by rw[hzq];assumption)] at hC;refine Au Ay 2 [2,1,1] O (A1 (⟨O,_,_,⟨_,_,O,(BA (i:=1) BZ O O Ag),O⟩,(B8 (is:=[3]) O),?_⟩));exact⟨⟨_,_⟩,DH hC.symm,O,O⟩
theorem lu:∀(be:Nat) (ce:List AV),Eb Tryz.prog 71 [.ptr be 0] (.ret) [.box be ce] (fun H'=>H'=[.box be ce]):=by
 intro be ce;refine IB (ty2:=0) Tryz.func71 O qZ (n:=14) O O O O O O (Aw (Br O (Aq O (HN e6 O O O) (Bg O ?_))));refine Av O (fun c=>by cases c) (fun c=>?_);exact A2 ⟨.inl O,O,_,(B8 (is:=[0]) O),O⟩
theorem mX:∀(be:Nat),Eb Tryz.prog 71 [.ptr be 0] (.pan (.p (.iface 122 (.unit)))) [.box be [.p (I 0)]] (fun H'=>H'=[.box be [.p (I 11)]]):=by
 intro be;refine IB (ty2:=0) Tryz.func71 O qZ (n:=14) O O O O O O (Aw (Br O (Aq O (HN e6 O O O) (Bg O ?_))));refine Av O (fun c=>?_) (fun c=>by cases c);refine Au Ay 1 [0,0] O (Aw (Br O (Aq O (Xu Aj O) (Ax Ay 3 [] O (BF O (A7 bK O) fun b2=>Aq O (R1 sF O O) (Ar Ay 1 [] O (Au Ay 2 [] O ?_)))))));refine Av O (fun c1=>by cases c1) (fun c1=>?_);exact A2 ⟨.inl O,O,_,(B8 (is:=[1]) O),O⟩
theorem Vr:∀{α:Type}(x:Except Int α) (a:α) (hx:x= .ok a) (cn:α→Int) (G:α→List BK) (fid:Nat) (caps:List AV) (T:List BK) (ds:List B5) (hf:∀m,Bn Tryz.prog fid ([.ptr m 0]++caps) (.box m [.p (.lst (List.map Bi ds)),.p (I 20000)]::T) (Lm (fun _=> .tup []) (fun _=> .p (.iface 122 .unit)) (fun a H'=>H'= .box m [.p (.lst (List.map Bi ds)),.p (I (cn a))]::G a) x)),Bn Tryz.prog 37 [.p (.lst (List.map Bi ds)),.fn (.func fid) [] caps] T (Gk (.p (I 0)) (G a)):=by
 intro α x a hx cn G fid caps T ds hf;refine FW Tryz.func37 O s6 (n:=11) O O (Aw (BF O (A7 j8 O) fun b4=>Bg O (Aw (Aq O (Ej O O) (OW O O O O (Bg O (Aw (Ax Ay 3 [] O (BF O (BN O) fun b9=>Jd (List.Perm.swap _ _ _) (Ij [_] O O O (.inr O) (hf b9) (DQ _) ?_ ?_))))))))))
 rotate_left
 ·rintro v T2 ⟨e2,h1,_⟩;rw[hx] at h1;cases h1
 rintro v T2 ⟨a2,h1,rfl,rfl⟩;rw[hx] at h1;cases h1;refine Bg O (Au Ay 1 [0,0] O (A1 ⟨_,[_],_,O,List.Perm.refl _,Eb.eq (lu b4 _) ?_⟩));refine⟨_,_,⟨_,_,O,(Gu (i:=0) Tu O O),O⟩,(G3 [] [_,_] O),?_⟩
 all_goals exact⟨rfl,rfl⟩
theorem Sj:∀{α:Type}(x:Except Int α) (e:Int) (hx:x= .error e) (cn:α→Int) (G:α→List BK) (fid:Nat) (caps:List AV) (T:List BK) (ds:List B5) (hf:∀m,Bn Tryz.prog fid ([.ptr m 0]++caps) (.box m [.p (.lst (List.map Bi ds)),.p (I 20000)]::T) (Lm (fun _=> .tup []) (fun _=> .p (.iface 122 .unit)) (fun a H'=>H'= .box m [.p (.lst (List.map Bi ds)),.p (I (cn a))]::G a) x)),Bn Tryz.prog 37 [.p (.lst (List.map Bi ds)),.fn (.func fid) [] caps] T (Gk (.p (I 11)) []):=by
 intro α x e hx cn G fid caps T ds hf;refine FW Tryz.func37 O s6 (n:=11) O O (Aw (BF O (A7 j8 O) fun b4=>Bg O (Aw (Aq O (Ej O O) (OW O O O O (Bg O (Aw (Ax Ay 3 [] O (BF O (BN O) fun b9=>Jd (List.Perm.swap _ _ _) (Ij [_] O O O (.inr O) (hf b9) (DQ _) ?_ ?_))))))))))
 ·rintro v T2 ⟨a2,h1,_⟩;rw[hx] at h1;cases h1
 rintro v T2 ⟨e2,h1,rfl⟩;refine⟨_,_,_,O,Mx (is:=[0]) _ Am ⟨_,_,O,O,O⟩,Eb.eq (mX b4) ?_⟩;refine⟨_,[],⟨_,_,O,(Gu (i:=0) Tu O O),O⟩,(List.nil_sublist _),?_⟩;exact⟨O,O⟩
end Go.Proofs.YtboammbpdaoojaaGreat
namespace Go.Eu
open Go.Abs
structure Lt (c:Et):Prop where
 ov:c.over=false
 lm:c.limit=1000
 s0:0≤c.steps
 s1:c.steps≤1000
 n0:0≤c.nodes
 n1:c.nodes≤2000
theorem kA:Lt Lw:=⟨rfl,rfl,by decide,by decide,by decide,by decide⟩
theorem LP:gp Db (fun a b=>b.over=false→a.over=false):=by
 refine⟨fun s h=>h,fun h1 h2 h=>h1 (h2 h),fun h hb=>?_⟩;simp only[Db,Option.some.injEq] at h;subst h;simp only[Et.result,Et.form,Bool.or_eq_false_iff] at hb;exact hb.1
theorem pD {c:Et}{t:Tm}{e:Int}(h:Lt c) (ho:okB t=true) (hv:(c.result t e).over=false):e=0∧Lt (c.result t e)∧(c.result t e).steps=c.steps+1∧(c.result t e).nodes=c.nodes+size t:=by
 have hs:=FC ho;have h1:=h.s0;have h2:=h.s1;have h3:=h.n0;have h4:=h.n1;have h5:=h.lm;have hw:wr (c.steps+1)=c.steps+1:=EP (by unfold JE;omega);have hz:Ev t=size t:=ME An;have hw2:wr (c.nodes+size t)=c.nodes+size t:=EP (by unfold JE;omega);have hw3:wr (2*1000)=2000:=EP (by unfold JE;omega);have hv':=hv;simp only[Et.result,Et.form,hw,hz,hw2,h5,hw3,Bool.or_eq_false_iff,decide_eq_false_iff_not,bne_eq_false_iff_eq] at hv';have hst:(c.result t e).steps=c.steps+1:=by simp only[Et.result,Et.form,hw]
 have hnd:(c.result t e).nodes=c.nodes+size t:=by simp only[Et.result,Et.form,hz,hw2]
 exact⟨by omega,⟨hv,by simp only[Et.result,Et.form,h5],by omega,by omega,by omega,by omega⟩,hst,hnd⟩
theorem Ku {α:Type}{c:Et}{x:Tm×Int}{k:Tm→Et→Out (α×Et)}{k':Tm→Int→Out (α×Int)}{q:α}{c':Et}(hL:Lt c) (hk:∀t c1 q c2,k t c1= .ok (q,c2)→c2.over=false→c1.over=false) (hq:Db.put c x k= .ok (q,c')) (hv:c'.over=false) :
  okB x.1=true∧Lt (c.result x.1 x.2)∧(c.result x.1 x.2).steps=c.steps+1∧(c.result x.1 x.2).nodes=c.nodes+size x.1∧k x.1 (c.result x.1 x.2)= .ok (q,c')∧∀l:Int,1000 - c.steps≤l→Bp.put l x k'=k' x.1 (l - 1):=by
 obtain⟨h1,h2⟩:=Lc (h:=(by rw[hq];simp));rw[h2] at hq;obtain⟨h3,h4,h5,h6⟩:=pD hL h1 (hk _ _ _ _ hq hv);refine⟨h1,h4,h5,h6,hq,fun l hl=>?_⟩;have:=h4.s1;unfold Sys.put;rw[if_pos h1];simp only[Bp];rw[if_neg An]
section
variable {E:List B5}
structure dv (c c':Et) (z z':Nat):Prop where
 lt:Lt c'
 st:c.steps≤c'.steps
 nd:c.nodes≤c'.nodes
 sz:(z':Int)≤z+(c'.nodes - c.nodes)
def SW (n:Nat) (W:Et→Tm→Out (Tm×Et)) (V:Int→Tm→Out (Tm×Int)):Prop:=∀c t r c',Lt c→W c t= .ok (r,c')→c'.over=false→(size t:Int)≤30000+c.nodes →
 dv c c' (size t) (size r)∧∀l:Int,1000 - c.steps≤l→V l t= .ok (r,l - (c'.steps - c.steps))
variable {n:Nat}{W:Et→Tm→Out (Tm×Et)}{V:Int→Tm→Out (Tm×Int)}
theorem UJ (hW:SW n W V) (hO:∀c t r c',W c t= .ok (r,c')→c'.over=false→c.over=false):∀(k:Nat) (t:ES) (vs:List Tm) (la:Tm) (c c':Et) (q:Option (Tm×List Tm)×Tm),Lt c→Dp E Db W k t vs la c= .ok (q,c')→c'.over=false→(∀v∈vs,(size v:Int)≤30000+c.nodes)→(size la:Int)≤30000+c.nodes →
  dv c c' 0 0∧(q.1=none→(size q.2:Int)≤30000+c'.nodes)∧∀l:Int,1000 - c.steps≤l→Dp E Bp V k t vs la l= .ok (q,l - (c'.steps - c.steps))
 | 0,t,vs,la,c,c',q,hL,h,hv,hz,hla=>by rw[Dp] at h;cases h
 | k+1,t,vs,la,c,c',q,hL,h,hv,hz,hla=>by
  have self:dv c c 0 0:=⟨hL,Int.le_refl _,Int.le_refl _,by simp⟩;by_cases hk:t.kind=1
  ·by_cases hb:t.var<0∨t.var≥(vs.length:Int)
   ·have hb1:t.var<0∨t.var≥(vs.length:Int)∨Db.over c=true:=by rcases hb with h | h;exact .inl h;exact .inr (.inl h)
    rw[JP hk hb1] at h;cases h;refine⟨self,fun _=>hla,fun l hl=>?_⟩;rw[JP hk (by rcases hb with h | h;exact .inl h;exact .inr (.inl h)),Int.sub_self,Int.sub_zero]
   have hb1:¬(t.var<0∨t.var≥(vs.length:Int)∨Db.over c=true):=by
    have:Db.over c=false:=hL.ov;rw[this];simp;omega
   have hb2:∀l,¬(t.var<0∨t.var≥(vs.length:Int)∨Bp.over l=true):=fun l=>by simp[Bp];omega
   have hlt:t.var.toNat<vs.length:=by omega
   have hx:=List.getElem?_eq_getElem hlt;have hxm:=List.getElem_mem hlt;rw[LW hk hb1 hx] at h;obtain⟨⟨r,c1⟩,h1,h2,h3⟩:=H7 h;have hv1:c1.over=false:=by
    cases hc:C8 E r with
    | none=>rw[GW hc] at h3;cases h3;exact hv
    | some p =>
     obtain⟨d,j,f⟩:=p;cases hbr:Ca (Df d j).name t.branches with
     | none=>rw[Ia hc hbr] at h3;cases h3;exact hv
     | some t' =>
      rw[Ic hc hbr] at h3;exact Oc LP (fun s t q e=>by obtain⟨r',c''⟩:=q;exact hO _ _ _ _ e) _ _ _ _ _ _ h3 hv
   obtain⟨p1,p2⟩:=hW _ _ _ _ hL h1 hv1 (hz _ hxm);have q1:=p1.st;have q2:=p1.nd;have q3:=p1.sz;have q4:=hz _ hxm;have hr:(size r:Int)≤30000+c1.nodes:=by omega
   have hone:dv c c1 0 0:=⟨p1.lt,p1.st,p1.nd,by simp;omega⟩;have hg:∀l:Int,1000 - c.steps≤l→Dp E Bp V (k+1) t vs la l=QT E Bp V k t vs (r,l - (c1.steps - c.steps)):=fun l hl=>by
    rw[LW hk (hb2 l) hx,p2 l hl];simp only[Out.chk,Out.bind];rw[if_pos h2]
   cases hc:C8 E r with
   | none =>
    rw[GW hc] at h3;cases h3;exact⟨hone,fun _=>hr,fun l hl=>by rw[hg l hl,GW hc]⟩
   | some p =>
    obtain⟨d,j,f⟩:=p;cases hbr:Ca (Df d j).name t.branches with
    | none =>
     rw[Ia hc hbr] at h3;cases h3;exact⟨hone,fun _=>hr,fun l hl=>by rw[hg l hl,Ia hc hbr]⟩
    | some t' =>
     rw[Ic hc hbr] at h3;obtain⟨hf,_⟩:=GL hc h2;obtain⟨s1,s2,s3⟩:=UJ hW hO k t' (vs++f) r c1 c' q p1.lt h3 hv (fun v hm=>by
      rcases List.mem_append.1 hm with hm | hm
      ·have:=hz v hm;omega
      have:=(hf v hm).2;omega) hr
     have e1:=s1.st;have e2:=s1.nd;refine⟨⟨s1.lt,by omega,by omega,by simp;omega⟩,s2,fun l hl=>?_⟩;rw[hg l hl,Ic hc hbr];have:=s3 (l - (c1.steps - c.steps)) An;simp only;rw[this];congr 2;omega
  rw[Hz hk] at h;cases h;exact⟨self,(fun e=>by cases e),fun l hl=>by rw[Hz hk,Int.sub_self,Int.sub_zero]⟩
structure dk (c c':Et) (z:Nat) (q:Option Tm):Prop where
 lt:Lt c'
 st:c.steps≤c'.steps
 nd:c.nodes≤c'.nodes
 sz:∀x,q=some x→(size x:Int)≤z+(c'.nodes - c.nodes)
theorem dt {d:B5}{g m:Tm}{a:List Tm}{c c':Et}{q:Option Tm}(hL:Lt c) (h:Es E Db d g a m c= .ok (q,c')) (hv:c'.over=false):dk c c' (BX a+a.length) q∧∀l:Int,1000 - c.steps≤l→Es E Bp d g a m l= .ok (q,l - (c'.steps - c.steps)):=by
 have self:dk c c (BX a+a.length) none:=⟨hL,Int.le_refl _,Int.le_refl _,fun x e=>by cases e⟩;cases hc:C8 E m with
 | none=>rw[Mz hc] at h;cases h;exact⟨self,fun l hl=>by rw[Mz hc,Int.sub_self,Int.sub_zero]⟩
 | some p =>
  obtain⟨e,j,f⟩:=p;by_cases hn:e.name≠d.name∨j≥(d.recs.rules.length:Int)
  ·rw[RK hc hn] at h;cases h;exact⟨self,fun l hl=>by rw[RK hc hn,Int.sub_self,Int.sub_zero]⟩
  have hlo:=(Eo hc).lo;have hlt:j.toNat<d.recs.rules.length:=by omega
  have hr:=List.getElem?_eq_getElem hlt;by_cases he:(BY d.recs.rules[j.toNat] g.levels).2=0
  ·rw[NG hc hn hr he] at h;obtain⟨h1,h2,h3,h4,h5,h6⟩:=Ku hL (fun t c1 q c2 e hv=>by cases e;exact hv) h hv (k':=fun t s'=> .ok (some (apply t (a.drop (CB d+1).toNat)),s'));simp only at h3 h4 h5;cases h5;have u:=Ch (a.drop (CB d+1).toNat) (apply (apply (BY d.recs.rules[j.toNat] g.levels).1 (a.take (d.fixed+1+d.ctors.length).toNat)) f);have u2:=DC a (CB d+1).toNat;have u3:(a.drop (CB d+1).toNat).length≤a.length:=by rw[List.length_drop];omega
   refine⟨⟨h2,by omega,by omega,fun x e=>?_⟩,fun l hl=>?_⟩
   ·cases e;have:((BX a+a.length:Nat):Int)=BX a+a.length:=by omega
    omega
   rw[NG hc hn hr he,h6 l hl];congr 2;omega
  rw[Mf hc hn hr he] at h;cases h;exact⟨self,fun l hl=>by rw[Mf hc hn hr he,Int.sub_self,Int.sub_zero]⟩
theorem Yv {d:B5}{g:Tm}{a:List Tm}{c c':Et}{q:Option Tm}(hL:Lt c) (h:Eg Db d g a c= .ok (q,c')) (hv:c'.over=false):dk c c' (BX a+a.length) q∧∀l:Int,1000 - c.steps≤l→Eg Bp d g a l= .ok (q,l - (c'.steps - c.steps)):=by
 by_cases he:(BY d.value g.levels).2=0
 ·rw[Jr he] at h;obtain⟨h1,h2,h3,h4,h5,h6⟩:=Ku hL (fun t c1 q c2 e hv=>by cases e;exact hv) h hv (k':=fun t s'=> .ok (some (apply t a),s'));simp only at h3 h4 h5;cases h5;have u:=Ch a (BY d.value g.levels).1;refine⟨⟨h2,by omega,by omega,fun x e=>by cases e;omega⟩,fun l hl=>?_⟩;rw[Jr he,h6 l hl];congr 2;omega
 rw[JO he] at h;cases h;exact⟨⟨hL,Int.le_refl _,Int.le_refl _,fun x e=>by cases e⟩,fun l hl=>by rw[JO he,Int.sub_self,Int.sub_zero]⟩
theorem dI {g b:Tm}{vs a:List Tm}{c c':Et}{q:Option Tm}(hL:Lt c) (h:GD Db g b vs a c= .ok (q,c')) (hv:c'.over=false):dk c c' (BX a+a.length) q∧∀l:Int,1000 - c.steps≤l→GD Bp g b vs a l= .ok (q,l - (c'.steps - c.steps)):=by
 by_cases he:(BY b g.levels).2=0
 ·have hg:∀{σ:Type} (S:Sys σ) (s:σ),GD S g b vs a s=if okB (BY b g.levels).1=false∨vs.all okB=false∨1125899906842624≤BX vs then .stuck else S.put s (CD (BY b g.levels).1 vs.reverse 0) fun t s'=> .ok (some (apply t a),s'):=fun S s=>by rw[GD,if_neg An]
  rw[hg] at h;split at h
  ·cases h
  rename_i hn;obtain⟨h1,h2,h3,h4,h5,h6⟩:=Ku hL (fun t c1 q c2 e hv=>by cases e;exact hv) h hv (k':=fun t s'=> .ok (some (apply t a),s'));cases h5;have u:=Ch a (CD (BY b g.levels).1 vs.reverse 0).1;refine⟨⟨h2,by omega,by omega,fun x e=>by cases e;omega⟩,fun l hl=>?_⟩;rw[hg,if_neg hn,h6 l hl];congr 2;omega
 rw[Ig he] at h;cases h;exact⟨⟨hL,Int.le_refl _,Int.le_refl _,fun x e=>by cases e⟩,fun l hl=>by rw[Ig he,Int.sub_self,Int.sub_zero]⟩
end
section
variable {E:List B5}{n:Nat}
theorem RJ {c:Et}{z:Nat}(hL:Lt c):dk c c z none:=⟨hL,Int.le_refl _,Int.le_refl _,fun x e=>by cases e⟩
theorem Y5 (hE:Ju E) {W:Et→Tm→Out (Tm×Et)}{V:Int→Tm→Out (Tm×Int)}(hW:SW n W V) (hO:∀c t r c',W c t= .ok (r,c')→c'.over=false→c.over=false) {g:Tm}{a:List Tm}{c c':Et}{q:Option Tm}(hL:Lt c) (h:ED E Db W n g a c= .ok (q,c')) (hv:c'.over=false) (hz:(BX a+a.length:Int)≤30000+c.nodes) (h1z:1≤30000+c.nodes) :
  dk c c' (BX a+a.length) q∧∀l:Int,1000 - c.steps≤l→ED E Bp V n g a l= .ok (q,l - (c'.steps - c.steps)):=by
 cases hu:Tl E g with
 | false=>rw[JT hu] at h;cases h;exact⟨RJ hL,fun l hl=>by rw[JT hu,Int.sub_self,Int.sub_zero]⟩
 | true =>
  obtain⟨i,d,e1,e2,hd,e4⟩:=JS hu;have hg:=hE.all d hd;have hnr:=Ih hg;by_cases k1:(Bb E g.name).1.kind=1
  ·rw[JI hu e4 k1] at h;obtain⟨s1,s2⟩:=Yv hL h hv;exact⟨s1,fun l hl=>by rw[JI hu e4 k1];exact s2 l hl⟩
  by_cases k5:(Bb E g.name).1.kind=5
  ·rw[Hx hu e4 k5] at h;by_cases hl:(a.length:Int)≤CB d
   ·rw[Oo hl] at h;cases h;exact⟨RJ hL,fun l hl2=>by rw[Hx hu e4 k5,Oo hl,Int.sub_self,Int.sub_zero]⟩
   have hlt:(CB d).toNat<a.length:=by omega
   have hy:=List.getElem?_eq_getElem hlt;have hys:=En (List.getElem_mem hlt);rw[RY hl hy] at h;obtain⟨⟨r,c1⟩,h1,h2,h3⟩:=H7 h;have hv1:c1.over=false:=Yb LP h3 hv;obtain⟨p1,p2⟩:=hW _ _ _ _ hL h1 hv1 An;obtain⟨s1,s2⟩:=dt p1.lt h3 hv;have a1:=p1.st;have a2:=p1.nd;have a3:=s1.st;have a4:=s1.nd;refine⟨⟨s1.lt,by omega,by omega,fun x e=>by have:=s1.sz x e;omega⟩,fun l hl2=>?_⟩;rw[Hx hu e4 k5,RY hl hy,p2 l hl2];simp only[Out.chk,Out.bind];rw[if_pos h2,s2 _ An];congr 2;omega
  by_cases k6:(Bb E g.name).1.kind=6
  ·obtain⟨k,f,h4,h5⟩:=e2.func k6;have hff:d.funs[(Bb E g.name).1.item.toNat]?=some f:=by rw[h5];simpa using h4
   rw[HM hu e4 k6 hff] at h;by_cases hl:(a.length:Int)<f.arity
   ·rw[Ki hl] at h;cases h;exact⟨RJ hL,fun l hl2=>by rw[HM hu e4 k6 hff,Ki hl,Int.sub_self,Int.sub_zero]⟩
   rw[Kq hl] at h;obtain⟨⟨lq,c1⟩,h1,h2⟩:=G6 h;have hts:=DC a f.arity.toNat;have hdl:(a.drop f.arity.toNat).length≤a.length:=by rw[List.length_drop];omega
   have hz0:size Bh=1:=rfl;have hv1:c1.over=false:=by
    cases ho:c1.over with
    | false=>rfl
    | true=>rw[Jo (.inr ho)] at h2;cases h2;rw[ho] at hv;cases hv
   obtain⟨p1,p2,p3⟩:=UJ hW hO n f.tree (a.take f.arity.toNat) Bh c c1 lq hL h1 hv1 (fun v hm=>by have:=En (List.mem_of_mem_take hm);omega) An;have a1:=p1.st;have a2:=p1.nd;cases hs:lq.1.isSome with
   | false =>
    rw[Jo (.inl hs)] at h2;cases h2;refine⟨⟨p1.lt,a1,a2,fun x e=>by cases e⟩,fun l hl2=>?_⟩;rw[HM hu e4 k6 hff,Kq hl,p3 l hl2];simp only[Out.bind];rw[Jo (.inl hs)]
   | true =>
    rw[LL hs hv1] at h2;obtain⟨s1,s2⟩:=dI p1.lt h2 hv;have a3:=s1.st;have a4:=s1.nd;refine⟨⟨s1.lt,by omega,by omega,fun x e=>by have:=s1.sz x e;omega⟩,fun l hl2=>?_⟩;rw[HM hu e4 k6 hff,Kq hl,p3 l hl2];simp only[Out.bind];rw[LL hs rfl,s2 _ An];congr 2;omega
  rw[Ip hu k1 k5 k6] at h;cases h;exact⟨RJ hL,fun l hl=>by rw[Ip hu k1 k5 k6,Int.sub_self,Int.sub_zero]⟩
theorem Ga {n:Nat}{c c':Et}{t r:Tm}(h:DK E Db n c t= .ok (r,c')) (hv:c'.over=false):c.over=false:=Rm LP n c t _ h hv
theorem ay (hE:Ju E):∀n,SW n (DK E Db n) (DK E Bp n)
 | 0=>fun c t r c' hL h _ _=>by rw[DK] at h;cases h
 | n+1=>fun c t r c' hL h hv hz=>by
  have ih:=ay hE n;have ho:=VO h Ao;have hov:Db.over c=false:=hL.ov;have hov2:∀l,Bp.over l=false:=fun _=>rfl;have hmr:Db.many (A8 t).2.length=false:=rfl;have hss:=Fk t;have hsp:=size_pos (A8 t).1;have n0:=hL.n0;have n1:=hL.n1;have hmp:Bp.many (A8 t).2.length=false:=by simp only[Bp];exact decide_eq_false An
  obtain⟨oh,oa⟩:=FO ho;have self:dv c c (size t) (size t):=⟨hL,Int.le_refl _,Int.le_refl _,by omega⟩
  -- what follows a contraction
  have cont:∀(x:Tm) (c1:Et) (k':Int→Out (Tm×Int)),Lt c1→c.steps+1≤c1.steps→c.nodes≤c1.nodes→(size x:Int)≤size t+(c1.nodes - c.nodes)→DK E Db n c1 x= .ok (r,c')→(∀l:Int,1000 - c.steps≤l→k' l=DK E Bp n (l - (c1.steps - c.steps)) x)→dv c c' (size t) (size r)∧∀l:Int,1000 - c.steps≤l→k' l= .ok (r,l - (c'.steps - c.steps)):=by
   intro x c1 k' g1 g2 g3 g4 g5 g6;obtain⟨p1,p2⟩:=ih _ _ _ _ g1 g5 hv An;have a1:=p1.st;have a2:=p1.nd;have a3:=p1.sz;refine⟨⟨p1.lt,by omega,by omega,by omega⟩,fun l hl=>?_⟩;rw[g6 l hl,p2 _ An];congr 2;omega
  by_cases k5:(A8 t).1.kind=5
  ·by_cases hl:(A8 t).2.length=0
   ·rw[My ho hov hmr k5 hl] at h;cases h;exact⟨self,fun l _=>by rw[My ho (hov2 l) hmp k5 hl,Int.sub_self,Int.sub_zero]⟩
   obtain⟨b,hb,_⟩:=GA oh (i:=1) (by rw[k5];decide);rw[QC ho hov hmr k5 hl hb] at h;obtain⟨h1,h2,h3,h4,h5,h6⟩:=Ku hL (fun t c1 q c2 e hv=>Ga e hv) h hv (k':=fun x s'=>DK E Bp n s' (apply x ((A8 t).2.drop 1)));have u:=Ch ((A8 t).2.drop 1) (CD b ((A8 t).2.take 1) 0).1;have u2:=DC (A8 t).2 1;have u3:((A8 t).2.drop 1).length≤(A8 t).2.length:=by rw[List.length_drop];omega
   refine cont _ _ _ h2 An An An h5 fun l hl2=>?_;rw[QC ho (hov2 l) hmp k5 hl hb,h6 l hl2];congr 1;omega
  by_cases k11:(A8 t).1.kind=11
  ·obtain⟨v,hvk,_⟩:=GA oh (i:=1) (by rw[k11];decide);obtain⟨b,hb,_⟩:=GA oh (i:=2) (by rw[k11];decide);rw[PQ ho hov hmr k11 hvk hb] at h;obtain⟨h1,h2,h3,h4,h5,h6⟩:=Ku hL (fun t c1 q c2 e hv=>Ga e hv) h hv (k':=fun x s'=>DK E Bp n s' (apply x (A8 t).2));have u:=Ch (A8 t).2 (CD b [v] 0).1;refine cont _ _ _ h2 An An An h5 fun l hl2=>?_;rw[PQ ho (hov2 l) hmp k11 hvk hb,h6 l hl2];congr 1;omega
  by_cases k9:(A8 t).1.kind=9∨(A8 t).1.kind=10
  ·obtain⟨p,hpk,op,sp⟩:=GA oh (i:=0) (by rcases k9 with h | h<;>rw[h]<;>decide);rw[Ml ho hov hmr k9 hpk] at h;obtain⟨⟨r1,c1⟩,h1,h2,h3⟩:=H7 h;have hg:∀l:Int,1000 - c.steps≤l→c1.over=false→DK E Bp (n+1) l t=Qe E Bp n (A8 t).1 (A8 t).2 (r1,l - (c1.steps - c.steps)):=fun l hl hv1=>by
    obtain⟨p1,p2⟩:=ih _ _ _ _ hL h1 hv1 An;rw[Ml ho (hov2 l) hmp k9 hpk,p2 l hl];simp only[Out.chk,Out.bind];rw[if_pos h2]
   by_cases k8:r1.kind=8
   ·have har:arity 8=3:=rfl;obtain⟨y,hy,oy,sy⟩:=GA h2 (i:=(1+(A8 t).1.kind - 9).toNat) (by show _<arity r1.kind;rw[k8,har];omega);rw[L5 (r:=(r1,c1)) k8 hy] at h3;have hv1:c1.over=false:=by
     have:=La LP (s:=c1) (fun t c1 q e hv=>Ga e hv) h3;exact this hv
    obtain⟨p1,p2⟩:=ih _ _ _ _ hL h1 hv1 An;obtain⟨q1,q2,q3,q4,q5,q6⟩:=Ku p1.lt (fun t c1 q c2 e hv=>Ga e hv) h3 hv (k':=fun x s'=>DK E Bp n s' (apply x (A8 t).2));have u:=Ch (A8 t).2 y;have a1:=p1.st;have a2:=p1.nd;have a3:=p1.sz;simp only at q3 q4 q5 sy;refine cont (apply y (A8 t).2) (c1.result y 0) _ q2 An An An q5 fun l hl2=>?_;rw[hg l hl2 hv1,L5 (r:=(r1,l - (c1.steps - c.steps))) k8 hy,q6 _ An];congr 1;simp only;omega
   rw[KV (r:=(r1,c1)) k8] at h3;cases h3;obtain⟨p1,p2⟩:=ih _ _ _ _ hL h1 hv An;have a1:=p1.st;have a2:=p1.nd;have a3:=p1.sz;have u:=Ch (A8 t).2 (Hn (A8 t).1.kind r1);have u2:size (Hn (A8 t).1.kind r1)=1+size r1:=by simp only[Hn,size,BX];omega
   refine⟨⟨p1.lt,a1,a2,by simp only;omega⟩,fun l hl=>?_⟩;rw[hg l hl hv,KV (r:=(r1,l - (c1.steps - c.steps))) k8]
  by_cases k3:(A8 t).1.kind=3
  ·rw[Jq ho hov hmr k3] at h;obtain⟨⟨q,c1⟩,h1,h2⟩:=G6 h;have hv1:c1.over=false:=by
    cases hq:q.isSome with
    | false=>rw[Ru hq] at h2;cases h2;exact hv
    | true=>rw[TO hq] at h2;exact Ga h2 hv
   obtain⟨s1,s2⟩:=Y5 hE ih (fun c t r c' e hv=>Ga e hv) hL h1 hv1 An An;have a1:=s1.st;have a2:=s1.nd;cases hq:q.isSome with
   | false =>
    rw[Ru hq] at h2;cases h2;refine⟨⟨s1.lt,a1,a2,by omega⟩,fun l hl=>?_⟩;rw[Jq ho (hov2 l) hmp k3,s2 l hl];simp only[Out.bind];rw[Ru hq]
   | true =>
    rw[TO hq] at h2;obtain⟨x,rfl⟩:=Option.isSome_iff_exists.1 hq;have a3:=s1.sz x rfl;simp only[Option.getD_some] at h2;obtain⟨p1,p2⟩:=ih _ _ _ _ s1.lt h2 hv An;have b1:=p1.st;have b2:=p1.nd;have b3:=p1.sz;refine⟨⟨p1.lt,by omega,by omega,by omega⟩,fun l hl=>?_⟩;rw[Jq ho (hov2 l) hmp k3,s2 l hl];simp only[Out.bind];rw[TO rfl];simp only[Option.getD_some];rw[p2 _ An];congr 2;omega
  have k9a:(A8 t).1.kind≠9:=fun e=>k9 (.inl e);have k9b:(A8 t).1.kind≠10:=fun e=>k9 (.inr e);rw[Tw ho hov hmr k5 k11 k9a k9b k3] at h;cases h;exact⟨self,fun l _=>by rw[Tw ho (hov2 l) hmp k5 k11 k9a k9b k3,Int.sub_self,Int.sub_zero]⟩
end
section
variable {E:List B5}
end
section
variable {E:List B5}
end
end Go.Eu
