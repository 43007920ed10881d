/- Part of the proofs: an abstract program logic, plain models and contracts of functions. -/
import Derived.Test.YtifphifongokcaaGreatPf
import Derived.Test.YtifphifongokcaaGreatPd
import Derived.Test.YtifphifongokcaaGreatPc
import Derived.Scope
import Derived.Test.YtifphifongokcaaGreatPb
import Derived.Test.YtifphifongokcaaGreatPe
set_option linter.unusedVariables false
set_option linter.unusedSimpArgs false
set_option maxRecDepth 100000
namespace Go.Proofs.YtifphifongokcaaGreat
open Go.Abs Go.Eu
theorem dC:∀(a b:List Bv),(a.length<Cb)→D3 Tryz.prog 119 [.p (.lst (List.map FT a)),.p (.lst (List.map FT b))] (.p (.bool (Iy a b))):=by
 intro a b h1;simp only[Cb] at h1;refine A1 Tryz.func119 O fP (n:=26) O O (Au Az 1 [] O (As (Ay (CA O (Ar O (BH GY O (List.length_map _)) (CA O (Ar O (BH GY O (List.length_map _)) (Aq Az 1 [] O (A2 O (fun c=>?_) (fun c=>?_))))))))))
 ·(try simp only[sd,se] at c);refine Au Az 1 [] O (A4 (⟨O,_,_,⟨_,_,O,O,O⟩,(List.nil_sublist _),?_⟩))
  all_goals exact⟨by show (.p (.bool false):AV)=_;rw[Di (fun h=>by subst h;simp at c)],rfl⟩
 (try simp only[sd,se] at c);refine A5 (As (Ay (CA O (Ar O (BH GY O (List.length_map _)) (Aq Az 1 [] O (BA ?_))))));refine Bh (α:=Nat) (fun i=>⟨26,mk [(0,.p (.lst (List.map FT a))),(1,.p (.lst (List.map FT b))),(12,.p (I (a.length:Nat))),(13,.p (I (i:Int)))],[],[]⟩) (fun i=>a.length - i) (fun i=>i≤a.length∧(∀j,j<i→∀x,a[j]?=some x→b[j]?=some x)) 0 (⟨by omega,fun j h=>by omega⟩) ?_ ?_
 ·exact BZ ⟨we O,we O,we O,we O,Ap⟩ (leH (is:=[]) O (DF))
 rintro i hC
 try simp only at hC
 obtain⟨hi,hC⟩:=hC;refine Au Az 1 [] O (As (A2 O (fun c1=>?_) (fun c1=>?_)))
 ·(try simp only[sd,se] at c1);refine A5 (As (BA (Au Az 2 [] O (As (CK (fun k=>false) Eb (Bf Az 2 [] O ?_))))));obtain⟨x,hx⟩:=A9 (l:=a) (i:=i) An;refine BG O (fun _=>BC GY O O An (FJ hx) (O)) Ap (Bf Az 3 [] O ?_);obtain⟨x1,hx1⟩:=A9 (l:=b) (i:=i) An;refine BG O (fun _=>BC GY O O An (FJ hx1) (O)) Ap (BG O (fun _=>Bg dk O (O)) Ap (BG O (fun _=>Pm iE O O) Ap (KZ O Ai (A2 O (fun c2=>?_) (fun c2=>?_)))))
  ·(try simp only[sd,se] at c2);refine Au Az 1 [] O (A4 (⟨O,_,_,⟨_,_,O,O,O⟩,(List.nil_sublist _),?_⟩))
   all_goals exact⟨by show (.p (.bool false):AV)=_;rw[Di (fun h=>by subst h;rw[hx] at hx1;injection hx1 with e;subst e;simp[DH] at c2)],rfl⟩
  (try simp only[sd,se] at c2);refine A5 (Ax (Aq Az 2 [] O (⟨(i+1),AQ,⟨by omega,GN (p:=fun j x=>b[j]?=some x) hC hx (by have e:x=x1:=(by obtain⟨_,_⟩:=x;obtain⟨_,_⟩:=x1;simp at c2;simp[c2]);rw[e];exact hx1)⟩,BZ ⟨we rfl,we rfl,we rfl,we rfl,trivial⟩ (leH (is:=[]) rfl (DF))⟩)))
 (try simp only[sd,se] at c1);refine Bk (Au Az 1 [] O (A4 (⟨O,_,_,⟨_,_,O,O,O⟩,(List.nil_sublist _),?_⟩)))
 all_goals exact⟨by show (.p (.bool true):AV)=_;rw[DH (TI An fun j hj x hx=>hC j An x hx)],rfl⟩
theorem WY:∀(a b:CN),(a.vars.length<Cb)→D3 Tryz.prog 82 [.agg ((B6 a).map .p),.agg ((B6 b).map .p)] (.p (.bool (Iy a b))):=by
 intro a b h1;refine A1 Tryz.func82 O j3 (n:=17) O O (Ay (BE O (BT O) fun b2=>BE O (BT O) fun b3=>Aq Az 1 [] O (As (Bj [] 4 (fun y=>y= .p (.bool (Iy a b))) ?_ ?_))))
 ·refine Ax (A0 Az 6 [1,0] O (BS 10 O (fun g=>?_) (fun g=>?_)))
  ·(try simp only[sd,se] at g);exact A0 Az 4 [1,0] O (BK O (BB O O (dC a.vars b.vars h1) O) (Aq Az 2 [] O ⟨O,O,AK,(by rw[Tr];first | rfl | (refine pB ?_;simp_all)),Ap⟩))
  (try simp only[sd,se] at g);exact Aq Az 7 [] O ⟨O,O,AK,(by rw[Tr];first | rfl | (refine pB ?_;simp_all)),Ap⟩
 rintro _ rfl;refine A4 (⟨O,_,_,⟨_,_,O,O,O⟩,(List.nil_sublist _),?_⟩)
 all_goals exact⟨rfl,rfl⟩
theorem Yu:∀(a b:List CN),(a.length<Cb)→(∀l∈a,Vt l)→D3 Tryz.prog 81 [.p (.lst (List.map B6 a)),.p (.lst (List.map B6 b)),.p (.fn 82)] (.p (.bool (Iy a b))):=by
 intro a b h1 h2;simp only[Cb] at h1;refine A1 Tryz.func81 O jQ (n:=32) O O (Au Az 1 [] O (As (Ay (CA O (Ar O (BH E1 O (List.length_map _)) (CA O (Ar O (BH E1 O (List.length_map _)) (Aq Az 1 [] O (A2 O (fun c=>?_) (fun c=>?_))))))))))
 ·(try simp only[sd,se] at c);refine Au Az 1 [] O (A4 (⟨O,_,_,⟨_,_,O,O,O⟩,(List.nil_sublist _),?_⟩))
  all_goals exact⟨by show (.p (.bool false):AV)=_;rw[Di (fun h=>by subst h;simp at c)],rfl⟩
 (try simp only[sd,se] at c);refine A5 (As (Ay (CA O (Ar O (BH E1 O (List.length_map _)) (Aq Az 1 [] O (BA ?_))))));refine Bh (α:=Nat) (fun i=>⟨32,mk [(1,.p (.lst (List.map B6 b))),(2,.p (.fn 82)),(15,.p (.lst (List.map B6 a))),(16,.p (I (a.length:Nat))),(17,.p (I (i:Int)))],[],[]⟩) (fun i=>a.length - i) (fun i=>i≤a.length∧(∀j,j<i→∀x,a[j]?=some x→b[j]?=some x)) 0 (⟨by omega,fun j h=>by omega⟩) ?_ ?_
 ·exact BZ ⟨we O,we O,we O,we O,we O,Ap⟩ (leH (is:=[]) O (DF))
 rintro i hC
 try simp only at hC
 obtain⟨hi,hC⟩:=hC;refine Au Az 1 [] O (As (A2 O (fun c1=>?_) (fun c1=>?_)))
 ·(try simp only[sd,se] at c1);refine A5 (As (BA (Ay (CA O ?_))));obtain⟨x,hx⟩:=A9 (l:=a) (i:=i) An;refine Ar O (BC E1 O O An (IH hx) (Ep _)) (Ar O (Bg Qn O (Ep _)) (BE O (A7 G0 O) fun b8=>Aq Az 2 [0,1] O (Ay (A0 Az 2 [] O ?_))));obtain⟨x1,hx1⟩:=A9 (l:=b) (i:=i) An;refine Ar O (BC E1 O O An (IH hx1) (Ep _)) (Ar O (Bg Qn O (Ep _)) (BE O (A7 G0 O) fun b9=>Aq Az 1 [0,1] O (Ay (A0 Az 3 [1,0] O (Ar O (BB O O (WY x x1 (h2 x (List.mem_of_getElem? hx)).vars) O) (Aq Az 1 [] O (A2 O (fun c2=>?_) (fun c2=>?_))))))))
  ·(try simp only[sd,se] at c2);refine Au Az 1 [] O (A4 (⟨O,_,_,⟨_,_,O,O,O⟩,(List.nil_sublist _),?_⟩))
   all_goals exact⟨by show (.p (.bool false):AV)=_;rw[Di (fun h=>by subst h;rw[hx] at hx1;injection hx1 with e;subst e;simp[DH] at c2)],rfl⟩
  (try simp only[sd,se] at c2);refine A5 (Ax (Aq Az 2 [] O (⟨(i+1),AQ,⟨by omega,GN (p:=fun j x=>b[j]?=some x) hC hx (by have e:x=x1:=Ed.1 (by simpa using c2);rw[e];exact hx1)⟩,BZ ⟨we rfl,we rfl,we rfl,we rfl,we rfl,trivial⟩ (leH (is:=[]) rfl (DF))⟩)))
 (try simp only[sd,se] at c1);refine Bk (Au Az 1 [] O (A4 (⟨O,_,_,⟨_,_,O,O,O⟩,(List.nil_sublist _),?_⟩)))
 all_goals exact⟨by show (.p (.bool true):AV)=_;rw[DH (TI An fun j hj x hx=>hC j An x hx)],rfl⟩
theorem UT:∀(n:Nat) (a b:List Tm),(∀x y:Tm,size x≤n→Nd x→D3 Tryz.prog 31 [TV x,TV y] (.p (.bool (Iy x y))))→(Bb a≤n)→(D7 a)→(a.length<Cb)→D3 Tryz.prog 83 [.p (.lst (Av a)),.p (.lst (Av b)),.p (.fn 31)] (.p (.bool (Iy a b))):=by
 intro n a b h1 h2 h3 h4;simp only[Cb] at h4;refine A1 Tryz.func83 O kt (n:=32) O O (Au Az 1 [] O (As (Ay (CA O (Ar O (BH BY O (BD _)) (CA O (Ar O (BH BY O (BD _)) (Aq Az 1 [] O (A2 O (fun c=>?_) (fun c=>?_))))))))))
 ·(try simp only[sd,se] at c);refine Au Az 1 [] O (A4 (⟨O,_,_,⟨_,_,O,O,O⟩,(List.nil_sublist _),?_⟩))
  all_goals exact⟨by show (.p (.bool false):AV)=_;rw[Di (fun h=>by subst h;simp at c)],rfl⟩
 (try simp only[sd,se] at c);refine A5 (As (Ay (CA O (Ar O (BH BY O (BD _)) (Aq Az 1 [] O (BA ?_))))));refine Bh (α:=Nat) (fun i=>⟨32,mk [(1,.p (.lst (Av b))),(2,.p (.fn 31)),(15,.p (.lst (Av a))),(16,.p (I (a.length:Nat))),(17,.p (I (i:Int)))],[],[]⟩) (fun i=>a.length - i) (fun i=>i≤a.length∧(∀j,j<i→∀x,a[j]?=some x→b[j]?=some x)) 0 (⟨by omega,fun j h=>by omega⟩) ?_ ?_
 ·exact BZ ⟨we O,we O,we O,we O,we O,Ap⟩ (leH (is:=[]) O (DF))
 rintro i hC
 try simp only at hC
 obtain⟨hi,hC⟩:=hC;refine Au Az 1 [] O (As (A2 O (fun c1=>?_) (fun c1=>?_)))
 ·(try simp only[sd,se] at c1);refine A5 (As (BA (Ay (CA O ?_))));obtain⟨x,hx⟩:=A9 (l:=a) (i:=i) An;refine Ar O (BC BY O O An (B0 hx) (BF _)) (Ar O (Bg Bx O (BF _)) (BE O (A7 Bq O) fun b8=>Aq Az 2 [0,1] O (Ay (A0 Az 2 [] O ?_))));obtain⟨x1,hx1⟩:=A9 (l:=b) (i:=i) An;refine Ar O (BC BY O O An (B0 hx1) (BF _)) (Ar O (Bg Bx O (BF _)) (BE O (A7 Bq O) fun b9=>Aq Az 1 [0,1] O (Ay (A0 Az 3 [1,0] O (Ar O (BB O O (h1 x x1 (by have:=B5 hx;omega) (Cq h3 hx)) O) (Aq Az 1 [] O (A2 O (fun c2=>?_) (fun c2=>?_))))))))
  ·(try simp only[sd,se] at c2);refine Au Az 1 [] O (A4 (⟨O,_,_,⟨_,_,O,O,O⟩,(List.nil_sublist _),?_⟩))
   all_goals exact⟨by show (.p (.bool false):AV)=_;rw[Di (fun h=>by subst h;rw[hx] at hx1;injection hx1 with e;subst e;simp[DH] at c2)],rfl⟩
  (try simp only[sd,se] at c2);refine A5 (Ax (Aq Az 2 [] O (⟨(i+1),AQ,⟨by omega,GN (p:=fun j x=>b[j]?=some x) hC hx (by have e:x=x1:=Ed.1 (by simpa using c2);rw[e];exact hx1)⟩,BZ ⟨we rfl,we rfl,we rfl,we rfl,we rfl,trivial⟩ (leH (is:=[]) rfl (DF))⟩)))
 (try simp only[sd,se] at c1);refine Bk (Au Az 1 [] O (A4 (⟨O,_,_,⟨_,_,O,O,O⟩,(List.nil_sublist _),?_⟩)))
 all_goals exact⟨by show (.p (.bool true):AV)=_;rw[DH (TI An fun j hj x hx=>hC j An x hx)],rfl⟩
theorem QC:∀(n:Nat) (a b:Tm),(size a≤n)→(Nd a)→D3 Tryz.prog 31 [.agg ((Bc a).map .p),.agg ((Bc b).map .p)] (.p (.bool (Iy a b))):=by
 intro n
 induction n with
 | zero=>intro a b h1;cases a;simp[size] at h1
 | succ n ih =>
  intro a b h1 h2;obtain⟨ak,ai,an,al,as1⟩:=a;simp only[size] at h1;simp only[Nd,Cb] at h2;obtain⟨bk,bi,bn,bl,bs⟩:=b;refine A1 Tryz.func31 O ja (n:=38) O O (Ay (BE O (BT O) fun b2=>BE O (BT O) fun b3=>Aq Az 1 [] O (As (Bj [] 4 (fun y=>y= .p (.bool (Iy (Tm.mk ak ai an al as1) (Tm.mk bk bi bn bl bs)))) ?_ ?_))))
  ·refine Ax (A0 Az 6 [1,0] O (BS 10 O (fun g=>?_) (fun g=>?_)))
   ·(try simp only[sd,se] at g);refine A0 Az 7 [1,0] O (BS 17 O (fun g1=>?_) (fun g1=>?_))
    ·(try simp only[sd,se] at g1);refine A0 Az 4 [1,0] O (BK O (P6 O O) (A0 Az 2 [] O (BS 24 O (fun g2=>?_) (fun g2=>?_))))
     ·(try simp only[sd,se] at g2);refine A0 Az 4 [1,0] O (BK O (BB O O (Yu al bl h2.2.1 h2.2.2.1) O) (A0 Az 2 [] O (BS 31 O (fun g3=>?_) (fun g3=>?_))))
      ·(try simp only[sd,se] at g3);exact A0 Az 4 [1,0] O (BK O (BB O O (UT n as1 bs ih An h2.2.2.2.2.1 h2.2.2.2.1) O) (Aq Az 2 [] O ⟨O,O,AK,(by rw[NY];first | rfl | (refine pB ?_;simp_all)),Ap⟩))
      (try simp only[sd,se] at g3);exact Aq Az 7 [] O ⟨O,O,AK,(by rw[NY];first | rfl | (refine pB ?_;simp_all)),Ap⟩
     (try simp only[sd,se] at g2);exact Aq Az 14 [] O ⟨O,O,AK,(by rw[NY];first | rfl | (refine pB ?_;simp_all)),Ap⟩
    (try simp only[sd,se] at g1);exact Aq Az 21 [] O ⟨O,O,AK,(by rw[NY];first | rfl | (refine pB ?_;simp_all)),Ap⟩
   (try simp only[sd,se] at g);exact Aq Az 28 [] O ⟨O,O,AK,(by rw[NY];first | rfl | (refine pB ?_;simp_all)),Ap⟩
  rintro _ rfl;refine A4 (⟨O,_,_,⟨_,_,O,O,O⟩,(List.nil_sublist _),?_⟩)
  all_goals exact⟨rfl,rfl⟩
end Go.Proofs.YtifphifongokcaaGreat
namespace Go.Eu
open Go.Abs
structure Rfl where
 field:Int
 args:List Tm
 results:List Tm
deriving Inhabited
structure E6 where
 name:ByteArray
 fields:List Tm
 recs:List Rfl
 results:List Tm
deriving Inhabited
structure Fam where
 name:ByteArray
 levels:Int
 params:List Tm
 indices:List Tm
 sort:Tm
 ctors:List E6
deriving Inhabited
def Cu:Rfl→List PV
 | ⟨f,a,r⟩=>[I f,.lst (Av a),.lst (Av r)]
def Ca:E6→List PV
 | ⟨n,f,c,r⟩=>[.str n,.lst (Av f),.lst (c.map Cu),.lst (Av r)]
def Bu:Fam→List PV
 | ⟨n,l,p,i,s,c⟩=> .str n::I l:: .lst (Av p):: .lst (Av i)::(Bc s++[.lst (c.map Ca)])
def lb:Tm×Tm→List PV
 | (a,b)=>Bc a++Bc b
theorem Dw (r:Rfl):(Cu r).length=3:=rfl
theorem Fk (r:E6):(Ca r).length=4:=rfl
theorem HU (r:Fam):(Bu r).length=10:=by simp[Bu,BF]
theorem UJ (r:Rfl):DC 3 (Cu r):=⟨rfl,by simp[Cu]⟩
theorem UM (r:E6):DC 4 (Ca r):=⟨rfl,by simp[Ca]⟩
theorem WZ (r:Fam):DC 10 (Bu r):=CD Ao (CD Ao (CD Ao (CD Ao (GF (n:=5) (m:=1) (HF _) (CD Ao Jn)))))
theorem Jk (l:List Rfl):∀r∈l.map Cu,DC 3 r:=GI UJ l
theorem Je (l:List E6):∀r∈l.map Ca,DC 4 r:=GI UM l
theorem Ts (r:Rfl):((Cu r).map AV.p).all one=true:=Dh (UJ r)
theorem K1 (r:E6):((Ca r).map AV.p).all one=true:=Dh (UM r)
theorem Q2 (r:Fam):((Bu r).map AV.p).all one=true:=Dh (WZ r)
def Ce (levels:Int):List CN:=(List.range levels.toNat).map fun i:Nat=>CN.mk 0 [Bv.mk i 0]
def Co (name:ByteArray) (levels:Int):Tm:= .mk 3 0 name (Ce levels) []
def CS (n:Nat) (from':Int):List Tm:=if n<1∨4096<n∨from' < 0 then [] else (List.range n).map fun i:Nat=>BP (from'+n - 1 - i)
section
open Classical
variable (own:Tm) (params:List Tm) (ni:Nat)
noncomputable def Da (t:Tm) (last:Int):Option (List Tm) :=
 if (BI t).2.length=params.length+ni∧(BI t).1=own∧(BI t).2.take params.length=CS params.length last then some ((BI t).2.drop params.length) else none
noncomputable def FC:Nat→List Tm→List Rfl
 | _,[]=>[]
 | i,t::ts=>match Da own params ni (BM t).2 (i+(BM t).1.length) with
  | none=>FC (i+1) ts
  | some l=>⟨i,(BM t).1,l⟩::FC (i+1) ts
noncomputable def Dc (c:HZ):Option E6 :=
 if params.length≤(BM c.type).1.length∧(BM c.type).1.take params.length=params then
  (Da own params ni (BM c.type).2 ((BM c.type).1.drop params.length).length).map fun l=>⟨c.name,(BM c.type).1.drop params.length,FC own params ni 0 ((BM c.type).1.drop params.length),l⟩
 else none
noncomputable def C4:List HZ→Option (List E6)
 | []=>some []
 | c::cs=>match Dc own params ni c with
  | none=>none
  | some x=>(C4 cs).map (x:: ·)
end
noncomputable def K3 (d:Ck):Except Int Fam :=
 if d.kind≠3 then .error 1
 else if d.fixed<0∨(BM d.type).1.length<d.fixed∨((BM d.type).2.kind≠1∧(BM d.type).2.kind≠2) then .error 3
 else match C4 (Co d.name d.params) ((BM d.type).1.take d.fixed.toNat) ((BM d.type).1.drop d.fixed.toNat).length d.ctors with
  | none=> .error 3
  | some l=> .ok ⟨d.name,d.params,(BM d.type).1.take d.fixed.toNat,(BM d.type).1.drop d.fixed.toNat,(BM d.type).2,l⟩
theorem Rl {n:Nat}{f:Int}(h:n<1∨4096<n∨f<0):CS n f=[]:=by unfold CS;rw[if_pos h]
theorem Lc {n:Nat}{f:Int}(h:¬(n<1∨4096<n∨f<0)):CS n f=(List.range n).map fun i:Nat=>BP (f+n - 1 - i):=by unfold CS;rw[if_neg h]
theorem IF {n:Nat}{f:Int}(h:¬(n<1∨4096<n∨f<0)):(CS n f).length=n:=by rw[Lc h];simp
theorem Sw {n:Nat}{f:Int}(h:¬(n<1∨4096<n∨f<0)) {i:Nat}(hi:i<n) {e:Int}(he:e=f+n - 1 - i):((CS n f).take i++List.replicate (n - i) Bi).set i (.mk 0 e ⟨#[]⟩ [] [])=(CS n f).take (i+1)++List.replicate (n - (i+1)) Bi:=by
 rw[RI (by rw[List.length_take,IF h];omega) An,List.take_add_one,show (CS n f)[i]?=some (BP (f+n - 1 - i)) by rw[Lc h];simp[List.getElem?_map,List.getElem?_range hi],he];rfl
theorem QO {a b:List Tm}(h:¬a.length=b.length):Iy a b=false:=Di fun e=>h (by rw[e])
structure Is where
 own:Tm
 params:List Tm
 indices:Int
deriving Inhabited
def TD:Is→List PV
 | ⟨o,p,i⟩=>Bc o++[.lst (Av p),I i]
section
variable {own:Tm}{params:List Tm}{ni:Nat}{t:Tm}{last:Int}
theorem L3 (h:¬(BI t).2.length=params.length+ni):true=(Da own params ni t last).isNone:=by unfold Da;rw[if_neg (fun q=>h q.1)];rfl
theorem Li (h:Iy (BI t).1 own=false):true=(Da own params ni t last).isNone:=by
 unfold Da;rw[if_neg (fun q=>by rw[q.2.1,DH rfl] at h;cases h)];rfl
theorem Lz (h:(BI t).2.length=params.length+ni) (h2:Iy (BI t).1 own=true):(!Iy ((BI t).2.take params.length) (CS params.length last))=(Da own params ni t last).isNone:=by
 unfold Da;cases q:Iy ((BI t).2.take params.length) (CS params.length last) with
 | true=>rw[if_pos ⟨h,Ed.1 h2,Ed.1 q⟩];rfl
 | false=>rw[if_neg (fun r=>by rw[r.2.2,DH rfl] at q;cases q)];rfl
theorem Pp (h0:(Da own params ni t last).isNone=false):Da own params ni t last=some ((BI t).2.drop params.length):=by
 have h:¬(Da own params ni t last).isNone=true:=by rw[h0];decide
 unfold Da at h ⊢;split at h
 ·rename_i q;rw[if_pos q]
 exact absurd O h
theorem Ra (h0:(Da own params ni t last).isNone=false):(BI t).2.length=params.length+ni:=by
 unfold Da at h0;split at h0
 ·rename_i q;exact q.1
 cases h0
theorem PR (h:(Da own params ni t last).isNone=true):Da own params ni t last=none:=Option.isNone_iff_eq_none.1 h
end
section
variable {own:Tm}{params:List Tm}{ni:Nat}
theorem RE {t:Tm}{last:Int}(h:(Da own params ni t last).isSome=false):Da own params ni t last=none:=by cases q:Da own params ni t last with | none=>rfl | some x=>rw[q] at h;cases h
theorem QG {t:Tm}{last:Int}(h:(Da own params ni t last).isSome=true):Da own params ni t last=some ((Da own params ni t last).getD []):=by cases q:Da own params ni t last with | none=>rw[q] at h;cases h | some x=>rfl
theorem QH {fs:List Tm}{i:Nat}{x:Tm}{ys zs:List Rfl}(hx:fs[i]?=some x) (h:Da own params ni (BM x).2 (i+(BM x).1.length)=none) (hC:ys++FC own params ni i (fs.drop i)=zs):ys++FC own params ni (i+1) (fs.drop (i+1))=zs:=by
 rw[Cm hx,FC,h] at hC;exact hC
theorem Qp {fs:List Tm}{i:Nat}{x:Tm}{ys zs:List Rfl}{l:List Tm}(hx:fs[i]?=some x) (h:Da own params ni (BM x).2 (i+(BM x).1.length)=some l) (hC:ys++FC own params ni i (fs.drop i)=zs):(ys++[⟨i,(BM x).1,l⟩])++FC own params ni (i+1) (fs.drop (i+1))=zs:=by
 rw[Cm hx,FC,h] at hC;rw[List.append_assoc];exact hC
theorem RK {fs:List Tm}{i:Nat}{ys zs:List Rfl}(hi:fs.length≤i) (hC:ys++FC own params ni i (fs.drop i)=zs):ys=zs:=by
 rw[List.drop_eq_nil_of_le hi,FC,List.append_nil] at hC;exact hC
end
theorem Lh:∀(t:Tm),size (BM t).2≤size t∧(Nd t→Nd (BM t).2∧D7 (BM t).1)
 | .mk k i n l [a,b]=>by
  unfold BM;split
  ·obtain⟨q1,q2⟩:=Lh b;exact⟨by simp only[size,Bb];omega,fun h=>⟨(q2 h.2.2.2.2.1.2.1).1,h.2.2.2.2.1.1,(q2 h.2.2.2.2.1.2.1).2⟩⟩
  ·exact⟨Nat.le_refl _,fun h=>⟨h,Ap⟩⟩
 | .mk k i n l []=>⟨Nat.le_refl _,fun h=>⟨h,trivial⟩⟩
 | .mk k i n l [a]=>⟨Nat.le_refl _,fun h=>⟨h,trivial⟩⟩
 | .mk k i n l (a::b::c::r)=>⟨Nat.le_refl _,fun h=>⟨h,trivial⟩⟩
theorem Mi (t:Tm):size (BM t).2≤size t:=(Lh t).1
theorem G4 {t:Tm}(h:Nd t):Nd (BM t).2∧D7 (BM t).1:=(Lh t).2 h
theorem Xx (l:List Rfl):∀r∈l.map Cu,∀c∈r,c≠ .nils:=by
 intro r hr;obtain⟨⟨a,b,d⟩,_,rfl⟩:=List.mem_map.1 hr;simp[Cu]
theorem Wz (l:List E6):∀r∈l.map Ca,∀c∈r,c≠ .nils:=by
 intro r hr;obtain⟨⟨a,b,d,e⟩,_,rfl⟩:=List.mem_map.1 hr;simp[Ca]
def HI:E6:=⟨⟨#[]⟩,[],[],[]⟩
section
variable {own:Tm}{params:List Tm}{ni:Nat}{c:HZ}
theorem bH (h:(decide (params.length≤(BM c.type).1.length)&&Iy ((BM c.type).1.take params.length) params)=false):Dc own params ni c=none:=by
 unfold Dc;rw[if_neg (fun q=>by rw[decide_eq_true q.1,DH q.2] at h;cases h)]
theorem cN (h:(decide (params.length≤(BM c.type).1.length)&&Iy ((BM c.type).1.take params.length) params)=true):params.length≤(BM c.type).1.length∧∀l,Da own params ni (BM c.type).2 ((BM c.type).1.drop params.length).length=l→Dc own params ni c=l.map fun l=>⟨c.name,(BM c.type).1.drop params.length,FC own params ni 0 ((BM c.type).1.drop params.length),l⟩:=by
 rw[Bool.and_eq_true,decide_eq_true_eq,Ed] at h;refine⟨h.1,fun l hl=>?_⟩;unfold Dc;rw[if_pos h,hl]
end
theorem NZ:∀(t:Tm),Bb (BM t).1≤size t
 | .mk k i n l [a,b]=>by
  unfold BM;split
  ·have:=NZ b;simp only[size,Bb];omega
  ·simp[Bb]
 | .mk k i n l []=>by simp[BM,Bb]
 | .mk k i n l [_]=>by simp[BM,Bb]
 | .mk k i n l (_::_::_::_)=>by simp[BM,Bb]
end Go.Eu
namespace Go.Proofs.YtifphifongokcaaGreat
open Go.Abs Go.Eu
theorem VO:∀(nm:ByteArray) (lv:Int),(0≤lv∧lv≤1000)→D3 Tryz.prog 107 [.p (.str nm),.p (I lv)] (.agg ((Bc (.mk 3 0 nm (Ce lv) [])).map .p)):=by
 intro nm lv h1;refine A1 Tryz.func107 O fB (n:=24) O O (Ay (BE O (A7 Bq O) fun b4=>Bo O (Ay (A0 Az 2 [] O (BE O (A7 Bq O) fun b5=>Aq Az 1 [0,0] O (As (Ay (B7 (Ew (i:=0) O (Mx (aw (we O) (aw (we O) (aw (we O) (aw (E3) (aw (we O) (FE)))))))) (B7 (EM (sz:=2)) (Aq Az 2 [] O (BA ?_)))))))))));refine Bh (α:=Nat×Option Nat×Nat) (fun(i,o,cp)=>⟨24,mk [(4,.ptr b4 0),(5,.ptr b5 0),(9,.p (I lv)),(10,.p (I (i:Int)))],[.vec o 2 (List.map B6 ((List.range i).map fun i:Nat=>CN.mk 0 [Bv.mk i 0])) cp,.box b5 [.p (I 3),.p (I 0),.p (.str nm),.vs o (List.map B6 ((List.range i).map fun i:Nat=>CN.mk 0 [Bv.mk i 0])).length cp,.p (.nils)],.box b4 [.p (I 0),.p (I 0),.p (.str ⟨#[]⟩),.p (.nils),.p (.nils)]],[]⟩) (fun(i,o,cp)=>lv.toNat - i) (fun(i,o,cp)=>i≤lv.toNat) ⟨0,none,0⟩ AO ?_ ?_
 ·exact BZ ⟨we O,we O,we O,we O,Ap⟩ (leH (is:=[0,1,2]) O (wl (oe O) (wl (oe O) (wl (oe O) (DF)))))
 rintro⟨i,o,cp⟩ hC
 try simp only at hC
 have hi:=hC;refine Au Az 1 [] O (As (A2 O (fun c=>?_) (fun c=>?_)))
 ·(try simp only[sd,se] at c);refine A5 (As (BA (Au Az 2 [] O (Ax (A0 Az 4 [1] O (Ar O (Bz GY Qf O O O O O) (Ar O (CC VC G0 O) (Ar O (Bz E1 G0 O O O O O) (Dp O O (B3 (i:=0) (rows':=List.map B6 ([(CN.mk 0 [(Bv.mk (i:Int) 0)])])) E1 E1 G0 O O O O O O (Fi _) Ah (HJ (f:=B6) ((List.range i).map fun i:Nat=>CN.mk 0 [Bv.mk i 0]) ([(CN.mk 0 [(Bv.mk (i:Int) 0)])]))) fun o1 cp1=>Aq Az 2 [1,0] O (Ax (Aq Az 2 [] O ?_)))))))))));refine⟨⟨i+1,o1,cp1⟩,AQ,by omega,BZ ⟨we rfl,we rfl,we rfl,we rfl,trivial⟩ (leH (is:=[0,1,2]) rfl (wl (Eh (f:=B6) (((List.range i).map fun i:Nat=>CN.mk 0 [Bv.mk i 0])++([(CN.mk 0 [(Bv.mk (i:Int) 0)])])) (by rw[List.range_succ,List.map_append];rfl)) (wl (Mx (aw (we rfl) (aw (we rfl) (aw (we rfl) (aw (we (FM (f:=B6) (((List.range i).map fun i:Nat=>CN.mk 0 [Bv.mk i 0])++([(CN.mk 0 [(Bv.mk (i:Int) 0)])])) (by rw[List.range_succ,List.map_append];rfl))) (aw (we rfl) (FE))))))) (wl (oe rfl) (DF)))))⟩
 (try simp only[sd,se] at c);refine Bk (Ay (B7 (CR (i:=0) (j:=1) (q:=3) [] O O O (C6 Ap)) (Aq Az 2 [0,1,0] O (BU (CB (i:=1) O) (A4 (⟨O,_,_,⟨_,_,O,(BO (i:=1) Bx O O O),O⟩,(List.nil_sublist _),?_⟩))))))
 all_goals exact⟨by show (.agg [.p (I 3),.p (I 0),.p (.str nm),.p (.lst (List.map B6 ((List.range i).map fun i:Nat=>CN.mk 0 [Bv.mk i 0]))),.p (.lst [])]:AV)=_;unfold Ce;rw[show i=lv.toNat by omega];rfl,rfl⟩
theorem _root_.Go.AN {α:Prop}(h:α:=by refine pB (Bool.eq_iff_iff.2 ?_);simp<;>omega):α:=h
theorem Yo:∀(n from1:Int),(0≤n∧n≤1000000)→(-1000000≤from1∧from1≤1000000)→D3 Tryz.prog 167 [.p (I n),.p (I from1)] (.p (.lst (Av (CS n.toNat from1)))):=by
 intro n from1 h1 h2;refine A1 Tryz.func167 O gC (n:=36) O O (Au Az 1 [] O (As (As (Bj [0,1] 16 (fun y=>y= .p (.bool (decide (n.toNat<1∨4096<n.toNat∨from1<0)))) ?_ ?_))))
 ·refine Ax (A0 Az 3 [] O (BS 9 O (fun g=>?_) (fun g=>?_)))
  ·(try simp only[sd,se] at g);exact Aq Az 7 [] O (⟨O,O,AK,AN,⟨O,O,Ap⟩⟩)
  (try simp only[sd,se] at g);refine A0 Az 4 [] O (BS 13 O (fun g1=>?_) (fun g1=>?_))
  ·(try simp only[sd,se] at g1);exact Aq Az 3 [] O (⟨O,O,AK,AN,⟨O,O,Ap⟩⟩)
  (try simp only[sd,se] at g1);exact Aq Az 3 [] O (⟨O,O,AK,AN,⟨O,O,Ap⟩⟩)
 rintro _ rfl;refine A2 O (fun c=>?_) (fun c=>?_)
 ·(try simp only[sd,se] at c);have hv:=c;refine Au Az 1 [] O (BU (Hk 4) (A4 (⟨O,_,_,⟨_,_,O,O,O⟩,(List.nil_sublist _),?_⟩)))
  all_goals exact⟨by show (.p (.lst (Av [])):AV)=_;rw[Rl hv],rfl⟩
 (try simp only[sd,se] at c);have hv:=c;refine A5 (Ay (CA O (JG O O (EA BY Bq O O Am O O O An An An (Ur ((n:Int).toNat) (.mk 0 0 ⟨#[]⟩ [] []:Tm))) fun b18 cp=>Aq Az 1 [] O (As (Ay (CA O (Ar O (EP BY O (BD _)) (Aq Az 1 [] O (BA (Bh (α:=Nat×Option Nat×Nat) (fun(i,o,cp1)=>⟨36,mk [(0,.p (I n)),(1,.p (I from1)),(5,.vs o (Av ((CS n.toNat from1).take i++List.replicate (n.toNat - i) Bi)).length cp1),(20,.p (I ((List.replicate ((n:Int).toNat) (.mk 0 0 ⟨#[]⟩ [] []:Tm)).length:Nat))),(21,.p (I (i:Int)))],[.vec o 5 (Av ((CS n.toNat from1).take i++List.replicate (n.toNat - i) Bi)) cp1],[]⟩) (fun(i,o,cp1)=>n.toNat - i) (fun(i,o,cp1)=>i≤n.toNat) ⟨0,(some b18),cp⟩ AO ?_ ?_))))))))))
 ·exact BZ ⟨we O,we O,we (DM (List.replicate ((n:Int).toNat) (.mk 0 0 ⟨#[]⟩ [] []:Tm)) (by simp[Bi])),we O,we O,Ap⟩ (leH (is:=[0]) O (wl (C5 (List.replicate ((n:Int).toNat) (.mk 0 0 ⟨#[]⟩ [] []:Tm)) (by simp[Bi])) (DF)))
 rintro⟨i,o,cp1⟩ hC
 try simp only at hC
 have hi:=hC;refine Au Az 1 [] O (As (A2 O (fun c1=>?_) (fun c1=>?_)))
 ·(try simp only[sd,se] at c1);have hin:i<n.toNat:=by omega
  refine A5 (As (BA (Au Az 2 [] O (Ax (A0 Az 9 [] O (Mh (i:=0) O AU fun b hb=>?_))))));subst hb;refine Ar O (Cv BY O O An (by simp[BD,IF hv];omega)) (Ar O (CO (i:=0) (j:=i) Bx O O O (by simp[BD,IF hv];omega) O O O O (Hq ((CS n.toNat from1).take i++List.replicate (n.toNat - i) Bi) i (.mk 0 ((((from1:Int)+(n:Int):Int) - (1:Int):Int) - ((i:Int):Int)) ⟨#[]⟩ [] []:Tm))) (Bo O (Ax (Aq Az 2 [] O ?_))));refine⟨⟨i+1,(some b),cp1⟩,AQ,by omega,BZ ⟨we rfl,we rfl,we (HC ((CS n.toNat from1).take i++List.replicate (n.toNat - i) Bi) (by simp[IF hv];omega)),we rfl,we rfl,trivial⟩ (leH (is:=[0]) rfl (wl (C5 (((CS n.toNat from1).take i++List.replicate (n.toNat - i) Bi).set i (.mk 0 ((((from1:Int)+(n:Int):Int) - (1:Int):Int) - ((i:Int):Int)) ⟨#[]⟩ [] []:Tm)) (Sw hv hin An)) (DF)))⟩
 (try simp only[sd,se] at c1);generalize hK:(CS n.toNat from1).take i++List.replicate (n.toNat - i) Bi=K;obtain rfl:K=CS n.toNat from1:=by rw[←hK,List.take_of_length_le (by rw[IF hv];omega),show n.toNat - i=0 by omega,List.replicate_zero,List.append_nil]
 refine Bk (Au Az 2 [] O (BU (CM (i:=0) [5,35,4] O (C6 ⟨O,O,O,Ap⟩)) (A4 (⟨O,_,_,⟨_,_,O,O,O⟩,(List.nil_sublist _),?_⟩))))
 all_goals exact⟨rfl,rfl⟩
theorem R5:∀(a b:List Tm),(D7 a)→(a.length<Cb)→D3 Tryz.prog 131 [.p (.lst (Av a)),.p (.lst (Av b)),.p (.fn 31)] (.p (.bool (Iy a b))):=by
 intro a b h1 h2;refine A1 Tryz.func131 O ft (n:=18) O O (Au Az 1 [] O (As (Bj [] 6 (fun y=>y= .p (.bool (Iy a b))) ?_ ?_)))
 ·refine Ax (CA O (Ar O (BH BY O (BD _)) (CA O (Ar O (BH BY O (BD _)) (A0 Az 2 [] O (BS 12 O (fun g=>?_) (fun g=>?_)))))))
  ·(try simp only[sd,se] at g);exact A0 Az 3 [] O (BK rfl (BB rfl rfl (UT (Bb a) a b (fun x y hx hn=>QC (Bb a) x y hx hn) (Nat.le_refl _) h1 h2) rfl) (Aq Az 2 [] O ⟨O,O,AK,(by first | rfl | exact pB (QO An).symm),Ap⟩))
  (try simp only[sd,se] at g);exact Aq Az 6 [] O ⟨O,O,AK,(by first | rfl | exact pB (QO An).symm),Ap⟩
 rintro _ rfl;refine A4 (⟨O,_,_,⟨_,_,O,O,O⟩,(List.nil_sublist _),?_⟩)
 all_goals exact⟨rfl,rfl⟩
theorem aY (n:Nat) (f:Int) (h1:n≤1000000) (h2: -1000000≤f∧f≤1000000):D3 Tryz.prog 167 [.p (I (n:Int)),.p (I f)] (.p (.lst (Av (CS n f)))):=by
 have:=Yo (n:Int) f ⟨by omega,by omega⟩ h2
 rwa [Int.toNat_natCast] at this
theorem _root_.Go.AP {α:Prop}(h:α:=by simp only[BD,List.length_map];omega):α:=h
set_option maxHeartbeats 2000000 in
theorem PD:∀(s:Is) (t:Tm) (last:Int),(Nd s.own)→(size s.own<1000000)→(D7 s.params)→(s.params.length<1000)→(0≤s.indices∧s.indices≤1000)→(Nd t)→(size t<1000000)→(0≤last∧last≤1000000)→D3 Tryz.prog 132 [.agg ((TD s).map .p),.agg ((Bc t).map .p),.p (I last)] (.tup [.p (.lst (Av ((Da s.own s.params s.indices.toNat t last).getD []))),.p (.bool ((Da s.own s.params s.indices.toNat t last).isSome))]):=by
 intro s t last h1 h2 h3 h4 h5 h6 h7 h8;have hsp:=L6 t;have hsn:=Kp t h6;obtain⟨so,sp,si⟩:=s;obtain⟨sok,soi,son,sol,sos⟩:=so;simp only at h1 h2 h3 h4 h5;refine A1 Tryz.func132 O gN (n:=46) O O (Ay (BE O (BT O) fun b3=>BE O (BT O) fun b4=>Aq Az 2 [] O (Ay (Ar O (BR (i:=0) Bx O O Ad) (Ar O (BB O O (XP t h6 AW) O) (A0 Az 3 [] O (BE O (A7 Bq O) fun b8=>Aq Az 2 [0,1] O (Ay (A0 Az 2 [2] O (Ar O (BH BY O (BD _)) (Aq Az 1 [] O (As (As (Bj [9,10] 42 (fun y=>y= .p (.bool ((Da (.mk sok soi son sol sos:Tm) sp si.toNat t last).isNone))) ?_ ?_))))))))))))))
 ·refine CK (fun k=>false) Eb (BG O (fun _=>Bm O) Ap (BG O (fun _=>BH BY O (BD _)) Ap (Bf Az 6 [2] O (Fo 26 O (fun g=>?_) (fun g=>?_)))))
  ·(try simp only[sd,se] at g);exact CE Az 16 [] O (⟨O,O,AK,(by first | rfl | (refine pB (L3 ?_);omega) | (refine pB (Li ?_);simpa using g1) | (refine pB (Lz ?_ ?_);omega;simpa using g1)),⟨O,O,Ap⟩⟩)
  (try simp only[sd,se] at g);refine Bf Az 2 [0] O (HT (i:=2) O O O O O (fun H i hi=>FO (i:=i) Bx O hi O O) AB Ap (Cp O (fun _=>BB O O (QC _ ((BI t).1) (.mk sok soi son sol sos:Tm) (Nat.le_refl _) hsn.1) O) Ap (Bf Az 3 [] O (Fo 33 O (fun g1=>?_) (fun g1=>?_)))))
  ·(try simp only[sd,se] at g1);exact CE Az 9 [] O (⟨O,O,AK,(by first | rfl | (refine pB (L3 ?_);omega) | (refine pB (Li ?_);simpa using g1) | (refine pB (Lz ?_ ?_);omega;simpa using g1)),⟨O,O,Ap⟩⟩)
  (try simp only[sd,se] at g1);exact Bf Az 2 [] O (Cp O (fun _=>CX (lo:=0) (hi:=sp.length) BY O (By (Bn _)) O ⟨_,O⟩ (Nat.zero_le _) AP (PN ((BI t).2) sp.length)) Ap (Bf Az 2 [] O (Cp O (fun _=>BB O O (aY sp.length last An An) O) Ap (Cp O (fun _=>BB O O (R5 (((BI t).2).take sp.length) (CS sp.length last) (ID hsn.2 _) (by simp only[Cb,List.length_take];omega)) O) Ap (CE Az 2 [] O (⟨O,O,AK,(by first | rfl | (refine pB (L3 ?_);omega) | (refine pB (Li ?_);simpa using g1) | (refine pB (Lz ?_ ?_);omega;simpa using g1)),⟨O,O,Ap⟩⟩))))))
 rintro _ rfl;refine A2 O (fun c=>?_) (fun c=>?_)
 ·(try simp only[sd,se] at c);have hrn:=PR c;refine Au Az 2 [] O (BU (Hk 6) (A4 (⟨O,_,_,⟨_,_,O,O,⟨_,_,O,O,O⟩⟩,(List.nil_sublist _),?_⟩)))
  all_goals exact⟨by show (.tup [.p (.lst (Av [])),.p (.bool false)]:AV)=_;rw[hrn];rfl,rfl⟩
 (try simp only[sd,se] at c);have hrs:=Pp c;have hrl:=Ra c;refine A5 (Ay (A0 Az 2 [] O (Ar O (CX (lo:=sp.length) BY O (By (Bn _)) ⟨_,O⟩ O AP (Nat.le_refl _) (MK ((BI t).2) sp.length)) (Aq Az 2 [] O (A4 (⟨O,_,_,⟨_,_,O,O,⟨_,_,O,O,O⟩⟩,(List.nil_sublist _),?_⟩))))))
 all_goals exact⟨by show (.tup [.p (.lst (Av (((BI t).2).drop sp.length))),.p (.bool true)]:AV)=_;rw[hrs];rfl,rfl⟩
end Go.Proofs.YtifphifongokcaaGreat
namespace Go
section
variable {F:Fence}{n:Nat}{P:Program}{b:Frame}{a:Act}{k:List Item}{cs:List Frame}{w:World}{Q:Exit→Act→World→Prop}
theorem Fh {c:Code}:step P (lone (b.atR a (.code (.scope c)::k)) cs w)= .next (lone (b.atR a (.code c:: .inScope c::k)) cs w) :=
 step_lone_go (by simp[stepG,stepG.exec,Frame.atR])
theorem Od {c:Code}:step P (lone (b.atR a (.inScope c::k)) cs w)= .next (lone (b.atR a k) cs w) :=
 step_lone_go (by simp[stepG,stepG.exec,Frame.atR])
theorem TC {c:Code}(h:c.wpIn F n P (Exit.noGoto Q) a w):(Code.scope c).wpIn F n P Q a w:=by
 intro b k cs hro hb hr;have h0:(lone (b.atR a (.code (.scope c)::k)) cs w).fenced P F:=fenced_calm hb hr rfl;obtain⟨e,a₁,w₁,hq,harr⟩:=h b (.inScope c::k) cs hro hb hr;cases e with
 | normal=>exact⟨.normal,a₁,w₁,hq,.head h0 Fh (StepsIn.trans harr (.one (fenced_calm hb hr rfl) Od))⟩
 | exit id =>
  have hx:exitTo id (.inScope c::k)=exitTo id k:=by simp[exitTo]
  exact⟨.exit id,a₁,w₁,hq,fun k' hk=> .head h0 Fh (harr.1 k' (by rw[hx];exact hk)),
   fun hr' hk=>let ⟨k₁,h1,h2⟩:=harr.2 hr' (by rw[hx];exact hk);⟨k₁,h1,.head h0 Fh h2⟩⟩
 | goto l=>exact hq.elim
 | ret=>exact⟨_,a₁,w₁,hq,.of_steps (.one h0 Fh) harr⟩
 | panic ch=>exact⟨_,a₁,w₁,hq,.of_steps (.one h0 Fh) harr⟩
 | outgrown=>exact⟨_,a₁,w₁,hq,.of_steps (.one h0 Fh) harr⟩
end
namespace Abs
variable {P:Program}{r:Option Nat}{c:Code}{S:Be}{Q:CV→Be→Prop}
theorem U4 {l:Nat}(h:Q .normal S):Gj P r (.label l) S Q:=fun F a w hs=>wpIn_label ⟨.normal,S,F,h,rfl,hs,.refl⟩
theorem U6 (h:Gj P r c S Q):Gj P r (.scope c) S Q:=by
 intro F a w hs;refine TC (wpIn_mono (h F a w hs) ?_);rintro e a' w' ⟨e',S',F',hq,he,hs',ht⟩;have key:∀e0:Exit,e0=e→Exit.noGoto (post F S.H w Q) e0 a' w':=by
  intro e0 h0;subst h0;have hp:post F S.H w Q e0 a' w':=⟨e',S',F',hq,he,hs',ht⟩;cases e0 with
  | goto l=>cases e'<;>simp[Un] at he
  | normal=>exact hp
  | exit i=>exact hp
  | ret=>exact hp
  | panic v=>exact hp
  | outgrown=>exact hp
 exact key e O
end Abs
end Go
namespace Go.Proofs.YtifphifongokcaaGreat
open Go.Abs Go.Eu
set_option maxHeartbeats 2000000 in
theorem W0:∀(s:Is) (fs:List Tm),(Nd s.own)→(size s.own<1000000)→(D7 s.params)→(s.params.length<1000)→(0≤s.indices∧s.indices≤1000)→(D7 fs)→(Bb fs<100000)→D3 Tryz.prog 133 [.agg ((TD s).map .p),.p (.lst (Av fs))] (.p (.lst (List.map Cu (FC s.own s.params s.indices.toNat 0 fs)))):=by
 intro s fs h1 h2 h3 h4 h5 h6 h7;have hfl:=G2 fs;obtain⟨so,sp,si⟩:=s;obtain⟨sok,soi,son,sol,sos⟩:=so;simp only at h1 h2 h3 h4 h5;refine A1 Tryz.func133 O fy (n:=45) O O (Ay (BE O (BT O) fun b2=>Aq Az 1 [] O (U6 (Au Az 1 [] O (As (U4 (As (Ay (CA O (Ar O (BH BY O (BD _)) (Aq Az 1 [] O (BA (BU (DZ (t:=5) (sz:=3) O) ?_)))))))))))));refine Bh (α:=Nat×List Rfl×Option Nat×Nat) (fun(i,ys,o,cp)=>⟨45,mk [(2,.ptr b2 0),(5,.vs o (List.map Cu ys).length cp),(12,.p (.lst (Av fs))),(13,.p (I (fs.length:Nat))),(14,.p (I (i:Int)))],[.vec o 3 (List.map Cu ys) cp,.box b2 [.p (I sok),.p (I soi),.p (.str son),.p (.lst (List.map B6 sol)),.p (.lst (Av sos)),.p (.lst (Av sp)),.p (I si)]],[]⟩) (fun(i,ys,o,cp)=>fs.length - i) (fun(i,ys,o,cp)=>i≤fs.length∧(ys++FC (.mk sok soi son sol sos:Tm) sp si.toNat i (fs.drop i)=FC (.mk sok soi son sol sos:Tm) sp si.toNat 0 fs∧ys.length≤i)) ⟨0,[],none,0⟩ (⟨by omega,by simp,by simp⟩) ?_ ?_
 ·exact BZ ⟨we O,we O,we O,we O,we O,Ap⟩ (leH (is:=[0,1]) O (wl (oe O) (wl (oe O) (DF))))
 rintro⟨i,ys,o,cp⟩ hC
 try simp only at hC
 obtain⟨hi,hC⟩:=hC;refine Au Az 1 [] O (As (A2 O (fun c=>?_) (fun c=>?_)))
 ·(try simp only[sd,se] at c);refine A5 (As (BA (Ay (CA O ?_))));obtain⟨x,hx⟩:=A9 (l:=fs) (i:=i) An;refine Ar O (BC BY O O An (B0 hx) (BF _)) (Ar O (Bg Bx O (BF _)) (BE O (A7 Bq O) fun b7=>Aq Az 2 [0,1] O (Ay (Ar O (BR (i:=0) Bx O O Ad) (Ar O (BB O O (QA x (Cq h6 hx) (by have:=B5 hx;omega)) O) (A0 Az 3 [] O (BE O (A7 Bq O) fun b9=>Aq Az 2 [0,1] O (Ay (A0 Az 4 [3,0] O (Ar O (BH BY O (BD _)) (Ar O (EK O O (by have:=Cr x;have:=B5 hx;omega) (by have:=Cr x;have:=B5 hx;omega)) ?_)))))))))));refine Ar O (BB O O (PD (Is.mk (.mk sok soi son sol sos:Tm) sp si) ((BM x).2) (((i:Int):Int)+((((BM x).1).length:Nat):Int)) h1 h2 h3 h4 h5 (G4 (Cq h6 hx)).1 (by have:=Mi x;have:=B5 hx;omega) (by have:=Cr x;have:=B5 hx;omega)) O) (Aq Az 5 [] O (As (Au Az 2 [] O (A2 O (fun c1=>?_) (fun c1=>?_)))))
  ·(try simp only[sd,se] at c1);have hrn:=RE (by simpa using c1);refine Bk (Ax (Ar O (EK O O (by have:=Cr x;have:=B5 hx;omega) (by have:=Cr x;have:=B5 hx;omega)) (Aq Az 1 [] O ?_)));refine⟨⟨i+1,ys,o,cp⟩,AQ,⟨by omega,by first | exact⟨QH hx hrn hC.1,by have:=hC.2;omega⟩ | exact⟨Qp hx hrs hC.1,by have:=hC.2;simp;omega⟩⟩,BZ ⟨we rfl,we rfl,we rfl,we rfl,we rfl,trivial⟩ (leH (is:=[2,3]) rfl (wl (oe rfl) (wl (oe rfl) (DF))))⟩
  (try simp only[sd,se] at c1);have hrs:=QG (by simpa using c1);refine A5 (Ax (A0 Az 5 [] O (Ar O (Ba (rows:=List.map Cu ([(Rfl.mk (i:Int) ((BM x).1) ((Da (Is.mk (.mk sok soi son sol sos:Tm) sp si).own (Is.mk (.mk sok soi son sol sos:Tm) sp si).params (Is.mk (.mk sok soi son sol sos:Tm) sp si).indices.toNat ((BM x).2) (((i:Int):Int)+((((BM x).1).length:Nat):Int))).getD []))])) Ll VV O O O O (By (Jk _)) (Xx _)) ?_)));refine Dp O O (B3 (i:=2) (rows':=List.map Cu ([(Rfl.mk (i:Int) ((BM x).1) ((Da (Is.mk (.mk sok soi son sol sos:Tm) sp si).own (Is.mk (.mk sok soi son sol sos:Tm) sp si).params (Is.mk (.mk sok soi son sol sos:Tm) sp si).indices.toNat ((BM x).2) (((i:Int):Int)+((((BM x).1).length:Nat):Int))).getD []))])) Ll Ll VV O O O O O O (Jk _) (by have:=hC.2;simp;omega) (HJ (f:=Cu) ys ([(Rfl.mk (i:Int) ((BM x).1) ((Da (Is.mk (.mk sok soi son sol sos:Tm) sp si).own (Is.mk (.mk sok soi son sol sos:Tm) sp si).params (Is.mk (.mk sok soi son sol sos:Tm) sp si).indices.toNat ((BM x).2) (((i:Int):Int)+((((BM x).1).length:Nat):Int))).getD []))]))) fun o1 cp1=>Aq Az 1 [] O (Ax ?_);refine Ar O (EK O O (by have:=Cr x;have:=B5 hx;omega) (by have:=Cr x;have:=B5 hx;omega)) (Aq Az 1 [] O ?_);refine⟨⟨i+1,(ys++([(Rfl.mk (i:Int) ((BM x).1) ((Da (Is.mk (.mk sok soi son sol sos:Tm) sp si).own (Is.mk (.mk sok soi son sol sos:Tm) sp si).params (Is.mk (.mk sok soi son sol sos:Tm) sp si).indices.toNat ((BM x).2) (((i:Int):Int)+((((BM x).1).length:Nat):Int))).getD []))])),o1,cp1⟩,AQ,⟨by omega,by first | exact⟨QH hx hrn hC.1,by have:=hC.2;omega⟩ | exact⟨Qp hx hrs hC.1,by have:=hC.2;simp;omega⟩⟩,BZ ⟨we rfl,we rfl,we rfl,we rfl,we rfl,trivial⟩ (leH (is:=[2,3]) rfl (wl (oe rfl) (wl (oe rfl) (DF))))⟩
 (try simp only[sd,se] at c);refine Bk (Au Az 2 [] O (BU (CM (i:=0) [5,44,4] O (C6 ⟨O,O,O,Ap⟩)) (A4 (⟨O,_,_,⟨_,_,O,O,O⟩,(List.nil_sublist _),?_⟩))))
 all_goals exact⟨by show (.p (.lst (List.map Cu ys)):AV)=_;rw[RK An hC.1],rfl⟩
set_option maxHeartbeats 2000000 in
theorem ZB:∀(s:Is) (c:HZ),(Nd s.own)→(size s.own<1000000)→(D7 s.params)→(s.params.length<1000)→(0≤s.indices∧s.indices≤1000)→(Nd c.type)→(size c.type<50000)→D3 Tryz.prog 108 [.agg ((TD s).map .p),.agg ((Eg c).map .p)] (.tup [.agg ((Ca ((Dc s.own s.params s.indices.toNat c).getD HI)).map .p),.p (.bool ((Dc s.own s.params s.indices.toNat c).isSome))]):=by
 intro s c h1 h2 h3 h4 h5 h6 h7;have htl:=Cr c.type;have htn:=G4 h6;have hts:=Mi c.type;obtain⟨so,sp,si⟩:=s;obtain⟨sok,soi,son,sol,sos⟩:=so;simp only at h1 h2 h3 h4 h5;refine A1 Tryz.func108 O iO (n:=57) O O (Ay (BE O (BT O) fun b2=>BE O (BT O) fun b3=>BE O (A7 Ls O) fun b4=>Aq Az 1 [] O (Ay (Ar O (A3 QK O O) (Ar O (DW (i:=1) Bx O O (G3 _) (BF _)) (Ar O (BB O O (QA c.type h6 An) O) (A0 Az 3 [] O (BE O (A7 Bq O) fun b7=>Aq Az 2 [0,1] O (Ay (A0 Az 2 [3] O (Ar O (BH BY O (BD _)) (Aq Az 1 [] O (As (As (Bj [2,3,4,6,7,8] 33 (fun y=>y= .p (.bool (!(decide (sp.length≤(BM c.type).1.length)&&Iy ((BM c.type).1.take sp.length) sp)))) ?_ ?_)))))))))))))))
 ·refine CK (fun k=>false) Eb (BG O (fun _=>Bm O) Ap (BG O (fun _=>BH BY O (BD _)) Ap (Bf Az 3 [] O (Fo 25 O (fun g=>?_) (fun g=>?_)))))
  ·(try simp only[sd,se] at g);refine CE Az 8 [] O ?_;exact⟨O,O,AK,(by refine pB ?_;first | (rw[decide_eq_false (by omega:¬sp.length≤(BM c.type).1.length)];rfl) | (rw[decide_eq_true (by omega:sp.length≤(BM c.type).1.length)];rfl)),⟨O,O,O,O,O,O,Ap⟩⟩
  (try simp only[sd,se] at g);refine Bf Az 2 [] O (Cp O (fun _=>CX (lo:=0) (hi:=sp.length) BY O (By (Bn _)) O ⟨_,O⟩ (Nat.zero_le _) AP (PN ((BM c.type).1) sp.length)) Ap (Bf Az 2 [3] O (Cp O (fun _=>BB O O (R5 (((BM c.type).1).take sp.length) sp (ID htn.2 _) (by simp only[Cb,List.length_take];omega)) O) Ap (CE Az 2 [] O ?_))));exact⟨O,O,AK,(by refine pB ?_;first | (rw[decide_eq_false (by omega:¬sp.length≤(BM c.type).1.length)];rfl) | (rw[decide_eq_true (by omega:sp.length≤(BM c.type).1.length)];rfl)),⟨O,O,O,O,O,O,Ap⟩⟩
 rintro _ rfl;refine A2 O (fun c1=>?_) (fun c1=>?_)
 ·(try simp only[sd,se] at c1);have hc0:=bH (own:=(.mk sok soi son sol sos:Tm)) (ni:=si.toNat) (by simpa using c1);refine Au Az 3 [1,0] O (BU (CB (i:=1) O) (A4 (⟨O,_,_,⟨_,_,O,(BO (i:=1) I0 O O O),⟨_,_,O,O,O⟩⟩,(List.nil_sublist _),?_⟩)))
  all_goals exact⟨by show (.tup [.agg [.p (.str ⟨#[]⟩),.p (.lst []),.p (.lst []),.p (.lst [])],.p (.bool false)]:AV)=_;rw[hc0];rfl,rfl⟩
 (try simp only[sd,se] at c1);obtain⟨hc1,hc2⟩:=cN (own:=(.mk sok soi son sol sos:Tm)) (ni:=si.toNat) (by simpa using c1);refine A5 (Ay (A0 Az 2 [] O (Ar O (CX (lo:=sp.length) BY O (By (Bn _)) ⟨_,O⟩ O AP (Nat.le_refl _) (MK ((BM c.type).1) sp.length)) (Aq Az 1 [] O (Ay (A0 Az 3 [3,0] O (Ar O (BH BY O (BD _)) (Ar O (BB O O (PD (Is.mk (.mk sok soi son sol sos:Tm) sp si) ((BM c.type).2) ((((BM c.type).1).drop sp.length).length:Nat) h1 h2 h3 h4 h5 htn.1 An Ah) O) (Aq Az 5 [] O (As (Au Az 2 [] O (A2 O (fun c2=>?_) (fun c2=>?_)))))))))))))
 ·(try simp only[sd,se] at c2);have hrn:=hc2 _ (RE (by simpa using c2));refine Au Az 3 [1,0] O (BU (CB (i:=1) O) (A4 (⟨O,_,_,⟨_,_,O,(BO (i:=1) I0 O O O),⟨_,_,O,O,O⟩⟩,(List.nil_sublist _),?_⟩)))
  all_goals exact⟨by show (.tup [.agg [.p (.str ⟨#[]⟩),.p (.lst []),.p (.lst []),.p (.lst [])],.p (.bool false)]:AV)=_;rw[hrn];rfl,rfl⟩
 (try simp only[sd,se] at c2);have hrs:=hc2 _ (QG (by simpa using c2));refine A5 (As (CK (fun k=>false) Eb (BG O (fun _=>A3 QK O O) Ap (Cj (j:=2) O O O (fun H i hi=>A6 (i:=i) S3 O hi (Im _)) AB Ap (Bf Az 3 [3] O (BG O (fun _=>BB O O (W0 (Is.mk (.mk sok soi son sol sos:Tm) sp si) (((BM c.type).1).drop sp.length) h1 h2 h3 h4 h5 (HX htn.2 _) (by have:=OW (BM c.type).1 sp.length;have:=NZ c.type;omega)) O) Ap (CE Az 4 [1,0] O (A4 (⟨O,_,_,⟨_,_,O,(BO (i:=1) I0 O O O),⟨_,_,O,O,O⟩⟩,(List.nil_sublist _),?_⟩)))))))))
 all_goals exact⟨by show (.tup [.agg [.p (.str c.name),.p (.lst (Av (((BM c.type).1).drop sp.length))),.p (.lst (List.map Cu (FC (Is.mk (.mk sok soi son sol sos:Tm) sp si).own (Is.mk (.mk sok soi son sol sos:Tm) sp si).params (Is.mk (.mk sok soi son sol sos:Tm) sp si).indices.toNat 0 (((BM c.type).1).drop sp.length)))),.p (.lst (Av ((Da (Is.mk (.mk sok soi son sol sos:Tm) sp si).own (Is.mk (.mk sok soi son sol sos:Tm) sp si).params (Is.mk (.mk sok soi son sol sos:Tm) sp si).indices.toNat ((BM c.type).2) ((((BM c.type).1).drop sp.length).length:Nat)).getD [])))],.p (.bool true)]:AV)=_;rw[hrs];rfl,rfl⟩
end Go.Proofs.YtifphifongokcaaGreat
namespace Go.Eu
open Go.Abs
section
variable {own:Tm}{params:List Tm}{ni:Nat}
theorem WK {cs:List HZ}{i:Nat}{x:HZ}{ys:List E6}{Z:Option (List E6)}(hx:cs[i]?=some x) (h:(Dc own params ni x).isSome=false) (hC:Z=(C4 own params ni (cs.drop i)).map (ys++ ·)):Z=none:=by
 have:Dc own params ni x=none:=by cases q:Dc own params ni x with | none=>rfl | some y=>rw[q] at h;cases h
 rw[hC,Cm hx,C4,this];rfl
theorem YM {cs:List HZ}{i:Nat}{x:HZ}{ys:List E6}{Z:Option (List E6)}(hx:cs[i]?=some x) (h:(Dc own params ni x).isSome=true) (hC:Z=(C4 own params ni (cs.drop i)).map (ys++ ·)):Z=(C4 own params ni (cs.drop (i+1))).map ((ys++[(Dc own params ni x).getD HI])++ ·):=by
 cases q:Dc own params ni x with
 | none=>rw[q] at h;cases h
 | some y =>
  rw[hC,Cm hx,C4,q];cases C4 own params ni (cs.drop (i+1))<;>simp
theorem SK {cs:List HZ}{i:Nat}{ys:List E6}{Z:Option (List E6)}(hi:cs.length≤i) (hC:Z=(C4 own params ni (cs.drop i)).map (ys++ ·)):Z=some ys:=by
 rw[hC,List.drop_eq_nil_of_le hi,C4];simp
end
def Yl:Fam:=⟨⟨#[]⟩,0,[],[],Bi,[]⟩
noncomputable def BQ (d:Ck):Fam:=match K3 d with | .ok f=>f | .error _=>Yl
noncomputable def HR (d:Ck):Int:=match K3 d with | .ok _=>0 | .error e=>e
structure Vi (d:Ck):Prop where
 nd:Nd d.type
 sz:size d.type<900
 pr:0≤d.params∧d.params≤1000
 cl:d.ctors.length<1000
 cs:∀c∈d.ctors,Nd c.type∧size c.type<50000
theorem bD {d:Ck}(h:d.kind≠3):K3 d= .error 1:=by unfold K3;rw[if_pos h]
theorem bX {d:Ck}(h:¬d.kind≠3) (h2:d.fixed<0∨(BM d.type).1.length<d.fixed∨((BM d.type).2.kind≠1∧(BM d.type).2.kind≠2)):K3 d= .error 3:=by unfold K3;rw[if_neg h,if_pos h2]
theorem bU {d:Ck}(h:¬d.kind≠3) (h2:¬(d.fixed<0∨(BM d.type).1.length<d.fixed∨((BM d.type).2.kind≠1∧(BM d.type).2.kind≠2))) (hZ:C4 (Co d.name d.params) ((BM d.type).1.take d.fixed.toNat) ((BM d.type).1.drop d.fixed.toNat).length d.ctors=none):K3 d= .error 3:=by
 unfold K3;rw[if_neg h,if_neg h2,hZ]
theorem Wl {d:Ck}{l:List E6}(h:¬d.kind≠3) (h2:¬(d.fixed<0∨(BM d.type).1.length<d.fixed∨((BM d.type).2.kind≠1∧(BM d.type).2.kind≠2))) (hZ:C4 (Co d.name d.params) ((BM d.type).1.take d.fixed.toNat) ((BM d.type).1.drop d.fixed.toNat).length d.ctors=some l) :
  K3 d= .ok ⟨d.name,d.params,(BM d.type).1.take d.fixed.toNat,(BM d.type).1.drop d.fixed.toNat,(BM d.type).2,l⟩:=by
 unfold K3;rw[if_neg h,if_neg h2,hZ]
theorem O2 {n:ByteArray}{p:Int}(hn:n.size<Cb) (h:0≤p∧p≤1000):Nd (Co n p)∧size (Co n p)<1000000:=by
 refine⟨⟨hn,by simp only[Ce,List.length_map,List.length_range,Cb];omega,fun l hl=>?_,by simp only[Cb];decide,trivial,⟨by decide,by decide⟩,⟨by decide,by decide⟩⟩,by simp[Co,size,Bb]⟩;obtain⟨i,hi,rfl⟩:=List.mem_map.1 hl;have:=List.mem_range.1 hi;refine⟨by simp[Cb],⟨by simp,by simp⟩,fun v hv=>?_⟩;simp only[List.mem_singleton] at hv;subst hv;refine⟨⟨?_,?_⟩,⟨?_,?_⟩⟩<;>simp<;>omega
end Go.Eu
namespace Go.Proofs.YtifphifongokcaaGreat
open Go.Abs Go.Eu
theorem _root_.Go.AS {α:Prop}(h:α:=by first | rfl | simp[Fk]):α:=h
theorem _root_.Go.Ab {α:Prop}(h:α:=by simp[Fk]):α:=h
set_option maxHeartbeats 4000000 in
theorem N7:∀(d:Ck),(Vi d)→(d.name.size<Cb)→D3 Tryz.prog 64 [.agg ((D9 d).map .p)] (.tup [.agg ((Bu (BQ d)).map .p),.p (I (HR d))]):=by
 intro d h1 h2;have htl:=Cr d.type;have htn:=G4 h1.nd;have hsz:=h1.sz;have hcl:=h1.cl;have hpr:=h1.pr;obtain⟨hon,hos⟩:=O2 h2 h1.pr;refine A1 Tryz.func64 O kc (n:=92) O O (Ay (BE O (BT O) fun b1=>BE O (A7 Q7 O) fun b2=>Aq Az 1 [] O (As (Ay (Ar O (A3 EO O O) (Ar O (A6 (i:=1) Hd O O (Kx _)) (Aq Az 1 [] O (A2 O (fun c=>?_) (fun c=>?_)))))))))
 ·(try simp only[sd,se] at c);have hk:=bD c;refine Au Az 3 [0,0] O (BU (CB (i:=0) O) (A4 (⟨O,_,_,⟨_,_,O,(BO (i:=0) Gc O O O),⟨_,_,O,O,O⟩⟩,(List.nil_sublist _),?_⟩)))
  all_goals exact⟨by show (.tup [.agg [.p (.str ⟨#[]⟩),.p (I 0),.p (.lst []),.p (.lst []),.p (I 0),.p (I 0),.p (.str ⟨#[]⟩),.p (.lst []),.p (.lst []),.p (.lst [])],.p (I 1)]:AV)=_;unfold BQ HR;rw[hk];rfl,rfl⟩
 (try simp only[sd,se] at c);have hk:=c;refine A5 (Ay (Ar O (A3 EO O O) (Ar O (DW (i:=1) Bx O O (Gz _) (BF _)) (Ar O (BB O O (QA d.type h1.nd An) O) (A0 Az 3 [] O (BE O (A7 Bq O) fun b5=>Aq Az 2 [0,1] O (As (As (Bj [1,2,4,5] 41 (fun y=>y= .p (.bool (decide (d.fixed<0∨(BM d.type).1.length<d.fixed∨((BM d.type).2.kind≠1∧(BM d.type).2.kind≠2))))) ?_ ?_)))))))))
 ·refine Ax (Ar O (A3 EO O O) (Ar O (A6 (i:=2) Hd O O (Df _)) (A0 Az 2 [] O (BS 25 O (fun g=>?_) (fun g=>?_)))))
  ·(try simp only[sd,se] at g);refine Aq Az 16 [] O ?_;exact⟨rfl,rfl,AK,(by refine pB (Bool.eq_iff_iff.2 ?_);simp_all [Tm.kind]<;>omega),⟨rfl,rfl,rfl,rfl,trivial⟩⟩
  (try simp only[sd,se] at g);refine BK O (A3 EO O O) (BK O (A6 (i:=2) Hd O O (Df _)) (BK O (Bm O) (BK O (BH BY O (BD _)) (A0 Az 3 [] O (BS 32 O (fun g1=>?_) (fun g1=>?_))))))
  ·(try simp only[sd,se] at g1);refine Aq Az 9 [] O ?_;exact⟨rfl,rfl,AK,(by refine pB (Bool.eq_iff_iff.2 ?_);simp_all [Tm.kind]<;>omega),⟨rfl,rfl,rfl,rfl,trivial⟩⟩
  (try simp only[sd,se] at g1);refine BK O (A3 KO O O) ?_;generalize hz:(BM d.type).2=z;obtain⟨zk,zi,zn,zl,zs⟩:=z;refine A0 Az 3 [0] O (BS 36 O (fun g2=>?_) (fun g2=>?_))
  ·(try simp only[sd,se] at g2);refine Aq Az 5 [0] O ?_;exact⟨rfl,rfl,AK,(by refine pB (Bool.eq_iff_iff.2 ?_);simp_all [Tm.kind]<;>omega),⟨rfl,rfl,rfl,rfl,trivial⟩⟩
  (try simp only[sd,se] at g2);refine Aq Az 5 [] O ?_;exact⟨rfl,rfl,AK,(by refine pB (Bool.eq_iff_iff.2 ?_);simp_all [Tm.kind]<;>omega),⟨rfl,rfl,rfl,rfl,trivial⟩⟩
 rintro _ rfl;refine A2 O (fun c1=>?_) (fun c1=>?_)
 ·(try simp only[sd,se] at c1);have hk2:=bX (fun e=>e hk) c1;refine Au Az 3 [1,0] O (BU (CB (i:=1) O) (A4 (⟨O,_,_,⟨_,_,O,(BO (i:=1) Gc O O O),⟨_,_,O,O,O⟩⟩,(List.nil_sublist _),?_⟩)))
  all_goals exact⟨by show (.tup [.agg [.p (.str ⟨#[]⟩),.p (I 0),.p (.lst []),.p (.lst []),.p (I 0),.p (I 0),.p (.str ⟨#[]⟩),.p (.lst []),.p (.lst []),.p (.lst [])],.p (I 3)]:AV)=_;unfold BQ HR;rw[hk2];rfl,rfl⟩
 (try simp only[sd,se] at c1);have hk2:=c1;refine A5 (As ?_);generalize hz:(BM d.type).2=z;obtain⟨zk,zi,zn,zl,zs⟩:=z;refine D8 [.val (.ptr b1 (0+1)),.val (.p (.str d.name)),.val (.ptr b1 (0+2)),.val (.p (I d.params)),.val (.p (.lst (Av ((BM d.type).1)))),.val (.ptr b1 (0+13)),.val (.p (I d.fixed)),.val (.p (.lst (Av (((BM d.type).1).take ((d.fixed:Int).toNat))))),.val (.p (.lst (Av ((BM d.type).1)))),.val (.ptr b1 (0+13)),.val (.p (I d.fixed)),.val (.p (.lst (Av (((BM d.type).1).drop ((d.fixed:Int).toNat))))),.val (.agg [.p (I zk),.p (I zi),.p (.str zn),.p (.lst (List.map B6 zl)),.p (.lst (Av zs))]),.val (.agg [.p (.str d.name),.p (I d.params),.p (.lst (Av (((BM d.type).1).take ((d.fixed:Int).toNat)))),.p (.lst (Av (((BM d.type).1).drop ((d.fixed:Int).toNat)))),.p (I zk),.p (I zi),.p (.str zn),.p (.lst (List.map B6 zl)),.p (.lst (Av zs)),.p (.nils)]),.new [.p (.str ⟨#[]⟩),.p (I 0),.p (.nils),.p (.nils),.p (I 0),.p (I 0),.p (.str ⟨#[]⟩),.p (.nils),.p (.nils),.p (.nils)]] Eb O Ai Ai ?_;refine BN O (fun Bs=>A3 EO O O) (BN O (fun Bs=>A6 (i:=Bs.length+2) S3 O (CL O) (F4 _)) (BN O (fun Bs=>A3 EO O O) (BN O (fun Bs=>A6 (i:=Bs.length+2) Hd O (CL O) (Dk _)) (BN O (fun Bs=>Bm O) (BN O (fun Bs=>A3 EO O O) (BN O (fun Bs=>A6 (i:=Bs.length+2) Hd O (CL O) (Df _)) (BN O (fun Bs=>CX (lo:=0) (hi:=(d.fixed:Int).toNat) BY O (By (Bn _)) O ⟨_,pI An⟩ (Nat.zero_le _) AP (PN ((BM d.type).1) ((d.fixed:Int).toNat))) (BN O (fun Bs=>Bm O) (BN O (fun Bs=>A3 EO O O) (BN O (fun Bs=>A6 (i:=Bs.length+2) Hd O (CL O) (Df _)) ?_))))))))));refine BN O (fun Bs=>CX (lo:=(d.fixed:Int).toNat) BY O (By (Bn _)) ⟨_,pI An⟩ O AP (Nat.le_refl _) (MK ((BM d.type).1) ((d.fixed:Int).toNat))) (BN O (fun Bs=>BR (i:=Bs.length+0) Bx O (CL O) Ad) (BN O (fun Bs=>CC E9 Q7 O) (FB O (fun Bs=>A7 Q7 O) fun b6=>FD ?_)))
 change AL _ _ _ 15 ⟨92,_,[.box b6 [.p (.str ⟨#[]⟩),.p (I 0),.p (.nils),.p (.nils),.p (I 0),.p (I 0),.p (.str ⟨#[]⟩),.p (.nils),.p (.nils),.p (.nils)],.box b5 [.p (I zk),.p (I zi),.p (.str zn),.p (.lst (List.map B6 zl)),.p (.lst (Av zs))],.box b2 [.p (.str ⟨#[]⟩),.p (I 0),.p (.nils),.p (.nils),.p (I 0),.p (I 0),.p (.str ⟨#[]⟩),.p (.nils),.p (.nils),.p (.nils)],.box b1 ((D9 d).map .p)],[]⟩ _
 refine Aq Az 1 [0,0] O (As (D8 [.val (.ptr b1 (0+1)),.val (.p (.str d.name)),.val (.ptr b1 (0+2)),.val (.p (I d.params)),.val (.agg [.p (I 3),.p (I 0),.p (.str d.name),.p (.lst (List.map B6 (Ce d.params))),.p (.lst (Av []))]),.val (.ptr b6 (0+2)),.val (.p (.lst (Av (((BM d.type).1).take ((d.fixed:Int).toNat))))),.val (.ptr b6 (0+3)),.val (.p (.lst (Av (((BM d.type).1).drop ((d.fixed:Int).toNat))))),.val (.p (I ((((BM d.type).1).drop ((d.fixed:Int).toNat)).length:Nat))),.val (.agg [.p (I 3),.p (I 0),.p (.str d.name),.p (.lst (List.map B6 (Ce d.params))),.p (.lst (Av [])),.p (.lst (Av (((BM d.type).1).take ((d.fixed:Int).toNat)))),.p (I ((((BM d.type).1).drop ((d.fixed:Int).toNat)).length:Nat))]),.new [.p (I 0),.p (I 0),.p (.str ⟨#[]⟩),.p (.nils),.p (.nils),.p (.nils),.p (I 0)]] Eb O Ai Ai ?_));refine BN O (fun Bs=>A3 EO O O) (BN O (fun Bs=>A6 (i:=Bs.length+3) S3 O (CL O) (F4 _)) (BN O (fun Bs=>A3 EO O O) (BN O (fun Bs=>A6 (i:=Bs.length+3) Hd O (CL O) (Dk _)) (BN O (fun Bs=>BB O O (VO d.name d.params h1.pr) O) (BN O (fun Bs=>A3 E9 O O) (BN O (fun Bs=>CJ (i:=Bs.length+0) DD O (CL O) O) (BN O (fun Bs=>A3 E9 O O) (BN O (fun Bs=>CJ (i:=Bs.length+0) DD O (CL O) O) (BN O (fun Bs=>BH BY O (BD _)) (BN O (fun Bs=>CC eo aa O) (FB O (fun Bs=>A7 aa O) fun b7=>FD ?_)))))))))))
 change AL _ _ _ 12 ⟨92,_,[.box b7 [.p (I 0),.p (I 0),.p (.str ⟨#[]⟩),.p (.nils),.p (.nils),.p (.nils),.p (I 0)],.box b6 [.p (.str d.name),.p (I d.params),.p (.lst (Av (((BM d.type).1).take ((d.fixed:Int).toNat)))),.p (.lst (Av (((BM d.type).1).drop ((d.fixed:Int).toNat)))),.p (I zk),.p (I zi),.p (.str zn),.p (.lst (List.map B6 zl)),.p (.lst (Av zs)),.p (.nils)],.box b5 [.p (I zk),.p (I zi),.p (.str zn),.p (.lst (List.map B6 zl)),.p (.lst (Av zs))],.box b2 [.p (.str ⟨#[]⟩),.p (I 0),.p (.nils),.p (.nils),.p (I 0),.p (I 0),.p (.str ⟨#[]⟩),.p (.nils),.p (.nils),.p (.nils)],.box b1 ((D9 d).map .p)],[]⟩ _
 refine Aq Az 1 [0,0] O (As (Ay (B7 (Ew (i:=1) O (Mx (aw (we O) (aw (we O) (aw (we O) (aw (we O) (aw (we O) (aw (we O) (aw (we O) (aw (we O) (aw (we O) (aw (E3) (FE))))))))))))) (B7 (EM (sz:=4)) (Ar O (A3 EO O O) (Ar O (A6 (i:=5) Oe O O (DE _)) (Ar O (BH Md O (List.length_map _)) (Aq Az 1 [] O (BA ?_)))))))));refine Bh (α:=Nat×List E6×Option Nat×Nat) (fun(i,ys,o,cp)=>⟨92,mk [(2,.ptr b2 0),(6,.ptr b6 0),(7,.ptr b7 0),(69,.p (.lst (List.map Eg d.ctors))),(70,.p (I (d.ctors.length:Nat))),(71,.p (I (i:Int)))],[.vec o 4 (List.map Ca ys) cp,.box b7 [.p (I 3),.p (I 0),.p (.str d.name),.p (.lst (List.map B6 (Ce d.params))),.p (.lst (Av [])),.p (.lst (Av (((BM d.type).1).take ((d.fixed:Int).toNat)))),.p (I ((((BM d.type).1).drop ((d.fixed:Int).toNat)).length:Nat))],.box b6 [.p (.str d.name),.p (I d.params),.p (.lst (Av (((BM d.type).1).take ((d.fixed:Int).toNat)))),.p (.lst (Av (((BM d.type).1).drop ((d.fixed:Int).toNat)))),.p (I zk),.p (I zi),.p (.str zn),.p (.lst (List.map B6 zl)),.p (.lst (Av zs)),.vs o (List.map Ca ys).length cp],.box b2 [.p (.str ⟨#[]⟩),.p (I 0),.p (.nils),.p (.nils),.p (I 0),.p (I 0),.p (.str ⟨#[]⟩),.p (.nils),.p (.nils),.p (.nils)]],[]⟩) (fun(i,ys,o,cp)=>d.ctors.length - i) (fun(i,ys,o,cp)=>i≤d.ctors.length∧(C4 (Co d.name d.params) ((BM d.type).1.take d.fixed.toNat) ((BM d.type).1.drop d.fixed.toNat).length d.ctors=(C4 (Co d.name d.params) ((BM d.type).1.take d.fixed.toNat) ((BM d.type).1.drop d.fixed.toNat).length (d.ctors.drop i)).map (ys++ ·)∧ys.length≤i)) ⟨0,[],none,0⟩ (⟨by omega,by simp,by simp⟩) ?_ ?_
 ·exact BZ ⟨we O,we O,we O,we O,we O,we O,Ap⟩ (leH (is:=[0,1,2,4]) O (wl (oe O) (wl (oe O) (wl (oe O) (wl (oe O) (DF))))))
 rintro⟨i,ys,o,cp⟩ hC
 try simp only at hC
 obtain⟨hi,hC⟩:=hC;refine Au Az 1 [] O (As (A2 O (fun c2=>?_) (fun c2=>?_)))
 ·(try simp only[sd,se] at c2);refine A5 (As (BA (Ay ?_)));obtain⟨x,hx⟩:=A9 (l:=d.ctors) (i:=i) An;refine Ar O (BC Md O O An (IB hx) (Fg _)) (Ar O (Bg fq O (Fg _)) (BE O (A7 ZZ O) fun b9=>Aq Az 1 [0,1] O (Ay (A0 Az 2 [2,0] O (Ar O (BB O O (ZB (Is.mk (.mk 3 0 d.name (Ce d.params) []:Tm) (((BM d.type).1).take ((d.fixed:Int).toNat)) ((((BM d.type).1).drop ((d.fixed:Int).toNat)).length:Nat)) x hon hos (ID htn.2 _) Ah Ah (h1.cs _ (List.mem_of_getElem? hx)).1 (h1.cs _ (List.mem_of_getElem? hx)).2) O) (A0 Az 3 [] O (BE O (A7 Ls O) fun b10=>Ar O (CF (i:=0) I0 O O O Ab AS (K1 _)) (Aq Az 1 [] O (As (Au Az 2 [] O (A2 O (fun c3=>?_) (fun c3=>?_))))))))))))
  ·(try simp only[sd,se] at c3);have hcn:=WK hx c3 hC.1;refine Au Az 3 [5,0] O (BU (CB (i:=5) O) (A4 (⟨O,_,_,⟨_,_,O,(BO (i:=5) Gc O O O),⟨_,_,O,O,O⟩⟩,(List.nil_sublist _),?_⟩)))
   all_goals exact⟨by show (.tup [.agg [.p (.str ⟨#[]⟩),.p (I 0),.p (.lst []),.p (.lst []),.p (I 0),.p (I 0),.p (.str ⟨#[]⟩),.p (.lst []),.p (.lst []),.p (.lst [])],.p (I 3)]:AV)=_;unfold BQ HR;rw[bU (fun e=>e hk) hk2 hcn];rfl,rfl⟩
  (try simp only[sd,se] at c3);have hcy:=YM hx c3 hC.1;refine A5 (Ax (A0 Az 2 [4] O (Ar O (BR (i:=0) I0 O O Ab) (Ar O (Ba (rows:=List.map Ca ([((Dc (Is.mk (.mk 3 0 d.name (Ce d.params) []:Tm) (((BM d.type).1).take ((d.fixed:Int).toNat)) ((((BM d.type).1).drop ((d.fixed:Int).toNat)).length:Nat)).own (Is.mk (.mk 3 0 d.name (Ce d.params) []:Tm) (((BM d.type).1).take ((d.fixed:Int).toNat)) ((((BM d.type).1).drop ((d.fixed:Int).toNat)).length:Nat)).params (Is.mk (.mk 3 0 d.name (Ce d.params) []:Tm) (((BM d.type).1).take ((d.fixed:Int).toNat)) ((((BM d.type).1).drop ((d.fixed:Int).toNat)).length:Nat)).indices.toNat x).getD HI)])) KQ Ls O O O O (By (Je _)) (Wz _)) ?_))));refine Dp O O (B3 (i:=2) (rows':=List.map Ca ([((Dc (Is.mk (.mk 3 0 d.name (Ce d.params) []:Tm) (((BM d.type).1).take ((d.fixed:Int).toNat)) ((((BM d.type).1).drop ((d.fixed:Int).toNat)).length:Nat)).own (Is.mk (.mk 3 0 d.name (Ce d.params) []:Tm) (((BM d.type).1).take ((d.fixed:Int).toNat)) ((((BM d.type).1).drop ((d.fixed:Int).toNat)).length:Nat)).params (Is.mk (.mk 3 0 d.name (Ce d.params) []:Tm) (((BM d.type).1).take ((d.fixed:Int).toNat)) ((((BM d.type).1).drop ((d.fixed:Int).toNat)).length:Nat)).indices.toNat x).getD HI)])) KQ KQ Ls O O O O O O (Je _) (by have:=hC.2;simp;omega) (HJ (f:=Ca) ys ([((Dc (Is.mk (.mk 3 0 d.name (Ce d.params) []:Tm) (((BM d.type).1).take ((d.fixed:Int).toNat)) ((((BM d.type).1).drop ((d.fixed:Int).toNat)).length:Nat)).own (Is.mk (.mk 3 0 d.name (Ce d.params) []:Tm) (((BM d.type).1).take ((d.fixed:Int).toNat)) ((((BM d.type).1).drop ((d.fixed:Int).toNat)).length:Nat)).params (Is.mk (.mk 3 0 d.name (Ce d.params) []:Tm) (((BM d.type).1).take ((d.fixed:Int).toNat)) ((((BM d.type).1).drop ((d.fixed:Int).toNat)).length:Nat)).indices.toNat x).getD HI)]))) fun o1 cp1=>?_;refine Aq Az 2 [4,0] O (Ax (Aq Az 2 [] O ?_))
  refine⟨⟨i+1,(ys++([((Dc (Is.mk (.mk 3 0 d.name (Ce d.params) []:Tm) (((BM d.type).1).take ((d.fixed:Int).toNat)) ((((BM d.type).1).drop ((d.fixed:Int).toNat)).length:Nat)).own (Is.mk (.mk 3 0 d.name (Ce d.params) []:Tm) (((BM d.type).1).take ((d.fixed:Int).toNat)) ((((BM d.type).1).drop ((d.fixed:Int).toNat)).length:Nat)).params (Is.mk (.mk 3 0 d.name (Ce d.params) []:Tm) (((BM d.type).1).take ((d.fixed:Int).toNat)) ((((BM d.type).1).drop ((d.fixed:Int).toNat)).length:Nat)).indices.toNat x).getD HI)])),o1,cp1⟩,AQ,⟨by omega,⟨hcy,by have:=hC.2;simp;omega⟩⟩,BZ ⟨we rfl,we rfl,we rfl,we rfl,we rfl,we rfl,trivial⟩ (leH (is:=[2,3,4,5]) rfl (wl (oe rfl) (wl (oe rfl) (wl (oe rfl) (wl (oe rfl) (DF))))))⟩
 (try simp only[sd,se] at c2);refine Bk (Ay (B7 (CR (i:=0) (j:=2) (q:=9) [] O O O (C6 Ap)) (Aq Az 3 [1,2,0] O (A4 (⟨O,_,_,⟨_,_,O,(BO (i:=2) Gc O O O),⟨_,_,O,O,O⟩⟩,(List.nil_sublist _),?_⟩)))))
 all_goals exact⟨by show (.tup [.agg [.p (.str d.name),.p (I d.params),.p (.lst (Av (((BM d.type).1).take ((d.fixed:Int).toNat)))),.p (.lst (Av (((BM d.type).1).drop ((d.fixed:Int).toNat)))),.p (I zk),.p (I zi),.p (.str zn),.p (.lst (List.map B6 zl)),.p (.lst (Av zs)),.p (.lst (List.map Ca ys))],.p (I 0)]:AV)=_;unfold BQ HR;rw[Wl (fun e=>e hk) hk2 (SK An hC.1),hz];rfl,rfl⟩
theorem gl:∀{σ:Type}(st:σ→Int→Tm→σ) (HP:σ→List A8→Prop) (l b1:Nat) (hy:∀s d t T,Nd t→HP s T→JK Tryz.prog l [.p (I d),TV t] T (Se (.p (.bool true)) (HP (st s d t)))) (xs:List Tm) (s:σ) (T0:List A8),D7 xs→xs.length<Cb→HP s T0→Br Tryz.prog 177 [.fn (.yield l) [] [],.ptr b1 0] (.box b1 [.p (.lst (Av xs))]::T0) (Se (.tup []) (fun H=>∃T,HP (YV st xs xs.length s) T∧H= .box b1 [.p (.lst (Av xs))]::T)):=by
 intro σ st HP l b1 hy xs s T0 h1 h2 h3;simp only[Cb] at h2;refine A1 Tryz.func177 O fO (n:=19) O O (Ay (Ar O (CJ (i:=0) DD O O O) (Ar O (BH BY O (BD _)) (Aq Az 2 [] O (BA (Bh (α:=Nat×σ×List A8) (fun(m,q,U)=>⟨19,mk [(0,.fn (.yield l) [] []),(1,.ptr b1 0),(3,.p (I ((m:Int) - 1)))],(.box b1 [.p (.lst (Av xs))]::U),[]⟩) (fun(m,q,U)=>m) (fun(m,q,U)=>m≤xs.length∧YV st xs m q=YV st xs xs.length s∧HP q U) ⟨xs.length,s,T0⟩ (⟨by omega,rfl,h3⟩) ?_ ?_))))))
 ·exact BZ ⟨we O,we O,we O,Ap⟩ (YT [0] [_] (l':=[_]) O (wl (oe O) (DF)))
 rintro⟨m,q,U⟩ hC
 try simp only at hC
 obtain⟨hm,hB,hK⟩:=hC;refine As (Au Az 2 [] O (A2 O (fun c=>?_) (fun c=>?_)))
 ·(try simp only[sd,se] at c);refine A5 (As (BA (Ay (A0 Az 4 [0] O ?_))));obtain⟨x,hx⟩:=A9 (l:=xs) (i:=((m:Int) - 1:Int).toNat) An;refine Ar O (BC BY O O An (B0 hx) (BF _)) (Ar O (Bg Bx O (BF _)) (P7 [_] O O O O (hy q _ _ _ (Cq h1 hx) hK) O ?_ (fun _ _ h=>h.elim)));rintro _ T ⟨rfl,hT⟩;refine Aq Az 1 [] O ?_;refine A2 O (fun c1=>by cases c1) (fun c1=>?_);refine A5 (Ax (Aq Az 3 [] O ?_));refine⟨⟨m - 1,st q ((m:Int) - 1) x,T⟩,AQ,⟨by omega,by rw[←hB];exact Wb hx An,by assumption⟩,BZ ⟨we rfl,we rfl,we (pI An),trivial⟩ (YT [0] [_] (l':=[_]) rfl (wl (oe rfl) (DF)))⟩
 (try simp only[sd,se] at c);refine Bk ⟨O,_,_,O,(Fu [0] [_] O),?_⟩;rw[←hB,show m=0 by omega];exact⟨O,_,hK,O⟩
theorem kg:∀(xs:List Tm),Br Tryz.prog 141 [.p (.lst (Av xs))] [] (fun r H'=>∃b,r= .val (.fn (.func 177) [] [.ptr b 0])∧H'=[.box b [.p (.lst (Av xs))]]):=by
 intro xs;refine A1 Tryz.func141 O fX (n:=4) O O (Ay (BE O (BT O) fun b1=>Aq Az 1 [] O (Au Az 2 [] O (A4 (⟨O,_,_,⟨_,_,O,O,O⟩,(Dn (is:=[0]) O),?_⟩)))));exact⟨_,O,O⟩
theorem Ua:∀(xs:List Tm) (t:Tm) (bk:Nat) (k:Int),(D7 xs)→(xs.length<Cb)→Br Tryz.prog 140 [.p (.lst (Av xs)),.agg ((Bc t).map .p),.ptr bk 0] [.box bk [.p (I k)]] (FV (.agg ((Bc (Bw k xs t)).map .p)) [.box bk [.p (I k)]]):=by
 intro xs t bk k h1 h2;refine HW Tryz.func140 O gr (n:=18) O O (Ay (BE O (BT O) fun b4=>BE O (A7 Bq O) fun b5=>B7 (CB (i:=0) O) (Bo O (As (Ay (CA O ?_))))));refine Np [] O O O (.inl ⟨O,O,O⟩) (kg xs) O Ao (aw (we O) FE) ?_ (fun _ _ ⟨_,h,_⟩=>by cases h);rintro _ _ ⟨bn,h,rfl⟩;cases h;refine Bo O (BA (M3 (.inr O) fun dd l L hL=>⟨_,_,C8 (is:=[2,0,5,4]) Am ⟨_,_,O,O,⟨_,_,O,O,⟨_,_,O,O,⟨_,_,O,O,O⟩⟩⟩⟩,?_⟩));have hy:∀(s:Tm) (d:Int) (t:Tm) (T:List A8),Nd t→(fun(s:Tm) (T:List A8)=>T=[.loop l L,.box bk [.p (I k)],.box b4 ((Bc s).map .p)]) s T→JK Tryz.prog l [.p (I d),TV t] T (Se (.p (.bool true)) ((fun(s:Tm) (T:List A8)=>T=[.loop l L,.box bk [.p (I k)],.box b4 ((Bc s).map .p)]) ((NL k) s d t))):=by
  rintro s d tt T hnd rfl;subst hL;refine Pa (i:=0) O O O O (Ax (BE O (A7 Bq O) fun b7=>Aq Az 1 [0,1] O ⟨O,1,O,?_⟩));refine BA (Ax (A0 Az 3 [2,0,3] O ?_));obtain⟨ttk,tti,ttn,ttl,tts⟩:=tt;obtain⟨sk,si,sn,sl,ss⟩:=s;refine Ar O (Bz BY Bq O O O O O) (A0 Az 2 [3,0] O (B7 (CB (i:=3) O) (Bo O ⟨1,_,O,Dn (is:=[1,2,3]) O,?_⟩)));exact⟨O,O⟩
 refine(gl (NL k) (fun(s:Tm) (T:List A8)=>T=[.loop l L,.box bk [.p (I k)],.box b4 ((Bc s).map .p)]) l bn hy xs t _ (h1) (h2) O).mono ?_;rintro(v | v) H' hR
 rotate_left
 ·exact hR.elim
 obtain⟨rfl,_,rfl,rfl⟩:=hR;subst hL;refine⟨1,_,O,Ao,?_⟩;refine Au Az 2 [2,4,1] O (A4 (⟨3,O,_,_,⟨_,_,O,(BO (i:=3) Bx O O Ad),O⟩,(Dn (is:=[1]) O),?_⟩));rw[←(show YV (NL k) xs xs.length t=Bw k xs t by rw[P0 k xs _ t (Nat.le_refl _),List.take_length])]
 all_goals exact⟨rfl,rfl⟩
theorem Xg:∀(k:Int),Br Tryz.prog 113 [.p (I k)] [] (eH (fun b=> .fn (.func 140) [] [.ptr b 0]) [.p (I k)]):=by
 intro k;refine A1 Tryz.func113 O gi (n:=4) O O (Ay (BE O (BT O) fun b1=>Aq Az 1 [] O (Au Az 2 [] O (A4 (⟨O,_,_,⟨_,_,O,O,O⟩,(Dn (is:=[0]) O),?_⟩)))));exact⟨_,O,O⟩
theorem _root_.Go.AM {α:Prop}(h:α:=by repeat' first | exact trivial | rfl | refine And.intro ?_ ?_):α:=h
theorem Td:∀(xs:List Tm) (t:Tm),(D7 xs)→(xs.length<Cb)→D3 Tryz.prog 68 [.p (.lst (Av xs)),.agg ((Bc t).map .p)] (.agg ((Bc (Bw 6 xs t)).map .p)):=by
 intro xs t h1 h2;refine A1 Tryz.func68 O ju (n:=9) O O (Ay (BE O (BT O) fun b3=>BE O (A7 Bq O) fun b4=>Bo O (As (CK (fun k=>Nat.beq k 0) Eb (QD [(1,.free (.p (.lst (Av xs)))),(2,.read [.box b3 ((Bc t).map .p)] (.agg ((Bc t).map .p)))] O O O (.inl ⟨O,O,O⟩) (Xg 6) (.inl O) Ai fun bn=>⟨AB,Ap,?_⟩)))));refine Bf Az 2 [2] O (Jc O O (Cg [0] O (.inr O) (Ua xs t bn 6 h1 h2) ⟨_,_,O,O,O⟩ Am O (.inl O)) AB AM (CE Az 1 [1,1] O (A4 (⟨O,_,_,⟨_,_,O,(BO (i:=1) Bx O O Ad),O⟩,(List.nil_sublist _),?_⟩))))
 all_goals exact⟨rfl,rfl⟩
end Go.Proofs.YtifphifongokcaaGreat
namespace Go.Eu
open Go.Abs
mutual
def Mw (f:Int→Int):Int→Tm→Tm
 | d,.mk k i n l ks=>if k=0 then (if i<d then BP i else BP (f (i - d)+d)) else .mk k i n l (Gl f k d 0 ks)
def Gl (f:Int→Int) (k d:Int):Nat→List Tm→List Tm
 | _,[]=>[]
 | j,t::ts=>Mw f (d+below k j) t::Gl f k d (j+1) ts
end
section
variable {k i V m d:Int}{n:ByteArray}{l:List CN}{ks:List Tm}{f:Int→Int}
theorem LS (h:wf V m d (.mk k i n l ks)) (hc:Cw (.mk k i n l ks)) (hk:k=0):n=⟨#[]⟩∧l=[]∧ks=[]∧0≤i∧i - d<V:=by
 obtain⟨_,_,h3,h4,_,_⟩:=h;obtain⟨⟨_,c2,_,c4⟩,_⟩:=hc;subst hk;refine⟨Classical.byContradiction fun e=>absurd (c2 e) Am,List.length_eq_zero_iff.1 (c4 Am Am),?_,h4 O⟩;have:arity 0=0:=rfl;rw[this] at h3;exact List.length_eq_zero_iff.1 An
theorem Iq (hk:k=0) (hi:i<d):Mw f d (.mk k i n l ks)=BP i:=by unfold Mw;rw[if_pos hk,if_pos hi]
theorem Io (hk:k=0) (hi:¬i<d):Mw f d (.mk k i n l ks)=BP (f (i - d)+d):=by unfold Mw;rw[if_pos hk,if_neg hi]
theorem Gx (hk:k≠0):Mw f d (.mk k i n l ks)= .mk k i n l (Gl f k d 0 ks):=by unfold Mw;rw[if_neg hk]
end
def Sl (b fr j:Int):Int:=if j<fr then j else j+b
mutual
theorem Sa {V m b fr:Int}(hb:0≤b) (hf:0≤fr) (hs:V+b≤60000):∀(t:Tm) (d er:Int),wf V m d t→Cw t→0≤d→d+size t≤1000→fr≤60000→CP b fr d er t=(Mw (Sl b fr) d t,er)
 | .mk k i n l ks,d,er,h,hc,hd,hz,hf2=>by
  by_cases hk:k=0
  ·obtain⟨rfl,rfl,rfl,h1,h2⟩:=LS h hc hk;simp only[size] at hz;have w1:wr (fr+d)=fr+d:=GA ⟨by omega,by omega⟩;have w2:wr (i+b)=i+b:=GA ⟨by omega,by omega⟩;unfold CP;rw[if_pos hk,w1,w2];subst hk;by_cases hi:i<d
   ·rw[if_pos An,Iq rfl hi];rfl
   rw[Io rfl hi];unfold Sl;by_cases hj:i - d<fr
   ·rw[if_pos An,if_pos hj,show i - d+d=i by omega];rfl
   rw[if_neg An,if_neg An,if_neg hj,show i - d+b+d=i+b by omega];unfold Lb;rw[if_neg An]
  unfold CP;rw[if_neg hk,Gx hk];simp only[size] at hz;rw[PE hb hf hs ks k d 0 er h.2.2.2.2.2 hc.2 hd An hf2]
theorem PE {V m b fr:Int}(hb:0≤b) (hf:0≤fr) (hs:V+b≤60000):∀(ts:List Tm) (k d:Int) (j:Nat) (er:Int),RG V m k d j ts→YY ts→0≤d→d+1+Bb ts≤1000→fr≤60000→C0 b fr k d j er ts=(Gl (Sl b fr) k d j ts,er)
 | [],k,d,j,er,_,_,_,_,_=>by simp[C0,Gl]
 | t::ts,k,d,j,er,h,hc,hd,hz,hf2=>by
  have hbl:=Cd k j;simp only[Bb] at hz;unfold C0 Gl;rw[Sa hb hf hs t _ er h.1 hc.1 An An hf2];simp only;rw[PE hb hf hs ts k d (j+1) er h.2 hc.2 hd An hf2]
end
def LC (to:List Int) (j d:Int) (x:Tm):Except Int Tm :=
 if j<0 then .ok x
 else if (to.length:Int)≤j then .error 24
 else if (to[j.toNat]?).getD 0<0∨65535 - d<(to[j.toNat]?).getD 0 then .error 24
 else FA ((to[j.toNat]?).getD 0+d)
def Iz (to:List Int) (t:Tm) (d:Int):Except Int Tm:=LC to (t.index - d) d (KP t)
def QT (to:List Int) (t:Tm):Except Int Tm:=JB Prod.fst (C9 (G1 (Iz to)) t 0 ())
def eU (to:List Int) (V:Int) (f:Int→Int):Prop:=∀j,0≤j→j<V→to[j.toNat]?=some (f j)∧0≤f j∧f j≤60000
theorem Zz {to:List Int}{V d i:Int}{f:Int→Int}(h:eU to V f) {n:ByteArray}{l:List CN}{ks:List Tm}{k:Int}(hi:¬i<d) (hv:i - d<V) (hd:0≤d∧d≤1000):Iz to (.mk k i n l ks) d= .ok (BP (f (i - d)+d)):=by
 obtain⟨h1,h2,h3⟩:=h (i - d) An hv;have hl:=(List.getElem?_eq_some_iff.1 h1).1;show LC to (i - d) d _=_;unfold LC;rw[if_neg An,if_neg An,h1];simp only[Option.getD_some];rw[if_neg An];unfold FA;rw[if_neg An]
theorem Rs {to:List Int}{d i:Int}{n:ByteArray}{l:List CN}{ks:List Tm}{k:Int}(hi:i<d):Iz to (.mk k i n l ks) d= .ok (.mk k i n l []):=by
 show LC to (i - d) d _=_;unfold LC;rw[if_pos An];rfl
mutual
theorem Xt {to:List Int}{V m:Int}{f:Int→Int}(h:eU to V f):∀(t:Tm) (d:Int),wf V m d t→Cw t→0≤d→d+size t≤1000→C9 (G1 (Iz to)) t d ()= .ok (Mw f d t,())
 | .mk k i n l ks,d,hw,hc,hd,hz=>by
  by_cases hk:k=0
  ·obtain⟨rfl,rfl,rfl,h1,h2⟩:=LS hw hc hk;simp only[size] at hz;by_cases hi:i<d
   ·rw[Iq hk hi];exact Dy (by rw[Ho hk (Rs hi),hk];rfl)
   rw[Io hk hi];exact Dy (Ho hk (Zz h hi h2 ⟨hd,by omega⟩))
  rw[Gx hk];simp only[size] at hz;exact Fa (Jr hk) (Ue h ks k d 0 hw.2.2.2.2.2 hc.2 hd An)
theorem Ue {to:List Int}{V m:Int}{f:Int→Int}(h:eU to V f):∀(ts:List Tm) (k d:Int) (j:Nat),RG V m k d j ts→YY ts→0≤d→d+1+Bb ts≤1000→C2 (G1 (Iz to)) k j ts d ()= .ok (Gl f k d j ts,())
 | [],k,d,j,_,_,_,_=>by simp[C2,Gl]
 | t::ts,k,d,j,hw,hc,hd,hz=>by
  have hbl:=Cd k j;simp only[Bb] at hz;unfold C2 Gl;rw[Xt h t _ hw.1 hc.1 An An];show DA (C2 (G1 (Iz to)) k (j+1) ts d ()) _=_;rw[Ue h ts k d (j+1) hw.2 hc.2 hd An];rfl
end
theorem ZU {to:List Int}{V m:Int}{f:Int→Int}(h:eU to V f) {t:Tm}(hw:wf V m 0 t) (hc:Cw t) (hz:size t≤1000):QT to t= .ok (Mw f 0 t):=by
 unfold QT;rw[Xt h t 0 hw hc An An];rfl
mutual
theorem Kq {V m:Int}{f g:Int→Int}(h:∀j,0≤j→j<V→f j=g j):∀(t:Tm) (d:Int),wf V m d t→Cw t→Mw f d t=Mw g d t
 | .mk k i n l ks,d,hw,hc=>by
  by_cases hk:k=0
  ·obtain⟨rfl,rfl,rfl,h1,h2⟩:=LS hw hc hk;by_cases hi:i<d
   ·rw[Iq hk hi,Iq hk hi]
   rw[Io hk hi,Io hk hi,h _ An h2]
  rw[Gx hk,Gx hk,O3 h ks k d 0 hw.2.2.2.2.2 hc.2]
theorem O3 {V m:Int}{f g:Int→Int}(h:∀j,0≤j→j<V→f j=g j):∀(ts:List Tm) (k d:Int) (j:Nat),RG V m k d j ts→YY ts→Gl f k d j ts=Gl g k d j ts
 | [],k,d,j,_,_=>rfl
 | t::ts,k,d,j,hw,hc=>by
  unfold Gl;rw[Kq h t _ hw.1 hc.1,O3 h ts k d (j+1) hw.2 hc.2]
end
mutual
theorem Q3 {V m:Int}{f g:Int→Int}(h:∀j,0≤j→j<V→0≤g j):∀(t:Tm) (d:Int),wf V m d t→Cw t→Mw f d (Mw g d t)=Mw (fun j=>f (g j)) d t
 | .mk k i n l ks,d,hw,hc=>by
  by_cases hk:k=0
  ·obtain⟨rfl,rfl,rfl,h1,h2⟩:=LS hw hc hk;by_cases hi:i<d
   ·rw[Iq hk hi,Iq hk hi];exact Iq rfl hi
   have:=h (i - d) An h2;rw[Io hk hi,Io hk hi];unfold BP;rw[Io rfl An,show g (i - d)+d - d=g (i - d) by omega];rfl
  rw[Gx hk,Gx hk,Gx hk,R6 h ks k d 0 hw.2.2.2.2.2 hc.2]
theorem R6 {V m:Int}{f g:Int→Int}(h:∀j,0≤j→j<V→0≤g j):∀(ts:List Tm) (k d:Int) (j:Nat),RG V m k d j ts→YY ts→Gl f k d j (Gl g k d j ts)=Gl (fun j=>f (g j)) k d j ts
 | [],k,d,j,_,_=>rfl
 | t::ts,k,d,j,hw,hc=>by
  show Mw f (d+below k j) (Mw g (d+below k j) t)::Gl f k d (j+1) (Gl g k d (j+1) ts)=_;rw[Q3 h t _ hw.1 hc.1,R6 h ts k d (j+1) hw.2 hc.2];rfl
end
theorem Rn {f:Int→Int}{k d:Int}:∀(ts:List Tm) (j:Nat),(Gl f k d j ts).length=ts.length
 | [],j=>rfl
 | t::ts,j=>by simp only[Gl,List.length_cons];rw[Rn ts (j+1)]
mutual
theorem bN {V W m:Int}{f:Int→Int}(hW:0≤W) (h:∀j,0≤j→j<V→0≤f j∧f j<W):∀(t:Tm) (d:Int),0≤d→wf V m d t→Cw t→wf W m d (Mw f d t)∧Cw (Mw f d t)∧size (Mw f d t)=size t
 | .mk k i n l ks,d,hd,hw,hc=>by
  by_cases hk:k=0
  ·obtain⟨rfl,rfl,rfl,h1,h2⟩:=LS hw hc hk;have wv:∀i,0≤i→i - d<W→wf W m d (BP i):=fun i a b=>⟨by decide,by decide,rfl,fun _=>⟨a,b⟩,fun e=>absurd e Am,trivial⟩;have cv:∀i,Cw (BP i):=fun i=>⟨⟨fun _=> .inl rfl,fun e=>absurd rfl e,fun e=>absurd e Am,fun _ _=>rfl⟩,trivial⟩;by_cases hi:i<d
   ·rw[Iq hk hi];exact⟨wv _ h1 An,cv _,O⟩
   have:=h (i - d) An h2;rw[Io hk hi];exact⟨wv _ An An,cv _,O⟩
  rw[Gx hk];obtain⟨a,b,c⟩:=Wm hW h ks k d 0 hd hw.2.2.2.2.2 hc.2;exact⟨⟨hw.1,hw.2.1,by rw[Rn];exact hw.2.2.1,fun e=>absurd e hk,hw.2.2.2.2.1,a⟩,⟨hc.1,b⟩,by simp only[size];rw[c]⟩
theorem Wm {V W m:Int}{f:Int→Int}(hW:0≤W) (h:∀j,0≤j→j<V→0≤f j∧f j<W):∀(ts:List Tm) (k d:Int) (j:Nat),0≤d→RG V m k d j ts→YY ts→RG W m k d j (Gl f k d j ts)∧YY (Gl f k d j ts)∧Bb (Gl f k d j ts)=Bb ts
 | [],k,d,j,_,_,_=>⟨trivial,trivial,rfl⟩
 | t::ts,k,d,j,hd,hw,hc=>by
  have hbl:=Cd k j;obtain⟨a,b,c⟩:=bN hW h t _ (by omega:0≤d+below k j) hw.1 hc.1;obtain⟨a2,b2,c2⟩:=Wm hW h ts k d (j+1) hd hw.2 hc.2;exact⟨⟨a,a2⟩,⟨b,b2⟩,by simp only[Gl,Bb];rw[c,c2]⟩
end
def BL (a:Int) (n:Nat):List Int:=(List.range n).map fun i:Nat=>a+i
def I4 (n:Int) (pl:List Int):List Int:=(pl.map fun p=>n - 1 - p).reverse
def LO (n:Int) (pl:List Int) (t:Tm):Tm:=match QT (I4 n pl) t with
 | .ok x=>x
 | .error _=>Bi
def Aw:Int→List Int→List Tm→List Tm×List Int
 | _,pl,[]=>([],pl)
 | n,pl,t::ts=>(LO n pl t::(Aw (n+1) (pl++[n]) ts).1,(Aw (n+1) (pl++[n]) ts).2)
def DL (g:Nat→Tm→Tm):Nat→List Tm→List Tm
 | _,[]=>[]
 | i,t::ts=>g i t::DL g (i+1) ts
theorem Fq {g:Nat→Tm→Tm}:∀(ts:List Tm) (i:Nat),(DL g i ts).length=ts.length
 | [],i=>rfl
 | t::ts,i=>by simp only[DL,List.length_cons];rw[Fq ts (i+1)]
theorem KR {g h:Nat→Tm→Tm}:∀{ts:List Tm}{i:Nat},(∀j t,ts[j]?=some t→g (i+j) t=h (i+j) t)→DL g i ts=DL h i ts
 | [],i,_=>rfl
 | t::ts,i,hh=>by
  simp only[DL];rw[show g i t=h i t from hh 0 t rfl,KR (g:=g) (h:=h) (ts:=ts) (i:=i+1) fun j x hx=>by have:=hh (j+1) x (by simpa using hx);rwa [show i+(j+1)=i+1+j by omega] at this]
theorem B4 (a:Int) (n:Nat):(BL a n).length=n:=by simp[BL]
theorem Mu {a:Int}{n i:Nat}(h:i<n):(BL a n)[i]?=some (a+i):=by simp[BL,List.getElem?_range h]
theorem M5 (a:Int) (n:Nat):BL a (n+1)=BL a n++[a+n]:=by simp[BL,List.range_succ]
theorem WS (a:Int) {n m:Nat}(h:m≤n):(BL a n).take m=BL a m:=by
 simp only[BL];rw[←List.map_take,List.take_range,Nat.min_eq_left h]
theorem Ud {n:Int}{A:List Int}:∀(ts:List Tm) (i:Nat),Aw (n+i) (A++BL n i) ts=(DL (fun i t=>LO (n+i) (A++BL n i) t) i ts,A++BL n (i+ts.length))
 | [],i=>by simp[Aw,DL]
 | t::ts,i=>by
  have e:=Ud (n:=n) (A:=A) ts (i+1);rw[M5,←List.append_assoc,show n+((i+1:Nat):Int)=n+(i:Int)+1 by omega] at e;simp only[Aw,DL,List.length_cons];rw[e,show i+1+ts.length=i+(ts.length+1) by omega]
theorem Sy {n:Int}{A:List Int}(ts:List Tm):Aw n A ts=(DL (fun i t=>LO (n+i) (A++BL n i) t) 0 ts,A++BL n ts.length):=by
 have:=Ud (n:=n) (A:=A) ts 0;simpa [BL] using this
theorem Jf (n:Int) (pl:List Int):(I4 n pl).length=pl.length:=by simp[I4]
theorem UU {n:Int}{pl:List Int}{j:Nat}{p:Int}(hj:j<pl.length) (h:pl[pl.length - 1 - j]?=some p):(I4 n pl)[j]?=some (n - 1 - p):=by
 unfold I4;rw[List.getElem?_reverse (by simpa using hj),List.getElem?_map];simp only[List.length_map,h,Option.map_some]
def UE (p:Nat) (a:Int) (F:Nat) (n:Int) (i:Nat):List Int:=BL 0 p++(BL a F++BL n i)
theorem ZE (p:Nat) (a:Int) (F:Nat) (n:Int) (i:Nat):(UE p a F n i).length=p+(F+i):=by simp[UE,B4]
theorem UQ {p F i:Nat}{a n:Int}(h0:0≤a) (h1:a+F≤n) (h2:(p:Int)≤a) (h3:n+i≤60000):eU (I4 (n+i) (UE p a F n i)) ((p+(F+i):Nat):Int) (fun j=>if j<i then j else if j<i+F then j+(n - a - F) else j+(n - p - F)):=by
 intro j hj hV;have hl:=ZE p a F n i;have hjl:j.toNat<(UE p a F n i).length:=by omega
 have key:∀q:Int,(UE p a F n i)[p+(F+i) - 1 - j.toNat]?=some q→(I4 (n+i) (UE p a F n i))[j.toNat]?=some (n+i - 1 - q):=fun q hq=>UU hjl (by rw[hl];exact hq);by_cases c1:j<i
 ·have:=key (n+((i - 1 - j.toNat:Nat):Int)) (by
   unfold UE;rw[List.getElem?_append_right (by rw[B4];omega),List.getElem?_append_right (by rw[B4,B4];omega),B4,B4,show p+(F+i) - 1 - j.toNat - p - F=i - 1 - j.toNat by omega,Mu An])
  rw[this];simp only[if_pos c1];exact⟨by congr 1;omega,by omega,by omega⟩
 by_cases c2:j<i+F
 ·have:=key (a+((F+i - 1 - j.toNat:Nat):Int)) (by
   unfold UE;rw[List.getElem?_append_right (by rw[B4];omega),List.getElem?_append_left (by rw[B4,B4];omega),B4,show p+(F+i) - 1 - j.toNat - p=F+i - 1 - j.toNat by omega,Mu An])
  rw[this];simp only[if_neg c1,if_pos c2];exact⟨by congr 1;omega,by omega,by omega⟩
 have:=key (0+((p+F+i - 1 - j.toNat:Nat):Int)) (by
  unfold UE;rw[List.getElem?_append_left (by rw[B4];omega),show p+(F+i) - 1 - j.toNat=p+F+i - 1 - j.toNat by omega,Mu An])
 rw[this];simp only[if_neg c1,if_neg c2];exact⟨by congr 1;omega,by omega,by omega⟩
def B9 (b fr:Int) (t:Tm):Tm:=if (CP b fr 0 0 t).2≠0 then Bi else (CP b fr 0 0 t).1
theorem Mq {V m b fr:Int}{t:Tm}(hb:0≤b) (hf:0≤fr) (hs:V+b≤60000) (hw:wf V m 0 t) (hc:Cw t) (hz:size t≤1000) (hf2:fr≤60000):B9 b fr t=Mw (Sl b fr) 0 t:=by
 unfold B9;rw[Sa hb hf hs t 0 0 hw hc An An hf2,if_neg Ao]
theorem Xr {to:List Int}{n:Int}{pl:List Int}{V m:Int}{f:Int→Int}(h:eU (I4 n pl) V f) {t:Tm}(hw:wf V m 0 t) (hc:Cw t) (hz:size t≤1000):LO n pl t=Mw f 0 t:=by
 unfold LO;rw[ZU h hw hc hz]
mutual
theorem bI {V m:Int}:∀(t:Tm) (d:Int),wf V m d t→Cw t→Mw (fun j=>j) d t=t
 | .mk k i n l ks,d,hw,hc=>by
  by_cases hk:k=0
  ·obtain⟨rfl,rfl,rfl,h1,h2⟩:=LS hw hc hk;by_cases hi:i<d
   ·rw[Iq hk hi,hk];rfl
   rw[Io hk hi,hk];unfold BP;rw[show i - d+d=i by omega]
  rw[Gx hk,Wy ks k d 0 hw.2.2.2.2.2 hc.2]
theorem Wy {V m:Int}:∀(ts:List Tm) (k d:Int) (j:Nat),RG V m k d j ts→YY ts→Gl (fun j=>j) k d j ts=ts
 | [],k,d,j,_,_=>rfl
 | t::ts,k,d,j,hw,hc=>by
  show Mw _ (d+below k j) t::Gl _ k d (j+1) ts=_;rw[bI t _ hw.1 hc.1,Wy ts k d (j+1) hw.2 hc.2]
end
theorem Rg {p i:Nat}{n m:Int}{t:Tm}(hp:(p:Int)≤n) (hn:n+i≤50000) (hw:wf ((p+i:Nat):Int) m 0 t) (hc:Cw t) (hz:size t≤1000):LO (n+i) (BL 0 p++BL n i) t=B9 (n - p) i t:=by
 have h:=UQ (p:=p) (F:=0) (i:=i) (a:=n) (n:=n) An An hp An;have e:UE p n 0 n i=BL 0 p++BL n i:=by simp[UE,BL]
 rw[e,Nat.zero_add] at h;rw[Xr (to:=[]) h hw hc hz,Mq (V:=((p+i:Nat):Int)) An An An hw hc hz An];refine Kq (fun j h1 h2=>?_) t 0 hw hc;by_cases c1:j<i
 ·rw[if_pos c1,show Sl (n - p) i j=j from if_pos c1]
 rw[if_neg c1,if_neg An,show Sl (n - p) i j=j+(n - p) from if_neg c1];omega
theorem V4 {p F i:Nat}{a n m more up:Int}{t:Tm}(hp:(p:Int)≤a) (ha:a+F≤n) (hn:n+i≤50000) (hm:more=a - p) (hu:up=n - a - F) (hw:wf ((p+F+i:Nat):Int) m 0 t) (hc:Cw t) (hz:size t≤1000):LO (n+i) (UE p a F n i) t=B9 up i (B9 more ((F+i:Nat):Int) t):=by
 have h:=UQ (p:=p) (F:=F) (i:=i) (a:=a) (n:=n) An ha hp An;rw[show ((p+(F+i):Nat):Int)=((p+F+i:Nat):Int) by omega] at h;rw[Xr (to:=[]) h hw hc hz,Mq (b:=more) (V:=((p+F+i:Nat):Int)) An An An hw hc hz An];have hsf:∀j,0≤j→j<((p+F+i:Nat):Int)→0≤Sl more ((F+i:Nat):Int) j∧Sl more ((F+i:Nat):Int) j<((p+F+i:Nat):Int)+more:=fun j h1 h2=>by
  unfold Sl;split<;>omega
 obtain⟨q1,q2,q3⟩:=bN An hsf t 0 An hw hc;rw[Mq (b:=up) (V:=((p+F+i:Nat):Int)+more) An An An q1 q2 An An,Q3 (fun j h1 h2=>(hsf j h1 h2).1) t 0 hw hc];refine Kq (fun j h1 h2=>?_) t 0 hw hc;by_cases c1:j<i
 ·rw[if_pos c1,show Sl more ((F+i:Nat):Int) j=j from if_pos An,show Sl up i j=j from if_pos c1]
 by_cases c2:j<i+F
 ·rw[if_neg c1,if_pos c2,show Sl more ((F+i:Nat):Int) j=j from if_pos An,show Sl up i j=j+up from if_neg c1];omega
 rw[if_neg c1,if_neg c2,show Sl more ((F+i:Nat):Int) j=j+more from if_neg An,show Sl up i (j+more)=j+more+up from if_neg An];omega
section
variable {to:List Int}{k i d x:Int}{n:ByteArray}{l:List CN}{ks:List Tm}
theorem OQ (h:¬i - d<0) (h2:(to.length:Int)≤i - d):Iz to (.mk k i n l ks) d= .error 24:=by
 show LC to (i - d) d _=_;unfold LC;rw[if_neg h,if_pos h2]
theorem M6 (h:¬i - d<0) (hx:to[(i - d).toNat]?=some x) (h2:x<0):Iz to (.mk k i n l ks) d= .error 24:=by
 have:=(List.getElem?_eq_some_iff.1 hx).1;show LC to (i - d) d _=_;unfold LC;rw[if_neg h,if_neg An,hx,if_pos (.inl h2)]
theorem OM (h:¬i - d<0) (hx:to[(i - d).toNat]?=some x) (h2:65535 - d<x):Iz to (.mk k i n l ks) d= .error 24:=by
 have:=(List.getElem?_eq_some_iff.1 hx).1;show LC to (i - d) d _=_;unfold LC;rw[if_neg h,if_neg An,hx,if_pos (.inr h2)]
theorem QR (h:¬i - d<0) (hx:to[(i - d).toNat]?=some x) (h1:¬x<0) (h2:¬65535 - d<x):Iz to (.mk k i n l ks) d=FA (x+d):=by
 have:=(List.getElem?_eq_some_iff.1 hx).1;show LC to (i - d) d _=_;unfold LC;rw[if_neg h,if_neg An,hx,if_neg (by simp only[Option.getD_some];omega)];rfl
end
def Og (to:List Int) (t:Tm):Tm×Int:=match QT to t with
 | .ok x=>(x,0)
 | .error e=>(Bi,e)
theorem X7 {to:List Int}{t:Tm}{e:Int}(h:C9 (G1 (Iz to)) t 0 ()= .error e):Og to t=(Bi,e):=by
 unfold Og QT;rw[h];rfl
theorem Zt {to:List Int}{t x:Tm}{u:Unit}(h:C9 (G1 (Iz to)) t 0 ()= .ok (x,u)):Og to t=(x,0):=by
 unfold Og QT;rw[h];rfl
theorem bT (n:Int) (pl:List Int) (t:Tm):LO n pl t=(Og (I4 n pl) t).1:=by
 unfold LO Og;cases QT (I4 n pl) t<;>rfl
theorem Jg {n:Int}{pl:List Int}{ts:List Tm}{k:Nat}{t:Tm}(h:ts[k]?=some t):(Aw n pl (ts.take k)).1++[LO (n+k) (Aw n pl (ts.take k)).2 t]=(Aw n pl (ts.take (k+1))).1∧(Aw n pl (ts.take k)).2++[n+k]=(Aw n pl (ts.take (k+1))).2:=by
 have key:∀(ts:List Tm) (n:Int) (pl:List Int) (k:Nat),ts[k]?=some t→(Aw n pl (ts.take k)).1++[LO (n+k) (Aw n pl (ts.take k)).2 t]=(Aw n pl (ts.take (k+1))).1∧(Aw n pl (ts.take k)).2++[n+k]=(Aw n pl (ts.take (k+1))).2:=by
  intro ts
  induction ts with
  | nil=>intro n pl k h;simp at h
  | cons a ts ih =>
   intro n pl k h;cases k with
   | zero=>simp at h;subst h;simp[Aw]
   | succ k =>
    obtain⟨h1,h2⟩:=ih (n+1) (pl++[n]) k (by simpa using h);simp only[List.take_succ_cons,Aw,List.cons_append];rw[←h1,←h2,show n+((k+1:Nat):Int)=n+1+(k:Int) by omega];exact⟨O,O⟩
 exact key ts n pl k h
theorem Bd {n:Int}{pl:List Int}(ts:List Tm):(Aw n pl ts).1.length=ts.length∧(Aw n pl ts).2.length=pl.length+ts.length:=by
 induction ts generalizing n pl with
 | nil=>simp[Aw]
 | cons a ts ih =>
  obtain⟨h1,h2⟩:=ih (n:=n+1) (pl:=pl++[n]);have h3:(pl++[n]).length=pl.length+1:=by simp
  refine⟨by simp[Aw,h1],?_⟩;show (Aw (n+1) (pl++[n]) ts).2.length=_;rw[h2,h3,List.length_cons];omega
theorem E4 {n B:Int}{pl:List Int}(ts:List Tm) (h:∀p∈pl,-B≤p∧p≤B) (h0:0≤n) (hn:n+ts.length≤B):∀p∈(Aw n pl ts).2,-B≤p∧p≤B:=by
 induction ts generalizing n pl with
 | nil=>simpa [Aw] using h
 | cons a ts ih =>
  simp only[List.length_cons] at hn;refine ih (n:=n+1) (fun p hp=>?_) An An;rcases List.mem_append.1 hp with hp | hp
  ·exact h p hp
  simp only[List.mem_singleton] at hp;omega
theorem SP {n:Int}{pl:List Int}{i:Nat}{p:Int}(h:pl[i]?=some p):(List.replicate (pl.length - i) 0++(I4 n pl).drop (pl.length - i)).set (pl.length - 1 - i) (n - 1 - p)=List.replicate (pl.length - (i+1)) 0++(I4 n pl).drop (pl.length - (i+1)):=by
 have hi:=(List.getElem?_eq_some_iff.1 h).1;have hg:=UU (n:=n) (pl:=pl) (j:=pl.length - 1 - i) (p:=p) An (by rw[show pl.length - 1 - (pl.length - 1 - i)=i by omega];exact h);rw[show pl.length - i=(pl.length - (i+1))+1 by omega,List.replicate_succ',List.append_assoc,List.set_append_right _ _ Ah,List.length_replicate,show pl.length - 1 - i - (pl.length - (i+1))=0 by omega];have hd:(I4 n pl).drop (pl.length - (i+1))=(n - 1 - p)::(I4 n pl).drop (pl.length - (i+1)+1):=by
  have hl:pl.length - (i+1)<(I4 n pl).length:=by rw[Jf];omega
  rw[List.drop_eq_getElem_cons hl];congr 1;have hg2:(I4 n pl)[pl.length - (i+1)]?=some (n - 1 - p):=by rw[show pl.length - (i+1)=pl.length - 1 - i by omega];exact hg
  exact Option.some.inj ((List.getElem?_eq_getElem hl).symm.trans hg2)
 rw[hd];rfl
theorem Xc {n B:Int}{pl:List Int}(h:∀p∈pl,-B≤p∧p≤B) (h0:0≤n) (hn:n≤B):∀x∈I4 n pl,-2*B - 1≤x∧x≤2*B:=by
 intro x hx;simp only[I4,List.mem_reverse,List.mem_map] at hx;obtain⟨p,hp,rfl⟩:=hx;have:=h p hp;omega
theorem Mf {tel ts:List Tm}{pl:List Int}{i:Nat}{x:Tm}(h:ts[i]?=some x):((tel++(Aw (tel.length:Nat) pl (ts.take i)).1).length:Int)=(tel.length:Nat)+(i:Int):=by
 have:=(List.getElem?_eq_some_iff.1 h).1;rw[List.length_append,(Bd _).1,List.length_take];omega
theorem SD {α:Type}{a b c:List α}:(a++(b++c)).Perm (b++(a++c)):=by
 rw[←List.append_assoc,←List.append_assoc];exact List.perm_append_comm.append_right c
def Ei (n p:Int):Tm:=BP (n - 1 - p)
def Bt (n:Int) (pl:List Int):List Tm:=pl.map (Ei n)
def CW (n:Int) (pl:List Int) (ts:List Tm):List Tm:=ts.map (LO n pl)
def L2 (large:Bool) (levels:Int):Tm:=if large=true then .mk 2 0 ⟨#[]⟩ [⟨0,[⟨levels,0⟩]⟩] [] else .mk 1 0 ⟨#[]⟩ [] []
def Es (f:Fam) (large:Bool) (n:Int):Tm :=
 let q:=Aw n (BL 0 f.params.length) f.indices
 let m:=n+f.indices.length
 Bw 6 (q.1++[apply (apply (Co f.name f.levels) (Bt m (BL 0 f.params.length))) (Bt m (q.2.drop f.params.length))]) (L2 large f.levels)
def Me (n:Int) (p:Nat) (pl:List Int) (r:Rfl):Tm :=
 let q:=Aw n (pl.take (p+r.field.toNat)) r.args
 let m:=n+r.args.length
 Bw 6 q.1 (apply (apply (Ei m p) (CW m q.2 r.results)) [apply (Ei m ((pl[p+r.field.toNat]?).getD 0)) (Bt m (q.2.drop (p+r.field.toNat)))])
def Cn (p:Nat) (pl:List Int):Int→List Rfl→List Tm
 | _,[]=>[]
 | n,r::rs=>Me n p pl r::Cn p pl (n+1) rs
def I1 (f:Fam) (c:E6) (n:Int):Tm :=
 let q:=Aw n (BL 0 f.params.length) c.fields
 let m:=n+c.fields.length
 let hs:=Cn f.params.length q.2 m c.recs
 let e:=m+c.recs.length
 Bw 6 (q.1++hs) (apply (apply (Ei e f.params.length) (CW e q.2 c.results)) [apply (.mk 3 0 c.name (Ce f.levels) []) (Bt e q.2)])
def Ta (f:Fam) (large:Bool):Tm :=
 Bw 6 f.indices (.mk 6 0 ⟨#[]⟩ [] [apply (apply (Co f.name f.levels) (CS f.params.length f.indices.length)) (CS f.indices.length 0),L2 large f.levels])
def Xb (nf:Nat) (ctor:Int) (r:Rfl) (k:Nat):Tm :=
 let m:=r.args.length
 let up:Int:=(nf:Int) - r.field+k
 Bw 6 (DL (fun i t=>B9 up i (B9 (1+ctor) (r.field+i) t)) 0 r.args)
  (apply (apply (BP (m+k+nf+ctor)) (r.results.map fun t=>B9 up m (B9 (1+ctor) (r.field+m) t))) [apply (BP (m+up - 1)) (CS m 0)])
def EG (nf:Nat) (ctor:Int):Nat→List Rfl→List Tm
 | _,[]=>[]
 | k,r::rs=>Xb nf ctor r k::EG nf ctor (k+1) rs
def WV (f:Fam) (c:E6) (ctor:Int):Tm :=
 let nf:=c.fields.length
 let nr:=c.recs.length
 Bw 6 (DL (fun i t=>B9 (1+ctor) i t) 0 c.fields++EG nf ctor 0 c.recs)
  (apply (apply (BP (nr+nf+ctor)) (c.results.map fun t=>B9 nr 0 (B9 (1+ctor) nf t)))
   [apply (apply (.mk 3 0 c.name (Ce f.levels) []) (CS f.params.length (1+ctor+nf+nr))) (CS nf nr)])
def I2 (n:Nat) (t:Tm):Prop:=(∃m,wf (n:Int) m 0 t)∧Cw t∧size t≤1000
structure Tq (p nf:Nat) (r:Rfl):Prop where
 lo:0≤r.field
 hi:r.field<nf
 al:r.args.length≤1000
 args:∀i t,r.args[i]?=some t→I2 (p+r.field.toNat+i) t
 res:∀t∈r.results,I2 (p+r.field.toNat+r.args.length) t
structure PS (p:Nat) (c:E6):Prop where
 fl:c.fields.length≤1000
 rl:c.recs.length≤1000
 fields:∀i t,c.fields[i]?=some t→I2 (p+i) t
 recs:∀r∈c.recs,Tq p c.fields.length r
 res:∀t∈c.results,I2 (p+c.fields.length) t
structure RT (f:Fam):Prop where
 pl:f.params.length≤1000
 il:f.indices.length≤1000
 ind:∀i t,f.indices[i]?=some t→I2 (f.params.length+i) t
 ctors:∀c∈f.ctors,PS f.params.length c
theorem JC (n:Int) (a b:List Int):Bt n (a++b)=Bt n a++Bt n b:=by simp[Bt]
theorem Pw (t:Tm) (a b:List Tm):apply t (a++b)=apply (apply t a) b:=by simp[apply]
theorem JR {n a:Int}{k:Nat}(hk:k≤4096) (hn:a+k≤n):Bt n (BL a k)=CS k (n - a - k):=by
 by_cases h:k<1
 ·obtain rfl:k=0:=by omega
  rw[Rl (.inl h)];rfl
 rw[Lc An];simp only[Bt,BL,List.map_map];refine List.map_congr_left fun i hi=>?_;have:=List.mem_range.1 hi;simp only[Function.comp_apply,Ei];congr 1;omega
theorem Sd (k:Int) (xs:List Tm) (x t:Tm):Bw k (xs++[x]) t=Bw k xs (.mk k 0 ⟨#[]⟩ [] [x,t]):=by simp[Bw]
theorem aW {g:Nat→Tm→Tm}{ts:List Tm}{i:Nat}(h:∀j t,ts[j]?=some t→g (i+j) t=t):DL g i ts=ts:=by
 induction ts generalizing i with
 | nil=>rfl
 | cons t ts ih =>
  simp only[DL];rw[show g i t=t from h 0 t rfl,ih fun j x hx=>by have:=h (j+1) x (by simpa using hx);rwa [show i+(j+1)=i+1+j by omega] at this]
theorem eJ {f:Fam}(h:RT f) (large:Bool):Es f large f.params.length=Ta f large:=by
 have hp:=h.pl;have hi:=h.il;have e1:DL (fun i t=>LO ((f.params.length:Int)+i) (BL 0 f.params.length++BL f.params.length i) t) 0 f.indices=f.indices:=by
  refine aW fun j t ht=>?_;obtain⟨⟨m,hw⟩,hc,hz⟩:=h.ind j t ht;have hj:=(List.getElem?_eq_some_iff.1 ht).1;rw[Nat.zero_add,Rg (m:=m) An An hw hc hz];rw[Mq (V:=((f.params.length+j:Nat):Int)) (m:=m) An An An hw hc hz An,←bI t 0 hw hc];rw[Q3 (fun j h1 h2=>h1) t 0 hw hc];refine Kq (fun j h1 h2=>?_) t 0 hw hc;unfold Sl;split<;>omega
 unfold Es Ta;simp only[Sy];rw[e1,Sd,List.drop_left' (B4 _ _),JR An An,JR An An];congr 6
 all_goals omega
theorem Wv (p:Nat) (a:Int) (F:Nat) (n:Int) (i:Nat):(BL 0 p++BL a F)++BL n i=UE p a F n i:=by simp[UE]
theorem dz {p nf k:Nat}{ctor:Int}{r:Rfl}(h:Tq p nf r) (hc:0≤ctor∧ctor≤1000) (hp:p≤1000) (hn:nf≤1000) (hk:k≤1000) :
  Me ((p:Int)+1+ctor+nf+k) p (BL 0 p++BL ((p:Int)+1+ctor) nf) r=Xb nf ctor r k:=by
 have h1:=h.lo;have h2:=h.hi;have h3:=h.al;obtain⟨F,hF⟩:∃F:Nat,F=r.field.toNat:=⟨_,rfl⟩;have hFi:(F:Int)=r.field:=by omega
 have et:(BL 0 p++BL ((p:Int)+1+ctor) nf).take (p+F)=BL 0 p++BL ((p:Int)+1+ctor) F:=by
  rw[List.take_append,B4,List.take_of_length_le (by rw[B4];omega),show p+F - p=F by omega,WS _ An]
 have eg:(BL 0 p++BL ((p:Int)+1+ctor) nf)[p+F]?=some ((p:Int)+1+ctor+F):=by
  rw[List.getElem?_append_right (by rw[B4];omega),B4,show p+F - p=F by omega,Mu An]
 have mv:∀(i:Nat) (t:Tm),i≤1000→I2 (p+r.field.toNat+i) t→LO ((p:Int)+1+ctor+nf+k+i) ((BL 0 p++BL ((p:Int)+1+ctor) F)++BL ((p:Int)+1+ctor+nf+k) i) t=B9 ((nf:Int) - r.field+k) i (B9 (1+ctor) (r.field+i) t):=by
  intro i t hi ⟨⟨m,hw⟩,hcw,hz⟩;rw[←hF] at hw;rw[Wv,V4 (m:=m) (more:=1+ctor) (up:=(nf:Int) - r.field+k) An An An An An hw hcw hz,show ((F+i:Nat):Int)=r.field+i by omega]
 unfold Me Xb;simp only[Sy,←hF,et,eg,Option.getD_some];have ea:DL (fun i t=>LO ((p:Int)+1+ctor+nf+k+i) ((BL 0 p++BL ((p:Int)+1+ctor) F)++BL ((p:Int)+1+ctor+nf+k) i) t) 0 r.args=DL (fun i t=>B9 ((nf:Int) - r.field+k) i (B9 (1+ctor) (r.field+i) t)) 0 r.args:=by
  refine KR fun j t ht=>?_;have hj:=(List.getElem?_eq_some_iff.1 ht).1;rw[Nat.zero_add];exact mv j t An (h.args j t ht)
 have er:CW ((p:Int)+1+ctor+nf+k+r.args.length) ((BL 0 p++BL ((p:Int)+1+ctor) F)++BL ((p:Int)+1+ctor+nf+k) r.args.length) r.results=r.results.map fun t=>B9 ((nf:Int) - r.field+k) r.args.length (B9 (1+ctor) (r.field+r.args.length) t) :=
  List.map_congr_left fun t ht=>mv r.args.length t h3 (h.res t ht)
 have ed:((BL 0 p++BL ((p:Int)+1+ctor) F)++BL ((p:Int)+1+ctor+nf+k) r.args.length).drop (p+F)=BL ((p:Int)+1+ctor+nf+k) r.args.length :=
  List.drop_left' (by rw[List.length_append,B4,B4])
 rw[ea,er,ed,JR An An];unfold Ei;rw[show (p:Int)+1+ctor+nf+k+r.args.length - 1 - p=r.args.length+k+nf+ctor by omega,show (p:Int)+1+ctor+nf+k+r.args.length - 1 - ((p:Int)+1+ctor+F)=r.args.length+((nf:Int) - r.field+k) - 1 by omega,show (p:Int)+1+ctor+nf+k+r.args.length - ((p:Int)+1+ctor+nf+k) - r.args.length=0 by omega]
theorem UI {p nf:Nat}{ctor:Int}(hc:0≤ctor∧ctor≤1000) (hp:p≤1000) (hn:nf≤1000):∀(rs:List Rfl) (k:Nat),(∀r∈rs,Tq p nf r)→k+rs.length≤1000→Cn p (BL 0 p++BL ((p:Int)+1+ctor) nf) ((p:Int)+1+ctor+nf+k) rs=EG nf ctor k rs
 | [],k,_,_=>rfl
 | r::rs,k,h,hk=>by
  simp only[List.length_cons] at hk;have:=UI hc hp hn rs (k+1) (fun x hx=>h x (by simp[hx])) An;simp only[Cn,EG];rw[dz (h r Ao) hc hp hn An,←this];congr 2;omega
theorem min_eq {f:Fam}(h:RT f) {c:E6}(hg:PS f.params.length c) {ctor:Int}(hc:0≤ctor∧ctor≤1000):I1 f c ((f.params.length:Int)+1+ctor)=WV f c ctor:=by
 have hp:=h.pl;have h1:=hg.fl;have h2:=hg.rl;unfold I1 WV;simp only[Sy];generalize f.params.length=p at hg hp ⊢;have e1:DL (fun i t=>LO ((p:Int)+1+ctor+i) (BL 0 p++BL ((p:Int)+1+ctor) i) t) 0 c.fields=DL (fun i t=>B9 (1+ctor) i t) 0 c.fields:=by
  refine KR fun j t ht=>?_;obtain⟨⟨m,hw⟩,hcw,hz⟩:=hg.fields j t ht;have hj:=(List.getElem?_eq_some_iff.1 ht).1;rw[Nat.zero_add,Rg (m:=m) An An hw hcw hz,show (p:Int)+1+ctor - p=1+ctor by omega]
 have e2:=UI hc hp h1 c.recs 0 hg.recs An;rw[show (p:Int)+1+ctor+(c.fields.length:Int)+((0:Nat):Int)=(p:Int)+1+ctor+c.fields.length by omega] at e2;have e3:CW ((p:Int)+1+ctor+c.fields.length+c.recs.length) (BL 0 p++BL ((p:Int)+1+ctor) c.fields.length) c.results=c.results.map fun t=>B9 c.recs.length 0 (B9 (1+ctor) c.fields.length t):=by
  refine List.map_congr_left fun t ht=>?_;obtain⟨⟨m,hw⟩,hcw,hz⟩:=hg.res t ht;have:=V4 (p:=p) (F:=c.fields.length) (i:=0) (a:=(p:Int)+1+ctor) (n:=(p:Int)+1+ctor+c.fields.length+c.recs.length) (m:=m) (more:=1+ctor) (up:=(c.recs.length:Int)) (t:=t) An An An An An (by rw[Nat.add_zero];exact hw) hcw hz;rw[←Wv] at this;simpa [BL] using this
 rw[e1,e2,e3,JC,Pw,JR An An,JR An An];unfold Ei;rw[show (p:Int)+1+ctor+c.fields.length+c.recs.length - 1 - p=c.recs.length+c.fields.length+ctor by omega,show (p:Int)+1+ctor+c.fields.length+c.recs.length - 0 - p=1+ctor+c.fields.length+c.recs.length by omega,show (p:Int)+1+ctor+c.fields.length+c.recs.length - ((p:Int)+1+ctor) - c.fields.length=c.recs.length by omega]
mutual
theorem bL {V m:Int}:∀(t:Tm) (d:Int),wf V m (d+1) t→wf (V+1) m d t
 | .mk k i n l ks,d,h=>⟨h.1,h.2.1,h.2.2.1,fun e=>by have:=h.2.2.2.1 e;omega,h.2.2.2.2.1,V7 ks k d 0 h.2.2.2.2.2⟩
theorem V7 {V m:Int}:∀(ts:List Tm) (k d:Int) (j:Nat),RG V m k (d+1) j ts→RG (V+1) m k d j ts
 | [],k,d,j,_=>trivial
 | t::ts,k,d,j,h=>⟨bL t _ (by rw[show d+below k j+1=d+1+below k j by omega];exact h.1),V7 ts k d (j+1) h.2⟩
end
theorem I2.kids {n:Nat}{k i:Int}{nm:ByteArray}{l:List CN}{a b:Tm}(h:I2 n (.mk k i nm l [a,b])):I2 n a∧(below k 1=0→I2 n b)∧(below k 1=1→I2 (n+1) b):=by
 obtain⟨⟨m,hw⟩,hc,hz⟩:=h;simp only[size,Bb] at hz;obtain⟨_,_,_,_,_,w1,w2,_⟩:=hw;have e0:below k ((0:Nat):Int)=0:=by unfold below;simp
 rw[e0] at w1;refine⟨⟨⟨m,by simpa using w1⟩,hc.2.1,by omega⟩,fun e=>⟨⟨m,?_⟩,hc.2.2.1,by omega⟩,fun e=>⟨⟨m,?_⟩,hc.2.2.1,by omega⟩⟩
 ·have e':below k ((0+1:Nat):Int)=0:=e;rw[e'] at w2;simpa using w2
 have e':below k ((0+1:Nat):Int)=1:=e;rw[e'] at w2;have:=bL b 0 w2
 rwa [show (n:Int)+1=((n+1:Nat):Int) by omega] at this
theorem M0:∀(t:Tm) (n:Nat),I2 n t→(∀i x,(BM t).1[i]?=some x→I2 (n+i) x)∧I2 (n+(BM t).1.length) (BM t).2
 | .mk k i nm l [a,b],n,h=>by
  unfold BM;split
  ·rename_i hk;obtain⟨h1,_,h2⟩:=h.kids;obtain⟨h3,h4⟩:=M0 b (n+1) (h2 (by rw[hk];rfl));refine⟨fun j x hx=>?_,by simp only[List.length_cons];rw[show n+((BM b).1.length+1)=n+1+(BM b).1.length by omega];exact h4⟩;cases j with
   | zero=>simp at hx;subst hx;exact h1
   | succ j=>simp at hx;rw[show n+(j+1)=n+1+j by omega];exact h3 j x hx
  ·exact⟨fun i x hx=>by simp at hx,h⟩
 | .mk k i nm l [],n,h=>⟨fun i x hx=>by simp[BM] at hx,h⟩
 | .mk k i nm l [a],n,h=>⟨fun i x hx=>by simp[BM] at hx,h⟩
 | .mk k i nm l (a::b::c::r),n,h=>⟨fun i x hx=>by simp[BM] at hx,h⟩
theorem Rw:∀(t:Tm) (n:Nat),I2 n t→I2 n (BI t).1∧∀x∈(BI t).2,I2 n x
 | .mk k i nm l [a,b],n,h=>by
  unfold BI;split
  ·rename_i hk;obtain⟨h1,h2,_⟩:=h.kids;obtain⟨h3,h4⟩:=Rw a n h1;refine⟨h3,fun x hx=>?_⟩;rcases List.mem_append.1 hx with hx | hx
   ·exact h4 x hx
   simp only[List.mem_singleton] at hx;subst hx;exact h2 (by rw[hk];rfl)
  ·exact⟨h,fun x hx=>by cases hx⟩
 | .mk k i nm l [],n,h=>⟨h,fun x hx=>by simp[BI] at hx⟩
 | .mk k i nm l [a],n,h=>⟨h,fun x hx=>by simp[BI] at hx⟩
 | .mk k i nm l (a::b::c::r),n,h=>⟨h,fun x hx=>by simp[BI] at hx⟩
theorem Ww {own:Tm}{params:List Tm}{ni:Nat}{t:Tm}{last:Int}{l:List Tm}{n:Nat}(h:Da own params ni t last=some l) (ht:I2 n t):∀x∈l,I2 n x:=by
 unfold Da at h;split at h
 ·injection h with h;subst h;exact fun x hx=>(Rw t n ht).2 x (List.mem_of_mem_drop hx)
 cases h
theorem WB {own:Tm}{params:List Tm}{ni p:Nat}{fs:List Tm}(hf:∀i t,fs[i]?=some t→I2 (p+i) t):∀(l:List Tm) (i:Nat),(∀j t,l[j]?=some t→fs[i+j]?=some t)→(∀r∈FC own params ni i l,Tq p fs.length r)∧(FC own params ni i l).length≤l.length
 | [],i,_=>⟨fun r hr=>by simp[FC] at hr,by simp[FC]⟩
 | t::ts,i,h=>by
  obtain⟨ih1,ih2⟩:=WB (own:=own) (params:=params) (ni:=ni) hf ts (i+1) fun j x hx=>by have:=h (j+1) x (by simpa using hx);rwa [show i+(j+1)=i+1+j by omega] at this
  have h0:=h 0 t rfl;have hl:=(List.getElem?_eq_some_iff.1 h0).1;have hin:=hf _ _ h0;obtain⟨a1,a2⟩:=M0 t _ hin;have hal:=Cr t;have hsz:=hin.2.2;unfold FC;split
  ·exact⟨ih1,by simp only[List.length_cons];omega⟩
  rename_i l hl2;refine⟨fun r hr=>?_,by simp only[List.length_cons];omega⟩;rcases List.mem_cons.1 hr with rfl | hr
  ·exact⟨by simp,by simp;omega,by show (BM t).1.length≤1000;omega,fun j x hx=>by have:=a1 j x hx;simpa using this,fun x hx=>by have:=Ww hl2 a2 x hx;simpa using this⟩
  exact ih1 r hr
theorem Zf {own:Tm}{params:List Tm}{ni:Nat}{c:HZ}{x:E6}(h:Dc own params ni c=some x) (hc:I2 0 c.type):PS params.length x:=by
 unfold Dc at h;split at h
 ·rename_i hp;obtain⟨l,hl,rfl⟩:=Option.map_eq_some_iff.1 h;obtain⟨a1,a2⟩:=M0 c.type 0 hc;have hal:=Cr c.type;have hsz:=hc.2.2;have hf:∀i t,((BM c.type).1.drop params.length)[i]?=some t→I2 (params.length+i) t:=fun i t ht=>by
   rw[List.getElem?_drop] at ht;have:=a1 _ t ht
   rwa [Nat.zero_add] at this
  obtain⟨r1,r2⟩:=WB (own:=own) (params:=params) (ni:=ni) hf _ 0 fun j t ht=>by rw[Nat.zero_add];exact ht
  refine⟨by simp;omega,?_,hf,r1,fun t ht=>?_⟩
  ·show (FC own params ni 0 ((BM c.type).1.drop params.length)).length≤1000;rw[List.length_drop] at r2;omega
  have:=Ww hl a2 t ht;rw[Nat.zero_add] at this;show I2 (params.length+((BM c.type).1.drop params.length).length) t
  rwa [List.length_drop,show params.length+((BM c.type).1.length - params.length)=(BM c.type).1.length by omega]
 cases h
theorem SY {own:Tm}{params:List Tm}{ni:Nat}:∀{cs:List HZ}{l:List E6},C4 own params ni cs=some l→(∀c∈cs,I2 0 c.type)→(∀x∈l,PS params.length x)∧l.length=cs.length
 | [],l,h,_=>by simp only[C4] at h;injection h with h;subst h;exact⟨fun x hx=>(by cases hx),rfl⟩
 | c::cs,l,h,hc=>by
  simp only[C4] at h;split at h
  ·cases h
  rename_i x hx;obtain⟨l2,hl2,rfl⟩:=Option.map_eq_some_iff.1 h;obtain⟨i1,i2⟩:=SY hl2 fun y hy=>hc y (by simp[hy]);refine⟨fun y hy=>?_,by simp[i2]⟩;rcases List.mem_cons.1 hy with rfl | hy
  ·exact Zf hx (hc c Ao)
  exact i1 y hy
theorem XY {d:Ck}(h:HR d=0) (ht:I2 0 d.type) (hc:∀c∈d.ctors,I2 0 c.type):RT (BQ d)∧(BQ d).ctors.length=d.ctors.length∧(BQ d).levels=d.params∧(BQ d).name=d.name:=by
 have hal:=Cr d.type;have hsz:=ht.2.2;obtain⟨a1,a2⟩:=M0 d.type 0 ht;unfold HR BQ at *;unfold K3 at *;by_cases h1:d.kind≠3
 ·rw[if_pos h1] at h;simp at h
 rw[if_neg h1] at h ⊢;by_cases h2:d.fixed<0∨((BM d.type).1.length:Int)<d.fixed∨((BM d.type).2.kind≠1∧(BM d.type).2.kind≠2)
 ·rw[if_pos h2] at h;simp at h
 rw[if_neg h2] at h ⊢;cases hq:C4 (Co d.name d.params) ((BM d.type).1.take d.fixed.toNat) ((BM d.type).1.drop d.fixed.toNat).length d.ctors with
 | none=>rw[hq] at h;simp at h
 | some l =>
  rw[hq] at h;simp only;obtain⟨c1,c2⟩:=SY hq hc;have hfl:((BM d.type).1.take d.fixed.toNat).length=d.fixed.toNat:=by rw[List.length_take];omega
  refine⟨⟨by show ((BM d.type).1.take d.fixed.toNat).length≤1000;omega,by show ((BM d.type).1.drop d.fixed.toNat).length≤1000;rw[List.length_drop];omega,fun i t hi=>?_,c1⟩,c2,by first | exact⟨rfl,rfl⟩ | simp⟩;show I2 (((BM d.type).1.take d.fixed.toNat).length+i) t;have hi:((BM d.type).1.drop d.fixed.toNat)[i]?=some t:=hi;rw[List.getElem?_drop] at hi;have:=a1 _ t hi
  rwa [hfl,←Nat.zero_add (d.fixed.toNat+i)]
theorem Ip (f:Fam):At (Bu f) 0 [.str f.name]:=At.one
theorem DJ (f:Fam):At (Bu f) 1 [I f.levels]:=At.cons At.one
theorem Cf (f:Fam):At (Bu f) 2 [.lst (Av f.params)]:=At.cons (At.cons At.one)
theorem Dv (f:Fam):At (Bu f) 3 [.lst (Av f.indices)]:=At.cons (At.cons (At.cons At.one))
theorem DR (f:Fam):At (Bu f) 9 [.lst (f.ctors.map Ca)]:=At.cons (At.cons (At.cons (At.cons (At.app (n:=5) (BF _) At.one))))
theorem Kr (c:E6):At (Ca c) 0 [.str c.name]:=At.one
theorem DU (c:E6):At (Ca c) 1 [.lst (Av c.fields)]:=At.cons At.one
theorem F8 (c:E6):At (Ca c) 2 [.lst (c.recs.map Cu)]:=At.cons (At.cons At.one)
theorem Gr (c:E6):At (Ca c) 3 [.lst (Av c.results)]:=At.cons (At.cons (At.cons At.one))
theorem EZ (r:Rfl):At (Cu r) 0 [I r.field]:=At.one
theorem Ie (r:Rfl):At (Cu r) 1 [.lst (Av r.args)]:=At.cons At.one
theorem Gq (r:Rfl):At (Cu r) 2 [.lst (Av r.results)]:=At.cons (At.cons At.one)
theorem D0 {a x:Int}{n:Nat}(h:x∈BL a n):a≤x∧x<a+n:=by
 simp only[BL,List.mem_map,List.mem_range] at h;obtain⟨i,hi,rfl⟩:=h;omega
end Go.Eu
namespace Go.Abs
section
variable {P:Program}{H:List A8}{dst:Option Tmp}{ty:TypeId}{pos:String}{aft:Array Edge}{g:Option (Nat×Bool)}{ρ:Operand→AV}{x y:Operand}
end
section
variable {P:Program}{H:List A8}{dst:Option Tmp}{ty:TypeId}{pos:String}{aft:Array Edge}{g:Option (Nat×Bool)}{ρ:Operand→AV}{x y:Operand}
set_option maxHeartbeats 1000000 in
theorem OE {T T2 e e2:TypeId}{sz bytes n2 n3 c i n:Nat}{o:Option Nat}{rows rows':List (List PV)}{zv:Value}(hT:Ds P T=some (e,sz,bytes)) (hT2:Ds P T2=some (e2,n2,n3)) (hz:zeroOf P e=some zv) (hzs:zv.cells.size=sz) (hb0:(Nat.blt 0 sz&&Nat.blt 0 bytes)=true)
  (hx:∀F w u,B2 F w (ρ x) u→B2 F w (.vs o n c) u) (hn:n=rows.length) (hi:H[i]?=some (.vec o sz rows c)) (hy:∀(F:Nat→Prop) (w:World) (u:Value),HRel F H w→B2 F w (ρ y) u→∃us o c,u= .slice o rows'.length c∧(Builtin.firstCells sz rows'.length u).run P w= .ok ⟨us⟩ w∧us.length=rows'.length*sz∧Bl F w (rows'.flatten.map .p) us) (hsol:∀r∈rows',DC sz r) (hroom:2*(rows.length+rows'.length)*bytes≤281474976710656) :
  Cc P ⟨dst,.call { callee:= .builtin .append,args:=#[x,y],argTypes:=#[T,T2] },ty,pos,aft,g⟩ ρ H (GU i sz (rows++rows') H) :=
 FI fun F w E hH hE=>by
  subst hn;have hr':∀r∈rows',r.length=sz:=fun r hr=>(hsol r hr).1;simp only[Bool.and_eq_true,Nat.blt_eq] at hb0;obtain⟨hu,inf,hinf,hs,hby⟩:=DP hT;obtain⟨hu2,_⟩:=DP hT2;have h1:=hE x AR;have h2:=hE y AR;replace h1:=hx _ _ _ h1;have hobj:=hH.obj _ (List.mem_of_getElem? hi);obtain⟨ns,oy,cy,hEy,hns,hnsl,hnsr⟩:=hy F w _ hH h2;obtain⟨os,hos,hosl,hosr⟩:=En (P:=P) hobj h1;have hEx:∃base,E x= .slice base rows.length c∧(∀b,o=some b→base=some ⟨b,0,none⟩):=by
   cases o with
   | none =>
    simp only[B2] at h1;obtain⟨e1,e2,a,ha⟩:=h1;refine⟨a,?_,fun b hb=>by cases hb⟩;rw[ha,e1,e2]
   | some b=>simp only[B2] at h1;exact⟨_,h1,fun b' hb=>by injection hb with hb;subst hb;rfl⟩
  obtain⟨base,hEx,hbase⟩:=hEx;unfold zeroOf at hz;have hz':∃j,P.info? e=some j∧j.zero=some zv:=by
   cases hq:P.info? e with
   | none=>simp[hq] at hz
   | some j=>exact⟨j,rfl,by simpa [hq] using hz⟩
  obtain⟨j,hj,hz'⟩:=hz';have hzv:∀w,(zeroValue e).run P w= .ok zv w:=fun w=>by simp[zeroValue,typeInfo,hj,hz',Sem.run_bind]
  have hti:∀w,(typeInfo e).run P w= .ok inf w:=fun w=>by simp[typeInfo,hinf]
  have hszr:∀w,(sizeOf e).run P w= .ok sz w:=fun w=>by simp[sizeOf,typeInfo,hinf,hs]
  have hlens:=hobj.lens;have hlall:∀r∈rows++rows',r.length=sz:=by
   intro r hr;rcases List.mem_append.1 hr with hr | hr
   ·exact hlens r hr
   exact hr' r hr
  have hlen:(rows++rows').length=rows.length+rows'.length:=by simp
  have hlenof:∀w,(Builtin.lenOf (E y)).run P w= .ok rows'.length w:=fun w=>by rw[hEy];rfl
  have hzeros:((TypeDesc.slice e2) matches .int _)=false:=rfl;by_cases hcap:rows.length+rows'.length≤c
  ·-- there is room
   have hrun:∀w',(match base with | some a=>(storeCells (a.add (rows.length*sz)) ns).run P w= .ok () w' | none=>w'=w) →
     (execOp E ⟨dst,.call { callee:= .builtin .append,args:=#[x,y],argTypes:=#[T,T2] },ty,pos,aft,g⟩).run P w= .ok (.value (.slice base (rows.length+rows'.length) c)) w':=by
    intro w' hst;have hEx':=hEx;simp only[execOp,resolve,invoke,builtin,Builtin.append_,hEx,Sem.run_bind,Sem.run_pure,Result.andThen_ok,List.map_toArray,List.map_cons,List.map_nil,List.getElem?_toArray,List.getElem?_cons_zero,List.getElem?_cons_succ,run_underlying hu,run_underlying hu2,hszr,pure_bind,
     Bool.false_eq_true,if_false,hlenof,Bool.not_false,if_true]
    rw[if_pos hcap];simp only[Sem.run_bind,hns,Result.andThen_ok];cases base with
    | none=>simp only at hst;subst hst;simp
    | some a=>simp only at hst;simp[hst]
   cases o with
   | none =>
    obtain⟨rfl,rfl⟩:=hobj;have hr0:rows'=[]:=by simpa using hcap
    subst hr0;have hns0:ns=[]:=by
     apply List.eq_nil_of_length_eq_zero;simpa using hnsl
    subst hns0;have hset:H.set i (.vec none sz ([]++[]) 0)=H:=by
     rw[List.append_nil];apply List.ext_getElem?;intro k;rw[List.getElem?_set];split
     ·rename_i hk;subst hk;rw[hi];split
      ·rfl
      rename_i hge;rw[List.getElem?_eq_none An] at hi;cases hi
     rfl
    refine⟨_,w,.vs none 0 0,H,F,hrun w ?_,⟨none,0,O,hset.symm⟩,.refl,hH,?_⟩
    ·cases base with
     | none=>rfl
     | some a=>rfl
    ·simp only[B2];exact⟨trivial,trivial,base,rfl⟩
   | some b =>
    obtain⟨vs,T',hb,hcs,hcl,hrows⟩:=hobj;obtain⟨vs⟩:=vs;have hbase':=hbase b rfl;subst hbase';have hcs':c*sz≤vs.length:=by simpa using hcs
    have hlt:b<w.heap.size:=(Array.getElem?_eq_some_iff.1 hb).1;have hF:F b:=hH.sub _ (List.mem_of_getElem? hi) b rfl;cases hrr:rows' with
    | nil =>
     subst hrr;have hns0:ns=[]:=by
      apply List.eq_nil_of_length_eq_zero;simpa using hnsl
     subst hns0;have hset:H.set i (.vec (some b) sz (rows++[]) c)=H:=by
      rw[List.append_nil];apply List.ext_getElem?;intro k;rw[List.getElem?_set];split
      ·rename_i hk;subst hk;rw[hi];split
       ·rfl
       rename_i hge;rw[List.getElem?_eq_none An] at hi;cases hi
      rfl
     refine⟨_,w,.vs (some b) (rows++[]).length c,H,F,hrun w O,⟨some b,c,O,hset.symm⟩,.refl,hH,?_⟩;simp[B2]
    | cons r0 rr =>
     rw[←hrr];have hnsne:ns≠[]:=by
      intro e0;rw[e0] at hnsl;rw[hrr] at hnsl;simp[Nat.succ_mul] at hnsl;omega
     have hw:F9 b (.cells ⟨splice vs (rows.length*sz) ns⟩ T' (0,0)) w (w.setCells b (rows.length*sz) ns):=Er ns hb hnsne;have hfit:rows.length*sz+ns.length≤vs.length:=by
      have:(rows.length+rows'.length)*sz≤c*sz:=Nat.mul_le_mul_right sz hcap;rw[Nat.add_mul] at this;omega
     have st:=hw.stable hF;have hb':=hw.self hlt;refine⟨_,w.setCells b (rows.length*sz) ns,.vs (some b) (rows++rows').length c,_,F,hrun _ ?_,⟨some b,c,O,O⟩,hw.trans hi O O,hw.HRel hH hi O O ?_,by simp[B2]⟩
     ·have ht:=NF hb (o:=rows.length*sz) (n:=ns.length) hfit;have h1':∀u∈ns,u.oneCell'=true:=JE hnsr (Pl hsol);have:=run_storeCells_cells (P:=P) b (rows.length*sz) ns 0 w (fun q hq=>by simpa using (ht q hq).1) (fun q hq=>by simpa using (ht q hq).2) h1';simp only[Nat.add_zero] at this;simp only[Addr.add_mid,Nat.zero_add];exact this
     refine⟨⟨splice vs (rows.length*sz) ns⟩,T',hb',by simp only[D5,List.size_toArray];exact hcs',by simp;omega,?_⟩;refine JV ?_ ?_
     ·have:∀{rs:List (List PV)} {q:Nat},q+rs.length*sz≤rows.length*sz→Bp F w b sz q rs→Bp F (w.setCells b (rows.length*sz) ns) b sz q rs:=by
       intro rs
       induction rs with
       | nil=>intro q _ _;simp[Bp]
       | cons a rs ih2 =>
        intro q hq ha;simp only[Bp] at ha ⊢;simp only[List.length_cons,Nat.succ_mul] at hq;exact⟨ha.1,G8 hb hb' st (.inl (by rw[ha.1];omega)) ha.2.1,ih2 An ha.2.2⟩
      exact this An hrows
     refine GM (vs:=ns) hr' ?_ (Bl.mono st _ _ hnsr);intro q u hq;have:=Ig ns vs (rows.length*sz) q u hq hfit;simp[World.cell?,hb',this]
  -- a new array
  have hcap':c<rows.length+rows'.length:=by omega
  generalize hnc:Question.cut (.appendCap (rows.length+rows'.length) c e) (w.tape w.drawn (.appendCap (rows.length+rows'.length) c e))=newCap;have hncge:rows.length+rows'.length≤newCap:=by rw[←hnc];simp only[Question.cut];omega
  have hnext:=KW hcap';have hask:∀(b:Nat) w,(askRoom b).run P w= .ok () w:=by intro b w;unfold askRoom;split<;>rfl
  let w1:World:={ w with drawn:=w.drawn+1 }
  have same:Cs F w F w1:=⟨Nat.le_refl _,fun _ _ _=>rfl,fun _ h _=>h⟩;have hobj':Gm F w1 (.vec o sz rows c):=Gm.mono same _ (fun _ _=>rfl) hobj;obtain⟨ns',oy',cy',hEy',hns',hnsl',hnsr'⟩:=hy F w1 _ (hH.stable' same (fun _ h=>h) (fun _ _ _ _=>rfl) hH.bd) (B2.mono same _ _ h2);obtain⟨os',hos',hosl',hosr'⟩:=En (P:=P) hobj' (B2.mono same _ _ h1)
  let vs:List Value:=os'++ns'++(Builtin.zeroCells zv.cells (newCap - (rows.length+rows'.length))).toList
  have hrun:(execOp E ⟨dst,.call { callee:= .builtin .append,args:=#[x,y],argTypes:=#[T,T2] },ty,pos,aft,g⟩).run P w= .ok (.value (.slice (some ⟨w.heap.size,0,none⟩) (rows.length+rows'.length) newCap)) (World.push w1 (.cells ⟨vs⟩ e (0,0))):=by
   have hos2:=hos';rw[hEx] at hos2;simp only[execOp,resolve,invoke,builtin,Builtin.append_,hEx,Sem.run_bind,Sem.run_pure,Result.andThen_ok,List.map_toArray,List.map_cons,List.map_nil,List.getElem?_toArray,List.getElem?_cons_zero,List.getElem?_cons_succ,run_underlying hu,run_underlying hu2,hszr,pure_bind,
    Bool.false_eq_true,if_false,hlenof,Bool.not_false,if_true]
   rw[if_neg hcap];simp only[Sem.run_bind,hti,Result.andThen_ok,hby];rw[if_neg Ah];simp only[Sem.run_bind,Sem.run_pure,Result.andThen_ok,hti,hby,pure_bind];rw[if_neg (by
    have:Builtin.nextslicecap (rows.length+rows'.length) c*bytes≤2*(rows.length+rows'.length)*bytes:=Nat.mul_le_mul_right bytes hnext;simp;omega)]
   have hch:(choose (.appendCap (rows.length+rows'.length) c e)).run P w= .ok newCap w1:=by
    simp only[choose,Sem.run,Question.forced,Bool.false_eq_true,if_false,hnc];rfl
   simp only[Sem.run_bind,Sem.run_pure,Result.andThen_ok,pure_bind,hch,hti,hask,hos2,hns',hzv,newRow,newObj,Sem.run,Result.andThen];have evs:(⟨os'⟩++⟨ns'⟩++Builtin.zeroCells zv.cells (newCap - (rows.length+rows'.length)):Array Value)=⟨vs⟩:=by
    apply Array.ext';simp[vs]
   rw[evs];rfl
  have hvl:vs.length=newCap*sz:=by
   simp only[vs,List.length_append,hosl',hnsl',Array.length_toList,Hw,hzs];rw[←Nat.add_mul,←Nat.add_mul];congr 1;omega
  have hlen2:(rows++rows').flatten.length=(rows.length+rows'.length)*sz:=by rw[S9 hlall,hlen]
  have hpre:Bl F w1 ((rows++rows').flatten.map .p) (vs.take ((rows++rows').flatten.length)):=by
   have e1:vs.take ((rows++rows').flatten.length)=os'++ns':=by
    rw[hlen2];have:(os'++ns').length=(rows.length+rows'.length)*sz:=by rw[List.length_append,hosl',hnsl',Nat.add_mul]
    rw[←this];exact List.take_left
   rw[e1,List.flatten_append,List.map_append];exact hosr'.append hnsr'
  -- the tracked object lies in the new array
  have hH1:HRel F H w1:=hH.stable' same (fun _ h=>h) (fun _ _ _ _=>rfl) hH.bd;have t1:Trans F H w F H w1:=⟨Nat.le_refl _,fun _ _ _=>rfl,fun _ h _=>h,fun _ h=> .inl h,fun o ho b hb=> .inl ⟨o,ho,hb⟩,rfl,rfl,rfl⟩;obtain⟨v',H',F',⟨b',c',hv',hH'⟩,ht,hHr,hrep⟩:=H8 (T:=e) (c:=newCap) (vs:=vs) (H:=H) hH1 hlall hpre (by rw[hvl];exact Nat.le_refl _) (by rw[hlen];exact hncge);subst hv';subst hH';have hset:H.set i (.vec (some b') sz (rows++rows') c')=H.take i++ .vec (some b') sz (rows++rows') c'::H.drop (i+1):=by
   rw[List.set_eq_take_append_cons_drop,if_pos (List.getElem?_eq_some_iff.1 hi).1]
  have hperm:(A8.vec (some b') sz (rows++rows') c'::H.eraseIdx i).Perm (H.set i (.vec (some b') sz (rows++rows') c')):=by
   rw[hset,List.eraseIdx_eq_take_drop_succ];exact List.perm_middle.symm
  have hsub:(A8.vec (some b') sz (rows++rows') c'::H.eraseIdx i).Sublist (A8.vec (some b') sz (rows++rows') c'::H):=(List.eraseIdx_sublist H i).cons_cons _;refine⟨_,_,.vs (some b') (rows++rows').length c',H.set i (.vec (some b') sz (rows++rows') c'),F',hrun,⟨some b',c',O,O⟩,?_,(hHr.sublist hsub).perm hperm,by rw[←hlen];exact hrep⟩;have:=(t1.trans hH.bd ht).sublist hsub;exact { this with keys:=fun o ho=>this.keys o (hperm.mem_iff.2 ho) }
theorem Oo {T T2 e e2:TypeId}{sz bytes n2 n3 c i n j cy:Nat}{o oy:Option Nat}{rows rows' rows2:List (List PV)}{zv:Value}(hT:Ds P T=some (e,sz,bytes)) (hT2:Ds P T2=some (e2,n2,n3)) (hz:zeroOf P e=some zv) (hzs:zv.cells.size=sz) (hb0:(Nat.blt 0 sz&&Nat.blt 0 bytes)=true)
  (hx:ρ x= .vs o n c) (hn:n=rows.length) (hi:H[i]?=some (.vec o sz rows c)) (hy:ρ y= .vs oy rows'.length cy) (hj:H[j]?=some (.vec oy sz rows' cy)) (hsol:∀r∈rows',DC sz r) (hroom:2*(rows.length+rows'.length)*bytes≤281474976710656) (h2:rows++rows'=rows2) :
  Cc P ⟨dst,.call { callee:= .builtin .append,args:=#[x,y],argTypes:=#[T,T2] },ty,pos,aft,g⟩ ρ H (GU i sz rows2 H):=by
 subst h2;refine OE hT hT2 hz hzs hb0 (fun _ _ _ h=>by rw[hx] at h;exact h) hn hi (fun F w u hH hu=>?_) hsol hroom;rw[hy] at hu;obtain⟨us,h1,h2,h3⟩:=En (P:=P) (hH.obj _ (List.mem_of_getElem? hj)) hu;cases oy with
 | none =>
  simp only[B2] at hu;obtain⟨e1,e2,a,ha⟩:=hu;exact⟨us,a,0,by rw[ha,e1],h1,h2,h3⟩
 | some b=>simp only[B2] at hu;exact⟨us,_,cy,hu,h1,h2,h3⟩
end
section
variable {P:Program}{ops:Array Oper}{n:Nat}{τ₀:Nat→AV}{D:List DV}{Q:CV→Be→Prop}{opn:Nat→Bool}{k:Nat}{τ:Nat→AV}{H Hs:List A8}{dst:Option Tmp}{c:Call}{ty:TypeId}{pos:String}{aft:Array Edge}{f:Operand}{fid:FuncId}{first caps A:List AV}{R:DN→List A8→Prop}
theorem I5 {rd ef effs fx}(fx':List (Nat×Sp)) (is:List Nat) (ho:ops[k]?=some ⟨dst,.call c,ty,pos,aft,none⟩) (hn:opn k=true)
  (hc:c.callee= .value f) (hf:(ev τ f= .p (.fn fid)∧first=[]∧caps=[])∨ev τ f= .fn (.func fid) first caps) (h:Br P fid A Hs R) (hg:D2 H is Hs) (hnd:is.Nodup) (hA:Ek (first++c.args.toList.map (ev τ)++caps) A)
  (hl:∀v T',R (.val v) T'→T'.length=Hs.length) (hp:∀v T',¬R (.panic v) T') (hne:∃v T',R (.val v) T') (haft:Dx ops k (fx'.map (·.1))=true)
  (next:∀v T',R (.val v) T'→IJ ops k H (Ha H is T') rd∧F6 k (.eff v (Ha H is T')) fx∧Dr P ops n τ₀ D Q opn (k+1) (put τ dst v) (Ha H is T') rd ((k,H,Ha H is T')::ef) (true::effs) (fx'++fx)):Dr P ops n τ₀ D Q opn k τ H rd ef effs fx:=by
 have hop:Cc P ⟨dst,.call c,ty,pos,aft,none⟩ (ev τ) H (fun r H'=>∃T',R r T'∧(match r with | .val _=>H'=Ha H is T' | .panic _=>H'=T'++Ci is 0 H)):=by
  refine Cc.permR (El hc hf (C8 hnd hg) (h.args hA) (.inl O)) ?_;rintro r H1 ⟨T',hR,rfl⟩;cases r with
  | val v=>exact⟨_,(H6 hnd hg (hl v T' hR)).symm,T',hR,rfl⟩
  | panic v=>exact⟨_,List.Perm.refl _,T',hR,rfl⟩
 refine Jm fx' ho hn hop haft ?_ ?_ ?_
 ·obtain⟨v,T',hR⟩:=hne;exact⟨v,_,T',hR,O⟩
 ·rintro v H' ⟨T',hR,_⟩;exact hp v T' hR
 rintro v H' ⟨T',hR,rfl⟩;exact next v T' hR
def ku (i sz:Nat) (rows:List (List PV)) (H:List A8):DN→List A8→Prop
 | .val v,H'=>∃b c,v= .vs (some b) rows.length c∧H'=H.set i (.vec (some b) sz rows c)
 | .panic _,_=>False
theorem Ul {o:Oper}{ρ:Operand→AV}{i sz:Nat}{rows:List (List PV)}{ob:A8}(h:Cc P o ρ H (GU i sz rows H)) (hr:rows≠[]) (hi:H[i]?=some ob):Cc P o ρ H (ku i sz rows H):=by
 intro r F S a w hs hH hρ hd;refine H4 (h r F S a w hs hH hρ hd) ?_ ?_
 ·rintro a' w' ⟨v,H',F',⟨o2,c2,rfl,rfl⟩,hs',ht⟩;have hlt:=(List.getElem?_eq_some_iff.1 hi).1;have hm:A8.vec o2 sz rows c2∈H.set i (.vec o2 sz rows c2):=List.mem_of_getElem? (i:=i) (by rw[List.getElem?_set_self hlt]);cases o2 with
  | none =>
   have:=hs'.heap.obj _ hm;exact absurd this.1 hr
  | some b=>exact⟨_,_,F',⟨b,c2,rfl,rfl⟩,hs',ht⟩
 rintro e a' w' ⟨v,H',F',u,h,_⟩;exact h.elim
theorem Mm {rd ef effs fx}{op:Op}{i sz:Nat}{rows:List (List PV)}{ob:A8}(fx':List (Nat×Sp)) (ho:ops[k]?=some ⟨dst,op,ty,pos,aft,none⟩) (hn:opn k=true) (h:Cc P ⟨dst,op,ty,pos,aft,none⟩ (ev τ) H (GU i sz rows H)) (hr:rows≠[]) (hi:H[i]?=some ob) (haft:Dx ops k (fx'.map (·.1))=true)
  (next:∀b c,IJ ops k H (H.set i (.vec (some b) sz rows c)) rd∧F6 k (.eff (.vs (some b) rows.length c) (H.set i (.vec (some b) sz rows c))) fx∧Dr P ops n τ₀ D Q opn (k+1) (put τ dst (.vs (some b) rows.length c)) (H.set i (.vec (some b) sz rows c)) rd ((k,H,H.set i (.vec (some b) sz rows c))::ef) (true::effs) (fx'++fx)):Dr P ops n τ₀ D Q opn k τ H rd ef effs fx :=
 Jm fx' ho hn (Ul h hr hi) haft ⟨_,_,0,0,rfl,rfl⟩ (fun _ _ h=>h.elim) (fun v H' ⟨b,c,h1,h2⟩=>by subst h1;subst h2;exact next b c)
end
end Go.Abs
namespace Go.Proofs.YtifphifongokcaaGreat
open Go.Abs Go.Eu
theorem Yf:∀(t:Tm) (d:Int) (bt:Nat) (to:List Int),(Nd t)→(Vp t)→(t.kind=0)→(0≤d)→(d<Cb)→(to.length<Cb)→(∀x∈to,-4294967296≤x∧x≤4294967296)→Br Tryz.prog 175 [.agg ((Bc t).map .p),.p (I d),.ptr bt 0] [.box bt [.p (.lst (List.map CG to))]] (Vu (fun(r:Tm)=>TV r) (fun e=> .p (.iface 245 (I e))) (fun r H'=>H'=[.box bt [.p (.lst (List.map CG to))]]) (Iz to t d)):=by
 intro t d bt to h1 h2 h3 h4 h5 h6 h7;obtain⟨tk,ti,tn,tl,ts⟩:=t;have hi:=h2.1 h3;simp only[Cb] at h5 h6;refine A1 Tryz.func175 O iD (n:=43) O O (Ay (BE O (BT O) fun b3=>BE O (A7 Bq O) fun b5=>Bo O (Au Az 5 [1] O (As (Au Az 2 [] O (A2 O (fun c=>?_) (fun c=>?_)))))))
 ·(try simp only[sd,se] at c);refine Ay (Ar O (BR (i:=1) Bx O O O) (Ar O (BB O O (R4 (.mk tk ti tn tl ts:Tm) h1) O) (Aq Az 1 [0,1] O (A4 (⟨O,_,_,⟨_,_,O,(BO (i:=0) Bx O O Ad),O⟩,(Dn (is:=[2]) O),?_⟩)))));exact⟨(.mk tk ti tn tl []),Rs An,O,O⟩
 (try simp only[sd,se] at c);refine A5 (As (As (Bj [1,2,5,6] 34 (fun y=>∃b:Bool,y= .p (.bool b)∧(b=true→Iz to (.mk tk ti tn tl ts) d= .error 24)∧(b=false→∃x,to[(ti - d:Int).toNat]?=some x∧Iz to (.mk tk ti tn tl ts) d=FA (x+d))) ?_ ?_)))
 ·refine Ax (A0 Az 2 [2] O (Ar O (BH DX O (List.length_map _)) (A0 Az 2 [] O (BS 19 O (fun g=>?_) (fun g=>?_)))))
  ·(try simp only[sd,se] at g);exact Aq Az 15 [] O (⟨rfl,rfl,AK,(by first | exact⟨_,rfl,fun _=>OQ An An,fun h=>nomatch (h:true=false)⟩ | exact⟨_,rfl,fun _=>M6 An hx An,fun h=>nomatch (h:true=false)⟩ | exact⟨_,rfl,fun h=>OM An hx (by simpa using h),fun h=>⟨_,hx,QR An hx An (by simpa using h)⟩⟩),⟨rfl,rfl,rfl,rfl,trivial⟩⟩)
  (try simp only[sd,se] at g);refine A0 Az 2 [2] O ?_;obtain⟨x,hx⟩:=A9 (l:=to) (i:=((ti:Int) - (d:Int):Int).toNat) An;refine BK O (BC DX O O An (Gb hx) (O)) (A0 Az 4 [] O (BS 26 O (fun g1=>?_) (fun g1=>?_)))
  ·(try simp only[sd,se] at g1);exact Aq Az 8 [] O (⟨rfl,rfl,AK,(by first | exact⟨_,rfl,fun _=>OQ An An,fun h=>nomatch (h:true=false)⟩ | exact⟨_,rfl,fun _=>M6 An hx An,fun h=>nomatch (h:true=false)⟩ | exact⟨_,rfl,fun h=>OM An hx (by simpa using h),fun h=>⟨_,hx,QR An hx An (by simpa using h)⟩⟩),⟨rfl,rfl,rfl,rfl,trivial⟩⟩)
  (try simp only[sd,se] at g1);exact A0 Az 2 [2] O (BK O (BC DX O O An (Gb hx) (O)) (Aq Az 5 [] O (⟨rfl,rfl,AK,(by first | exact⟨_,rfl,fun _=>OQ An An,fun h=>nomatch (h:true=false)⟩ | exact⟨_,rfl,fun _=>M6 An hx An,fun h=>nomatch (h:true=false)⟩ | exact⟨_,rfl,fun h=>OM An hx (by simpa using h),fun h=>⟨_,hx,QR An hx An (by simpa using h)⟩⟩),⟨rfl,rfl,rfl,rfl,trivial⟩⟩)))
 rintro _ ⟨q,rfl,hqt,hqf⟩;refine A2 O (fun c1=>?_) (fun c1=>?_)
 ·(try simp only[sd,se] at c1);have hbad:=hqt (by simpa using c1);exact Ax (RS O O O (.inl ⟨O,O,O⟩) (UZ 24) (aw (we O) (FE)) (⟨O,_,List.nil_sublist _,⟨_,hbad,O⟩⟩))
 (try simp only[sd,se] at c1);obtain⟨y,hy,hg⟩:=hqf (by simpa using c1);have hyb:=h7 y (List.mem_of_getElem? hy);refine A5 (Ay (A0 Az 2 [2] O (Ar O (BC DX O O An (Gb hy) (O)) (A0 Az 3 [] O (dE [] O O O (.inl ⟨O,O,O⟩) (X8 ((y:Int)+(d:Int))) O Am (aw (we O) (FE)) (fun _ _ h=>(congrArg List.length h).trans O) ?_ ?_)))))
 rotate_left
 ·intro e _ he;exact⟨O,_,List.nil_sublist _,⟨_,by rw[hg,he],rfl⟩⟩
 rintro z _ hz rfl;refine Aq Az 1 [0,1] O (A4 (⟨O,_,_,⟨_,_,O,(BO (i:=0) Bx O O Ad),O⟩,(Dn (is:=[2]) O),?_⟩));exact⟨z,by rw[hg,hz],rfl,rfl⟩
theorem Zh:∀(bo be:Nat) (co ce:List AV),G7 Tryz.prog 174 [.ptr bo 0,.ptr be 0] (.ret) [.box bo co,.box be ce] (fun H'=>H'=[.box bo co,.box be ce]):=by
 intro bo be co ce;refine Nr (ty2:=0) Tryz.func174 O ad (n:=9) O O O O O O (Ay (CA O (Ar O (ME fo O O O) (Bo O ?_))));refine A2 O (fun c=>by cases c) (fun c=>?_);exact A5 ⟨.inl O,O,_,(Dn (is:=[0,1]) O),O⟩
theorem Yp:∀(bo be:Nat) (e:Int),G7 Tryz.prog 174 [.ptr bo 0,.ptr be 0] (.pan (.p (.iface 245 (I e)))) [.box bo [.p (I 0),.p (I 0),.p (.str ⟨#[]⟩),.p (.nils),.p (.nils)],.box be [.p (I 0)]] (fun H'=>H'=[.box bo [.p (I 0),.p (I 0),.p (.str ⟨#[]⟩),.p (.lst []),.p (.lst [])],.box be [.p (I e)]]):=by
 intro bo be e;refine Nr (ty2:=0) Tryz.func174 O ad (n:=9) O O O O O O (Ay (CA O (Ar O (ME fo O O O) (B7 (CB (i:=0) O) (Bo O ?_)))));refine A2 O (fun c=>?_) (fun c=>by cases c);exact Ax (A0 Az 2 [] O (Ar O (BB O O (U0 _) O) (A0 Az 2 [0,0,1,0] O (B7 (CB (i:=0) O) (Bo O ⟨.inl O,O,_,(Dn (is:=[0,1]) O),O⟩)))))
set_option maxHeartbeats 2000000 in
theorem Po:∀(t:Tm) (to:List Int),(Nd t)→(Vp t)→(size t<1099511627776)→(to.length<Cb)→(∀x∈to,-4294967296≤x∧x≤4294967296)→D3 Tryz.prog 139 [.agg ((Bc t).map .p),.p (.lst (List.map CG to))] (.tup [.agg ((Bc ((Og to t).1)).map .p),.p (I ((Og to t).2))]):=by
 intro t to h1 h2 h3 h4 h5;refine HW Tryz.func139 O gY (n:=11) O O (Ay (BE O (BT O) fun b2=>BE O (BT O) fun b3=>BE O (A7 Bq O) fun b4=>BE O (A7 gW O) fun b5=>Bo O (Ay (Ar O (Fs O O) (WA O O O O (Bo O (As (CK (fun k=>Nat.beq k 1||Nat.beq k 3) Eb (BG O (fun _=>Fs O O) Ap (QD [(2,.read [.box b2 ((Bc t).map .p)] (.agg ((Bc t).map .p)))] O O O (.inl ⟨O,O,O⟩) (Yd 175 [.ptr b3 0]) (.inl O) Ai fun bn=>⟨AB,Ap,?_⟩))))))))));refine Bf Az 1 [4] O ?_;refine dM [0,3] O O O (.inl ⟨O,O,O⟩) (WR (G1 (Iz to)) (fun _ T=>T=[.box bn [.fn (.func 175) [] [.ptr b3 0]],.box b3 [.p (.lst (List.map CG to))]]) 188 [.ptr bn 0] (fun s t d T hn hp h0 hb hT=>by subst hT;exact Xm (Iz to) 175 [.ptr b3 0] [.box b3 [.p (.lst (List.map CG to))]] (fun t d g1 g2 g3 g4 g5=>Yf t d b3 to g1 g2 g3 g4 g5 h4 h5) bn s t d hn hp h0 hb) _ t 0 () _ (Nat.le_refl _) h1 h2 An (by simp only[Cb] at h3 ⊢;omega) rfl) ⟨_,_,rfl,rfl,⟨_,_,rfl,rfl,rfl⟩⟩ Am (CQ _) (fun _ _ h=>(congrArg List.length h).trans rfl) Ai Ai rfl AB ?_ ?_
 rotate_left
 ·intro e he _ _ hτ;refine⟨_,_,_,O,VW (is:=[1,0]) _ Am ⟨_,_,O,O,⟨_,_,O,O,O⟩⟩,G7.eq (Yp b4 b5 _) ?_⟩;refine⟨_,[],⟨_,_,O,(BO (i:=0) Bx (hτ 4 (Nv Ai)) O O),⟨_,_,O,(SN (i:=1) fZ (hτ 5 (Nv Ai)) O),O⟩⟩,(List.nil_sublist _),?_⟩;rw[X7 he];exact⟨O,O⟩
 rintro⟨z,_⟩ _ hz rfl;refine⟨AB,AM,?_⟩;refine CE Az 2 [2,1,1,0] O (A4 (⟨_,_,_,O,C8 (is:=[2,1]) Am ⟨_,_,O,O,⟨_,_,O,O,O⟩⟩,G7.eq (Zh b4 b5 _ _) ?_⟩));refine⟨_,_,⟨_,_,O,(BO (i:=0) Bx O O Ad),⟨_,_,O,(SN (i:=1) fZ O O),O⟩⟩,(List.nil_sublist _),?_⟩
 all_goals exact⟨by show (.tup [.agg ((Bc z).map .p),.p (I 0)]:AV)=_;rw[Zt hz],rfl⟩
end Go.Proofs.YtifphifongokcaaGreat
namespace Go.Abs
inductive Yc where
 | val (v:AV)
 | skip
 | new (cs:List AV)
 | newv (sz:Nat) (rows:List (List PV))
 | dep (j:Nat) (f:Nat×Nat→AV)
 | newd (j:Nat) (f:Nat×Nat→List AV)
def Yc.v (b:Nat×Nat):Yc→AV
 | .val v=>v
 | .skip=> .tup []
 | .new _=> .ptr b.1 0
 | .newv _ rows=> .vs (some b.1) rows.length b.2
 | .dep _ _=> .tup []
 | .newd _ _=> .ptr b.1 0
def Dj (β:Nat→Nat×Nat) (k:Nat) (b:Nat×Nat):Nat→Nat×Nat:=fun j=>if j=k then b else β j
def Yc.w (β:Nat→Nat×Nat) (k:Nat):Yc→AV
 | .dep j f=>f (β j)
 | e=>e.v (β k)
def Yc.box (b:Nat×Nat):Yc→List A8
 | .new cs=>[.box b.1 cs]
 | .newv sz rows=>[.vec (some b.1) sz rows b.2]
 | _=>[]
def Yc.bx (β:Nat→Nat×Nat) (k:Nat):Yc→List A8
 | .newd j f=>[.box (β k).1 (f (β j))]
 | e=>e.box (β k)
def TK (ops:Array Oper) (o:Oper) (j:Nat):Prop:=j∈CZ o∨∃m o',m∈CZ o∧ops[m]?=some o'∧j∈CZ o'
def XG (ops:Array Oper) (o:Oper) (j:Nat):Bool:=(CZ o).any fun m=>m==j||(match ops[m]? with | some o'=>(CZ o').contains j | none=>false)
theorem TN {ops:Array Oper}{o:Oper}{j:Nat}(h:XG ops o j=true):TK ops o j:=by
 unfold XG at h;obtain⟨m,hm,h⟩:=List.any_eq_true.1 h;rcases Bool.or_eq_true _ _▸h with h | h
 ·obtain rfl:m=j:=by simpa using h
  exact .inl hm
 split at h
 ·rename_i o' ho;exact .inr ⟨m,o',hm,ho,by simpa using h⟩
 cases h
theorem TK.lt {ops:Array Oper}{i j:Nat}{o:Oper}(c0:∀i o j,ops[i]?=some o→j∈CZ o→j<i) (ho:ops[i]?=some o):TK ops o j→j<i
 | .inl h=>c0 i o j ho h
 | .inr ⟨m,o',h1,h2,h3⟩=>by have:=c0 i o m ho h1;have:=c0 m o' j h2 h3;omega
theorem TK.down {ops:Array Oper}{l:Nat→Prop}{i j:Nat}{o:Oper}(hd:Down ops l) (ho:ops[i]?=some o) (hi:l i):TK ops o j→l j
 | .inl h=>hd i o j ho hi h
 | .inr ⟨m,o',h1,h2,h3⟩=>hd m o' j h2 (hd i o m ho hi h1) h3
def M4 (P:Program) (ops:Array Oper) (H₀:List A8) (β:Nat→Nat×Nat) (o:Oper) (τ:Nat→AV):Yc→Prop
 | .val v=>CY ops ⟨0,τ,[],[]⟩ o∧∀Bs,DT P o (ev τ) (Bs++H₀) v (Bs++H₀)
 | .skip=>∃j want d,o.guard=some (j,want)∧(ops[j]?).bind (·.dst)=some d∧Xh (τ d) want
 | .new cs=>o.guard=none∧∀Bs,Cc P o (ev τ) (Bs++H₀) (GC cs (Bs++H₀))
 | .newv sz rows=>o.guard=none∧∀Bs,Cc P o (ev τ) (Bs++H₀) (Gp sz rows (Bs++H₀))
 | .dep j f=>j∈CZ o∧CY ops ⟨0,τ,[],[]⟩ o∧∀Bs,DT P o (ev τ) (Bs++H₀) (f (β j)) (Bs++H₀)
 | .newd j f=>TK ops o j∧o.guard=none∧∀Bs,Cc P o (ev τ) (Bs++H₀) (GC (f (β j)) (Bs++H₀))
def YW (P:Program) (ops:Array Oper) (H₀:List A8):(Nat→Nat×Nat)→Nat→(Nat→AV)→List Yc→((Nat→AV)→List A8→Prop)→Prop
 | _,_,τ,[],K=>K τ []
 | β,k,τ,e::r,K=>∃o,ops[k]?=some o∧M4 P ops H₀ β o τ e∧∀b,YW P ops H₀ (Dj β k b) (k+1) (put τ o.dst (e.w (Dj β k b) k)) r (fun τ' Hs=>K τ' (e.bx (Dj β k b) k++Hs))
def FW (β:Nat→Nat×Nat):Nat→List Yc→List Sp
 | _,[]=>[]
 | k,e::r=> .free (e.w β k)::FW β (k+1) r
def QF (β:Nat→Nat×Nat):Nat→List Yc→List A8
 | _,[]=>[]
 | k,e::r=>e.bx β k++QF β (k+1) r
def GK (β:Nat→Nat×Nat) (l:Nat→Bool):Nat→List Yc→List A8
 | _,[]=>[]
 | k,e::r=>(if l k=true then e.bx β k else [])++GK β l (k+1) r
theorem My (β:Nat→Nat×Nat):∀(r:List Yc) (k j:Nat),j<r.length→(FW β k r).getD j .skip= .free ((r.getD j .skip).w β (k+j))
 | [],k,j,h=>by simp at h
 | e::r,k,0,h=>by simp[FW]
 | e::r,k,j+1,h=>by
  have:=My β r (k+1) j (by simpa using h);simp only[FW,List.getD_cons_succ];rw[this,show k+1+j=k+(j+1) by omega]
theorem Uk (β:Nat→Nat×Nat):∀(r:List Yc) (k:Nat),(FW β k r).length=r.length
 | [],k=>rfl
 | e::r,k=>by simp[FW,Uk β r (k+1)]
theorem Uf (β:Nat→Nat×Nat) {r:List Yc}{k j:Nat}(h:r.length≤j):(FW β k r).getD j .skip= .skip:=by
 rw[List.getD_eq_getElem?_getD,List.getElem?_eq_none (by rw[Uk];exact h)];rfl
theorem QE (β:Nat→Nat×Nat) (r:List Yc) (k j:Nat):((FW β k r).getD j .skip).isEff=false:=by
 rcases Nat.lt_or_ge j r.length with h | h
 ·rw[My β r k j h];rfl
 rw[Uf β h];rfl
theorem Nt (β:Nat→Nat×Nat) (r:List Yc) (k j:Nat) (ob:List A8) (v:AV):(FW β k r).getD j .skip≠ .read ob v:=by
 rcases Nat.lt_or_ge j r.length with h | h
 ·rw[My β r k j h];simp
 rw[Uf β h];simp
theorem F7 (β:Nat→Nat×Nat) {r:List Yc}{j:Nat}(h:j<r.length):((FW β 0 r).getD j .skip).val=(r.getD j .skip).w β j:=by
 rw[My β r 0 j h,Nat.zero_add];rfl
theorem Ke {β β':Nat→Nat×Nat}{k:Nat}{e:Yc}(hk:β k=β' k) (hd:∀j f,e= .dep j f→β j=β' j):e.w β k=e.w β' k:=by
 cases e with
 | dep j f=>simp only[Yc.w];rw[hd j f rfl]
 | _=>simp only[Yc.w,hk]
theorem LH {β β':Nat→Nat×Nat}{k:Nat}{e:Yc}(hk:β k=β' k) (hd:∀j f,e= .newd j f→β j=β' j):e.bx β k=e.bx β' k:=by
 cases e with
 | newd j f=>simp only[Yc.bx];rw[hk,hd j f rfl]
 | _=>simp only[Yc.bx,hk]
theorem YW.facts {P:Program}{ops:Array Oper}{H₀:List A8}{τ:Nat→AV}{base:List Yc}(hb0:∀i o j,ops[i]?=some o→j∈CZ o→j<i) (β:Nat→Nat×Nat):∀(r:List Yc) (k:Nat) (βk:Nat→Nat×Nat) (τk:Nat→AV) (K:(Nat→AV)→List A8→Prop),(∀i,i<k→βk i=β i)→base.drop k=r→k+r.length=base.length→τk=τS ops (FW β 0 base) τ k→YW P ops H₀ βk k τk r K →
  (∀j,k≤j→j<base.length→∃o,ops[j]?=some o∧M4 P ops H₀ β o (τS ops (FW β 0 base) τ j) (base.getD j .skip))∧K (τS ops (FW β 0 base) τ base.length) (QF β k r)
 | [],k,βk,τk,K,hβ,hd,hk,ht,h=>by
  simp only[List.length_nil,Nat.add_zero] at hk;subst hk;exact⟨fun j h1 h2=>by omega,by rw[←ht];exact h⟩
 | e::r,k,βk,τk,K,hβ,hd,hk,ht,h=>by
  obtain⟨o,ho,hok,hn⟩:=h;simp only[List.length_cons] at hk;have hb:base.getD k .skip=e:=by
   have:(base.drop k)[0]?=some e:=by rw[hd];rfl
   rw[List.getElem?_drop] at this;rw[List.getD_eq_getElem?_getD,show k=k+0 by omega,this];rfl
  have hd2:base.drop (k+1)=r:=by
   rw[←List.drop_drop,hd];rfl
  have hu:∀i,i<k+1→Dj βk k (β k) i=β i:=by
   intro i hi;unfold Dj;split
   ·rename_i e1;rw[e1]
   exact hβ i An
  have hdj:∀j f,e= .dep j f→j<k:=by
   intro j f e1;subst e1;exact hb0 k o j ho hok.1
  have hdn:∀j f,e= .newd j f→j<k:=by
   intro j f e1;subst e1;exact hok.1.lt hb0 ho
  have hbx:e.bx (Dj βk k (β k)) k=e.bx β k:=LH (hu k An) fun j f e1=>hu j (by have:=hdn j f e1;omega);have hn:=hn (β k);rw[hbx] at hn;have hw:e.w (Dj βk k (β k)) k=e.w β k:=Ke (hu k An) fun j f e1=>hu j (by have:=hdj j f e1;omega);have hok2:M4 P ops H₀ β o τk e:=by
   cases e with
   | dep j f=>obtain⟨a,b,c⟩:=hok;exact⟨a,b,by rw[←hβ j (hdj j f rfl)];exact c⟩
   | newd j f=>obtain⟨a,b,c⟩:=hok;exact⟨a,b,by rw[←hβ j (hdn j f rfl)];exact c⟩
   | _=>exact hok
  obtain⟨h1,h2⟩:=YW.facts (τ:=τ) (base:=base) hb0 β r (k+1) _ _ _ hu hd2 An (by simp only[τS,ho,Option.bind_some];rw[F7 β An,hb,←ht,hw]) hn;refine⟨fun j hj hl=>?_,h2⟩;by_cases e2:j=k
  ·subst e2;exact⟨o,ho,by rw[hb,←ht];exact hok2⟩
  exact h1 j An hl
theorem HL {β β':Nat→Nat×Nat}{l l':Nat→Bool}:∀(r:List Yc) (k:Nat),(∀j,k≤j→l j=l' j∧(l j=true→β j=β' j))→(∀i j f,r[i]?=some (.newd j f)→l (k+i)=true→β j=β' j)→GK β l k r=GK β' l' k r
 | [],k,h,hd=>rfl
 | e::r,k,h,hd=>by
  simp only[GK];obtain⟨h1,h2⟩:=h k (Nat.le_refl _);rw[HL r (k+1) (fun j hj=>h j An) (fun i j f e1 e2=>hd (i+1) j f (by simpa using e1) (by rw[←e2];congr 1;omega)),←h1];cases hl:l k
  ·rfl
  rw[LH (h2 hl) fun j f e1=>hd 0 j f (by rw[e1];rfl) hl]
theorem Kk {β:Nat→Nat×Nat}{l:Nat→Bool}{i:Nat}{b:Nat×Nat}(hi:l i=false):∀(r:List Yc) (k:Nat),k≤i→i<k+r.length→(∀m j f,r[m]?=some (.newd j f)→l (k+m)=true→j≠i)→((r.getD (i - k) .skip).bx (Dj β i b) i++GK β l k r).Perm (GK (Dj β i b) (fun j=>l j||j==i) k r)
 | [],k,h1,h2,hd=>by simp at h2;omega
 | e::r,k,h1,h2,hd=>by
  simp only[GK];have hd':∀m j f,r[m]?=some (.newd j f)→l (k+1+m)=true→j≠i:=fun m j f e1 e2=>hd (m+1) j f (by simpa using e1) (by rw[←e2];congr 1;omega);by_cases hk:k=i
  ·subst hk;simp only[hi,Bool.false_eq_true,if_false,List.nil_append,Nat.sub_self,List.getD_cons_zero,beq_self_eq_true,Bool.or_true,if_true];rw[HL (β':=Dj β k b) (l':=fun j=>l j||j==k) r (k+1) (fun j hj=>⟨by simp[show (j==k)=false by simp;omega],fun _=>by unfold Dj;rw[if_neg An]⟩) (fun m j f e1 e2=>by unfold Dj;rw[if_neg (hd' m j f e1 e2)])]
  have hp:=Kk (β:=β) hi r (k+1) (b:=b) An (by simp only[List.length_cons] at h2;omega) hd';have e1:(e::r).getD (i - k) .skip=r.getD (i - (k+1)) .skip:=by
   rw[show i - k=(i - (k+1))+1 by omega];rfl
  have e2:(if (l k||k==i)=true then e.bx (Dj β i b) k else [])=(if l k=true then e.bx β k else []):=by
   rw[show (l k||k==i)=l k by simp[hk]];cases hl:l k
   ·rfl
   rw[if_pos rfl,if_pos rfl];exact LH (by unfold Dj;rw[if_neg hk]) fun j f e3=>by unfold Dj;rw[if_neg (hd 0 j f (by rw[e3];rfl) hl)]
  rw[e1,e2];refine List.Perm.trans ?_ (hp.append_left _);rw[←List.append_assoc,←List.append_assoc];exact List.perm_append_comm.append_right _
theorem LD {β:Nat→Nat×Nat}{l:Nat→Bool}:∀(r:List Yc) (k:Nat),(∀j,k≤j→j<k+r.length→l j=true)→GK β l k r=QF β k r
 | [],k,h=>rfl
 | e::r,k,h=>by
  simp only[GK,QF];rw[if_pos (h k (Nat.le_refl _) Ao),LD r (k+1) fun j h1 h2=>h j An (by simp only[List.length_cons];omega)]
theorem Jl {β:Nat→Nat×Nat}{l:Nat→Bool}:∀(r:List Yc) (k:Nat),(∀j,l j=false)→GK β l k r=[]
 | [],k,h=>rfl
 | e::r,k,h=>by simp only[GK];rw[Jl r (k+1) h,h k];rfl
theorem QU {P:Program}{r:Option Nat}{ops:Array Oper}{id n:Nat}{τ:Nat→AV}{H:List A8}{D:List DV}{Q:CV→Be→Prop}(base:List Yc) (hm:P.follows .mixedOrders=true)
  (he:Nat.ble base.length ops.size=true) (chk:KD ops n []=true) (late:Ui ops base.length=true) (h:YW P ops H (fun _=>(0,0)) 0 τ base (fun τ' Hs=>AL P r ops base.length ⟨n,τ',Hs++H,D⟩ Q)):Gj P r (.region id ops true) ⟨n,τ,H,D⟩ Q:=by
 intro F₀ a₀ w₀ hs₀;rw[Nat.ble_eq] at he;refine wpIn_region_any hm ?_;have same:Cs F₀ w₀ F₀ { w₀ with drawn:=w₀.drawn+1 }:=⟨Nat.le_refl _,fun _ _ _=>rfl,fun _ h _=>h⟩;have t₀:Trans F₀ H w₀ F₀ H { w₀ with drawn:=w₀.drawn+1 } :=
  ⟨Nat.le_refl _,fun _ _ _=>rfl,fun _ h _=>h,fun _ h=> .inl h,fun o ho b hb=> .inl ⟨o,ho,hb⟩,rfl,rfl,rfl⟩
 have hs₁:Cy F₀ ⟨n,τ,H,D⟩ a₀ { w₀ with drawn:=w₀.drawn+1 } :=
  ⟨hs₀.size,fun t=>B2.mono same _ _ (hs₀.tmp t),hs₀.heap.stable' same (fun _ h=>h) (fun _ _ _ _=>rfl) hs₀.heap.bd,EC.mono same _ _ hs₀.defs⟩
 obtain⟨hdst,c0,c1,c2,_⟩:=IE chk;have hd:∀β,LI P ops n (fun _=>False) τ H (FW β 0 base):=fun β =>
  ⟨hdst,fun _ _ _ h=>h.elim,c0,c1,c2,fun i k _ _ h _=>(by rw[QE] at h;cases h),fun i e ob v _ _ _ h _ _=>absurd h (Nt β base 0 i ob v)⟩
 have hE:∀β,(∀j,j<base.length→∃o,ops[j]?=some o∧M4 P ops H β o (τS ops (FW β 0 base) τ j) (base.getD j .skip))∧AL P r ops base.length ⟨n,τS ops (FW β 0 base) τ base.length,QF β 0 base++H,D⟩ Q:=fun β=>by
  obtain⟨h1,h2⟩:=YW.facts (base:=base) c0 β base 0 _ τ _ (fun i hi=>by omega) Ao Ao rfl h;exact⟨fun j hj=>h1 j (Nat.zero_le _) hj,h2⟩
 -- where all of the first part has been carried out,the rest goes in the order of the text
 have conv:∀{l:Array Bool} {a w β τ' F Hb},(∀j,j<base.length→l.getD j false=true)→(∀k,base.length≤k→l.getD k false=false)→Db ops (FW β 0 base) τ (fun i=>l.getD i false=true) τ'→Hb.Perm (GK β (fun k=>l.getD k false) 0 base)→Cy F ⟨n,τ',Hb++H,D⟩ a w→Trans F₀ H w₀ F (Hb++H) w →
   wpOpsIn (W r) 0 P ops (post F₀ H w₀ Q) (List.range' base.length (ops.size - base.length)) a w:=by
  intro l a w β τ' F Hb hall hno hτ hp hs ht;have hτe:τ'=τS ops (FW β 0 base) τ base.length:=by
   funext t;have h2:=Ic (hd β) base.length he t;by_cases hw:∃(k:Nat) (o':Oper),ops[k]?=some o'∧o'.dst=some t∧k<base.length
   ·obtain⟨k,o',ho',hk,hlt⟩:=hw;rw[(hτ t).1 k o' ho' hk (hall k hlt),h2.1 k o' ho' hk hlt]
   have hw':∀(k:Nat) o',ops[k]?=some o'→o'.dst=some t→¬k<base.length:=fun k o' h1 h2 h3=>hw ⟨k,o',h1,h2,h3⟩;rw[(hτ t).2 fun k o' h1 h2 h3=>(by have h4:l.getD k false=true:=h3;have:=hno k (by have:=hw' k o' h1 h2;omega);rw[this] at h4;cases h4),h2.2 fun k o' h1 h2 h3=>hw' k o' h1 h2 h3]
  rw[LD base 0 fun j _ hj=>hall j An] at hp;have hp2:=hp.append_right H;have:=(hE β).2 F a w (by rw[←hτe];exact⟨hs.size,hs.tmp,hs.heap.perm hp2,hs.defs⟩);refine DO (fun e a' w' hq=>?_) _ _ _ this;exact EL hs₀.heap.bd { ht with keys:=fun o ho=>ht.keys o (hp2.mem_iff.2 ho) } hq
 refine IG (I:=fun l a w=>l.size=ops.size∧((∃β τ' F Hb,Down ops (fun i=>l.getD i false=true)∧(∀k,base.length≤k→l.getD k false=false)∧Db ops (FW β 0 base) τ (fun i=>l.getD i false=true) τ'∧Hb.Perm (GK β (fun k=>l.getD k false) 0 base)∧Cy F ⟨n,τ',Hb++H,D⟩ a w∧Trans F₀ H w₀ F (Hb++H) w) ∨
  (∃m,base.length≤m∧m≤ops.size∧(∀k,k<ops.size→(l.getD k false=true↔k<m))∧wpOpsIn (W r) 0 P ops (post F₀ H w₀ Q) (List.range' m (ops.size - m)) a w))) (fun l a w h=>h.1) ?_ ?_ _ _ _ _ ?_ ?_
 ·rintro l a w ⟨hsz,hI⟩ i hi;obtain⟨hun,o,ho,hall⟩:=mem_ready.1 hi;have hlt:i<ops.size:=by
   rcases Nat.lt_or_ge i ops.size with h | h
   ·exact h
   simp[Array.getElem?_eq_none h] at ho
  have hil:i<l.size:=by omega
  have hnot:l.getD i false=false:=by
   have:l[i]=false:=by simpa [hil] using hun
   simp[hil,this]
  have hr:∀j∈CZ o,l.getD j false=true:=by
   intro j hj;simp only[CZ,List.mem_map,List.mem_filter] at hj;obtain⟨e,⟨he,hb⟩,rfl⟩:=hj;exact hall e (by simpa using he) hb
  have hset:∀k,(l.setIfInBounds i true).getD k false=true↔(l.getD k false=true∨k=i):=by
   intro k;by_cases hk:k=i
   ·subst hk;simp[hil]
   simp[Array.getElem?_setIfInBounds_ne (Ne.symm hk),hk]
  have hset2:∀k,(l.setIfInBounds i true).getD k false=(l.getD k false||k==i):=by
   intro k;by_cases hk:k=i
   ·subst hk;simp[hil]
   simp[Array.getElem?_setIfInBounds_ne (Ne.symm hk),hk]
  have hsz':(l.setIfInBounds i true).size=ops.size:=by simp[hsz]
  have goLate:∀m,i=m→base.length≤m→m≤ops.size→(∀k,k<ops.size→(l.getD k false=true↔k<m))→wpOpsIn (W r) 0 P ops (post F₀ H w₀ Q) (List.range' m (ops.size - m)) a w →
    wpOpIn (W r) 0 P ops (post F₀ H w₀ Q) i (fun a w=>(l.setIfInBounds i true).size=ops.size∧((∃β τ' F Hb,Down ops (fun k=>(l.setIfInBounds i true).getD k false=true)∧(∀k,base.length≤k→(l.setIfInBounds i true).getD k false=false)∧Db ops (FW β 0 base) τ (fun k=>(l.setIfInBounds i true).getD k false=true) τ'∧Hb.Perm (GK β (fun k=>(l.setIfInBounds i true).getD k false) 0 base)∧Cy F ⟨n,τ',Hb++H,D⟩ a w∧Trans F₀ H w₀ F (Hb++H) w) ∨
     (∃m,base.length≤m∧m≤ops.size∧(∀k,k<ops.size→((l.setIfInBounds i true).getD k false=true↔k<m))∧wpOpsIn (W r) 0 P ops (post F₀ H w₀ Q) (List.range' m (ops.size - m)) a w))) a w:=by
   intro m him h1 h2 h3 hw;subst him;rw[GP hlt,wpOpsIn_cons] at hw;refine wpOpIn_mono (fun a' w' h'=>⟨hsz',.inr ⟨i+1,by omega,by omega,fun k hk=>?_,h'⟩⟩) hw;rw[hset k,h3 k hk];omega
  rcases hI with ⟨β,τ',F,Hb,hdown,hno,hτ,hp,hs,ht⟩ | ⟨m,hm1,hm2,hm3,hw⟩
  ·rcases Nat.lt_or_ge i base.length with hib | hib
   ·-- of the first part
    obtain⟨o',ho',hok⟩:=(hE β).1 i hib;rw[ho] at ho';injection ho' with ho';subst ho';have hlook:∀t∈looks ops o,τ' t=τS ops (FW β 0 base) τ i t:=fun t ht=>IC (hd β) hdown hτ ho (by rw[hnot];decide) hr ht;have hops:∀x∈o.op.operands.toList,ev τ' x=ev (τS ops (FW β 0 base) τ i) x:=by
     intro x hx;cases x with
     | tmp t=>exact hlook t (List.mem_append_left _ (List.mem_filterMap.2 ⟨.tmp t,hx,rfl⟩))
     | _=>rfl
    have hguard:∀j want d,o.guard=some (j,want)→(ops[j]?).bind (·.dst)=some d→τ' d=τS ops (FW β 0 base) τ i d:=by
     intro j want d hg hj;refine hlook d (List.mem_append_right _ ?_);simp[hg,hj]
    have hdown':Down ops (fun k=>(l.setIfInBounds i true).getD k false=true):=by
     intro k o' j ho' hk hj;rcases (hset k).1 hk with h | h
     ·exact(hset j).2 (.inl (hdown k o' j ho' h hj))
     subst h;rw[ho] at ho';injection ho' with ho';subst ho';exact(hset j).2 (.inl (hr j hj))
    have hno':∀k,base.length≤k→(l.setIfInBounds i true).getD k false=false:=by
     intro k hk;rw[hset2 k,hno k hk];simp;omega
    generalize hbe:base.getD i .skip=e at hok;have close:∀{a' w' F' b H'},H'=e.bx (Dj β i b) i++(Hb++H)→Cy F' ⟨n,put τ' o.dst (e.w (Dj β i b) i),H',D⟩ a' w'→Trans F (Hb++H) w F' H' w' →
      (l.setIfInBounds i true).size=ops.size∧((∃β τ' F Hb,Down ops (fun k=>(l.setIfInBounds i true).getD k false=true)∧(∀k,base.length≤k→(l.setIfInBounds i true).getD k false=false)∧Db ops (FW β 0 base) τ (fun k=>(l.setIfInBounds i true).getD k false=true) τ'∧Hb.Perm (GK β (fun k=>(l.setIfInBounds i true).getD k false) 0 base)∧Cy F ⟨n,τ',Hb++H,D⟩ a' w'∧Trans F₀ H w₀ F (Hb++H) w') ∨
       (∃m,base.length≤m∧m≤ops.size∧(∀k,k<ops.size→((l.setIfInBounds i true).getD k false=true↔k<m))∧wpOpsIn (W r) 0 P ops (post F₀ H w₀ Q) (List.range' m (ops.size - m)) a' w')):=by
     intro a' w' F' b H' hH h3 h4;subst hH;refine⟨hsz',.inl ⟨Dj β i b,put τ' o.dst (e.w (Dj β i b) i),F',e.bx (Dj β i b) i++Hb,hdown',hno',?_,?_,by rw[List.append_assoc];exact h3,by rw[List.append_assoc];exact ht.trans hs₀.heap.bd h4⟩⟩
     ·have hτ2:Db ops (FW (Dj β i b) 0 base) τ (fun k=>l.getD k false=true) τ':=by
       intro t;refine⟨fun k o' a1 a2 a3=>?_,(hτ t).2⟩;have a4:l.getD k false=true:=a3;have hki:k≠i:=fun e=>by subst e;rw[hnot] at a4;cases a4
       rw[(hτ t).1 k o' a1 a2 a3];rcases Nat.lt_or_ge k base.length with hk | hk
       ·rw[F7 _ hk,F7 _ hk];refine Ke (by simp[Dj,hki]) fun j f e1=>?_;obtain⟨o2,ho2,hok2⟩:=(hE β).1 k hk;rw[e1] at hok2;have hj:l.getD j false=true:=hdown k o2 j ho2 a4 hok2.1;have hji:j≠i:=fun e=>by subst e;rw[hnot] at hj;cases hj
        simp[Dj,hji]
       have:=hno k hk;rw[this] at a4;cases a4
      have hτ3:=hτ2.put (hd _) ho;rw[F7 _ hib,hbe] at hτ3;intro t;exact⟨fun k o' a1 a2 a3=>(hτ3 t).1 k o' a1 a2 ((hset k).1 a3),fun hn=>(hτ3 t).2 fun k o' a1 a2 a3=>hn k o' a1 a2 ((hset k).2 a3)⟩
     have h1:=Kk (β:=β) (l:=fun k=>l.getD k false) (i:=i) (b:=b) hnot base 0 (Nat.zero_le _) An (fun m j f e1 e2 e3=>by
      have hm:=(List.getElem?_eq_some_iff.1 e1).1;obtain⟨o2,ho2,hok2⟩:=(hE β).1 m hm;rw[List.getD_eq_getElem?_getD,e1] at hok2;have hj:l.getD j false=true:=hok2.1.down hdown ho2 (show l.getD m false=true by rw[←e2,Nat.zero_add]);subst e3;rw[hnot] at hj;cases hj)
     rw[Nat.sub_zero,hbe] at h1;refine(hp.append_left _).trans (h1.trans (List.Perm.of_eq ?_));exact HL base 0 (fun j _=>⟨(hset2 j).symm,fun _=>O⟩) fun _ _ _ _ _=>O
    have wants:CY ops ⟨0,τS ops (FW β 0 base) τ i,[],[]⟩ o→CY ops ⟨n,τ',Hb++H,D⟩ o:=by
     intro h;unfold CY at *;cases hg:o.guard with
     | none=>simp[hg]
     | some jw =>
      obtain⟨j,want⟩:=jw;simp only[hg] at h ⊢;obtain⟨d,h1,h2⟩:=h;exact⟨d,h1,by rw[←h2];exact hguard j want d hg h1⟩
    have yields:CY ops ⟨n,τ',Hb++H,D⟩ o→Cc P o (ev (τS ops (FW β 0 base) τ i)) (Hb++H) (fun r H'=>match r with | .val v=>∃b,v=e.w (Dj β i b) i∧H'=e.bx (Dj β i b) i++(Hb++H) | .panic _=>False)→wpOpIn (W r) 0 P ops (post F₀ H w₀ Q) i (fun a' w'=>(l.setIfInBounds i true).size=ops.size∧((∃β τ' F Hb,Down ops (fun k=>(l.setIfInBounds i true).getD k false=true)∧(∀k,base.length≤k→(l.setIfInBounds i true).getD k false=false)∧Db ops (FW β 0 base) τ (fun k=>(l.setIfInBounds i true).getD k false=true) τ'∧Hb.Perm (GK β (fun k=>(l.setIfInBounds i true).getD k false) 0 base)∧Cy F ⟨n,τ',Hb++H,D⟩ a' w'∧Trans F₀ H w₀ F (Hb++H) w') ∨
       (∃m,base.length≤m∧m≤ops.size∧(∀k,k<ops.size→((l.setIfInBounds i true).getD k false=true↔k<m))∧wpOpsIn (W r) 0 P ops (post F₀ H w₀ Q) (List.range' m (ops.size - m)) a' w'))) a w:=by
     intro hwant hop;unfold wpOpIn;simp only[ho,Fj hs hwant,if_true];have hw:=hop r F _ a w hs rfl (fun x hx=>hops x hx) (fun t ht=>hdst i o t ho ht);unfold Oper.wpIn at *;refine⟨hw.1,?_⟩;replace hw:=hw.2;generalize (o.semAt (W r).round a.eval).run P w=rr at *;cases rr with
     | ok nx w' =>
      cases nx<;>simp only[Oper.uponIn] at hw ⊢
      case value u=>obtain⟨v',H'',F',⟨b,h1,h2⟩,h3,h4⟩:=hw;subst h1;exact close h2 h3 h4
      case skip=>obtain⟨v',H'',F',⟨b,h1,h2⟩,h3,h4⟩:=hw;subst h1;exact close h2 h3 h4
      case defer d=>obtain⟨v',H'',F',⟨b,h1,h2⟩,h3,h4⟩:=hw;subst h1;exact close h2 h3 h4
      case enter f args =>
       refine⟨hw.1,hw.2.mono fun e w'' he=>?_⟩;cases e with
       | returned u=>obtain⟨v',H'',F',⟨b,h1,h2⟩,h3,h4⟩:=he;subst h1;exact close h2 h3 h4
       | panicked c=>obtain⟨_,_,_,_,h,_⟩:=he;exact h.elim
       | outgrown=>obtain⟨_,_,_,_,_,_,h,_⟩:=he;exact h.elim
      case row row args=>exact⟨hw.1,hw.2.mono fun u w'' h=>by obtain⟨v',H'',F',⟨b,h1,h2⟩,h3,h4⟩:=h;subst h1;exact close h2 h3 h4⟩
      case round l' f tmps assign body =>
       refine⟨hw.1,hw.2.mono fun e w'' he=>?_⟩;cases e with
       | returned u=>obtain⟨v',H'',F',⟨b,h1,h2⟩,h3,h4⟩:=he;subst h1;exact close h2 h3 h4
       | panicked c=>obtain⟨_,_,_,_,h,_⟩:=he;exact h.elim
       | outgrown=>obtain⟨_,_,_,_,_,_,h,_⟩:=he;exact h.elim
     | halt x w' =>
      cases x<;>simp only[Oper.uponIn] at hw ⊢
      case panic u=>obtain⟨_,_,_,_,h,_⟩:=hw;exact h.elim
    cases e with
    | val v=>exact yields (wants hok.1) ((hok.2 Hb).mono (by
      intro r H' hR;cases r with
      | val v'=>obtain⟨rfl,rfl⟩:=hR;exact⟨(0,0),rfl,rfl⟩
      | panic v'=>exact hR.elim))
    | dep j f=>exact yields (wants hok.2.1) ((hok.2.2 Hb).mono (by
      intro r H' hR;cases r with
      | val v' =>
       obtain⟨rfl,rfl⟩:=hR;have hji:j≠i:=fun e=>by have:=c0 i o j ho hok.1;omega
       exact⟨(0,0),by simp[Yc.w,Dj,hji],rfl⟩
      | panic v'=>exact hR.elim))
    | new cs =>
     refine yields (by unfold CY;rw[hok.1];trivial) ((hok.2 _).mono ?_);intro r H' hR;cases r with
     | val v'=>obtain⟨b,rfl,rfl⟩:=hR;exact⟨(b,0),by simp[Yc.w,Yc.v,Dj],by simp[Yc.bx,Yc.box,Dj]⟩
     | panic v'=>exact hR.elim
    | newd j f =>
     refine yields (by unfold CY;rw[hok.2.1];trivial) ((hok.2.2 _).mono ?_);intro r H' hR;cases r with
     | val v' =>
       obtain⟨b,rfl,rfl⟩:=hR;have hji:j≠i:=fun e=>by have:=hok.1.lt c0 ho;omega
       exact⟨(b,0),by simp[Yc.w,Yc.v,Dj],by simp[Yc.bx,Dj,hji]⟩
     | panic v'=>exact hR.elim
    | newv sz rows =>
     refine yields (by unfold CY;rw[hok.1];trivial) ((hok.2 _).mono ?_);intro r H' hR;cases r with
     | val v'=>obtain⟨b,c,rfl,rfl⟩:=hR;exact⟨(b,c),by simp[Yc.w,Yc.v,Dj],by simp[Yc.bx,Yc.box,Dj]⟩
     | panic v'=>exact hR.elim
    | skip =>
     obtain⟨j,want,d,hg,hj,hb⟩:=hok;have hw:Region.wanted o (yielded ops a.tmps)=false:=IK (S:=⟨n,τ',Hb++H,D⟩) hs hg hj (by show Xh (τ' d) want;rw[hguard j want d hg hj];exact hb);unfold wpOpIn;simp only[ho,hw,Bool.false_eq_true,if_false];refine⟨fun _ _=>Ap,close (b:=(0,0)) O ?_ .refl⟩;exact hs.put (fun t ht=>hdst i o t ho ht) ⟨Nat.le_refl _,fun _ _ _=>O,fun _ h _=>h⟩ hs.heap (by simp only[Yc.w,Yc.v,B2,Bl,undef];exact⟨[],rfl,rfl⟩)
   -- the first of the rest
   have hpre:∀j,j<i→l.getD j false=true:=by
    intro j hj;have hpi:=GH late hib hlt hj;have:∀{a b},Pred ops a b→b=i→l.getD a false=true:=by
     intro a b hab
     induction hab with
     | base ho' hj=>intro e;subst e;rw[ho] at ho';injection ho' with ho';subst ho';exact hr _ hj
     | trans p1 _ _ ih2=>intro e;exact hdown.pred p1 (ih2 e)
    exact this hpi O
   have hie:i=base.length:=by
    rcases Nat.lt_or_ge base.length i with h | h
    ·have h1:=hpre base.length h;rw[hno base.length (Nat.le_refl _)] at h1;cases h1
    omega
   refine goLate base.length hie (Nat.le_refl _) he (fun k hk=>⟨fun h=>?_,fun h=>hpre k An⟩) (conv (fun j hj=>hpre j An) hno hτ hp hs ht);rcases Nat.lt_or_ge k base.length with h' | h'
   ·exact h'
   rw[hno k h'] at h;cases h
  have hmi:m≤i:=by
   rcases Nat.lt_or_ge i m with h | h
   ·have:=(hm3 i hlt).2 h;rw[hnot] at this;cases this
   exact h
  have him:i=m:=by
   rcases Nat.lt_or_ge m i with h | h
   ·have hpi:=GH late (by omega:base.length≤i) hlt h;have hdown:∀{a b},Pred ops a b→b=i→l.getD a false=true:=by
     intro a b hab
     induction hab with
     | base ho' hj=>intro e;subst e;rw[ho] at ho';injection ho' with ho';subst ho';exact hr _ hj
     | @trans a k b p1 p2 _ ih2 =>
      intro e;have hk:=ih2 e;have hks:k<ops.size:=by
       rcases Nat.lt_or_ge k ops.size with h | h
       ·exact h
       have:l.getD k false=false:=by
        have:¬k<l.size:=by omega
        simp[this]
       rw[this] at hk;cases hk
      have hkm:=(hm3 k hks).1 hk;have hak:a<k:=Pred.lt (hd fun _=>(0,0)) p1;exact(hm3 a An).2 An
    have:=(hm3 m An).1 (hdown hpi rfl);omega
   omega
  exact goLate m him hm1 hm2 hm3 hw
 ·rintro l a w ⟨hsz,hI⟩ hr;have hall:∀i,i<ops.size→l.getD i false=true:=by
   intro i
   induction i using Nat.strongRecOn with
   | _ i ih =>
    intro hi;cases hq:l.getD i false with
    | true=>rfl
    | false =>
     have ho:ops[i]?=some ops[i]:=Array.getElem?_eq_getElem hi;have:i∈Region.ready .any ops l:=by
      refine mem_ready.2 ⟨?_,ops[i],ho,?_⟩
      ·have:i<l.size:=by omega
       simp[this] at hq ⊢;exact hq
      intro e he hb;have hj:e.on∈CZ ops[i]:=by
       simp only[CZ,List.mem_map,List.mem_filter];exact⟨e,⟨by simpa using he,hb⟩,rfl⟩
      have hlt:=c0 i _ _ ho hj;exact ih e.on hlt An
     rw[hr] at this;cases this
  rcases hI with ⟨β,τ',F,Hb,hdown,hno,hτ,hp,hs,ht⟩ | ⟨m,hm1,hm2,hm3,hw⟩
  ·have hbs:base.length=ops.size:=by
    rcases Nat.lt_or_ge base.length ops.size with h | h
    ·have:=hall base.length h;rw[hno base.length (Nat.le_refl _)] at this;cases this
    omega
   have:=conv (fun j hj=>hall j An) hno hτ hp hs ht;rw[hbs,Nat.sub_self] at this;exact this
  have hms:m=ops.size:=by
   rcases Nat.lt_or_ge m ops.size with h | h
   ·have:=(hm3 m h).1 (hall m h);omega
   omega
  rw[hms,Nat.sub_self] at hw;exact hw
 ·refine⟨by simp,.inl ⟨fun _=>(0,0),τ,F₀,[],?_,?_,?_,?_,hs₁,t₀⟩⟩
  ·intro i o j ho hi;by_cases h:i<ops.size<;>simp[h] at hi
  ·intro k _;by_cases h:k<ops.size<;>simp[h]
  ·intro t;refine⟨fun k o ho hk hl=>?_,fun _=>O⟩;by_cases h:k<ops.size<;>simp[h] at hl
  rw[Jl base 0 fun j=>by by_cases h:j<ops.size<;>simp[h]]
 have:=List.length_filter_le (fun b:Bool=> !b) (Array.replicate ops.size false).toList;simp at this ⊢
section
variable {P:Program}{ops:Array Oper}{H₀:List A8}{β:Nat→Nat×Nat}{k:Nat}{τ:Nat→AV}{r:List Yc}{K:(Nat→AV)→List A8→Prop}{dst:Option Tmp}{op:Op}{ty:TypeId}{pos:String}{aft:Array Edge}{v:AV}
theorem DQ (ho:ops[k]?=some ⟨dst,op,ty,pos,aft,none⟩) (h:∀Bs,DT P ⟨dst,op,ty,pos,aft,none⟩ (ev τ) (Bs++H₀) v (Bs++H₀)) (next:∀b,YW P ops H₀ (Dj β k b) (k+1) (put τ dst v) r K):YW P ops H₀ β k τ (.val v::r) K :=
 ⟨_,ho,⟨trivial,h⟩,fun b=>next b⟩
theorem UR {sz:Nat}{rows:List (List PV)}(ho:ops[k]?=some ⟨dst,op,ty,pos,aft,none⟩) (h:∀Bs,Cc P ⟨dst,op,ty,pos,aft,none⟩ (ev τ) (Bs++H₀) (Gp sz rows (Bs++H₀))) (next:∀b:Nat×Nat,YW P ops H₀ (Dj β k b) (k+1) (put τ dst (.vs (some b.1) rows.length b.2)) r (fun τ' Hs=>K τ' (.vec (some b.1) sz rows b.2::Hs))):YW P ops H₀ β k τ (.newv sz rows::r) K :=
 ⟨_,ho,⟨rfl,h⟩,fun b=>by have:=next b;simpa [Yc.w,Yc.v,Yc.bx,Yc.box,Dj] using this⟩
theorem Xa {j:Nat}{f:Nat×Nat→AV}(ho:ops[k]?=some ⟨dst,op,ty,pos,aft,none⟩) (hj:(CZ ⟨dst,op,ty,pos,aft,none⟩).contains j=true) (hk:Nat.blt j k=true) (hv:f (β j)=v) (h:∀Bs,DT P ⟨dst,op,ty,pos,aft,none⟩ (ev τ) (Bs++H₀) v (Bs++H₀)) (next:∀b,YW P ops H₀ (Dj β k b) (k+1) (put τ dst v) r K):YW P ops H₀ β k τ (.dep j f::r) K :=
 ⟨_,ho,⟨by simpa using hj,trivial,by rw[hv];exact h⟩,fun b=>by
  rw[Nat.blt_eq] at hk;have:=next b;simp only[Yc.w,Yc.bx,Yc.box,List.nil_append];rw[show Dj β k b j=β j by simp[Dj];omega,hv];exact this⟩
theorem Uj {j:Nat}{f:Nat×Nat→List AV}{cs:List AV}(ho:ops[k]?=some ⟨dst,op,ty,pos,aft,none⟩) (hj:XG ops ⟨dst,op,ty,pos,aft,none⟩ j=true) (hk:Nat.blt j k=true) (hv:f (β j)=cs) (h:∀Bs,Cc P ⟨dst,op,ty,pos,aft,none⟩ (ev τ) (Bs++H₀) (GC cs (Bs++H₀))) (next:∀b:Nat×Nat,YW P ops H₀ (Dj β k b) (k+1) (put τ dst (.ptr b.1 0)) r (fun τ' Hs=>K τ' (.box b.1 cs::Hs))):YW P ops H₀ β k τ (.newd j f::r) K :=
 ⟨_,ho,⟨TN hj,rfl,by rw[hv];exact h⟩,fun b=>by
  rw[Nat.blt_eq] at hk;have:=next b;simp only[Yc.w,Yc.v,Yc.bx];rw[show Dj β k b j=β j by simp[Dj];omega,hv,show Dj β k b k=b by simp[Dj]];exact this⟩
theorem Qy (h:K τ []):YW P ops H₀ β k τ [] K:=h
end
def XW (P:Program) (ops:Array Oper) (K:(Nat→AV)→List A8→Prop):Nat→(Nat→Bool)→(Nat→AV)→List A8→Prop
 | 0,_,_,_=>False
 | f+1,d,τ,H=>((∀i,i<ops.size→d i=true)→K τ H)∧∀i o,ops[i]?=some o→d i=false→(∀j∈CZ o,d j=true)→o.guard=none∧∃R,Cc P o (ev τ) H R∧(∀v H',R (.val v) H'→XW P ops K f (fun j=>d j||j==i) (put τ o.dst v) H')∧∀v H',¬R (.panic v) H'
def aq (ops:Array Oper) (e:Nat):Bool:=(List.range ops.size).all fun i=>Nat.blt i e||(List.range e).all fun j=>J2 ops j i
theorem Tg {ops:Array Oper}{e:Nat}(h:aq ops e=true) {i j:Nat}(hi:e≤i) (hs:i<ops.size) (hj:j<e):Pred ops j i:=by
 have:=List.all_eq_true.1 h i (by simpa using hs);simp only[Bool.or_eq_true] at this;rcases this with h1 | h1
 ·rw[Nat.blt_eq] at h1;omega
 exact D4 (List.all_eq_true.1 h1 j (by simpa using hj))
theorem Zl {P:Program}{r:Option Nat}{ops:Array Oper}{id n:Nat}{τ:Nat→AV}{H:List A8}{D:List DV}{Q:CV→Be→Prop}(base:List Yc) (fuel:Nat) (hm:P.follows .mixedOrders=true)
  (he:Nat.ble base.length ops.size=true) (chk:KD ops n []=true) (late:aq ops base.length=true) (h:YW P ops H (fun _=>(0,0)) 0 τ base (fun τ' Hs=>XW P ops (fun τ H=>Q .normal ⟨n,τ,H,D⟩) fuel (fun i=>Nat.blt i base.length) τ' (Hs++H))):Gj P r (.region id ops true) ⟨n,τ,H,D⟩ Q:=by
 intro F₀ a₀ w₀ hs₀;rw[Nat.ble_eq] at he;refine wpIn_region_any hm ?_;have same:Cs F₀ w₀ F₀ { w₀ with drawn:=w₀.drawn+1 }:=⟨Nat.le_refl _,fun _ _ _=>rfl,fun _ h _=>h⟩;have t₀:Trans F₀ H w₀ F₀ H { w₀ with drawn:=w₀.drawn+1 } :=
  ⟨Nat.le_refl _,fun _ _ _=>rfl,fun _ h _=>h,fun _ h=> .inl h,fun o ho b hb=> .inl ⟨o,ho,hb⟩,rfl,rfl,rfl⟩
 have hs₁:Cy F₀ ⟨n,τ,H,D⟩ a₀ { w₀ with drawn:=w₀.drawn+1 } :=
  ⟨hs₀.size,fun t=>B2.mono same _ _ (hs₀.tmp t),hs₀.heap.stable' same (fun _ h=>h) (fun _ _ _ _=>rfl) hs₀.heap.bd,EC.mono same _ _ hs₀.defs⟩
 obtain⟨hdst,c0,c1,c2,_⟩:=IE chk;have hd:∀β,LI P ops n (fun _=>False) τ H (FW β 0 base):=fun β =>
  ⟨hdst,fun _ _ _ h=>h.elim,c0,c1,c2,fun i k _ _ h _=>(by rw[QE] at h;cases h),fun i e ob v _ _ _ h _ _=>absurd h (Nt β base 0 i ob v)⟩
 have hE:∀β,(∀j,j<base.length→∃o,ops[j]?=some o∧M4 P ops H β o (τS ops (FW β 0 base) τ j) (base.getD j .skip))∧XW P ops (fun τ H=>Q .normal ⟨n,τ,H,D⟩) fuel (fun i=>Nat.blt i base.length) (τS ops (FW β 0 base) τ base.length) (QF β 0 base++H):=fun β=>by
  obtain⟨h1,h2⟩:=YW.facts (base:=base) c0 β base 0 _ τ _ (fun i hi=>by omega) Ao Ao rfl h;exact⟨fun j hj=>h1 j (Nat.zero_le _) hj,h2⟩
 obtain⟨Late,hLate⟩:∃L:Array Bool→Act→World→Prop,L=fun l a w=>∃f τ' H' F,(∀j,j<base.length→l.getD j false=true)∧XW P ops (fun τ H=>Q .normal ⟨n,τ,H,D⟩) f (fun i=>l.getD i false) τ' H'∧Cy F ⟨n,τ',H',D⟩ a w∧Trans F₀ H w₀ F H' w:=⟨_,rfl⟩
 -- where all of the first part has been carried out,the rest goes in the order of the text
 have conv:∀{l:Array Bool} {a w β τ' F Hb},(∀j,j<base.length→l.getD j false=true)→(∀k,base.length≤k→l.getD k false=false)→Db ops (FW β 0 base) τ (fun i=>l.getD i false=true) τ'→Hb.Perm (GK β (fun k=>l.getD k false) 0 base)→Cy F ⟨n,τ',Hb++H,D⟩ a w→Trans F₀ H w₀ F (Hb++H) w →
   Late l a w:=by
  intro l a w β τ' F Hb hall hno hτ hp hs ht;subst hLate;have hτe:τ'=τS ops (FW β 0 base) τ base.length:=by
   funext t;have h2:=Ic (hd β) base.length he t;by_cases hw:∃(k:Nat) (o':Oper),ops[k]?=some o'∧o'.dst=some t∧k<base.length
   ·obtain⟨k,o',ho',hk,hlt⟩:=hw;rw[(hτ t).1 k o' ho' hk (hall k hlt),h2.1 k o' ho' hk hlt]
   have hw':∀(k:Nat) o',ops[k]?=some o'→o'.dst=some t→¬k<base.length:=fun k o' h1 h2 h3=>hw ⟨k,o',h1,h2,h3⟩;rw[(hτ t).2 fun k o' h1 h2 h3=>(by have h4:l.getD k false=true:=h3;have:=hno k (by have:=hw' k o' h1 h2;omega);rw[this] at h4;cases h4),h2.2 fun k o' h1 h2 h3=>hw' k o' h1 h2 h3]
  rw[LD base 0 fun j _ hj=>hall j An] at hp;have hp2:=hp.append_right H;refine⟨fuel,τ',QF β 0 base++H,F,hall,?_,⟨hs.size,hs.tmp,hs.heap.perm hp2,hs.defs⟩,{ ht with keys:=fun o ho=>ht.keys o (hp2.mem_iff.2 ho) }⟩;rw[hτe];have e:(fun i=>l.getD i false)=(fun i=>Nat.blt i base.length):=by
   funext k;rcases Nat.lt_or_ge k base.length with h | h
   ·rw[hall k h];simp[Nat.blt_eq,h]
   rw[hno k h];exact(Bool.eq_false_iff.2 (by rw[Ne,Nat.blt_eq];omega)).symm
  rw[e];exact(hE β).2
 refine IG (I:=fun l a w=>l.size=ops.size∧((∃β τ' F Hb,Down ops (fun i=>l.getD i false=true)∧(∀k,base.length≤k→l.getD k false=false)∧Db ops (FW β 0 base) τ (fun i=>l.getD i false=true) τ'∧Hb.Perm (GK β (fun k=>l.getD k false) 0 base)∧Cy F ⟨n,τ',Hb++H,D⟩ a w∧Trans F₀ H w₀ F (Hb++H) w) ∨
  Late l a w)) (fun l a w h=>h.1) ?_ ?_ _ _ _ _ ?_ ?_
 ·rintro l a w ⟨hsz,hI⟩ i hi;obtain⟨hun,o,ho,hall⟩:=mem_ready.1 hi;have hlt:i<ops.size:=by
   rcases Nat.lt_or_ge i ops.size with h | h
   ·exact h
   simp[Array.getElem?_eq_none h] at ho
  have hil:i<l.size:=by omega
  have hnot:l.getD i false=false:=by
   have:l[i]=false:=by simpa [hil] using hun
   simp[hil,this]
  have hr:∀j∈CZ o,l.getD j false=true:=by
   intro j hj;simp only[CZ,List.mem_map,List.mem_filter] at hj;obtain⟨e,⟨he,hb⟩,rfl⟩:=hj;exact hall e (by simpa using he) hb
  have hset:∀k,(l.setIfInBounds i true).getD k false=true↔(l.getD k false=true∨k=i):=by
   intro k;by_cases hk:k=i
   ·subst hk;simp[hil]
   simp[Array.getElem?_setIfInBounds_ne (Ne.symm hk),hk]
  have hset2:∀k,(l.setIfInBounds i true).getD k false=(l.getD k false||k==i):=by
   intro k;by_cases hk:k=i
   ·subst hk;simp[hil]
   simp[Array.getElem?_setIfInBounds_ne (Ne.symm hk),hk]
  have hsz':(l.setIfInBounds i true).size=ops.size:=by simp[hsz]
  have goLate:Late l a w→wpOpIn (W r) 0 P ops (post F₀ H w₀ Q) i (fun a w=>(l.setIfInBounds i true).size=ops.size∧((∃β τ' F Hb,Down ops (fun k=>(l.setIfInBounds i true).getD k false=true)∧(∀k,base.length≤k→(l.setIfInBounds i true).getD k false=false)∧Db ops (FW β 0 base) τ (fun k=>(l.setIfInBounds i true).getD k false=true) τ'∧Hb.Perm (GK β (fun k=>(l.setIfInBounds i true).getD k false) 0 base)∧Cy F ⟨n,τ',Hb++H,D⟩ a w∧Trans F₀ H w₀ F (Hb++H) w)∨Late (l.setIfInBounds i true) a w)) a w:=by
   intro hL;rw[hLate] at hL;obtain⟨f,τ',H',F,hallB,hX,hs,ht⟩:=hL;cases f with
   | zero=>exact hX.elim
   | succ f =>
    obtain⟨hg,R,hop,hv,hpn⟩:=hX.2 i o ho hnot hr;have close2:∀{a' w' F' v H''},R (.val v) H''→Cy F' ⟨n,put τ' o.dst v,H'',D⟩ a' w'→Trans F H' w F' H'' w'→(l.setIfInBounds i true).size=ops.size∧((∃β τ' F Hb,Down ops (fun k=>(l.setIfInBounds i true).getD k false=true)∧(∀k,base.length≤k→(l.setIfInBounds i true).getD k false=false)∧Db ops (FW β 0 base) τ (fun k=>(l.setIfInBounds i true).getD k false=true) τ'∧Hb.Perm (GK β (fun k=>(l.setIfInBounds i true).getD k false) 0 base)∧Cy F ⟨n,τ',Hb++H,D⟩ a' w'∧Trans F₀ H w₀ F (Hb++H) w')∨Late (l.setIfInBounds i true) a' w'):=by
     intro a' w' F' v H'' h1 h3 h4;refine⟨hsz',.inr ?_⟩;rw[hLate];refine⟨f,_,_,F',fun j hj=>(hset j).2 (.inl (hallB j hj)),?_,h3,ht.trans hs₀.heap.bd h4⟩;have e:(fun j=>(l.setIfInBounds i true).getD j false)=(fun j=>l.getD j false||j==i):=funext hset2;rw[e];exact hv _ _ h1
    unfold wpOpIn;simp only[ho,Fj hs (by unfold CY;rw[hg];trivial),if_true];have hw:=hop r F _ a w hs rfl (fun x hx=>rfl) (fun t ht=>hdst i o t ho ht);unfold Oper.wpIn at *;refine⟨hw.1,?_⟩;replace hw:=hw.2;generalize (o.semAt (W r).round a.eval).run P w=rr at *;cases rr with
    | ok nx w' =>
     cases nx<;>simp only[Oper.uponIn] at hw ⊢
     case value u=>obtain⟨v',H'',F',h1,h3,h4⟩:=hw;exact close2 h1 h3 h4
     case skip=>obtain⟨v',H'',F',h1,h3,h4⟩:=hw;exact close2 h1 h3 h4
     case defer d=>obtain⟨v',H'',F',h1,h3,h4⟩:=hw;exact close2 h1 h3 h4
     case enter f args =>
      refine⟨hw.1,hw.2.mono fun e w'' he=>?_⟩;cases e with
      | returned u=>obtain⟨v',H'',F',h1,h3,h4⟩:=he;exact close2 h1 h3 h4
      | panicked c=>obtain⟨v,H'',_,_,h,_⟩:=he;exact absurd h (hpn v H'')
      | outgrown=>obtain⟨_,_,v,H'',_,_,h,_⟩:=he;exact absurd h (hpn v H'')
     case row row args=>exact⟨hw.1,hw.2.mono fun u w'' h=>by obtain⟨v',H'',F',h1,h3,h4⟩:=h;exact close2 h1 h3 h4⟩
     case round l' f tmps assign body =>
      refine⟨hw.1,hw.2.mono fun e w'' he=>?_⟩;cases e with
      | returned u=>obtain⟨v',H'',F',h1,h3,h4⟩:=he;exact close2 h1 h3 h4
      | panicked c=>obtain⟨v,H'',_,_,h,_⟩:=he;exact absurd h (hpn v H'')
      | outgrown=>obtain⟨_,_,v,H'',_,_,h,_⟩:=he;exact absurd h (hpn v H'')
    | halt x w' =>
     cases x<;>simp only[Oper.uponIn] at hw ⊢
     case panic u=>obtain⟨v,H'',_,_,h,_⟩:=hw;exact absurd h (hpn v H'')
  rcases hI with ⟨β,τ',F,Hb,hdown,hno,hτ,hp,hs,ht⟩ | hL
  ·rcases Nat.lt_or_ge i base.length with hib | hib
   ·-- of the first part
    obtain⟨o',ho',hok⟩:=(hE β).1 i hib;rw[ho] at ho';injection ho' with ho';subst ho';have hlook:∀t∈looks ops o,τ' t=τS ops (FW β 0 base) τ i t:=fun t ht=>IC (hd β) hdown hτ ho (by rw[hnot];decide) hr ht;have hops:∀x∈o.op.operands.toList,ev τ' x=ev (τS ops (FW β 0 base) τ i) x:=by
     intro x hx;cases x with
     | tmp t=>exact hlook t (List.mem_append_left _ (List.mem_filterMap.2 ⟨.tmp t,hx,rfl⟩))
     | _=>rfl
    have hguard:∀j want d,o.guard=some (j,want)→(ops[j]?).bind (·.dst)=some d→τ' d=τS ops (FW β 0 base) τ i d:=by
     intro j want d hg hj;refine hlook d (List.mem_append_right _ ?_);simp[hg,hj]
    have hdown':Down ops (fun k=>(l.setIfInBounds i true).getD k false=true):=by
     intro k o' j ho' hk hj;rcases (hset k).1 hk with h | h
     ·exact(hset j).2 (.inl (hdown k o' j ho' h hj))
     subst h;rw[ho] at ho';injection ho' with ho';subst ho';exact(hset j).2 (.inl (hr j hj))
    have hno':∀k,base.length≤k→(l.setIfInBounds i true).getD k false=false:=by
     intro k hk;rw[hset2 k,hno k hk];simp;omega
    generalize hbe:base.getD i .skip=e at hok;have close:∀{a' w' F' b H'},H'=e.bx (Dj β i b) i++(Hb++H)→Cy F' ⟨n,put τ' o.dst (e.w (Dj β i b) i),H',D⟩ a' w'→Trans F (Hb++H) w F' H' w' →
      (l.setIfInBounds i true).size=ops.size∧((∃β τ' F Hb,Down ops (fun k=>(l.setIfInBounds i true).getD k false=true)∧(∀k,base.length≤k→(l.setIfInBounds i true).getD k false=false)∧Db ops (FW β 0 base) τ (fun k=>(l.setIfInBounds i true).getD k false=true) τ'∧Hb.Perm (GK β (fun k=>(l.setIfInBounds i true).getD k false) 0 base)∧Cy F ⟨n,τ',Hb++H,D⟩ a' w'∧Trans F₀ H w₀ F (Hb++H) w') ∨
       Late (l.setIfInBounds i true) a' w'):=by
     intro a' w' F' b H' hH h3 h4;subst hH;refine⟨hsz',.inl ⟨Dj β i b,put τ' o.dst (e.w (Dj β i b) i),F',e.bx (Dj β i b) i++Hb,hdown',hno',?_,?_,by rw[List.append_assoc];exact h3,by rw[List.append_assoc];exact ht.trans hs₀.heap.bd h4⟩⟩
     ·have hτ2:Db ops (FW (Dj β i b) 0 base) τ (fun k=>l.getD k false=true) τ':=by
       intro t;refine⟨fun k o' a1 a2 a3=>?_,(hτ t).2⟩;have a4:l.getD k false=true:=a3;have hki:k≠i:=fun e=>by subst e;rw[hnot] at a4;cases a4
       rw[(hτ t).1 k o' a1 a2 a3];rcases Nat.lt_or_ge k base.length with hk | hk
       ·rw[F7 _ hk,F7 _ hk];refine Ke (by simp[Dj,hki]) fun j f e1=>?_;obtain⟨o2,ho2,hok2⟩:=(hE β).1 k hk;rw[e1] at hok2;have hj:l.getD j false=true:=hdown k o2 j ho2 a4 hok2.1;have hji:j≠i:=fun e=>by subst e;rw[hnot] at hj;cases hj
        simp[Dj,hji]
       have:=hno k hk;rw[this] at a4;cases a4
      have hτ3:=hτ2.put (hd _) ho;rw[F7 _ hib,hbe] at hτ3;intro t;exact⟨fun k o' a1 a2 a3=>(hτ3 t).1 k o' a1 a2 ((hset k).1 a3),fun hn=>(hτ3 t).2 fun k o' a1 a2 a3=>hn k o' a1 a2 ((hset k).2 a3)⟩
     have h1:=Kk (β:=β) (l:=fun k=>l.getD k false) (i:=i) (b:=b) hnot base 0 (Nat.zero_le _) An (fun m j f e1 e2 e3=>by
      have hm:=(List.getElem?_eq_some_iff.1 e1).1;obtain⟨o2,ho2,hok2⟩:=(hE β).1 m hm;rw[List.getD_eq_getElem?_getD,e1] at hok2;have hj:l.getD j false=true:=hok2.1.down hdown ho2 (show l.getD m false=true by rw[←e2,Nat.zero_add]);subst e3;rw[hnot] at hj;cases hj)
     rw[Nat.sub_zero,hbe] at h1;refine(hp.append_left _).trans (h1.trans (List.Perm.of_eq ?_));exact HL base 0 (fun j _=>⟨(hset2 j).symm,fun _=>O⟩) fun _ _ _ _ _=>O
    have wants:CY ops ⟨0,τS ops (FW β 0 base) τ i,[],[]⟩ o→CY ops ⟨n,τ',Hb++H,D⟩ o:=by
     intro h;unfold CY at *;cases hg:o.guard with
     | none=>simp[hg]
     | some jw =>
      obtain⟨j,want⟩:=jw;simp only[hg] at h ⊢;obtain⟨d,h1,h2⟩:=h;exact⟨d,h1,by rw[←h2];exact hguard j want d hg h1⟩
    have yields:CY ops ⟨n,τ',Hb++H,D⟩ o→Cc P o (ev (τS ops (FW β 0 base) τ i)) (Hb++H) (fun r H'=>match r with | .val v=>∃b,v=e.w (Dj β i b) i∧H'=e.bx (Dj β i b) i++(Hb++H) | .panic _=>False)→wpOpIn (W r) 0 P ops (post F₀ H w₀ Q) i (fun a' w'=>(l.setIfInBounds i true).size=ops.size∧((∃β τ' F Hb,Down ops (fun k=>(l.setIfInBounds i true).getD k false=true)∧(∀k,base.length≤k→(l.setIfInBounds i true).getD k false=false)∧Db ops (FW β 0 base) τ (fun k=>(l.setIfInBounds i true).getD k false=true) τ'∧Hb.Perm (GK β (fun k=>(l.setIfInBounds i true).getD k false) 0 base)∧Cy F ⟨n,τ',Hb++H,D⟩ a' w'∧Trans F₀ H w₀ F (Hb++H) w') ∨
       Late (l.setIfInBounds i true) a' w')) a w:=by
     intro hwant hop;unfold wpOpIn;simp only[ho,Fj hs hwant,if_true];have hw:=hop r F _ a w hs rfl (fun x hx=>hops x hx) (fun t ht=>hdst i o t ho ht);unfold Oper.wpIn at *;refine⟨hw.1,?_⟩;replace hw:=hw.2;generalize (o.semAt (W r).round a.eval).run P w=rr at *;cases rr with
     | ok nx w' =>
      cases nx<;>simp only[Oper.uponIn] at hw ⊢
      case value u=>obtain⟨v',H'',F',⟨b,h1,h2⟩,h3,h4⟩:=hw;subst h1;exact close h2 h3 h4
      case skip=>obtain⟨v',H'',F',⟨b,h1,h2⟩,h3,h4⟩:=hw;subst h1;exact close h2 h3 h4
      case defer d=>obtain⟨v',H'',F',⟨b,h1,h2⟩,h3,h4⟩:=hw;subst h1;exact close h2 h3 h4
      case enter f args =>
       refine⟨hw.1,hw.2.mono fun e w'' he=>?_⟩;cases e with
       | returned u=>obtain⟨v',H'',F',⟨b,h1,h2⟩,h3,h4⟩:=he;subst h1;exact close h2 h3 h4
       | panicked c=>obtain⟨_,_,_,_,h,_⟩:=he;exact h.elim
       | outgrown=>obtain⟨_,_,_,_,_,_,h,_⟩:=he;exact h.elim
      case row row args=>exact⟨hw.1,hw.2.mono fun u w'' h=>by obtain⟨v',H'',F',⟨b,h1,h2⟩,h3,h4⟩:=h;subst h1;exact close h2 h3 h4⟩
      case round l' f tmps assign body =>
       refine⟨hw.1,hw.2.mono fun e w'' he=>?_⟩;cases e with
       | returned u=>obtain⟨v',H'',F',⟨b,h1,h2⟩,h3,h4⟩:=he;subst h1;exact close h2 h3 h4
       | panicked c=>obtain⟨_,_,_,_,h,_⟩:=he;exact h.elim
       | outgrown=>obtain⟨_,_,_,_,_,_,h,_⟩:=he;exact h.elim
     | halt x w' =>
      cases x<;>simp only[Oper.uponIn] at hw ⊢
      case panic u=>obtain⟨_,_,_,_,h,_⟩:=hw;exact h.elim
    cases e with
    | val v=>exact yields (wants hok.1) ((hok.2 Hb).mono (by
      intro r H' hR;cases r with
      | val v'=>obtain⟨rfl,rfl⟩:=hR;exact⟨(0,0),rfl,rfl⟩
      | panic v'=>exact hR.elim))
    | dep j f=>exact yields (wants hok.2.1) ((hok.2.2 Hb).mono (by
      intro r H' hR;cases r with
      | val v' =>
       obtain⟨rfl,rfl⟩:=hR;have hji:j≠i:=fun e=>by have:=c0 i o j ho hok.1;omega
       exact⟨(0,0),by simp[Yc.w,Dj,hji],rfl⟩
      | panic v'=>exact hR.elim))
    | new cs =>
     refine yields (by unfold CY;rw[hok.1];trivial) ((hok.2 _).mono ?_);intro r H' hR;cases r with
     | val v'=>obtain⟨b,rfl,rfl⟩:=hR;exact⟨(b,0),by simp[Yc.w,Yc.v,Dj],by simp[Yc.bx,Yc.box,Dj]⟩
     | panic v'=>exact hR.elim
    | newd j f =>
     refine yields (by unfold CY;rw[hok.2.1];trivial) ((hok.2.2 _).mono ?_);intro r H' hR;cases r with
     | val v' =>
       obtain⟨b,rfl,rfl⟩:=hR;have hji:j≠i:=fun e=>by have:=hok.1.lt c0 ho;omega
       exact⟨(b,0),by simp[Yc.w,Yc.v,Dj],by simp[Yc.bx,Dj,hji]⟩
     | panic v'=>exact hR.elim
    | newv sz rows =>
     refine yields (by unfold CY;rw[hok.1];trivial) ((hok.2 _).mono ?_);intro r H' hR;cases r with
     | val v'=>obtain⟨b,c,rfl,rfl⟩:=hR;exact⟨(b,c),by simp[Yc.w,Yc.v,Dj],by simp[Yc.bx,Yc.box,Dj]⟩
     | panic v'=>exact hR.elim
    | skip =>
     obtain⟨j,want,d,hg,hj,hb⟩:=hok;have hw:Region.wanted o (yielded ops a.tmps)=false:=IK (S:=⟨n,τ',Hb++H,D⟩) hs hg hj (by show Xh (τ' d) want;rw[hguard j want d hg hj];exact hb);unfold wpOpIn;simp only[ho,hw,Bool.false_eq_true,if_false];refine⟨fun _ _=>Ap,close (b:=(0,0)) O ?_ .refl⟩;exact hs.put (fun t ht=>hdst i o t ho ht) ⟨Nat.le_refl _,fun _ _ _=>O,fun _ h _=>h⟩ hs.heap (by simp only[Yc.w,Yc.v,B2,Bl,undef];exact⟨[],rfl,rfl⟩)
   -- the first of the rest
   have hpre:∀j,j<base.length→l.getD j false=true:=by
    intro j hj;have hpi:=Tg late hib hlt hj;have:∀{a b},Pred ops a b→b=i→l.getD a false=true:=by
     intro a b hab
     induction hab with
     | base ho' hj=>intro e;subst e;rw[ho] at ho';injection ho' with ho';subst ho';exact hr _ hj
     | trans p1 _ _ ih2=>intro e;exact hdown.pred p1 (ih2 e)
    exact this hpi O
   exact goLate (conv hpre hno hτ hp hs ht)
  exact goLate hL
 ·rintro l a w ⟨hsz,hI⟩ hr;have hall:∀i,i<ops.size→l.getD i false=true:=by
   intro i
   induction i using Nat.strongRecOn with
   | _ i ih =>
    intro hi;cases hq:l.getD i false with
    | true=>rfl
    | false =>
     have ho:ops[i]?=some ops[i]:=Array.getElem?_eq_getElem hi;have:i∈Region.ready .any ops l:=by
      refine mem_ready.2 ⟨?_,ops[i],ho,?_⟩
      ·have:i<l.size:=by omega
       simp[this] at hq ⊢;exact hq
      intro e he hb;have hj:e.on∈CZ ops[i]:=by
       simp only[CZ,List.mem_map,List.mem_filter];exact⟨e,⟨by simpa using he,hb⟩,rfl⟩
      have hlt:=c0 i _ _ ho hj;exact ih e.on hlt An
     rw[hr] at this;cases this
  have fin:∀{l a w},Late l a w→(∀i,i<ops.size→l.getD i false=true)→post F₀ H w₀ Q .normal a w:=by
   intro l a w hL hall;rw[hLate] at hL;obtain⟨f,τ',H',F,_,hX,hs,ht⟩:=hL;cases f with
   | zero=>exact hX.elim
   | succ f=>exact⟨.normal,⟨n,τ',H',D⟩,F,hX.1 hall,rfl,hs,ht⟩
  rcases hI with ⟨β,τ',F,Hb,hdown,hno,hτ,hp,hs,ht⟩ | hL
  ·have hL:=conv (fun j hj=>hall j An) hno hτ hp hs ht;exact fin hL hall
  exact fin hL hall
 ·refine⟨by simp,.inl ⟨fun _=>(0,0),τ,F₀,[],?_,?_,?_,?_,hs₁,t₀⟩⟩
  ·intro i o j ho hi;by_cases h:i<ops.size<;>simp[h] at hi
  ·intro k _;by_cases h:k<ops.size<;>simp[h]
  ·intro t;refine⟨fun k o ho hk hl=>?_,fun _=>O⟩;by_cases h:k<ops.size<;>simp[h] at hl
  rw[Jl base 0 fun j=>by by_cases h:j<ops.size<;>simp[h]]
 have:=List.length_filter_le (fun b:Bool=> !b) (Array.replicate ops.size false).toList;simp at this ⊢
theorem Yz {P:Program}{ops:Array Oper}{K:(Nat→AV)→List A8→Prop}{f:Nat}{d:Nat→Bool}{τ:Nat→AV}{H:List A8}(hn:∃i,i<ops.size∧d i=false) (h:∀i,i<ops.size→d i=false→(∀o,ops[i]?=some o→∀j∈CZ o,d j=true)→∃o,ops[i]?=some o∧o.guard=none∧∃R,Cc P o (ev τ) H R∧(∀v H',R (.val v) H'→XW P ops K f (fun j=>d j||j==i) (put τ o.dst v) H')∧∀v H',¬R (.panic v) H'):XW P ops K (f+1) d τ H:=by
 refine⟨fun ha=>?_,fun i o ho hd hb=>?_⟩
 ·obtain⟨i,h1,h2⟩:=hn;rw[ha i h1] at h2;cases h2
 have hi:i<ops.size:=by
  rcases Nat.lt_or_ge i ops.size with h | h
  ·exact h
  simp[Array.getElem?_eq_none h] at ho
 obtain⟨o',ho',q⟩:=h i hi hd fun o2 h2 j hj=>by rw[ho] at h2;injection h2 with h2;subst h2;exact hb j hj
 rw[ho] at ho';injection ho' with ho';subst ho';exact q
theorem cm {P:Program}{ops:Array Oper}{K:(Nat→AV)→List A8→Prop}{f:Nat}{d:Nat→Bool}{τ:Nat→AV}{H:List A8}(hd:∀i,i<ops.size→d i=true) (h:K τ H):XW P ops K (f+1) d τ H :=
 ⟨fun _=>h,fun i o ho hi _=>by
  have:i<ops.size:=by
   rcases Nat.lt_or_ge i ops.size with h | h
   ·exact h
   simp[Array.getElem?_eq_none h] at ho
  rw[hd i this] at hi;cases hi⟩
def Yk (ops:Array Oper) (d:Nat→Bool):List Nat:=(List.range ops.size).filter fun i=> !d i&&(match ops[i]? with | some o=>(CZ o).all d | none=>false)
def XI (P:Program) (ops:Array Oper) (K:(Nat→AV)→List A8→Prop) (f:Nat) (d:Nat→Bool) (τ:Nat→AV) (H:List A8) (i:Nat):Prop:=∃o,ops[i]?=some o∧o.guard=none∧∃R,Cc P o (ev τ) H R∧(∀v H',R (.val v) H'→XW P ops K f (fun j=>d j||j==i) (put τ o.dst v) H')∧∀v H',¬R (.panic v) H'
def aV (p:Nat→Prop):List Nat→Prop
 | []=>True
 | i::r=>p i∧aV p r
theorem aV.mem {p:Nat→Prop}:∀{l:List Nat},aV p l→∀i∈l,p i
 | a::l,h,i,hi=>by
  rcases List.mem_cons.1 hi with rfl | hi
  ·exact h.1
  exact h.2.mem i hi
theorem Ch {P:Program}{ops:Array Oper}{K:(Nat→AV)→List A8→Prop}{f:Nat}{d:Nat→Bool}{τ:Nat→AV}{H:List A8}(l:List Nat) (hl:Yk ops d=l) (hne:l.isEmpty=false) (h:aV (XI P ops K f d τ H) l):XW P ops K (f+1) d τ H:=by
 refine Yz ?_ fun i hi hd hb=>h.mem i ?_
 ·cases l with
  | nil=>cases hne
  | cons a l =>
   have:a∈Yk ops d:=by rw[hl];simp
   simp only[Yk,List.mem_filter,List.mem_range,Bool.and_eq_true,Bool.not_eq_true'] at this;exact⟨a,this.1,this.2.1⟩
 rw[←hl];simp only[Yk,List.mem_filter,List.mem_range,Bool.and_eq_true,Bool.not_eq_true'];refine⟨hi,hd,?_⟩;have ho:ops[i]?=some ops[i]:=Array.getElem?_eq_getElem hi;rw[ho];simp only[List.all_eq_true];exact fun j hj=>hb _ ho j hj
section
variable {P:Program}{ops:Array Oper}{K:(Nat→AV)→List A8→Prop}{f:Nat}{d:Nat→Bool}{τ:Nat→AV}{H H':List A8}{i k sz:Nat}{dst:Option Tmp}{op:Op}{ty:TypeId}{pos:String}{aft:Array Edge}{v:AV}{rows:List (List PV)}{ob:A8}
theorem Cz (ho:ops[i]?=some ⟨dst,op,ty,pos,aft,none⟩) (h:DT P ⟨dst,op,ty,pos,aft,none⟩ (ev τ) H v H') (next:XW P ops K f (fun j=>d j||j==i) (put τ dst v) H'):XI P ops K f d τ H i :=
 ⟨_,ho,rfl,_,h,fun v' H'' ⟨e1,e2⟩=>by subst e1;subst e2;exact next,fun _ _ h=>h.elim⟩
theorem aI (ho:ops[i]?=some ⟨dst,op,ty,pos,aft,none⟩) (h:Cc P ⟨dst,op,ty,pos,aft,none⟩ (ev τ) H (GU k sz rows H)) (hr:rows≠[]) (hi:H[k]?=some ob) (next:∀b c,XW P ops K f (fun j=>d j||j==i) (put τ dst (.vs (some b) rows.length c)) (H.set k (.vec (some b) sz rows c))):XI P ops K f d τ H i :=
 ⟨_,ho,rfl,_,Ul h hr hi,fun v' H'' ⟨b,c,e1,e2⟩=>by subst e1;subst e2;exact next b c,fun _ _ h=>h.elim⟩
theorem Xf {r:Option Nat}{c:Code}{S:Be}{M:Nat→Nat→Be}{Q:CV→Be→Prop}(h1:(∀b c,Q .normal (M b c))→Gj P r c S Q) (h2:∀b c,Q .normal (M b c)):Gj P r c S Q:=h1 h2
theorem GW (e:Nat) (hd:(List.range ops.size).all d=true) (h:K τ H):XW P ops K (f+1) d τ H:=cm (fun i hi=>List.all_eq_true.1 hd i (by simpa using hi)) h
end
end Go.Abs
namespace Go.Proofs.YtifphifongokcaaGreat
open Go.Abs Go.Eu
theorem _root_.Go.Ac {α:Prop}(h:α:=by simp[BD]):α:=h
theorem Jw:∀(b:Nat) (o:Option Nat) (c:Nat) (tel:List Tm) (t:Tm),(tel.length≤100000)→Br Tryz.prog 67 [.ptr b 0,.agg ((Bc t).map .p)] [.box b [.vs o (Av tel).length c],.vec o 5 (Av tel) c] (fun r H'=>∃o2 c2,r= .val (.p (I (tel.length:Nat)))∧H'=[.box b [.vs o2 (Av (tel++[t])).length c2],.vec o2 5 (Av (tel++[t])) c2]):=by
 intro b o c tel t h1;refine A1 Tryz.func67 O lL (n:=22) O O (Ay (BE O (BT O) fun b3=>Iw O (Bo O (As (Xf (M:=fun b12 cp=>⟨22,mk [(0,.ptr b 0),(1,.agg ((Bc t).map .p))],[.box b3 ((Bc t).map .p),.box b [.vs (some b12) (Av (tel++[Bi])).length cp],.vec (some b12) 5 (Av ((tel++[Bi]).set tel.length t)) cp],[]⟩) ?_ ?_)))))
 ·intro hM;refine Zl [.val (.ptr b 0),.val (.ptr b 0),.val (.ptr b (0+0)),.val (.vs o (Av tel).length c),.val (.agg ((Bc t).map .p)),.val (.p (I (tel.length:Nat))),.val (.p (.lst (Av [Bi])))] 7 Eb Ai Ai Ai (DQ O (fun Bs=>Bm O) fun _=>DQ O (fun Bs=>EJ O) fun _=>DQ O (fun Bs=>A3 Km O O) fun _=>DQ O (fun Bs=>CJ (i:=Bs.length+1) DD O (CL O) O) fun _=>DQ O (fun Bs=>BR (i:=Bs.length+0) Bx O (CL O) Ad) fun _=>DQ O (fun Bs=>EP BY O (BD _)) fun _=>DQ O (fun Bs=>Bz BY Bq O O O O O) fun _=>Qy (Ch [7] Ai O ⟨?_,Ap⟩));refine aI O (B3 (i:=2) (rows':=Av [Bi]) BY BY Bq O O O O O O (Bn _) AU (Fe tel [Bi])) (fun h=>absurd (congrArg List.length h) Ac) O fun b12 cp=>Ch [8,10] Ai O ⟨?_,?_,Ap⟩
  ·refine Cz O (Cv BY O O An AU) (Ch [9,10] Ai O ⟨?_,?_,Ap⟩)
   ·refine Cz O (CO (i:=2) (j:=tel.length) Bx O O O Ac O (EE _) (BF _) (FU _) (Hq (tel++[Bi]) tel.length t)) (Ch [10] Ai O ⟨?_,Ap⟩);refine Cz O (EJ O) (Ch [11] Ai O ⟨?_,Ap⟩);refine Cz O (A3 Km O O) (Ch [12] Ai O ⟨?_,Ap⟩);refine Cz O (Cl (i:=1) DD O O O O O O) (GW 0 Ai (Ea ?_ (hM b12 cp)));exact EU ⟨O,O,Ap⟩ (List.Sublist.refl _)
   refine Cz O (EJ O) (Ch [9,11] Ai O ⟨?_,?_,Ap⟩)
   ·refine Cz O (CO (i:=2) (j:=tel.length) Bx O O O Ac O (EE _) (BF _) (FU _) (Hq (tel++[Bi]) tel.length t)) (Ch [11] Ai O ⟨?_,Ap⟩);refine Cz O (A3 Km O O) (Ch [12] Ai O ⟨?_,Ap⟩);refine Cz O (Cl (i:=1) DD O O O O O O) (GW 0 Ai (Ea ?_ (hM b12 cp)));exact EU ⟨O,O,Ap⟩ (List.Sublist.refl _)
   refine Cz O (A3 Km O O) (Ch [9,12] Ai O ⟨?_,?_,Ap⟩)
   ·refine Cz O (CO (i:=2) (j:=tel.length) Bx O O O Ac O (EE _) (BF _) (FU _) (Hq (tel++[Bi]) tel.length t)) (Ch [12] Ai O ⟨?_,Ap⟩);refine Cz O (Cl (i:=1) DD O O O O O O) (GW 0 Ai (Ea ?_ (hM b12 cp)));exact EU ⟨O,O,Ap⟩ (List.Sublist.refl _)
   refine Cz O (Cl (i:=1) DD O O O O O O) (Ch [9] Ai O ⟨?_,Ap⟩);refine Cz O (CO (i:=2) (j:=tel.length) Bx O O O Ac O (EE _) (BF _) (FU _) (Hq (tel++[Bi]) tel.length t)) (GW 0 Ai (Ea ?_ (hM b12 cp)));exact EU ⟨O,O,Ap⟩ (List.Sublist.refl _)
  refine Cz O (EJ O) (Ch [8,11] Ai O ⟨?_,?_,Ap⟩)
  ·refine Cz O (Cv BY O O An AU) (Ch [9,11] Ai O ⟨?_,?_,Ap⟩)
   ·refine Cz O (CO (i:=2) (j:=tel.length) Bx O O O Ac O (EE _) (BF _) (FU _) (Hq (tel++[Bi]) tel.length t)) (Ch [11] Ai O ⟨?_,Ap⟩);refine Cz O (A3 Km O O) (Ch [12] Ai O ⟨?_,Ap⟩);refine Cz O (Cl (i:=1) DD O O O O O O) (GW 0 Ai (Ea ?_ (hM b12 cp)));exact EU ⟨O,O,Ap⟩ (List.Sublist.refl _)
   refine Cz O (A3 Km O O) (Ch [9,12] Ai O ⟨?_,?_,Ap⟩)
   ·refine Cz O (CO (i:=2) (j:=tel.length) Bx O O O Ac O (EE _) (BF _) (FU _) (Hq (tel++[Bi]) tel.length t)) (Ch [12] Ai O ⟨?_,Ap⟩);refine Cz O (Cl (i:=1) DD O O O O O O) (GW 0 Ai (Ea ?_ (hM b12 cp)));exact EU ⟨O,O,Ap⟩ (List.Sublist.refl _)
   refine Cz O (Cl (i:=1) DD O O O O O O) (Ch [9] Ai O ⟨?_,Ap⟩);refine Cz O (CO (i:=2) (j:=tel.length) Bx O O O Ac O (EE _) (BF _) (FU _) (Hq (tel++[Bi]) tel.length t)) (GW 0 Ai (Ea ?_ (hM b12 cp)));exact EU ⟨O,O,Ap⟩ (List.Sublist.refl _)
  refine Cz O (A3 Km O O) (Ch [8,12] Ai O ⟨?_,?_,Ap⟩)
  ·refine Cz O (Cv BY O O An AU) (Ch [9,12] Ai O ⟨?_,?_,Ap⟩)
   ·refine Cz O (CO (i:=2) (j:=tel.length) Bx O O O Ac O (EE _) (BF _) (FU _) (Hq (tel++[Bi]) tel.length t)) (Ch [12] Ai O ⟨?_,Ap⟩);refine Cz O (Cl (i:=1) DD O O O O O O) (GW 0 Ai (Ea ?_ (hM b12 cp)));exact EU ⟨O,O,Ap⟩ (List.Sublist.refl _)
   refine Cz O (Cl (i:=1) DD O O O O O O) (Ch [9] Ai O ⟨?_,Ap⟩);refine Cz O (CO (i:=2) (j:=tel.length) Bx O O O Ac O (EE _) (BF _) (FU _) (Hq (tel++[Bi]) tel.length t)) (GW 0 Ai (Ea ?_ (hM b12 cp)));exact EU ⟨O,O,Ap⟩ (List.Sublist.refl _)
  refine Cz O (Cl (i:=1) DD O O O O O O) (Ch [8] Ai O ⟨?_,Ap⟩);refine Cz O (Cv BY O O An AU) (Ch [9] Ai O ⟨?_,Ap⟩);refine Cz O (CO (i:=2) (j:=tel.length) Bx O O O Ac O (EE _) (BF _) (FU _) (Hq (tel++[Bi]) tel.length t)) (GW 0 Ai (Ea ?_ (hM b12 cp)));exact EU ⟨O,O,Ap⟩ (List.Sublist.refl _)
 intro b12 cp;refine Ay (CA O (Ar O (EJ O) (Ar O (A3 Km O O) (Ar O (CJ (i:=1) DD O O O) (Ar O (EP BY O (BD _)) (Ar O (Mn O O (by rw[List.length_append];simp only[List.length_cons,List.length_nil];omega) (by rw[List.length_append];simp only[List.length_cons,List.length_nil];omega)) (Iw O (Bo O (A4 (⟨O,_,_,⟨_,_,O,O,O⟩,(Dn (is:=[1,2]) O),?_⟩))))))))));refine⟨(some b12),cp,congrArg DN.val (pI (by simp:(((tel++[Bi]).length:Nat):Int) - 1=(tel.length:Nat))),?_⟩;rw[show Av (tel++[t])=Av ((tel++[Bi]).set tel.length t) from congrArg Av Ao,show (Av ((tel++[Bi]).set tel.length t)).length=(Av (tel++[Bi])).length from by simp[BD]];rfl
theorem Jb:∀(b:Nat) (o:Option Nat) (c:Nat) (tel:List Tm) (p:Int),(tel.length≤100000)→(-1000000≤p∧p≤1000000)→Br Tryz.prog 75 [.ptr b 0,.p (I p)] [.box b [.vs o (Av tel).length c],.vec o 5 (Av tel) c] (FV (.agg ((Bc (Ei (tel.length:Nat) p)).map .p)) [.box b [.vs o (Av tel).length c],.vec o 5 (Av tel) c]):=by
 intro b o c tel p h1 h2;refine A1 Tryz.func75 O jH (n:=14) O O (Ay (BE O (A7 Bq O) fun b4=>Bo O (Ay (CA O (Ar O (EJ O) (Ar O (A3 Km O O) (Ar O (CJ (i:=1) DD O O O) (Ar O (EP BY O (BD _)) (Ar O (Mn O O An An) (CA O (Ar O (Mn O O An An) (Ar O (CC KO Bq O) (Ar O (Cl (i:=0) Bx O O O O O O) (Bo O (BU (CB (i:=0) O) (A4 (⟨O,_,_,⟨_,_,O,(BO (i:=0) Bx O O O),O⟩,(Dn (is:=[1,2]) O),?_⟩)))))))))))))))))
 all_goals exact⟨rfl,rfl⟩
theorem IW:∀(b:Nat) (o:Option Nat) (c:Nat) (tel:List Tm) (pl:List Int),(tel.length≤100000)→(∀p∈pl,-1000000≤p∧p≤1000000)→(pl.length≤1000000)→Br Tryz.prog 73 [.ptr b 0,.p (.lst (List.map CG pl))] [.box b [.vs o (Av tel).length c],.vec o 5 (Av tel) c] (FV (.p (.lst (Av (Bt (tel.length:Nat) pl)))) [.box b [.vs o (Av tel).length c],.vec o 5 (Av tel) c]):=by
 intro b o c tel pl h1 h2 h3;refine A1 Tryz.func73 O fg (n:=22) O O (Ay (Iw O (Bo O (Ay (Iw O (Bo O (As (Ay (CA O (Ar O (BH DX O (List.length_map _)) (CA O (Bo O (BA (BU (DZ (t:=5) (sz:=5) O) (Bh (α:=Nat×Option Nat×Nat) (fun(i,o1,cp)=>⟨22,mk [(0,.ptr b 0),(5,.vs o1 (Av (Bt (tel.length:Nat) (pl.take i))).length cp),(8,.p (.lst (List.map CG pl))),(9,.p (I (pl.length:Nat))),(10,.p (I (i:Int)))],[.vec o1 5 (Av (Bt (tel.length:Nat) (pl.take i))) cp,.box b [.vs o (Av tel).length c],.vec o 5 (Av tel) c],[]⟩) (fun(i,o1,cp)=>pl.length - i) (fun(i,o1,cp)=>i≤pl.length) ⟨0,none,0⟩ AO ?_ ?_)))))))))))))))
 ·exact BZ ⟨we O,we (DM [] (by simp[Bt])),we O,we O,we O,Ap⟩ (leH (is:=[0,1,2]) O (wl (C5 [] (by simp[Bt])) (wl (oe O) (wl (oe O) (DF)))))
 rintro⟨i,o1,cp⟩ hC
 try simp only at hC
 have hi:=hC;refine Ay (Ar O (Um O O O) (Bo O (As (A2 O (fun c1=>?_) (fun c1=>?_)))))
 ·(try simp only[sd,se] at c1);refine A5 (As (BA (Ay ?_)));obtain⟨x,hx⟩:=A9 (l:=pl) (i:=i) An;refine Ar O (BC DX O O An (Gb hx) (O)) (Ar O (GX Hd O) (Iw O (Bo O (Ax (CA O (CA O (CA O (Ar O (Cg [1,2] O (.inl ⟨O,O,O⟩) (Jb b o c tel x h1 (h2 x (List.mem_of_getElem? hx))) ⟨_,_,O,O,⟨_,_,O,O,O⟩⟩ Am O (.inl O)) (Ar O (Ba (rows:=Av [(Ei (tel.length:Nat) x)]) BY Bq O O O O (By (Bn _)) (ED _)) (Dp O O (B3 (i:=0) (rows':=Av [(Ei (tel.length:Nat) x)]) BY BY Bq O O O O O O (Bn _) (by simp[BD,Bt];omega) (Fe (Bt (tel.length:Nat) (pl.take i)) [(Ei (tel.length:Nat) x)])) fun o2 cp1=>Iw O (Bo O (Ax (Ar O (EK O O An An) (CA O (Bo O ?_)))))))))))))));refine⟨⟨i+1,o2,cp1⟩,AQ,by omega,BZ ⟨we rfl,we (DM (Bt (tel.length:Nat) (pl.take i)++[(Ei (tel.length:Nat) x)]) (by rw[List.take_add_one,hx,Option.toList_some,JC];rfl)),we rfl,we rfl,we rfl,trivial⟩ (leH (is:=[0,1,2]) rfl (wl (C5 (Bt (tel.length:Nat) (pl.take i)++[(Ei (tel.length:Nat) x)]) (by rw[List.take_add_one,hx,Option.toList_some,JC];rfl)) (wl (oe rfl) (wl (oe rfl) (DF)))))⟩
 (try simp only[sd,se] at c1);refine Bk (Ay (CA O (Iw O (Bo O (BU (CM (i:=0) [5,21,4] O (C6 ⟨O,O,O,Ap⟩)) (A4 (⟨O,_,_,⟨_,_,O,O,O⟩,(Dn (is:=[0,1]) O),?_⟩)))))))
 all_goals exact⟨by show (.p (.lst (Av (Bt (tel.length:Nat) (pl.take i)))):AV)=_;rw[show i=pl.length by omega,List.take_length],rfl⟩
theorem _root_.Go.AX {α:Prop}(h:α:=by simp[Jf];omega):α:=h
theorem _root_.Go.Af {α:Prop}(h:α:=by simp[Jf]):α:=h
theorem ZX:∀(b:Nat) (o:Option Nat) (c:Nat) (tel:List Tm) (t:Tm) (pl:List Int),(tel.length≤100000)→(∀p∈pl,-1000000≤p∧p≤1000000)→(pl.length≤1000000)→(Nd t)→(Vp t)→(size t<1099511627776)→Br Tryz.prog 112 [.ptr b 0,.agg ((Bc t).map .p),.p (.lst (List.map CG pl))] [.box b [.vs o (Av tel).length c],.vec o 5 (Av tel) c] (FV (.agg ((Bc (LO (tel.length:Nat) pl t)).map .p)) [.box b [.vs o (Av tel).length c],.vec o 5 (Av tel) c]):=by
 intro b o c tel t pl h1 h2 h3 h4 h5 h6;refine A1 Tryz.func112 O bP (n:=45) O O (Ay (BE O (BT O) fun b4=>BE O (A7 Bq O) fun b6=>Bo O (Ay (CA O (Ar O (BH DX O (List.length_map _)) (JG O O (EA DX XC O O Am O O O An An An (WW (f:=CG) (((pl.length:Nat):Int).toNat) 0)) fun b14 cp=>Aq Az 1 [] O (As (Ay (CA O (Ar O (BH DX O (List.length_map _)) (Aq Az 1 [] O (BA ?_))))))))))));refine Bh (α:=Nat×Option Nat×Nat) (fun(i,o1,cp1)=>⟨45,mk [(0,.ptr b 0),(2,.p (.lst (List.map CG pl))),(4,.ptr b4 0),(6,.ptr b6 0),(7,.vs o1 (List.map CG (List.replicate (pl.length - i) 0++(I4 (tel.length:Nat) pl).drop (pl.length - i))).length cp1),(15,.p (.lst (List.map CG pl))),(16,.p (I (pl.length:Nat))),(17,.p (I (i:Int)))],[.vec o1 1 (List.map CG (List.replicate (pl.length - i) 0++(I4 (tel.length:Nat) pl).drop (pl.length - i))) cp1,.box b6 [.p (I 0),.p (I 0),.p (.str ⟨#[]⟩),.p (.nils),.p (.nils)],.box b4 ((Bc t).map .p),.box b [.vs o (Av tel).length c],.vec o 5 (Av tel) c],[]⟩) (fun(i,o1,cp1)=>pl.length - i) (fun(i,o1,cp1)=>i≤pl.length) ⟨0,(some b14),cp⟩ AO ?_ ?_
 ·exact BZ ⟨we O,we O,we O,we O,we (FM (f:=CG) (List.replicate (((pl.length:Nat):Int).toNat) 0) Af),we O,we O,we O,Ap⟩ (leH (is:=[0,1,2,3,4]) O (wl (Eh (f:=CG) (List.replicate (((pl.length:Nat):Int).toNat) 0) Af) (wl (oe O) (wl (oe O) (wl (oe O) (wl (oe O) (DF)))))))
 rintro⟨i,o1,cp1⟩ hC
 try simp only at hC
 have hi:=hC;refine Au Az 1 [] O (As (A2 O (fun c1=>?_) (fun c1=>?_)))
 ·(try simp only[sd,se] at c1);refine A5 (As (BA (Ay (CA O ?_))));obtain⟨x,hx⟩:=A9 (l:=pl) (i:=i) An;refine Ar O (BC DX O O An (Gb hx) (O)) (Aq Az 3 [] O (Ax ?_));have hxb:=h2 x (List.mem_of_getElem? hx);refine A0 Az 2 [] O (Ar O (BH DX O (List.length_map _)) (A0 Az 7 [3] O (Ar O (EP BY O (BD _)) (A0 Az 3 [] O (Mh (i:=0) O AU fun b1 hb=>?_)))));subst hb;refine Ar O (Cv DX O O An AX) (Ar O (CO (i:=0) (j:=(((((pl.length:Nat):Int) - (1:Int):Int) - ((i:Int):Int):Int).toNat)) Hd O O O AX O O O O (V9 (f:=CG) (List.replicate (pl.length - i) 0++(I4 (tel.length:Nat) pl).drop (pl.length - i)) (((((pl.length:Nat):Int) - (1:Int):Int) - ((i:Int):Int):Int).toNat) ((((tel.length:Nat):Int) - (1:Int):Int) - (x:Int)))) (Bo O (Ax (Aq Az 2 [] O ?_))));refine⟨⟨i+1,(some b1),cp1⟩,AQ,by omega,BZ ⟨we rfl,we rfl,we rfl,we rfl,we (O0 (f:=CG) (List.replicate (pl.length - i) 0++(I4 (tel.length:Nat) pl).drop (pl.length - i)) Af),we rfl,we rfl,we rfl,trivial⟩ (leH (is:=[0,1,2,3,4]) rfl (wl (Eh (f:=CG) ((List.replicate (pl.length - i) 0++(I4 (tel.length:Nat) pl).drop (pl.length - i)).set (((((pl.length:Nat):Int) - (1:Int):Int) - ((i:Int):Int):Int).toNat) ((((tel.length:Nat):Int) - (1:Int):Int) - (x:Int))) (by rw[show ((pl.length:Nat) - (1:Int) - (i:Int):Int).toNat=pl.length - 1 - i by omega];exact SP hx)) (wl (oe rfl) (wl (oe rfl) (wl (oe rfl) (wl (oe rfl) (DF)))))))⟩
 (try simp only[sd,se] at c1);refine Bk (Ay ?_);generalize hK:List.replicate (pl.length - i) 0++(I4 (tel.length:Nat) pl).drop (pl.length - i)=K;obtain rfl:K=I4 (tel.length:Nat) pl:=by rw[←hK,show pl.length - i=0 by omega];simp
 refine B7 (CM (i:=0) [7] O (C6 ⟨O,Ap⟩)) (A0 Az 2 [1] O ?_);refine Ar rfl (BB rfl rfl (Po t (I4 (tel.length:Nat) pl) h4 h5 h6 (by rw[Jf];simp only[Cb];omega) (fun x hx=>by have:=Xc (n:=(tel.length:Nat)) (B:=1000000) h2 An An x hx;omega)) rfl) ?_;refine A0 Az 3 [] O (BE O (A7 Bq O) fun b10=>Aq Az 2 [0,1] O (Au Az 2 [0,1,1] O (A4 (⟨O,_,_,⟨_,_,O,(BO (i:=1) Bx O O Ad),O⟩,(Dn (is:=[3,4]) O),?_⟩))))
 all_goals exact⟨by show (.agg ((Bc ((Og (I4 (tel.length:Nat) pl) t).1)).map .p):AV)=_;rw[bT],rfl⟩
theorem aB:∀(b:Nat) (o:Option Nat) (c:Nat) (tel:List Tm) (op:Option Nat) (cp0:Nat) (t:Tm) (pl:List Int),(tel.length≤100000)→(∀p∈pl,-1000000≤p∧p≤1000000)→(pl.length≤1000000)→(Nd t)→(Vp t)→(size t<1099511627776)→Br Tryz.prog 112 [.ptr b 0,.agg ((Bc t).map .p),.vs op (List.map CG pl).length cp0] [.box b [.vs o (Av tel).length c],.vec o 5 (Av tel) c,.vec op 1 (List.map CG pl) cp0] (FV (.agg ((Bc (LO (tel.length:Nat) pl t)).map .p)) [.box b [.vs o (Av tel).length c],.vec o 5 (Av tel) c,.vec op 1 (List.map CG pl) cp0]):=by
 intro b o c tel op cp0 t pl h1 h2 h3 h4 h5 h6;refine A1 Tryz.func112 O bP (n:=45) O O (Ay (BE O (BT O) fun b4=>BE O (A7 Bq O) fun b6=>Bo O (Ay (CA O (Ar O (EP DX O (List.length_map _)) (JG O O (EA DX XC O O Am O O O An An An (WW (f:=CG) (((pl.length:Nat):Int).toNat) 0)) fun b14 cp=>Aq Az 1 [] O (As (Ay (CA O (Ar O (EP DX O (List.length_map _)) (Aq Az 1 [] O (BA ?_))))))))))));refine Bh (α:=Nat×Option Nat×Nat) (fun(i,o1,cp1)=>⟨45,mk [(0,.ptr b 0),(2,.vs op (List.map CG pl).length cp0),(4,.ptr b4 0),(6,.ptr b6 0),(7,.vs o1 (List.map CG (List.replicate (pl.length - i) 0++(I4 (tel.length:Nat) pl).drop (pl.length - i))).length cp1),(15,.vs op (List.map CG pl).length cp0),(16,.p (I (pl.length:Nat))),(17,.p (I (i:Int)))],[.vec o1 1 (List.map CG (List.replicate (pl.length - i) 0++(I4 (tel.length:Nat) pl).drop (pl.length - i))) cp1,.box b6 [.p (I 0),.p (I 0),.p (.str ⟨#[]⟩),.p (.nils),.p (.nils)],.box b4 ((Bc t).map .p),.box b [.vs o (Av tel).length c],.vec o 5 (Av tel) c,.vec op 1 (List.map CG pl) cp0],[]⟩) (fun(i,o1,cp1)=>pl.length - i) (fun(i,o1,cp1)=>i≤pl.length) ⟨0,(some b14),cp⟩ AO ?_ ?_
 ·exact BZ ⟨we O,we O,we O,we O,we (FM (f:=CG) (List.replicate (((pl.length:Nat):Int).toNat) 0) Af),we O,we O,we O,Ap⟩ (leH (is:=[0,1,2,3,4,5]) O (wl (Eh (f:=CG) (List.replicate (((pl.length:Nat):Int).toNat) 0) Af) (wl (oe O) (wl (oe O) (wl (oe O) (wl (oe O) (wl (oe O) (DF))))))))
 rintro⟨i,o1,cp1⟩ hC
 try simp only at hC
 have hi:=hC;refine Au Az 1 [] O (As (A2 O (fun c1=>?_) (fun c1=>?_)))
 ·(try simp only[sd,se] at c1);refine A5 (As (BA (Ay (CA O (Mh (i:=5) O AU fun b1 hb=>?_)))));subst hb;refine Ar O (Cv DX O O An AX) ?_;obtain⟨y,hy⟩:=A9 (l:=pl) (i:=i) (by first | omega | (simp_all;done) | (simp_all;omega));refine Ar O (Ob (i:=5) Hd O O (Gb hy)) (Aq Az 2 [] O (Ax ?_));have hxb:=h2 y (List.mem_of_getElem? hy);refine A0 Az 2 [] O (Ar O (EP DX O (List.length_map _)) (A0 Az 7 [3] O (Ar O (EP BY O (BD _)) (A0 Az 3 [] O (Mh (i:=0) O AU fun b2 hb1=>?_)))));subst hb1;refine Ar O (Cv DX O O An AX) (Ar O (CO (i:=0) (j:=(((((pl.length:Nat):Int) - (1:Int):Int) - ((i:Int):Int):Int).toNat)) Hd O O O AX O O O O (V9 (f:=CG) (List.replicate (pl.length - i) 0++(I4 (tel.length:Nat) pl).drop (pl.length - i)) (((((pl.length:Nat):Int) - (1:Int):Int) - ((i:Int):Int):Int).toNat) ((((tel.length:Nat):Int) - (1:Int):Int) - (y:Int)))) (Bo O (Ax (Aq Az 2 [] O ?_))));refine⟨⟨i+1,(some b2),cp1⟩,AQ,by omega,BZ ⟨we rfl,we rfl,we rfl,we rfl,we (O0 (f:=CG) (List.replicate (pl.length - i) 0++(I4 (tel.length:Nat) pl).drop (pl.length - i)) Af),we rfl,we rfl,we rfl,trivial⟩ (leH (is:=[0,1,2,3,4,5]) rfl (wl (Eh (f:=CG) ((List.replicate (pl.length - i) 0++(I4 (tel.length:Nat) pl).drop (pl.length - i)).set (((((pl.length:Nat):Int) - (1:Int):Int) - ((i:Int):Int):Int).toNat) ((((tel.length:Nat):Int) - (1:Int):Int) - (y:Int))) (by rw[show ((pl.length:Nat) - (1:Int) - (i:Int):Int).toNat=pl.length - 1 - i by omega];exact SP hy)) (wl (oe rfl) (wl (oe rfl) (wl (oe rfl) (wl (oe rfl) (wl (oe rfl) (DF))))))))⟩
 (try simp only[sd,se] at c1);refine Bk (Ay ?_);generalize hK:List.replicate (pl.length - i) 0++(I4 (tel.length:Nat) pl).drop (pl.length - i)=K;obtain rfl:K=I4 (tel.length:Nat) pl:=by rw[←hK,show pl.length - i=0 by omega];simp
 refine B7 (CM (i:=0) [7] O (C6 ⟨O,Ap⟩)) (A0 Az 2 [1] O ?_);refine Ar rfl (BB rfl rfl (Po t (I4 (tel.length:Nat) pl) h4 h5 h6 (by rw[Jf];simp only[Cb];omega) (fun x hx=>by have:=Xc (n:=(tel.length:Nat)) (B:=1000000) h2 An An x hx;omega)) rfl) ?_;refine A0 Az 3 [] O (BE O (A7 Bq O) fun b10=>Aq Az 2 [0,1] O (Au Az 2 [0,1,1] O (A4 (⟨O,_,_,⟨_,_,O,(BO (i:=1) Bx O O Ad),O⟩,(Dn (is:=[3,4,5]) O),?_⟩))))
 all_goals exact⟨by show (.agg ((Bc ((Og (I4 (tel.length:Nat) pl) t).1)).map .p):AV)=_;rw[bT],rfl⟩
theorem OB:∀(b:Nat) (o:Option Nat) (c:Nat) (tel:List Tm) (ts:List Tm) (pl:List Int),(tel.length≤100000)→(∀p∈pl,-1000000≤p∧p≤1000000)→(pl.length≤1000000)→(D7 ts)→(I8 ts)→(∀t∈ts,size t<1099511627776)→(ts.length≤1000000)→Br Tryz.prog 92 [.ptr b 0,.p (.lst (Av ts)),.p (.lst (List.map CG pl))] [.box b [.vs o (Av tel).length c],.vec o 5 (Av tel) c] (FV (.p (.lst (Av (CW (tel.length:Nat) pl ts)))) [.box b [.vs o (Av tel).length c],.vec o 5 (Av tel) c]):=by
 intro b o c tel ts pl h1 h2 h3 h4 h5 h6 h7;refine A1 Tryz.func92 O kR (n:=25) O O (Au Az 1 [] O (Au Az 1 [] O (As (Ay (CA O (Ar O (BH BY O (BD _)) (Aq Az 1 [] O (BA (BU (DZ (t:=7) (sz:=5) O) (Bh (α:=Nat×Option Nat×Nat) (fun(i,o1,cp)=>⟨25,mk [(0,.ptr b 0),(2,.p (.lst (List.map CG pl))),(7,.vs o1 (Av (CW (tel.length:Nat) pl (ts.take i))).length cp),(10,.p (.lst (Av ts))),(11,.p (I (ts.length:Nat))),(12,.p (I (i:Int)))],[.vec o1 5 (Av (CW (tel.length:Nat) pl (ts.take i))) cp,.box b [.vs o (Av tel).length c],.vec o 5 (Av tel) c],[]⟩) (fun(i,o1,cp)=>ts.length - i) (fun(i,o1,cp)=>i≤ts.length) ⟨0,none,0⟩ AO ?_ ?_))))))))))
 ·exact BZ ⟨we O,we O,we (DM [] (by simp[CW])),we O,we O,we O,Ap⟩ (leH (is:=[0,1,2]) O (wl (C5 [] (by simp[CW])) (wl (oe O) (wl (oe O) (DF)))))
 rintro⟨i,o1,cp⟩ hC
 try simp only at hC
 have hi:=hC;refine Au Az 1 [] O (As (A2 O (fun c1=>?_) (fun c1=>?_)))
 ·(try simp only[sd,se] at c1);refine A5 (As (BA (Ay ?_)));obtain⟨x,hx⟩:=A9 (l:=ts) (i:=i) An;refine Ar O (BC BY O O An (B0 hx) (BF _)) (Ar O (Bg Bx O (BF _)) (BE O (A7 Bq O) fun b9=>Aq Az 1 [0,1] O (Ax (A0 Az 4 [0] O (Ar O (Cg [2,3] O (.inl ⟨O,O,O⟩) (ZX b o c tel x pl h1 h2 h3 (Cq h4 hx) (LF h5 hx) (h6 x (List.mem_of_getElem? hx))) ⟨_,_,O,O,⟨_,_,O,O,O⟩⟩ Am O (.inl O)) (Ar O (Ba (rows:=Av [(LO (tel.length:Nat) pl x)]) BY Bq O O O O (By (Bn _)) (ED _)) (Dp O O (B3 (i:=1) (rows':=Av [(LO (tel.length:Nat) pl x)]) BY BY Bq O O O O O O (Bn _) (by simp[BD,CW];omega) (Fe (CW (tel.length:Nat) pl (ts.take i)) [(LO (tel.length:Nat) pl x)])) fun o2 cp1=>Aq Az 1 [] O (Ax (Aq Az 2 [] O ?_)))))))));refine⟨⟨i+1,o2,cp1⟩,AQ,by omega,BZ ⟨we rfl,we rfl,we (DM (CW (tel.length:Nat) pl (ts.take i)++[(LO (tel.length:Nat) pl x)]) (by simp only[CW,List.take_add_one,hx,Option.toList_some,List.map_append,List.map_cons,List.map_nil])),we rfl,we rfl,we rfl,trivial⟩ (leH (is:=[1,2,3]) rfl (wl (C5 (CW (tel.length:Nat) pl (ts.take i)++[(LO (tel.length:Nat) pl x)]) (by simp only[CW,List.take_add_one,hx,Option.toList_some,List.map_append,List.map_cons,List.map_nil])) (wl (oe rfl) (wl (oe rfl) (DF)))))⟩
 (try simp only[sd,se] at c1);refine Bk (Au Az 2 [] O (BU (CM (i:=0) [7,24,6] O (C6 ⟨O,O,O,Ap⟩)) (A4 (⟨O,_,_,⟨_,_,O,O,O⟩,(Dn (is:=[0,1]) O),?_⟩))))
 all_goals exact⟨by show (.p (.lst (Av (CW (tel.length:Nat) pl (ts.take i)))):AV)=_;rw[show i=ts.length by omega,List.take_length],rfl⟩
theorem Z6:∀(f e:Int),(-1000000≤f∧f≤1000000)→(f≤e∧e≤1000000)→D3 Tryz.prog 71 [.p (I f),.p (I e)] (.p (.lst (List.map CG (BL f (e - f).toNat)))):=by
 intro f e h1 h2;refine A1 Tryz.func71 O lG (n:=18) O O (Au Az 1 [] O (Au Az 1 [] O (As (Au Az 2 [] O (BA (BU (DZ (t:=5) (sz:=1) O) (Bh (α:=Nat×Option Nat×Nat) (fun(i,o,cp)=>⟨18,mk [(1,.p (I e)),(5,.vs o (List.map CG (BL f i)).length cp),(6,.p (I (f+(i:Int))))],[.vec o 1 (List.map CG (BL f i)) cp],[]⟩) (fun(i,o,cp)=>(e - f).toNat - i) (fun(i,o,cp)=>i≤(e - f).toNat) ⟨0,none,0⟩ AO ?_ ?_)))))))
 ·exact BZ ⟨we O,we (FM (f:=CG) [] (by simp[BL])),we (pI An),Ap⟩ (leH (is:=[0]) O (wl (Eh (f:=CG) [] (by simp[BL])) (DF)))
 rintro⟨i,o,cp⟩ hC
 try simp only at hC
 have hi:=hC;refine As (Au Az 3 [] O (A2 O (fun c=>?_) (fun c=>?_)))
 ·(try simp only[sd,se] at c);refine A5 (As (BA (Ax (A0 Az 2 [] O (Ar O (Bz DX XC O O O O O) (Dp O O (B3 (i:=0) (rows':=List.map CG [(f+(i:Int))]) DX DX XC O O O O O O (Fb _) (by simp[B4];omega) (HJ (f:=CG) (BL f i) [(f+(i:Int))])) fun o1 cp1=>Aq Az 1 [] O (Ax (Aq Az 3 [] O ?_))))))));refine⟨⟨i+1,o1,cp1⟩,AQ,by omega,BZ ⟨we rfl,we (FM (f:=CG) (BL f i++[(f+(i:Int))]) (by rw[M5])),we (pI An),trivial⟩ (leH (is:=[0]) rfl (wl (Eh (f:=CG) (BL f i++[(f+(i:Int))]) (by rw[M5])) (DF)))⟩
 (try simp only[sd,se] at c);refine Bk (Au Az 2 [] O (BU (CM (i:=0) [5,17,4] O (C6 ⟨O,O,O,Ap⟩)) (A4 (⟨O,_,_,⟨_,_,O,O,O⟩,(List.nil_sublist _),?_⟩))))
 all_goals exact⟨by show (.p (.lst (List.map CG (BL f i))):AV)=_;rw[show i=(e - f).toNat by omega],rfl⟩
theorem IM:∀(n:Nat),(n≤1000000)→D3 Tryz.prog 71 [.p (I 0),.p (I (n:Nat))] (.p (.lst (List.map CG (BL 0 n)))):=fun n h=>by have:=Z6 0 n An An;rwa [show ((n:Int) - 0).toNat=n by omega] at this
theorem L5:∀(n:Int),(0≤n∧n≤1000)→D3 Tryz.prog 91 [.p (I n)] (.p (.lst (List.map B6 (Ce n)))):=by
 intro n h1;refine A1 Tryz.func91 O jU (n:=18) O O (Au Az 1 [] O (Au Az 1 [] O (As (Au Az 2 [] O (BA (BU (DZ (t:=3) (sz:=2) O) (Bh (α:=Nat×Option Nat×Nat) (fun(i,o,cp)=>⟨18,mk [(3,.vs o (List.map B6 ((List.range i).map fun i:Nat=>CN.mk 0 [Bv.mk i 0])).length cp),(5,.p (I n)),(6,.p (I (i:Int)))],[.vec o 2 (List.map B6 ((List.range i).map fun i:Nat=>CN.mk 0 [Bv.mk i 0])) cp],[]⟩) (fun(i,o,cp)=>n.toNat - i) (fun(i,o,cp)=>i≤n.toNat) ⟨0,none,0⟩ AO ?_ ?_)))))))
 ·exact BZ ⟨we (FM (f:=B6) [] Ao),we O,we O,Ap⟩ (leH (is:=[0]) O (wl (Eh (f:=B6) [] Ao) (DF)))
 rintro⟨i,o,cp⟩ hC
 try simp only at hC
 have hi:=hC;refine Au Az 1 [] O (As (A2 O (fun c=>?_) (fun c=>?_)))
 ·(try simp only[sd,se] at c);refine A5 (As (BA (Au Az 2 [] O (Ax (A0 Az 3 [] O (Ar O (Bz GY Qf O O O O O) (Ar O (CC VC G0 O) (Ar O (Bz E1 G0 O O O O O) (Dp O O (B3 (i:=0) (rows':=List.map B6 ([(CN.mk 0 [(Bv.mk (i:Int) 0)])])) E1 E1 G0 O O O O O O (Fi _) (by simp[Ce];omega) (HJ (f:=B6) ((List.range i).map fun i:Nat=>CN.mk 0 [Bv.mk i 0]) ([(CN.mk 0 [(Bv.mk (i:Int) 0)])]))) fun o1 cp1=>Aq Az 1 [] O (Ax (Aq Az 2 [] O ?_)))))))))));refine⟨⟨i+1,o1,cp1⟩,AQ,by omega,BZ ⟨we (FM (f:=B6) (((List.range i).map fun i:Nat=>CN.mk 0 [Bv.mk i 0])++([(CN.mk 0 [(Bv.mk (i:Int) 0)])])) (by rw[List.range_succ,List.map_append];rfl)),we rfl,we rfl,trivial⟩ (leH (is:=[0]) rfl (wl (Eh (f:=B6) (((List.range i).map fun i:Nat=>CN.mk 0 [Bv.mk i 0])++([(CN.mk 0 [(Bv.mk (i:Int) 0)])])) (by rw[List.range_succ,List.map_append];rfl)) (DF)))⟩
 (try simp only[sd,se] at c);refine Bk (Au Az 2 [] O (BU (CM (i:=0) [3,17,2] O (C6 ⟨O,O,O,Ap⟩)) (A4 (⟨O,_,_,⟨_,_,O,O,O⟩,(List.nil_sublist _),?_⟩))))
 all_goals exact⟨by show (.p (.lst (List.map B6 ((List.range i).map fun i:Nat=>CN.mk 0 [Bv.mk i 0]))):AV)=_;unfold Ce;rw[show i=n.toNat by omega],rfl⟩
set_option maxHeartbeats 1000000 in
theorem L7:∀(b:Nat) (o:Option Nat) (c:Nat) (tel:List Tm) (ts:List Tm) (pl:List Int),(tel.length+ts.length≤100000)→(∀p∈pl,-1000000≤p∧p≤1000000)→(pl.length≤100000)→(D7 ts)→(I8 ts)→(∀t∈ts,size t<1099511627776)→Br Tryz.prog 66 [.ptr b 0,.p (.lst (Av ts)),.p (.lst (List.map CG pl)),.fn (.func 67) [.ptr b 0] []] [.box b [.vs o (Av tel).length c],.vec o 5 (Av tel) c] (fun r H'=>∃o2 c2,r= .val (.p (.lst (List.map CG (Aw (tel.length:Nat) pl ts).2)))∧H'=[.box b [.vs o2 (Av (tel++(Aw (tel.length:Nat) pl ts).1)).length c2],.vec o2 5 (Av (tel++(Aw (tel.length:Nat) pl ts).1)) c2]):=by
 intro b o c tel ts pl h1 h2 h3 h4 h5 h6;refine A1 Tryz.func66 O lT (n:=32) O O (Au Az 1 [] O (Ay (JG O O (Gk DX) fun b12 cp=>CA O (Dp O O (B3 (i:=0) (rows':=List.map CG pl) DX DX XC O O O O O O (Fb _) (by simp[Bd];omega) (HJ (f:=CG) [] pl)) fun o1 cp1=>Aq Az 1 [] O (As (Ay (CA O (Ar O (BH BY O (BD _)) (Aq Az 1 [] O (BA ?_))))))))));refine Bh (α:=Nat×Option Nat×Nat×Option Nat×Nat) (fun(i,o2,cp2,o3,cp3)=>⟨32,mk [(0,.ptr b 0),(3,.fn (.func 67) [.ptr b 0] []),(9,.vs o2 (List.map CG ((Aw (tel.length:Nat) pl (ts.take i)).2)).length cp2),(15,.p (.lst (Av ts))),(16,.p (I (ts.length:Nat))),(17,.p (I (i:Int)))],[.vec o2 1 (List.map CG ((Aw (tel.length:Nat) pl (ts.take i)).2)) cp2,.box b [.vs o3 (Av (tel++(Aw (tel.length:Nat) pl (ts.take i)).1)).length cp3],.vec o3 5 (Av (tel++(Aw (tel.length:Nat) pl (ts.take i)).1)) cp3],[]⟩) (fun(i,o2,cp2,o3,cp3)=>ts.length - i) (fun(i,o2,cp2,o3,cp3)=>i≤ts.length) ⟨0,o1,cp1,o,c⟩ AO ?_ ?_
 ·exact BZ ⟨we O,we O,we (FM (f:=CG) pl (by simp[Aw])),we O,we O,we O,Ap⟩ (leH (is:=[0,1,2]) O (wl (Eh (f:=CG) pl (by simp[Aw])) (wl (Mx (aw (we (DM tel (by simp[Aw]))) (FE))) (wl (C5 tel (by simp[Aw])) (DF)))))
 rintro⟨i,o2,cp2,o3,cp3⟩ hC
 try simp only at hC
 have hi:=hC;refine Au Az 1 [] O (As (A2 O (fun c1=>?_) (fun c1=>?_)))
 ·(try simp only[sd,se] at c1);refine A5 (As (BA (Ay ?_)));obtain⟨x,hx⟩:=A9 (l:=ts) (i:=i) An;refine Ar O (BC BY O O An (B0 hx) (BF _)) (Ar O (Bg Bx O (BF _)) (BE O (A7 Bq O) fun b11=>Aq Az 1 [0,1] O (Ax (A0 Az 5 [0] O (Ar O (Cg [2,3,1] O (.inl ⟨O,O,O⟩) (aB b o3 cp3 (tel++(Aw (tel.length:Nat) pl (ts.take i)).1) o2 cp2 x ((Aw (tel.length:Nat) pl (ts.take i)).2) (by rw[List.length_append,(Bd _).1,List.length_take];omega) (E4 (B:=1000000) _ h2 An (by rw[List.length_take];omega)) (by rw[(Bd _).2,List.length_take];omega) (Cq h4 hx) (LF h5 hx) (h6 x (List.mem_of_getElem? hx))) ⟨_,_,O,O,⟨_,_,O,O,⟨_,_,O,O,O⟩⟩⟩ Am O (.inl O)) ?_)))));refine Gg [2,3] O O O (.inr O) (Jw b o3 cp3 (tel++(Aw (tel.length:Nat) pl (ts.take i)).1) (LO ((tel++(Aw (tel.length:Nat) pl (ts.take i)).1).length:Nat) ((Aw (tel.length:Nat) pl (ts.take i)).2) x) (by rw[List.length_append,(Bd _).1,List.length_take];omega)) ⟨_,_,O,O,⟨_,_,O,O,O⟩⟩ Am (CQ _) ?_ (fun _ _ ⟨_,_,h,_⟩=>by cases h);rintro _ _ ⟨on,cn,h,rfl⟩;cases h;refine⟨O,?_⟩;refine Ar O (Bz DX XC O O O O O) (Dp O O (B3 (i:=1) (rows':=List.map CG [(((tel++(Aw (tel.length:Nat) pl (ts.take i)).1).length:Nat):Int)]) DX DX XC O O O O O O (Fb _) (by simp[Bd];omega) (HJ (f:=CG) ((Aw (tel.length:Nat) pl (ts.take i)).2) [(((tel++(Aw (tel.length:Nat) pl (ts.take i)).1).length:Nat):Int)])) fun o4 cp4=>Aq Az 1 [] O (Ax (Aq Az 2 [] O ?_)))
  refine⟨⟨i+1,o4,cp4,on,cn⟩,AQ,by omega,BZ ⟨we rfl,we rfl,we (FM (f:=CG) (((Aw (tel.length:Nat) pl (ts.take i)).2)++[(((tel++(Aw (tel.length:Nat) pl (ts.take i)).1).length:Nat):Int)]) (by rw[Mf hx];exact(Jg hx).2)),we rfl,we rfl,we rfl,trivial⟩ (leH (is:=[1,2,3]) rfl (wl (Eh (f:=CG) (((Aw (tel.length:Nat) pl (ts.take i)).2)++[(((tel++(Aw (tel.length:Nat) pl (ts.take i)).1).length:Nat):Int)]) (by rw[Mf hx];exact(Jg hx).2)) (wl (Mx (aw (we (DM ((tel++(Aw (tel.length:Nat) pl (ts.take i)).1)++[(LO ((tel++(Aw (tel.length:Nat) pl (ts.take i)).1).length:Nat) ((Aw (tel.length:Nat) pl (ts.take i)).2) x)]) (by rw[List.append_assoc,Mf hx,(Jg hx).1]))) (FE))) (wl (C5 ((tel++(Aw (tel.length:Nat) pl (ts.take i)).1)++[(LO ((tel++(Aw (tel.length:Nat) pl (ts.take i)).1).length:Nat) ((Aw (tel.length:Nat) pl (ts.take i)).2) x)]) (by rw[List.append_assoc,Mf hx,(Jg hx).1])) (DF)))))⟩
 (try simp only[sd,se] at c1);refine Bk (Au Az 2 [] O (BU (CM (i:=0) [9,31,8] O (C6 ⟨O,O,O,Ap⟩)) (A4 (⟨O,_,_,⟨_,_,O,O,O⟩,(Dn (is:=[0,1]) O),?_⟩))));rw[show i=ts.length by omega,List.take_length];exact⟨_,_,O,O⟩
theorem O7:∀(fid:Nat) (caps:List AV) (b:Nat) (o:Option Nat) (c:Nat) (tel:List Tm) (new:List Tm) (t:Tm) (G:List A8) (h1:tel.length≤100000) (hf:∀b' o' c',Br Tryz.prog fid ([.ptr b' 0]++caps) (.box b' [.vs o' (Av tel).length c']:: .vec o' 5 (Av tel) c'::G) (fun r H'=>∃o2 c2,r= .val (TV t)∧H'= .box b' [.vs o2 (Av (tel++new)).length c2]:: .vec o2 5 (Av (tel++new)) c2::G)),Br Tryz.prog 114 [.ptr b 0,.fn (.func fid) [] caps] (.box b [.vs o (Av tel).length c]:: .vec o 5 (Av tel) c::G) (FV (.tup [iu new,TV t]) (.box b [.vs o (Av tel).length c]:: .vec o 5 (Av tel) c::G)):=by
 intro fid caps b o c tel new t G h1 hf;refine A1 Tryz.func114 O bO (n:=30) O O (Ay (Iw O (BE O (A7 Bq O) fun b5=>Bo O (Ay (JG O O (Gk BY) fun b8 cp=>A0 Az 4 [2] O (Dp O O (Oo (i:=0) (j:=3) (rows':=Av tel) BY BY Bq O O O O O O O (Bn _) AU (Fe [] tel)) fun o1 cp1=>Ar O (CC Km Wf O) (BE O (BT O) fun b15=>Aq Az 1 [] O (Ay (A0 Az 2 [] O (JP (SD (a:=[_,_]) (b:=[_,_,_]) (c:=G)) ?_))))))))));refine Eo [_,_,_] O O O (.inr O) (hf b15 o1 cp1) (CQ _) ?_ (fun _ _ ⟨_,_,h,_⟩=>by cases h);rintro _ _ ⟨on,cn,h,rfl⟩;cases h;refine BE O (A7 Bq O) fun b7=>Aq Az 1 [0,1] O (As (BU (CR (i:=5) (j:=4) (q:=0) [] O O O (C6 Ap)) (CK (fun k=>false) Eb (Bf Az 8 [4,2] O (BG O (fun _=>EP BY O (BD _)) Ap (BG O (fun _=>CX (lo:=tel.length) BY O (By (Bn _)) ⟨_,O⟩ O Ac (Nat.le_refl _) (MK (tel++new) tel.length)) Ap (CE Az 3 [0,1,1] O (A4 (⟨O,_,_,⟨_,_,O,O,⟨_,_,O,(BO (i:=1) Bx O O Ad),O⟩⟩,(Fu [2,3] [_,_,_,_,_] O),?_⟩)))))))))
 all_goals exact⟨by show (.tup [.p (.lst (Av ((tel++new).drop tel.length))),.agg ((Bc t).map .p)]:AV)=_;simp,rfl⟩
theorem V1:∀(fid:Nat) (caps:List AV) (b:Nat) (o:Option Nat) (c:Nat) (tel:List Tm) (new:List Tm) (t:Tm) (G:List A8) (h1:tel.length≤100000) (h2:D7 new) (h3:new.length<Cb) (hf:∀b' o' c',Br Tryz.prog fid ([.ptr b' 0]++caps) (.box b' [.vs o' (Av tel).length c']:: .vec o' 5 (Av tel) c'::G) (fun r H'=>∃o2 c2,r= .val (TV t)∧H'= .box b' [.vs o2 (Av (tel++new)).length c2]:: .vec o2 5 (Av (tel++new)) c2::G)),Br Tryz.prog 69 [.ptr b 0,.fn (.func fid) [] caps] (.box b [.vs o (Av tel).length c]:: .vec o 5 (Av tel) c::G) (FV (TV (Bw 6 new t)) (.box b [.vs o (Av tel).length c]:: .vec o 5 (Av tel) c::G)):=by
 intro fid caps b o c tel new t G h1 h2 h3 hf;refine A1 Tryz.func69 O iN (n:=11) O O (Ay (BE O (A7 Bq O) fun b4=>Bo O (Ay (A0 Az 2 [] O (Eo [_] O O O (.inl ⟨O,O,O⟩) (O7 fid caps b o c tel new t G h1 hf) (CQ _) ?_ (fun _ _ h=>h.elim))))));rintro _ _ ⟨rfl,rfl⟩;refine A0 Az 2 [] O (Ar O (BB O O (Td new t h2 h3) O) (Aq Az 1 [0,1] O (A4 (⟨O,_,_,⟨_,_,O,(BO (i:=0) Bx O O Ad),O⟩,(Fu [1,2] [_,_,_] O),?_⟩))))
 all_goals exact⟨rfl,rfl⟩
theorem XE:∀(b:Nat) (o:Option Nat) (c:Nat) (tel:List Tm) (f:Fam) (xs:List Tm),(tel.length≤100000)→(0≤f.levels∧f.levels≤1000)→(f.params.length≤1000)→(xs.length≤1000000)→Br Tryz.prog 72 [.agg ((Bu f).map .p),.ptr b 0,.p (.lst (Av xs))] [.box b [.vs o (Av tel).length c],.vec o 5 (Av tel) c] (FV (.agg ((Bc (apply (apply (Co f.name f.levels) (Bt (tel.length:Nat) (BL 0 f.params.length))) xs)).map .p)) [.box b [.vs o (Av tel).length c],.vec o 5 (Av tel) c]):=by
 intro b o c tel f xs h1 h2 h3 h4;refine A1 Tryz.func72 O je (n:=24) O O (Ay (BE O (BT O) fun b3=>BE O (A7 Bq O) fun b6=>Bo O (As (D8 [.val (.ptr b3 (0+0)),.val (.p (.str f.name)),.val (.ptr b3 (0+1)),.val (.p (I f.levels)),.val (.p (.lst (List.map B6 (Ce f.levels)))),.val (.agg [.p (I 3),.p (I 0),.p (.str f.name),.p (.lst (List.map B6 (Ce f.levels))),.p (.nils)]),.new [.p (I 0),.p (I 0),.p (.str ⟨#[]⟩),.p (.nils),.p (.nils)]] Eb O Ai Ai (BN O (fun Bs=>A3 E9 O O) (BN O (fun Bs=>A6 (i:=Bs.length+1) S3 O (CL O) (Ip _)) (BN O (fun Bs=>A3 E9 O O) (BN O (fun Bs=>A6 (i:=Bs.length+1) Hd O (CL O) (DJ _)) (BN O (fun Bs=>BB O O (L5 f.levels h2) O) (BN O (fun Bs=>CC KO Bq O) ?_))))))))));refine FB O (fun Bs=>A7 Bq O) fun b7=>FD ?_
 change AL _ _ _ 7 ⟨24,_,[.box b7 [.p (I 0),.p (I 0),.p (.str ⟨#[]⟩),.p (.nils),.p (.nils)],.box b6 [.p (I 0),.p (I 0),.p (.str ⟨#[]⟩),.p (.nils),.p (.nils)],.box b3 ((Bu f).map .p),.box b [.vs o (Av tel).length c],.vec o 5 (Av tel) c],[]⟩ _
 refine Aq Az 1 [0,0] O (As (CK (fun k=>false) Eb (Bf Az 3 [0] O (Cj (j:=2) O O O (fun H i hi=>A6 (i:=i) DD O hi (Cf _)) AB Ap (BG O (fun _=>BH BY O (BD _)) Ap (BG O (fun _=>BB O O (IM f.params.length An) O) Ap ?_))))));refine FG [3,4] rfl rfl rfl (.inl ⟨rfl,rfl,rfl⟩) (IW b o c tel (BL 0 f.params.length) h1 (fun p hp=>by have:=D0 hp;omega) (by rw[B4];omega)) ⟨_,_,rfl,rfl,⟨_,_,rfl,rfl,rfl⟩⟩ (JF (fun h=>nomatch h)) (aw (we rfl) (aw (we rfl) (FE))) AB trivial ?_;refine BG O (fun _=>EN O O (Dz (.mk 3 0 f.name (Ce f.levels) []:Tm) (Bt (tel.length:Nat) (BL 0 f.params.length)) (by simp only[Cb,Bt,List.length_map,B4];omega)) (aw (Du O) (aw (we O) (FE)))) Ap (BG O (fun _=>Bm O) Ap (BG O (fun _=>BB O O (Dz (apply (.mk 3 0 f.name (Ce f.levels) []:Tm) (Bt (tel.length:Nat) (BL 0 f.params.length))) xs AW) O) Ap (CE Az 1 [1,1] O (A4 (⟨O,_,_,⟨_,_,O,(BO (i:=1) Bx O O Ad),O⟩,(Dn (is:=[3,4]) O),?_⟩)))))
 all_goals exact⟨rfl,rfl⟩
end Go.Proofs.YtifphifongokcaaGreat
