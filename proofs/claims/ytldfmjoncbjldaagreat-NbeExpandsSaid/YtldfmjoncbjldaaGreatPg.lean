/- Part of the proofs: an abstract program logic, plain models and contracts of functions. -/
import Derived.Test.YtldfmjoncbjldaaGreatPf
import Derived.Test.YtldfmjoncbjldaaGreatPb
import Derived.Test.YtldfmjoncbjldaaGreatPd
import Derived.Test.YtldfmjoncbjldaaGreatPe
set_option linter.unusedVariables false
set_option linter.unusedSimpArgs false
set_option maxRecDepth 100000
namespace Go.Proofs.YtldfmjoncbjldaaGreat
open Go.Abs Go.Eu
theorem VF:∀(be:Nat) (ce:List AV),CR Tryz.prog 111 [.ptr be 0] (.ret) [.box be ce] (fun H'=>H'=[.box be ce]):=by
 intro be ce;refine D7 (ty2:=0) Tryz.func111 O Z0 (n:=14) O O O O O O (Al (BY O (Ah O (Di RH O O O) (Bb O ?_))));refine Ag O (fun c=>by cases c) (fun c=>?_);exact Ak ⟨.inl O,O,_,(CX (is:=[0]) O),O⟩
theorem XZ:∀(cn:Int) (fid:Nat) (caps:List AV) (T G:List Ap) (hf:∀m,BD Tryz.prog fid ([.ptr m 0]++caps) (.box m [.p (.lst []),.p (I 20000)]::T) (GB (.tup []) (.box m [.p (.lst []),.p (I cn)]::G))),BD Tryz.prog 65 [.p (.lst []),.fn (.func fid) [] caps] T (GB (.p (I 0)) G):=by
 intro cn fid caps T G hf;refine Cp Tryz.func65 O cF (n:=11) O O (Al (A2 O (As UN O) fun b4=>Bb O (Al (Ah O (CS O O) (Hh O O O O (Bb O (Al (Am Aj 3 [] O (A2 O (A9 O) fun b9=>FT (List.Perm.swap _ _ _) (Eg [_] O O O (.inr O) (hf b9) (DA _) ?_ (fun _ _ h=>h.elim)))))))))));rintro v T2 ⟨rfl,rfl⟩;refine Bb O (Ae Aj 1 [0,0] O (Ai ⟨_,[_],_,O,List.Perm.refl _,CR.eq (VF b4 _) ?_⟩));refine⟨_,_,⟨_,_,O,(Dt (i:=0) M7 O O),O⟩,(Co [] [_,_] O),?_⟩
 all_goals exact⟨rfl,rfl⟩
theorem VZ:∀(m bt bo bk:Nat) (t:Tm) (q:Option Tm),(okB t=true)→(K0 t= .ok q)→BD Tryz.prog 66 [.ptr m 0,.ptr bt 0,.ptr bo 0,.ptr bk 0] [.box m [.p (.lst []),.p (I 20000)],.box bt ((A3 t).map .p),.box bo [.p (I 0),.p (I 0),.p (.str ⟨#[]⟩),.p (.nils),.p (.nils)],.box bk [.p (.bool false)]] (GB (.tup []) [.box m [.p (.lst []),.p (I (if q.isSome=true then 19999 else 20000))],.box bt ((A3 t).map .p),.box bo ((A3 (q.getD BF)).map .p),.box bk [.p (.bool q.isSome)]]):=by
 intro m bt bo bk t q h1 h2;refine An Tryz.func66 O cC (n:=11) O O (Ao (Am Aj 2 [1] O (Ah O (CD [0] O (.inl ⟨O,O,O⟩) (UT m t q h1 h2) ⟨_,_,O,O,O⟩ AZ O (.inl O)) (Ad Aj 5 [2,1,3,0] O ⟨O,_,_,O,(CX (is:=[0,1,2,3]) O),?_⟩))))
 all_goals exact⟨rfl,rfl⟩
theorem UI:∀(t:Tm) (q:Option Tm),(okB t=true)→(K0 t= .ok q)→(q.isSome=true→okB (q.getD BF)=true∧size (q.getD BF)≤4096∧Dg (q.getD BF)≤200)→Dl Tryz.prog 37 [.p (.lst []),.agg ((A3 t).map .p)] (.tup [.agg ((A3 (q.getD BF)).map .p),.p (.bool q.isSome),.p (I 0)]):=by
 intro t q h1 h2 h3;refine An Tryz.func37 O cH (n:=34) O O (Al (A2 O (A9 O) fun b3=>A2 O (As Bf O) fun b4=>Ad Aj 2 [] O (Al (A2 O (As Bf O) fun b7=>Bb O (Al (A2 O (As ey O) fun b8=>Ad Aj 1 [0,0] O (Al (Am Aj 2 [] O (Ah O (CD [3,1,0] O (.inl ⟨O,O,O⟩) (XZ (if q.isSome=true then 19999 else 20000) 66 [.ptr b3 0,.ptr b7 0,.ptr b8 0] [.box b3 ((A3 t).map .p),.box b7 [.p (I 0),.p (I 0),.p (.str ⟨#[]⟩),.p (.nils),.p (.nils)],.box b8 [.p (.bool false)]] [.box b3 ((A3 t).map .p),.box b7 ((A3 (q.getD BF)).map .p),.box b8 [.p (.bool q.isSome)]] (fun m=>VZ m b3 b7 b8 t q h1 h2)) ⟨_,_,O,O,⟨_,_,O,O,⟨_,_,O,O,O⟩⟩⟩ AZ O (.inl O)) (Ad Aj 1 [] O (Af (Af ?_))))))))))));rcases q with _ | y
 ·refine BL [4,7,8,9] 27 (fun y=>y= .p (.bool false)) ?_ ?_
  ·exact Ao (Ad Aj 15 [0] O (⟨O,O,AG,(by refine pB ?_;simp;try omega),⟨O,O,O,O,Ac⟩⟩))
  rintro _ rfl;refine Ag O (fun c=>by cases c) (fun c=>?_);refine Ak (Af (Ae Aj 2 [] O ?_));refine Ag O (fun c1=>by cases c1) (fun c1=>?_);refine Ak (Af (Bq (fun k=>false) Er (Bo Aj 5 [1,0,2,1] O (Ai (⟨O,_,_,⟨_,_,O,(BA (i:=2) Bd O O AS),⟨_,_,O,O,⟨_,_,O,O,O⟩⟩⟩,(List.nil_sublist _),?_⟩)))))
  all_goals exact⟨rfl,rfl⟩
 have hy:=h3 rfl;simp only[Option.getD_some] at hy;obtain⟨hyo,hys,hyd⟩:=hy;refine BL [4,7,8,9] 27 (fun y=>y= .p (.bool false)) ?_ ?_
 ·refine Ao (Am Aj 7 [0,1] O (Ba O (Av O O (Qc y (Ji.1 hyo).nd Aa) O) (Am Aj 2 [] O (A6 22 O (fun g=>?_) (fun g=>?_)))))
  ·(try simp only[sd,se] at g);exact Ad Aj 5 [] O (⟨O,O,AG,(by refine pB ?_;simp;try omega),⟨O,O,O,O,Ac⟩⟩)
  (try simp only[sd,se] at g);exact Ba O (BQ (i:=1) Bd O O AS) (Ba O (Av O O (Nl _ y (Nat.le_refl _) (Ji.1 hyo).nd) O) (Ad Aj 3 [] O (⟨O,O,AG,(by refine pB ?_;simp;try omega),⟨O,O,O,O,Ac⟩⟩)))
 rintro _ rfl;refine Ag O (fun c=>by cases c) (fun c=>?_);refine Ak (Af (Ae Aj 2 [] O ?_));refine Ag O (fun c1=>by cases c1) (fun c1=>?_);refine Ak (Af (Bq (fun k=>false) Er (Bo Aj 5 [1,0,2,1] O (Ai (⟨O,_,_,⟨_,_,O,(BA (i:=2) Bd O O AS),⟨_,_,O,O,⟨_,_,O,O,O⟩⟩⟩,(List.nil_sublist _),?_⟩)))))
 all_goals exact⟨rfl,rfl⟩
theorem QH:∀(n:Nat) (t:Tm) (b:Bool),(Oa n t= .ok b)→Dl Tryz.prog 15 [.p (.lst []),.agg ((A3 t).map .p)] (.p (.bool b)):=by
 intro n
 induction n with
 | zero=>intro t b h;cases h
 | succ m ih =>
  intro t b h;obtain⟨m2,q,e,ho,hs,hc⟩:=Up h;injection e with e;subst e;have hsp:=V8 ho;have hsl:=hsp.len;have hss:=hsp.sz;refine An Tryz.func15 O dk (n:=44) O O (Al (A2 O (A9 O) fun b3=>Ad Aj 1 [] O (Af (Al (Am Aj 2 [0] O ?_)))));refine Ah rfl (Av rfl rfl (UI t q ho hs (fun e=>by rcases hc with ⟨_,e2,_⟩ | ⟨e2,_⟩;exact e2;rw[e2] at e;cases e)) rfl) ?_;refine Am Aj 4 [] O (A2 O (As Bf O) fun b5=>Ad Aj 3 [0,1] O (Af (BL [0,3] 23 (fun y=>y= .p (.bool (q.isSome&&true))) ?_ ?_)))
  ·refine Ao (Am Aj 2 [] O (A6 20 O (fun g=>?_) (fun g=>?_)))
   ·(try simp only[sd,se] at g);exact Ad Aj 3 [] O (⟨O,O,AG,AF,⟨O,O,Ac⟩⟩)
   (try simp only[sd,se] at g);exact Ad Aj 3 [] O (⟨O,O,AG,AF,⟨O,O,Ac⟩⟩)
  rintro _ rfl;refine Ag O (fun c=>?_) (fun c=>?_)
  ·(try simp only[sd,se] at c);rcases hc with ⟨_,_,rfl⟩ | ⟨rfl,_⟩
   rotate_left
   ·simp at c
   refine Ae Aj 1 [] O (Ai (⟨O,_,_,⟨_,_,O,O,O⟩,(List.nil_sublist _),?_⟩))
   all_goals exact⟨rfl,rfl⟩
  (try simp only[sd,se] at c);rcases hc with ⟨e,_⟩ | ⟨rfl,hk1,hk2,ha⟩
  ·rw[e] at c;simp at c
  refine Ak (Al (Ah O (BQ (i:=1) Bd O O AS) (Ah O (Av O O (OT t hsp.nd AP) O) (Am Aj 3 [] O (A2 O (As Bf O) fun b8=>Ad Aj 2 [0,1] O (Af (Al (Ah O (BH K2 O O) ?_))))))));generalize hz:(Ay t).1=z;obtain⟨zk,zi,zn,zl,zs⟩:=z;rw[hz] at ha hk1;simp only[Tm.kids] at ha hk1;rw[show zs++(Ay t).2=[zs,(Ay t).2].flatten by simp] at ha;have hfl:([zs,(Ay t).2].flatten).length<2000:=by simp;omega
  refine Am Aj 2 [0] O (Ah O (Bt OZ dR O O O O O) ?_);refine SG rfl rfl rfl (.inl ⟨rfl,rfl,rfl⟩) (Vj [zs,(Ay t).2] Ab (fun l hl=>by simp only[List.mem_cons,List.not_mem_nil,or_false] at hl;rcases hl with rfl | rfl<;>omega)) (.inl rfl) fun o cp=>?_;refine Br (EU (i:=0) [33] O (Da ⟨O,Ac⟩)) (Ah O (A7 BJ O (A1 _)) (Ad Aj 1 [] O (Au (BZ (α:=Nat) (fun i=>⟨44,mk [(0,.p (.lst [])),(33,.p (.lst (Ax ([zs,(Ay t).2].flatten)))),(34,.p (I (([zs,(Ay t).2].flatten).length:Nat))),(35,.p (I (i:Int)))],[],[]⟩) (fun i=>[zs,(Ay t).2].flatten.length - i) (fun i=>i≤[zs,(Ay t).2].flatten.length∧(PS (Oa m) (List.drop i [zs,(Ay t).2].flatten)= .ok b)) 0 (⟨by omega,ha⟩) ?_ ?_))))
  ·exact BO ⟨we O,we O,we O,we O,Ac⟩ (leH (is:=[]) O (DM))
  rintro i hC
  try simp only at hC
  obtain⟨hi,hC⟩:=hC;refine Ae Aj 1 [] O (Af (Ag O (fun c1=>?_) (fun c1=>?_)))
  ·(try simp only[sd,se] at c1);refine Ak (Af (Au (Al ?_)));obtain⟨x,hx⟩:=Ar (l:=[zs,(Ay t).2].flatten) (i:=i) Aa;refine Ah O (Aq BJ O O Aa (BI hx) (Az _)) (Ah O (BE Bd O (Az _)) (A2 O (As Bf O) fun b11=>Ad Aj 1 [0,1] O (Al (Am Aj 2 [0] O ?_))));obtain⟨c9,hq1,hq2⟩:=Rl (by rw[←Bx hx];exact hC);refine Ah O (Av O O (ih x c9 hq1) O) (Ad Aj 1 [] O (Ag O (fun c2=>?_) (fun c2=>?_)))
   ·(try simp only[sd,se] at c2);have hbf:b=false:=by rcases hq2 with ⟨e,_⟩ | ⟨_,e⟩;rw[e] at c2;simp at c2;exact e
    refine Ae Aj 1 [] O (Ai (⟨O,_,_,⟨_,_,O,O,O⟩,(List.nil_sublist _),?_⟩))
    all_goals exact⟨by show (.p (.bool false):AV)=_;rw[hbf],rfl⟩
   (try simp only[sd,se] at c2);have hq3:PS (Oa m) (List.drop (i+1) [zs,(Ay t).2].flatten)= .ok b:=by rcases hq2 with ⟨_,e⟩ | ⟨e,_⟩;exact e;rw[e] at c2;simp at c2
   refine Ak (Ao (Ad Aj 2 [] O (⟨(i+1),AK,⟨by omega,hq3⟩,BO ⟨we rfl,we rfl,we rfl,we rfl,trivial⟩ (leH (is:=[]) rfl (DM))⟩)))
  (try simp only[sd,se] at c1);refine BS (Ae Aj 1 [] O (Ai (⟨O,_,_,⟨_,_,O,O,O⟩,(List.nil_sublist _),?_⟩)))
  all_goals exact⟨by show (.p (.bool true):AV)=_;have h9:=hC;rw[List.drop_eq_nil_of_le Aa] at h9;injection h9 with h9;rw[←h9],rfl⟩
end Go.Proofs.YtldfmjoncbjldaaGreat
namespace Go.Eu
open Go.Abs
def FG (b:Int) (t:Tm):Tm×Int:=if (Be b 0 0 0 t).2≠0 then (BF,(Be b 0 0 0 t).2) else ((Be b 0 0 0 t).1,0)
def JR (b:Int) (t:Tm):Tm×Int:=match FE b 0 t with
 | .ok z=>(z,0)
 | .error e=>(BF,e)
theorem U8 {b:Int}{t z:Tm}(h:FE b 0 t= .ok z):JR b t=(z,0):=by simp[JR,h]
theorem UE {b e:Int}{t:Tm}(h:FE b 0 t= .error e):JR b t=(BF,e):=by simp[JR,h]
def CF:Tm:= .mk 1 0 ⟨#[]⟩ [] []
def Ej (b:Tm):Bool:=decide (b.kind=4)&&decide (b.kids.length=2)&&decide ((b.kids.getD 1 default).kind=0)&&decide ((b.kids.getD 1 default).index=0)
noncomputable def Ei (a b:Tm):Bool:=decide (a.kind=9)&&decide (b.kind=10)&&decide (a.kids.length=1)&&decide (b.kids.length=1)&&JW (a.kids.getD 0 default) (b.kids.getD 0 default)
noncomputable def L7 (oc:Tm→Bool) (sh:Tm→Tm) (k i:Int) (n:ByteArray) (l:List B6) (ks:List Tm):Tm :=
 if k=5∧ks.length=2 then
  if (Ej (ks.getD 1 default)&& !oc ((ks.getD 1 default).kids.getD 0 default))=true then sh ((ks.getD 1 default).kids.getD 0 default) else .mk k i n l (ks.set 0 CF)
 else if k=8∧ks.length=3 then
  if Ei (ks.getD 1 default) (ks.getD 2 default)=true then (ks.getD 1 default).kids.getD 0 default else .mk k i n l (ks.set 0 CF)
 else .mk k i n l ks
section
variable (oc:Tm→Bool) (sh:Tm→Tm)
mutual
noncomputable def Mw:Tm→Tm
 | .mk k i n l ks=>L7 oc sh k i n l (QP ks)
noncomputable def QP:List Tm→List Tm
 | []=>[]
 | t::ts=>Mw t::QP ts
end
theorem Io:∀ts,QP oc sh ts=ts.map (Mw oc sh)
 | []=>rfl
 | t::ts=>by simp only[QP,List.map_cons,Io ts]
end
noncomputable def Cr:Tm→Tm:=Mw (fun f=>HI 0 0 f) (fun f=>(FG (-1) f).1)
noncomputable def gC:Tm→Tm:=Mw (fun f=>decide ((JR (-1) f).2≠0)) (fun f=>(JR (-1) f).1)
theorem DP (k i:Int) (n:ByteArray) (l:List B6) (ts:List Tm):Cr (.mk k i n l ts)=L7 (fun f=>HI 0 0 f) (fun f=>(FG (-1) f).1) k i n l (ts.map Cr):=by
 show Mw _ _ _=_;rw[Mw,Io];rfl
section
variable {oc:Tm→Bool}{sh:Tm→Tm}{k i:Int}{n:ByteArray}{l:List B6}{ks:List Tm}{a b c x y:Tm}
theorem JZ (h:Ej b=true):b.kids.length=2:=by
 simp only[Ej,Bool.and_eq_true,decide_eq_true_eq] at h;exact h.1.1.2
theorem Mq (h:Ei a b=true):a.kids.length=1∧b.kids.length=1:=by
 simp only[Ei,Bool.and_eq_true,decide_eq_true_eq] at h;exact⟨h.1.1.2,h.1.2⟩
theorem Ds (hk:k=5) (he:Ej b=true) (hx:b.kids[0]?=some x) (ho:oc x=false):L7 oc sh k i n l [a,b]=sh x:=by
 have hg:b.kids.getD 0 default=x:=by rw[List.getD_eq_getElem?_getD,hx];rfl
 unfold L7;rw[if_pos ⟨hk,rfl⟩];simp only[List.getD_cons_succ,List.getD_cons_zero,hg,he,ho,Bool.not_false,Bool.and_self,if_true]
theorem CP (hk:k=5) (he:Ej b=true→∀x,b.kids[0]?=some x→oc x=true):L7 oc sh k i n l [a,b]= .mk k i n l [CF,b]:=by
 unfold L7;rw[if_pos ⟨hk,rfl⟩];simp only[List.getD_cons_succ,List.getD_cons_zero];rw[if_neg]
 ·rfl
 intro h;simp only[Bool.and_eq_true,Bool.not_eq_true'] at h;have h2:=JZ h.1;have:=he h.1 (b.kids.getD 0 default) (by rw[List.getD_eq_getElem?_getD,List.getElem?_eq_getElem Aa];rfl);rw[h.2] at this;cases this
theorem EO (hk:k=8) (he:Ei b c=true) (hx:b.kids[0]?=some x):L7 oc sh k i n l [a,b,c]=x:=by
 have hg:b.kids.getD 0 default=x:=by rw[List.getD_eq_getElem?_getD,hx];rfl
 unfold L7;rw[if_neg Ab,if_pos ⟨hk,rfl⟩];simp only[List.getD_cons_succ,List.getD_cons_zero,he,if_true,hg]
theorem EG (hk:k=8) (he:Ei b c=false):L7 oc sh k i n l [a,b,c]= .mk k i n l [CF,b,c]:=by
 unfold L7;rw[if_neg Ab,if_pos ⟨hk,rfl⟩];simp only[List.getD_cons_succ,List.getD_cons_zero,he,Bool.false_eq_true,if_false];rfl
theorem Cl (h5:¬(k=5∧ks.length=2)) (h8:¬(k=8∧ks.length=3)):L7 oc sh k i n l ks= .mk k i n l ks:=by
 unfold L7;rw[if_neg h5,if_neg h8]
theorem Og {K:List Tm}(h:K.length=2):∃a b,K=[a,b]:=by
 match K,h with
 | [a,b],_=>exact⟨a,b,rfl⟩
theorem Rc {K:List Tm}(h:K.length=3):∃a b c,K=[a,b,c]:=by
 match K,h with
 | [a,b,c],_=>exact⟨a,b,c,rfl⟩
end
theorem Vc {t:Tm}(h:Nd t) (hw:Wt t):Nd (FG (-1) t).1∧size (FG (-1) t).1≤size t∧Wt (FG (-1) t).1:=by
 unfold FG;split
 ·exact⟨Qs,by have:=size_pos t;simp[BF,size,A0];omega,by simp[BF,Wt,arity,KQ]⟩
 exact⟨Ic _ _ _ _ _ h,Nat.le_of_eq (GD _ _ _ _ _ (.inr hw)),IS _ _ _ _ _ hw⟩
end Go.Eu
namespace Go.Proofs.YtldfmjoncbjldaaGreat
open Go.Abs Go.Eu
theorem _root_.Go.AN {α:Prop}(h:α:=by refine pB ?_;simp_all<;>omega):α:=h
theorem Sc:∀(t:Tm) (b:Int),(-65536≤b∧b≤65536)→(Nd t)→(size t≤1000000)→Dl Tryz.prog 23 [.agg ((A3 t).map .p),.p (I b),.p (I 0)] (.tup [.agg ((A3 ((FG b t).1)).map .p),.p (I ((FG b t).2))]):=by
 intro t b h1 h2 h3;refine An Tryz.func23 O bN (n:=40) O O (Al (A2 O (A9 O) fun b3=>A2 O (As Bf O) fun b6=>Ad Aj 1 [] O (Af (Af (BL [1,2,3,6] 19 (fun y=>y= .p (.bool false)) ?_ ?_)))))
 ·refine Ao (Am Aj 3 [] O (A6 12 O (fun g=>?_) (fun g=>?_)))
  ·(try simp only[sd,se] at g);exact Ad Aj 7 [] O (⟨O,O,AG,AN,⟨O,O,O,O,Ac⟩⟩)
  (try simp only[sd,se] at g);refine Am Aj 4 [] O (A6 16 O (fun g1=>?_) (fun g1=>?_))
  ·(try simp only[sd,se] at g1);exact Ad Aj 3 [] O (⟨O,O,AG,AN,⟨O,O,O,O,Ac⟩⟩)
  (try simp only[sd,se] at g1);exact Ad Aj 3 [] O (⟨O,O,AG,AN,⟨O,O,O,O,Ac⟩⟩)
 rintro _ rfl;refine Ag O (fun c=>by cases c) (fun c=>?_);refine Ak (Al (Ah O (D6 cQ dI O) (A2 O (A9 O) fun b22=>Ad Aj 1 [] O (Al (Am Aj 4 [2] O (Ah O (Uo O O) (Ah O (CD [0] O (.inl ⟨O,O,O⟩) (VH (size t) t b22 b (min (0:Int) (65536:Int)) 0 0 0 (Nat.le_refl _) h2 AZ Aa) ⟨_,_,O,O,O⟩ AZ O (.inl O)) (A2 O (As Bf O) fun b9=>Ad Aj 1 [0,1] O (Af (Ae Aj 5 [1] O (Ag O (fun c1=>?_) (fun c1=>?_))))))))))))
 ·(try simp only[sd,se] at c1);have hce:=c1;refine Af (Bq (fun k=>false) Er (Bo Aj 7 [1,2,0] O (BP (Bv (i:=2) O) (Ai (⟨O,_,_,⟨_,_,O,(BA (i:=2) Bd O O O),⟨_,_,O,O,O⟩⟩,(List.nil_sublist _),?_⟩)))))
  all_goals exact⟨by show (.tup [.agg [.p (I 0),.p (I 0),.p (.str ⟨#[]⟩),.p (.lst []),.p (.lst [])],.p (I ((Be b (min (0:Int) (65536:Int)) 0 0 t).2))]:AV)=_;unfold FG;rw[if_pos (c:=(Be b 0 0 0 t).2≠0) hce];rfl,rfl⟩
 (try simp only[sd,se] at c1);have hce:=c1;refine Ak (Ae Aj 3 [0,2,1] O (Ai (⟨O,_,_,⟨_,_,O,(BA (i:=2) Bd O O AS),⟨_,_,O,O,O⟩⟩,(List.nil_sublist _),?_⟩)))
 all_goals exact⟨by show (.tup [.agg ((A3 ((Be b (min (0:Int) (65536:Int)) 0 0 t).1)).map .p),.p (I 0)]:AV)=_;unfold FG;rw[if_neg (c:=(Be b 0 0 0 t).2≠0) (fun h=>h hce)];rfl,rfl⟩
theorem U4:∀(bo be:Nat) (co ce:List AV),CR Tryz.prog 79 [.ptr bo 0,.ptr be 0] (.ret) [.box bo co,.box be ce] (fun H'=>H'=[.box bo co,.box be ce]):=by
 intro bo be co ce;refine D7 (ty2:=0) Tryz.func79 O Zt (n:=9) O O O O O O (Al (BY O (Ah O (Di RH O O O) (Bb O ?_))));refine Ag O (fun c=>by cases c) (fun c=>?_);exact Ak ⟨.inl O,O,_,(CX (is:=[0,1]) O),O⟩
theorem U3:∀(bo be:Nat) (e:Int),CR Tryz.prog 79 [.ptr bo 0,.ptr be 0] (.pan (.p (.iface 207 (I e)))) [.box bo [.p (I 0),.p (I 0),.p (.str ⟨#[]⟩),.p (.nils),.p (.nils)],.box be [.p (I 0)]] (fun H'=>H'=[.box bo [.p (I 0),.p (I 0),.p (.str ⟨#[]⟩),.p (.lst []),.p (.lst [])],.box be [.p (I e)]]):=by
 intro bo be e;refine D7 (ty2:=0) Tryz.func79 O Zt (n:=9) O O O O O O (Al (BY O (Ah O (Di RH O O O) (Br (Bv (i:=0) O) (Bb O ?_)))));refine Ag O (fun c=>?_) (fun c=>by cases c);exact Ao (Am Aj 2 [] O (Ah O (Av O O (Ld _) O) (Am Aj 2 [0,0,1,0] O (Br (Bv (i:=0) O) (Bb O ⟨.inl O,O,_,(CX (is:=[0,1]) O),O⟩)))))
set_option maxHeartbeats 2000000 in
theorem UH:∀(t:Tm) (b:Int),(-65536≤b∧b≤65536)→(Nd t)→(Vp t)→(size t≤1000000)→Dl Tryz.prog 43 [.agg ((A3 t).map .p),.p (I b),.p (I 0)] (.tup [.agg ((A3 ((JR b t).1)).map .p),.p (I ((JR b t).2))]):=by
 intro t b h1 h2 h3 h4;refine Cp Tryz.func43 O bP (n:=24) O O (Al (A2 O (A9 O) fun b3=>A2 O (As Bf O) fun b6=>A2 O (As UN O) fun b7=>Bb O (Af (Af (BL [1,2,3,6,7] 17 (fun y=>y= .p (.bool false)) ?_ ?_)))))
 ·refine Ao (Am Aj 3 [] O (A6 10 O (fun g=>?_) (fun g=>?_)))
  ·(try simp only[sd,se] at g);exact Ad Aj 7 [] O (⟨O,O,AG,AN,⟨O,O,O,O,O,Ac⟩⟩)
  (try simp only[sd,se] at g);refine Am Aj 4 [] O (A6 14 O (fun g1=>?_) (fun g1=>?_))
  ·(try simp only[sd,se] at g1);exact Ad Aj 3 [] O (⟨O,O,AG,AN,⟨O,O,O,O,O,Ac⟩⟩)
  (try simp only[sd,se] at g1);exact Ad Aj 3 [] O (⟨O,O,AG,AN,⟨O,O,O,O,O,Ac⟩⟩)
 rintro _ rfl;refine Ag O (fun c=>by cases c) (fun c=>?_);refine Ak (Al (Ah O (CS O O) (Hh O O O O (Bb O (Al (Am Aj 3 [2] O (K9 [] O O O (.inl ⟨O,O,O⟩) (K6 t b 0 h2 h3 AP Aa Aa) O AZ (aw (we O) (aw (we O) (aw (we O) (G7)))) (fun _ _ h=>(congrArg List.length h).trans O) ?_ ?_)))))))
 rotate_left
 ·intro e _ he;refine⟨_,_,_,O,Ix (is:=[1,0]) _ AZ ⟨_,_,O,O,⟨_,_,O,O,O⟩⟩,CR.eq (U3 b6 b7 _) ?_⟩;refine⟨_,[],⟨_,_,O,(BA (i:=0) Bd O O O),⟨_,_,O,(Dt (i:=1) M7 O O),O⟩⟩,(List.nil_sublist _),?_⟩;rw[UE he];exact⟨O,O⟩
 rintro z _ hz rfl;refine Ad Aj 2 [1,1,0,0] O (Ai (⟨_,_,_,O,B9 (is:=[1,0]) AZ ⟨_,_,O,O,⟨_,_,O,O,O⟩⟩,CR.eq (U4 b6 b7 _ _) ?_⟩));refine⟨_,_,⟨_,_,O,(BA (i:=0) Bd O O AS),⟨_,_,O,(Dt (i:=1) M7 O O),O⟩⟩,(List.nil_sublist _),?_⟩
 all_goals exact⟨by show (.tup [.agg ((A3 z).map .p),.p (I 0)]:AV)=_;rw[U8 hz],rfl⟩
end Go.Proofs.YtldfmjoncbjldaaGreat
namespace Go.Eu
open Go.Abs
theorem Nr (l:List Tm):((l.length:Int)=1)=(l.length=1):=propext ⟨fun h=>by omega,fun h=>by omega⟩
theorem QG (l:List Tm):((l.length:Int)=2)=(l.length=2):=propext ⟨fun h=>by omega,fun h=>by omega⟩
theorem Uj {ts:List Tm}{f:Tm→Tm}(h:∀t∈ts,Nd (f t)):JP (ts.map f):=by
 induction ts with
 | nil=>trivial
 | cons t ts ih=>exact⟨h t Ab,ih fun x hx=>h x (by simp[hx])⟩
theorem QW {ts:List Tm}{f:Tm→Tm}(h:∀t∈ts,Wt (f t)):KQ (ts.map f):=by
 induction ts with
 | nil=>trivial
 | cons t ts ih=>exact⟨h t Ab,ih fun x hx=>h x (by simp[hx])⟩
theorem MN {ts:List Tm}{f:Tm→Tm}(h:∀t∈ts,size (f t)≤size t):A0 (ts.map f)≤A0 ts:=by
 induction ts with
 | nil=>simp[A0]
 | cons t ts ih=>have:=h t Ab;have:=ih fun x hx=>h x (by simp[hx]);simp only[List.map_cons,A0];omega
theorem Dw {ts:List Tm}(h:JP ts):∀t∈ts,Nd t:=by
 induction ts with
 | nil=>intro t ht;cases ht
 | cons a ts ih=>intro t ht;rcases List.mem_cons.1 ht with rfl | ht;exact h.1;exact ih h.2 t ht
theorem Cm {ts:List Tm}(h:KQ ts):∀t∈ts,Wt t:=by
 induction ts with
 | nil=>intro t ht;cases ht
 | cons a ts ih=>intro t ht;rcases List.mem_cons.1 ht with rfl | ht;exact h.1;exact ih h.2 t ht
theorem DH {ts:List Tm}{t:Tm}(h:t∈ts):size t≤A0 ts:=by
 obtain⟨i,hi⟩:=List.mem_iff_getElem?.1 h;exact Bp hi
theorem YC {oc:Tm→Bool}{sh:Tm→Tm}(hs:∀t,Nd t→Wt t→Nd (sh t)∧size (sh t)≤size t∧Wt (sh t)) {k i:Int}{n:ByteArray}{l:List B6}{ks:List Tm}(h:Nd (.mk k i n l ks)) (w:Wt (.mk k i n l ks)) :
  Nd (L7 oc sh k i n l ks)∧size (L7 oc sh k i n l ks)≤size (.mk k i n l ks)∧Wt (L7 oc sh k i n l ks):=by
 have hp:∀a,a∈ks→Nd a∧Wt a∧size a+1≤size (.mk k i n l ks):=fun a ha=>⟨Dw h.2.2.2.2.1 a ha,Cm w.2.2 a ha,by have:=DH ha;simp only[size];omega⟩;have hpr:Nd CF∧Wt CF∧size CF=1:=⟨⟨by decide,by decide,by simp,by decide,trivial,⟨by decide,by decide⟩,⟨by decide,by decide⟩⟩,by simp[CF,Wt,arity,KQ],by simp[CF,size,A0]⟩;by_cases h5:k=5∧ks.length=2
 ·obtain⟨a,b,rfl⟩:=Og h5.2;obtain⟨b1,b2,b3⟩:=hp b Ab;cases he:Ej b with
  | true =>
   have hl:=JZ he;obtain⟨x,hx⟩:∃x,b.kids[0]?=some x:=⟨_,List.getElem?_eq_getElem Aa⟩;cases ho:oc x with
   | false =>
    rw[Ds h5.1 he hx ho];obtain⟨bk,bi,bn,bl,bs⟩:=b;have hm:=List.mem_of_getElem? hx;obtain⟨q1,q2,q3⟩:=hs x (Dw b1.2.2.2.2.1 x hm) (Cm b2.2.2 x hm);have:=DH hm;simp only[size] at b3 ⊢;simp only[Tm.kids] at this;exact⟨q1,by omega,q3⟩
   | true =>
    rw[CP h5.1 (fun _ y hy=>by rw[hx] at hy;injection hy with hy;rw[←hy];exact ho)];exact⟨⟨h.1,h.2.1,h.2.2.1,h.2.2.2.1,⟨hpr.1,b1,Ac⟩,h.2.2.2.2.2⟩,by have:=size_pos a;simp only[size,A0,hpr.2.2] at *;omega,⟨w.1,w.2.1,hpr.2.1,b2,trivial⟩⟩
  | false =>
   rw[CP h5.1 (fun e=>by rw[he] at e;cases e)];exact⟨⟨h.1,h.2.1,h.2.2.1,h.2.2.2.1,⟨hpr.1,b1,Ac⟩,h.2.2.2.2.2⟩,by have:=size_pos a;simp only[size,A0,hpr.2.2] at *;omega,⟨w.1,w.2.1,hpr.2.1,b2,trivial⟩⟩
 by_cases h8:k=8∧ks.length=3
 ·obtain⟨a,b,c,rfl⟩:=Rc h8.2;obtain⟨b1,b2,b3⟩:=hp b Ab;obtain⟨c1,c2,c3⟩:=hp c Ab;cases he:Ei b c with
  | true =>
   have hl:=(Mq he).1;obtain⟨x,hx⟩:∃x,b.kids[0]?=some x:=⟨_,List.getElem?_eq_getElem Aa⟩;rw[EO h8.1 he hx];obtain⟨bk,bi,bn,bl,bs⟩:=b;have hm:=List.mem_of_getElem? hx;have:=DH hm;simp only[size] at b3 ⊢;simp only[Tm.kids] at this;exact⟨Dw b1.2.2.2.2.1 x hm,by omega,Cm b2.2.2 x hm⟩
  | false =>
   rw[EG h8.1 he];exact⟨⟨h.1,h.2.1,h.2.2.1,h.2.2.2.1,⟨hpr.1,b1,c1,Ac⟩,h.2.2.2.2.2⟩,by have:=size_pos a;simp only[size,A0,hpr.2.2] at *;omega,⟨w.1,w.2.1,hpr.2.1,b2,c2,trivial⟩⟩
 rw[Cl h5 h8];exact⟨h,Nat.le_refl _,w⟩
theorem WN {P:Tm→Prop}(h:∀k i n l ks,(∀t∈ks,P t)→P (.mk k i n l ks)):∀t,P t:=by
 have:∀m t,size t≤m→P t:=by
  intro m
  induction m with
  | zero=>intro t ht;have:=size_pos t;omega
  | succ m ih =>
   intro t ht;obtain⟨k,i,n,l,ks⟩:=t;exact h k i n l ks fun x hx=>ih x (by have:=DH hx;simp only[size] at ht;omega)
 exact fun t=>this _ t (Nat.le_refl _)
theorem Kv:∀t,Nd t→Wt t→Nd (Cr t)∧size (Cr t)≤size t∧Wt (Cr t):=by
 refine WN fun k i n l ks ih h w=>?_;have hk:∀t∈ks,Nd (Cr t)∧size (Cr t)≤size t∧Wt (Cr t):=fun t ht=>ih t ht (Dw h.2.2.2.2.1 t ht) (Cm w.2.2 t ht);have h2:Nd (.mk k i n l (ks.map Cr)):=⟨h.1,h.2.1,h.2.2.1,by rw[List.length_map];exact h.2.2.2.1,Uj fun t ht=>(hk t ht).1,h.2.2.2.2.2⟩;have w2:Wt (.mk k i n l (ks.map Cr)):=⟨by rw[List.length_map];exact w.1,w.2.1,QW fun t ht=>(hk t ht).2.2⟩;have s2:A0 (ks.map Cr)≤A0 ks:=MN fun t ht=>(hk t ht).2.1;rw[DP];obtain⟨a,b,c⟩:=YC (oc:=fun f=>HI 0 0 f) (fun t ht wt=>Vc ht wt) h2 w2;exact⟨a,by simp only[size] at b ⊢;omega,c⟩
end Go.Eu
namespace Go.Proofs.YtldfmjoncbjldaaGreat
open Go.Abs Go.Eu
end Go.Proofs.YtldfmjoncbjldaaGreat
namespace Go.Eu
open Go.Abs
mutual
theorem KN:∀(t:Tm) (d:Int),Wt t→Vp t→0≤d→d+size t<2199023255552→CT (Fx (QL (-1) 0)) t d ()=Iy (Be (-1) 0 d 0 t)
 | .mk k i n l ks,d,h1,h2,h3,h4=>by
  by_cases hk:k=0
  ·have hks:=NL h1 hk;have hi:=h2.1 hk;have e1:wr (0+d)=d:=by rw[Int.zero_add];exact DT (by unfold FR;omega)
   have e2:wr (i+ -1)=i+ -1:=DT (by unfold FR;omega);by_cases hlo:i - d<0
   ·rw[GN (NP hk (P5 hlo))];unfold Be;rw[if_pos hk,e1,if_pos Aa];subst hks;rfl
   by_cases h0:i - d<0 - (-1)
   ·rw[HH (KP hk (Qj hlo Aa h0))];unfold Be;rw[if_pos hk,e1,if_neg Aa,e2,if_pos Aa];rfl
   have hsh:QL (-1) 0 (.mk k i n l ks) d=FF (i+ -1):=PU hlo Aa;unfold Be;rw[if_pos hk,e1,if_neg Aa,e2,if_neg Aa];by_cases hbig:i+ -1 > 65535
   ·rw[HH (KP hk (hsh.trans (if_pos hbig)))];unfold Iy Jt E1;simp[hbig]
   rw[GN (NP hk (hsh.trans (if_neg hbig)))];unfold Iy Jt;simp[hbig]
  have hs:d+A0 ks<2199023255551:=by simp only[size] at h4;omega
  have hL:=JL k ks d 0 h1.2.2 h2.2 h3 hs;unfold Be;rw[if_neg hk];unfold Jo at hL;unfold Iy;by_cases he:(Bk (-1) 0 k d 0 0 ks).2=0
  ·rw[if_pos he] at hL;rw[if_pos he];exact GO (NA hk) hL
  rw[if_neg he] at hL;rw[if_neg he];exact I3 (NA hk) hL
theorem JL (k:Int):∀(ts:List Tm) (d:Int) (j:Nat),KQ ts→PZ ts→0≤d→d+A0 ts<2199023255551→Cb (Fx (QL (-1) 0)) k j ts d ()=Jo (Bk (-1) 0 k d j 0 ts)
 | [],d,j,h1,h2,h3,h4=>rfl
 | t::ts,d,j,h1,h2,h3,h4=>by
  have hbl:=Bn k j;simp only[A0] at h4;have hT:=KN t (d+below k j) h1.1 h2.1 Aa Aa;have hL:=JL k ts d (j+1) h1.2 h2.2 h3 Aa;unfold Cb Bk;rw[hT];unfold Iy Jo CH;by_cases he:(Be (-1) 0 (d+below k j) 0 t).2=0
  ·rw[if_pos he];simp only;rw[hL,he];unfold Jo;by_cases hq:(Bk (-1) 0 k d (j+1) 0 ts).2=0
   ·rw[if_pos hq,if_pos hq]
   rw[if_neg hq,if_neg hq]
  rw[if_neg he];simp only;rw[Fa (-1) 0 k ts d (j+1) _ he,if_neg he]
end
theorem Q1 {v:Tm}(h1:Wt v) (h2:Vp v) (h3:size v<1099511627776):JR (-1) v=FG (-1) v:=by
 unfold JR FG FE;rw[KN v 0 h1 h2 Aa Aa];unfold Iy;by_cases he:(Be (-1) 0 0 0 v).2=0
 ·rw[if_pos he,if_neg (by simp[he])];rfl
 rw[if_neg he,if_pos he];rfl
mutual
def Vb:Tm→Prop
 | .mk k i _ _ ks=>(k=0→0≤i∧i≤65535)∧R4 ks
def R4:List Tm→Prop
 | []=>True
 | t::ts=>Vb t∧R4 ts
end
theorem DJ {ts:List Tm}(h:R4 ts):∀t∈ts,Vb t:=by
 induction ts with
 | nil=>intro t ht;cases ht
 | cons a ts ih=>intro t ht;rcases List.mem_cons.1 ht with rfl | ht;exact h.1;exact ih h.2 t ht
theorem TC {ts:List Tm}(h:∀t∈ts,Vb t):R4 ts:=by
 induction ts with
 | nil=>trivial
 | cons t ts ih=>exact⟨h t Ab,ih fun x hx=>h x (by simp[hx])⟩
theorem Uz {ts:List Tm}{f:Tm→Tm}(h:∀t∈ts,Vb (f t)):R4 (ts.map f):=TC fun x hx=>by
 obtain⟨y,hy,rfl⟩:=List.mem_map.1 hx;exact h y hy
theorem Ug {ts:List Tm}(h:∀t∈ts,Vp t):PZ ts:=by
 induction ts with
 | nil=>trivial
 | cons t ts ih=>exact⟨h t Ab,ih fun x hx=>h x (by simp[hx])⟩
theorem Vb.vp:∀{t:Tm},Vb t→Vp t:= @(WN (P:=fun t=>Vb t→Vp t) fun k i n l ks ih h=>⟨fun e=>by have:=h.1 e;omega,Ug fun t ht=>ih t ht (DJ h.2 t ht)⟩)
mutual
theorem S7:∀(t:Tm) (d:Int),Wt t→Vb t→0≤d→d+size t<2199023255552→((Be (-1) 0 d 0 t).2=0↔HI 0 d t=false)
 | .mk k i n l ks,d,h1,h2,h3,h4=>by
  unfold Be HI;by_cases hk:k=0
  ·have hks:=NL h1 hk;have hi:=h2.1 hk;have e1:wr (0+d)=d:=by rw[Int.zero_add];exact DT (by unfold FR;omega)
   have e2:wr (i+ -1)=i+ -1:=DT (by unfold FR;omega);subst hks;rw[if_pos hk,e1,e2];simp only[Dq,Bool.or_false];by_cases hlo:i<d
   ·rw[if_pos hlo];simp[show ¬d≤i by omega]
   rw[if_neg hlo];by_cases h0:i+ -1<d
   ·rw[if_pos h0];simp[E1,hk,show d≤i by omega,show i - d=0 by omega]
   rw[if_neg h0];simp[Jt,E1,show ¬i+ -1 > 65535 by omega,show ¬i - d=0 by omega]
  have hs:d+A0 ks<2199023255551:=by simp only[size] at h4;omega
  rw[if_neg hk];simp only[hk,decide_false,Bool.false_and,Bool.false_or];exact Pz k ks d 0 h1.2.2 h2.2 h3 hs
theorem Pz (k:Int):∀(ts:List Tm) (d:Int) (j:Nat),KQ ts→R4 ts→0≤d→d+A0 ts<2199023255551→((Bk (-1) 0 k d j 0 ts).2=0↔Dq 0 d k j ts=false)
 | [],d,j,h1,h2,h3,h4=>by simp[Bk,Dq]
 | t::ts,d,j,h1,h2,h3,h4=>by
  have hbl:=Bn k j;simp only[A0] at h4;have hT:=S7 t (d+below k j) h1.1 h2.1 Aa Aa;have hL:=Pz k ts d (j+1) h1.2 h2.2 h3 Aa;unfold Bk Dq;simp only;rw[Bool.or_eq_false_iff];by_cases he:(Be (-1) 0 (d+below k j) 0 t).2=0
  ·rw[he,hL,←hT];simp[he]
  rw[Fa (-1) 0 k ts d (j+1) _ he,←hT];simp[he]
end
mutual
theorem MG:∀(t:Tm) (d er:Int),Wt t→Vb t→0≤d→d+size t<2199023255552→Vb (Be (-1) 0 d er t).1
 | .mk k i n l ks,d,er,h1,h2,h3,h4=>by
  unfold Be;by_cases hk:k=0
  ·have hi:=h2.1 hk;have e1:wr (0+d)=d:=by rw[Int.zero_add];exact DT (by unfold FR;omega)
   have e2:wr (i+ -1)=i+ -1:=DT (by unfold FR;omega);rw[if_pos hk,e1,e2];split
   ·exact h2
   split
   ·exact h2
   exact⟨fun _=>by omega,trivial⟩
  rw[if_neg hk];exact⟨fun e=>absurd e hk,K1 k ks d 0 er h1.2.2 h2.2 h3 (by simp only[size] at h4;omega)⟩
theorem K1 (k:Int):∀(ts:List Tm) (d:Int) (j:Nat) (er:Int),KQ ts→R4 ts→0≤d→d+A0 ts<2199023255551→R4 (Bk (-1) 0 k d j er ts).1
 | [],d,j,er,h1,h2,h3,h4=>trivial
 | t::ts,d,j,er,h1,h2,h3,h4=>by
  have hbl:=Bn k j;simp only[A0] at h4;exact⟨MG t (d+below k j) er h1.1 h2.1 Aa Aa,K1 k ts d (j+1) _ h1.2 h2.2 h3 Aa⟩
end
theorem VJ {t:Tm}(h1:Wt t) (h2:Vb t) (h3:size t<1099511627776):Vb (FG (-1) t).1:=by
 unfold FG;split
 ·exact⟨fun _=>by omega,trivial⟩
 exact MG t 0 0 h1 h2 Aa Aa
theorem OP {t:Tm}(h1:Wt t) (h2:Vb t) (h3:size t<1099511627776):(FG (-1) t).2=0↔HI 0 0 t=false:=by
 rw[←S7 t 0 h1 h2 Aa Aa];unfold FG;split
 ·exact Iff.rfl
 rename_i h;simpa using h
theorem QI {t:Tm}(h1:Wt t) (h2:Vb t) (h3:size t<1099511627776):(JR (-1) t).2=0↔HI 0 0 t=false:=by
 rw[Q1 h1 h2.vp h3];exact OP h1 h2 h3
theorem YO {oc:Tm→Bool}{sh:Tm→Tm}(hs:∀t,Wt t→Vb t→size t<1099511627776→Vb (sh t)) {k i:Int}{n:ByteArray}{l:List B6}{ks:List Tm}(w:Wt (.mk k i n l ks)) (v:Vb (.mk k i n l ks)) (hz:size (.mk k i n l ks)<1099511627776):Vb (L7 oc sh k i n l ks):=by
 have hp:∀a,a∈ks→Wt a∧Vb a∧size a+1≤size (.mk k i n l ks):=fun a ha=>⟨Cm w.2.2 a ha,DJ v.2 a ha,by have:=DH ha;simp only[size];omega⟩;have hpr:Vb CF:=⟨fun e=>absurd e AZ,trivial⟩;by_cases h5:k=5∧ks.length=2
 ·obtain⟨a,b,rfl⟩:=Og h5.2;obtain⟨b1,b2,b3⟩:=hp b Ab;have hno:Vb (.mk k i n l [CF,b]):=⟨v.1,hpr,b2,trivial⟩;cases he:Ej b with
  | true =>
   have hl:=JZ he;obtain⟨x,hx⟩:∃x,b.kids[0]?=some x:=⟨_,List.getElem?_eq_getElem Aa⟩;cases ho:oc x with
   | false =>
    rw[Ds h5.1 he hx ho];obtain⟨bk,bi,bn,bl,bs⟩:=b;have hm:=List.mem_of_getElem? hx;exact hs x (Cm b1.2.2 x hm) (DJ b2.2 x hm) (by have:=DH hm;simp only[size,Tm.kids] at b3 this hz;omega)
   | true =>
    rw[CP h5.1 (fun _ y hy=>by rw[hx] at hy;injection hy with hy;rw[←hy];exact ho)];exact hno
  | false =>
   rw[CP h5.1 (fun e=>by rw[he] at e;cases e)];exact hno
 by_cases h8:k=8∧ks.length=3
 ·obtain⟨a,b,c,rfl⟩:=Rc h8.2;obtain⟨b1,b2,b3⟩:=hp b Ab;obtain⟨c1,c2,c3⟩:=hp c Ab;cases he:Ei b c with
  | true =>
   have hl:=(Mq he).1;obtain⟨x,hx⟩:∃x,b.kids[0]?=some x:=⟨_,List.getElem?_eq_getElem Aa⟩;rw[EO h8.1 he hx];obtain⟨bk,bi,bn,bl,bs⟩:=b;exact DJ b2.2 x (List.mem_of_getElem? hx)
  | false =>
   rw[EG h8.1 he];exact⟨v.1,hpr,b2,c2,Ac⟩
 rw[Cl h5 h8];exact v
theorem PD:∀t,Nd t→Wt t→Vb t→size t<1099511627776→Vb (Cr t):=by
 refine WN fun k i n l ks ih h w v hz=>?_;have hk:∀t∈ks,Nd (Cr t)∧size (Cr t)≤size t∧Wt (Cr t):=fun t ht=>Kv t (Dw h.2.2.2.2.1 t ht) (Cm w.2.2 t ht);have w2:Wt (.mk k i n l (ks.map Cr)):=⟨by rw[List.length_map];exact w.1,w.2.1,QW fun t ht=>(hk t ht).2.2⟩;have v2:Vb (.mk k i n l (ks.map Cr)):=⟨v.1,Uz fun t ht=>ih t ht (Dw h.2.2.2.2.1 t ht) (Cm w.2.2 t ht) (DJ v.2 t ht) (by have:=DH ht;simp only[size] at hz;omega)⟩;have s2:A0 (ks.map Cr)≤A0 ks:=MN fun t ht=>(hk t ht).2.1;rw[DP];exact YO (fun t ht vt zt=>VJ ht vt zt) w2 v2 (by simp only[size] at hz ⊢;omega)
theorem Zb {f:Tm→Tm}{ts:List Tm}{i:Nat}{x:Tm}(hx:ts[i]?=some x):(((ts.take i).map f)++List.replicate (ts.length - i) BF).set i (f x)=(ts.take (i+1)).map f++List.replicate (ts.length - (i+1)) BF:=by
 have hi:i<ts.length:=by
  have:=List.getElem?_eq_some_iff.1 hx;exact this.1
 rw[Ns (by rw[List.length_map,List.length_take];omega) Aa,List.take_add_one,hx,List.map_append];rfl
theorem Pd {α:Type}{a b:List α}(hl:a.length=b.length) (h:∀j,j<a.length→∀x,a[j]?=some x→b[j]?=some x):a=b:=by
 refine List.ext_getElem? fun j=>?_;rcases Nat.lt_or_ge j a.length with q | q
 ·rw[List.getElem?_eq_getElem q];exact(h j q _ (List.getElem?_eq_getElem q)).symm
 rw[List.getElem?_eq_none q,List.getElem?_eq_none Aa]
theorem Qf {c d:Int}{u v:List Bm}:JW (B6.mk c u) (B6.mk d v)=((c==d)&&JW u v):=by
 rw[Bool.eq_iff_iff,EA];simp[EA]
theorem Kg {k i k' i':Int}{n n':ByteArray}{l l':List B6}{s s':List Tm}:JW (Tm.mk k i n l s) (Tm.mk k' i' n' l' s')=(((((k==k')&&(i==i'))&&(n.toList==n'.toList))&&JW l l')&&JW s s'):=by
 rw[Bool.eq_iff_iff,EA];simp only[Tm.mk.injEq,Bool.and_eq_true,EA,beq_iff_eq];constructor
 ·rintro⟨rfl,rfl,rfl,rfl,rfl⟩;exact⟨⟨⟨⟨rfl,rfl⟩,rfl⟩,rfl⟩,rfl⟩
 rintro⟨⟨⟨⟨rfl,rfl⟩,e⟩,rfl⟩,rfl⟩;exact⟨rfl,rfl,Hp e,rfl,rfl⟩
theorem Ms {k i:Int}{n:ByteArray}{l:List B6}{ts:List Tm}(h:ts.length=0):Cr (.mk k i n l ts)= .mk k i n l ts:=by
 obtain rfl:ts=[]:=List.length_eq_zero_iff.1 h;rw[DP];exact Cl Ab Ab
end Go.Eu
namespace Go.Proofs.YtldfmjoncbjldaaGreat
open Go.Abs Go.Eu
theorem W9:∀(a b:List Bm),(a.length<Cu)→Dl Tryz.prog 130 [.p (.lst (List.map HN a)),.p (.lst (List.map HN b))] (.p (.bool (JW a b))):=by
 intro a b h1;simp only[Cu] at h1;refine An Tryz.func130 O Yv (n:=26) O O (Ae Aj 1 [] O (Af (Al (BY O (Ah O (A7 DO O (List.length_map _)) (BY O (Ah O (A7 DO O (List.length_map _)) (Ad Aj 1 [] O (Ag O (fun c=>?_) (fun c=>?_))))))))))
 ·(try simp only[sd,se] at c);refine Ae Aj 1 [] O (Ai (⟨O,_,_,⟨_,_,O,O,O⟩,(List.nil_sublist _),?_⟩))
  all_goals exact⟨by show (.p (.bool false):AV)=_;rw[Cf (fun h=>by subst h;simp at c)],rfl⟩
 (try simp only[sd,se] at c);refine Ak (Af (Al (BY O (Ah O (A7 DO O (List.length_map _)) (Ad Aj 1 [] O (Au ?_))))));refine BZ (α:=Nat) (fun i=>⟨26,mk [(0,.p (.lst (List.map HN a))),(1,.p (.lst (List.map HN b))),(12,.p (I (a.length:Nat))),(13,.p (I (i:Int)))],[],[]⟩) (fun i=>a.length - i) (fun i=>i≤a.length∧(∀j,j<i→∀x,a[j]?=some x→b[j]?=some x)) 0 (⟨by omega,fun j h=>by omega⟩) ?_ ?_
 ·exact BO ⟨we O,we O,we O,we O,Ac⟩ (leH (is:=[]) O (DM))
 rintro i hC
 try simp only at hC
 obtain⟨hi,hC⟩:=hC;refine Ae Aj 1 [] O (Af (Ag O (fun c1=>?_) (fun c1=>?_)))
 ·(try simp only[sd,se] at c1);refine Ak (Af (Au (Ae Aj 2 [] O (Af (Bq (fun k=>false) Er (BC Aj 2 [] O ?_))))));obtain⟨x,hx⟩:=Ar (l:=a) (i:=i) Aa;refine A5 O (fun _=>Aq DO O O Aa (DV hx) (O)) Ac (BC Aj 3 [] O ?_);obtain⟨x1,hx1⟩:=Ar (l:=b) (i:=i) Aa;refine A5 O (fun _=>Aq DO O O Aa (DV hx1) (O)) Ac (A5 O (fun _=>BE Sl O (O)) Ac (A5 O (fun _=>Lm WO O O) Ac (GU O AW (Ag O (fun c2=>?_) (fun c2=>?_)))))
  ·(try simp only[sd,se] at c2);refine Ae Aj 1 [] O (Ai (⟨O,_,_,⟨_,_,O,O,O⟩,(List.nil_sublist _),?_⟩))
   all_goals exact⟨by show (.p (.bool false):AV)=_;rw[Cf (fun h=>by subst h;rw[hx] at hx1;injection hx1 with e;subst e;simp[CN] at c2)],rfl⟩
  (try simp only[sd,se] at c2);refine Ak (Ao (Ad Aj 2 [] O (⟨(i+1),AK,⟨by omega,Dk (p:=fun j x=>b[j]?=some x) hC hx (by have e:x=x1:=(by obtain⟨_,_⟩:=x;obtain⟨_,_⟩:=x1;simp at c2;simp[c2]);rw[e];exact hx1)⟩,BO ⟨we rfl,we rfl,we rfl,we rfl,trivial⟩ (leH (is:=[]) rfl (DM))⟩)))
 (try simp only[sd,se] at c1);refine BS (Ae Aj 1 [] O (Ai (⟨O,_,_,⟨_,_,O,O,O⟩,(List.nil_sublist _),?_⟩)))
 all_goals exact⟨by show (.p (.bool true):AV)=_;rw[CN (Pd Aa fun j hj x hx=>hC j Aa x hx)],rfl⟩
theorem SA:∀(a b:B6),(a.vars.length<Cu)→Dl Tryz.prog 83 [.agg ((By a).map .p),.agg ((By b).map .p)] (.p (.bool (JW a b))):=by
 intro a b h1;refine An Tryz.func83 O dZ (n:=17) O O (Al (A2 O (A9 O) fun b2=>A2 O (A9 O) fun b3=>Ad Aj 1 [] O (Af (BL [] 4 (fun y=>y= .p (.bool (JW a b))) ?_ ?_))))
 ·refine Ao (Am Aj 6 [1,0] O (A6 10 O (fun g=>?_) (fun g=>?_)))
  ·(try simp only[sd,se] at g);exact Am Aj 4 [1,0] O (Ba O (Av O O (W9 a.vars b.vars h1) O) (Ad Aj 2 [] O ⟨O,O,AG,(by rw[Qf];first | rfl | (refine pB ?_;simp_all)),Ac⟩))
  (try simp only[sd,se] at g);exact Ad Aj 7 [] O ⟨O,O,AG,(by rw[Qf];first | rfl | (refine pB ?_;simp_all)),Ac⟩
 rintro _ rfl;refine Ai (⟨O,_,_,⟨_,_,O,O,O⟩,(List.nil_sublist _),?_⟩)
 all_goals exact⟨rfl,rfl⟩
theorem UR:∀(a b:List B6),(a.length<Cu)→(∀l∈a,We l)→Dl Tryz.prog 82 [.p (.lst (List.map By a)),.p (.lst (List.map By b)),.p (.fn 83)] (.p (.bool (JW a b))):=by
 intro a b h1 h2;simp only[Cu] at h1;refine An Tryz.func82 O cG (n:=32) O O (Ae Aj 1 [] O (Af (Al (BY O (Ah O (A7 Ek O (List.length_map _)) (BY O (Ah O (A7 Ek O (List.length_map _)) (Ad Aj 1 [] O (Ag O (fun c=>?_) (fun c=>?_))))))))))
 ·(try simp only[sd,se] at c);refine Ae Aj 1 [] O (Ai (⟨O,_,_,⟨_,_,O,O,O⟩,(List.nil_sublist _),?_⟩))
  all_goals exact⟨by show (.p (.bool false):AV)=_;rw[Cf (fun h=>by subst h;simp at c)],rfl⟩
 (try simp only[sd,se] at c);refine Ak (Af (Al (BY O (Ah O (A7 Ek O (List.length_map _)) (Ad Aj 1 [] O (Au ?_))))));refine BZ (α:=Nat) (fun i=>⟨32,mk [(1,.p (.lst (List.map By b))),(2,.p (.fn 83)),(15,.p (.lst (List.map By a))),(16,.p (I (a.length:Nat))),(17,.p (I (i:Int)))],[],[]⟩) (fun i=>a.length - i) (fun i=>i≤a.length∧(∀j,j<i→∀x,a[j]?=some x→b[j]?=some x)) 0 (⟨by omega,fun j h=>by omega⟩) ?_ ?_
 ·exact BO ⟨we O,we O,we O,we O,we O,Ac⟩ (leH (is:=[]) O (DM))
 rintro i hC
 try simp only at hC
 obtain⟨hi,hC⟩:=hC;refine Ae Aj 1 [] O (Af (Ag O (fun c1=>?_) (fun c1=>?_)))
 ·(try simp only[sd,se] at c1);refine Ak (Af (Au (Al (BY O ?_))));obtain⟨x,hx⟩:=Ar (l:=a) (i:=i) Aa;refine Ah O (Aq Ek O O Aa (Ef hx) (Cq _)) (Ah O (BE Ls O (Cq _)) (A2 O (As Lr O) fun b8=>Ad Aj 2 [0,1] O (Al (Am Aj 2 [] O ?_))));obtain⟨x1,hx1⟩:=Ar (l:=b) (i:=i) Aa;refine Ah O (Aq Ek O O Aa (Ef hx1) (Cq _)) (Ah O (BE Ls O (Cq _)) (A2 O (As Lr O) fun b9=>Ad Aj 1 [0,1] O (Al (Am Aj 3 [1,0] O (Ah O (Av O O (SA x x1 (h2 x (List.mem_of_getElem? hx)).vars) O) (Ad Aj 1 [] O (Ag O (fun c2=>?_) (fun c2=>?_))))))))
  ·(try simp only[sd,se] at c2);refine Ae Aj 1 [] O (Ai (⟨O,_,_,⟨_,_,O,O,O⟩,(List.nil_sublist _),?_⟩))
   all_goals exact⟨by show (.p (.bool false):AV)=_;rw[Cf (fun h=>by subst h;rw[hx] at hx1;injection hx1 with e;subst e;simp[CN] at c2)],rfl⟩
  (try simp only[sd,se] at c2);refine Ak (Ao (Ad Aj 2 [] O (⟨(i+1),AK,⟨by omega,Dk (p:=fun j x=>b[j]?=some x) hC hx (by have e:x=x1:=EA.1 (by simpa using c2);rw[e];exact hx1)⟩,BO ⟨we rfl,we rfl,we rfl,we rfl,we rfl,trivial⟩ (leH (is:=[]) rfl (DM))⟩)))
 (try simp only[sd,se] at c1);refine BS (Ae Aj 1 [] O (Ai (⟨O,_,_,⟨_,_,O,O,O⟩,(List.nil_sublist _),?_⟩)))
 all_goals exact⟨by show (.p (.bool true):AV)=_;rw[CN (Pd Aa fun j hj x hx=>hC j Aa x hx)],rfl⟩
theorem Va:∀(n:Nat) (a b:List Tm),(∀x y:Tm,size x≤n→Nd x→Dl Tryz.prog 44 [TV x,TV y] (.p (.bool (JW x y))))→(A0 a≤n)→(JP a)→(a.length<Cu)→Dl Tryz.prog 84 [.p (.lst (Ax a)),.p (.lst (Ax b)),.p (.fn 44)] (.p (.bool (JW a b))):=by
 intro n a b h1 h2 h3 h4;simp only[Cu] at h4;refine An Tryz.func84 O bQ (n:=32) O O (Ae Aj 1 [] O (Af (Al (BY O (Ah O (A7 BJ O (A1 _)) (BY O (Ah O (A7 BJ O (A1 _)) (Ad Aj 1 [] O (Ag O (fun c=>?_) (fun c=>?_))))))))))
 ·(try simp only[sd,se] at c);refine Ae Aj 1 [] O (Ai (⟨O,_,_,⟨_,_,O,O,O⟩,(List.nil_sublist _),?_⟩))
  all_goals exact⟨by show (.p (.bool false):AV)=_;rw[Cf (fun h=>by subst h;simp at c)],rfl⟩
 (try simp only[sd,se] at c);refine Ak (Af (Al (BY O (Ah O (A7 BJ O (A1 _)) (Ad Aj 1 [] O (Au ?_))))));refine BZ (α:=Nat) (fun i=>⟨32,mk [(1,.p (.lst (Ax b))),(2,.p (.fn 44)),(15,.p (.lst (Ax a))),(16,.p (I (a.length:Nat))),(17,.p (I (i:Int)))],[],[]⟩) (fun i=>a.length - i) (fun i=>i≤a.length∧(∀j,j<i→∀x,a[j]?=some x→b[j]?=some x)) 0 (⟨by omega,fun j h=>by omega⟩) ?_ ?_
 ·exact BO ⟨we O,we O,we O,we O,we O,Ac⟩ (leH (is:=[]) O (DM))
 rintro i hC
 try simp only at hC
 obtain⟨hi,hC⟩:=hC;refine Ae Aj 1 [] O (Af (Ag O (fun c1=>?_) (fun c1=>?_)))
 ·(try simp only[sd,se] at c1);refine Ak (Af (Au (Al (BY O ?_))));obtain⟨x,hx⟩:=Ar (l:=a) (i:=i) Aa;refine Ah O (Aq BJ O O Aa (BI hx) (Az _)) (Ah O (BE Bd O (Az _)) (A2 O (As Bf O) fun b8=>Ad Aj 2 [0,1] O (Al (Am Aj 2 [] O ?_))));obtain⟨x1,hx1⟩:=Ar (l:=b) (i:=i) Aa;refine Ah O (Aq BJ O O Aa (BI hx1) (Az _)) (Ah O (BE Bd O (Az _)) (A2 O (As Bf O) fun b9=>Ad Aj 1 [0,1] O (Al (Am Aj 3 [1,0] O (Ah O (Av O O (h1 x x1 (by have:=Bp hx;omega) (CK h3 hx)) O) (Ad Aj 1 [] O (Ag O (fun c2=>?_) (fun c2=>?_))))))))
  ·(try simp only[sd,se] at c2);refine Ae Aj 1 [] O (Ai (⟨O,_,_,⟨_,_,O,O,O⟩,(List.nil_sublist _),?_⟩))
   all_goals exact⟨by show (.p (.bool false):AV)=_;rw[Cf (fun h=>by subst h;rw[hx] at hx1;injection hx1 with e;subst e;simp[CN] at c2)],rfl⟩
  (try simp only[sd,se] at c2);refine Ak (Ao (Ad Aj 2 [] O (⟨(i+1),AK,⟨by omega,Dk (p:=fun j x=>b[j]?=some x) hC hx (by have e:x=x1:=EA.1 (by simpa using c2);rw[e];exact hx1)⟩,BO ⟨we rfl,we rfl,we rfl,we rfl,we rfl,trivial⟩ (leH (is:=[]) rfl (DM))⟩)))
 (try simp only[sd,se] at c1);refine BS (Ae Aj 1 [] O (Ai (⟨O,_,_,⟨_,_,O,O,O⟩,(List.nil_sublist _),?_⟩)))
 all_goals exact⟨by show (.p (.bool true):AV)=_;rw[CN (Pd Aa fun j hj x hx=>hC j Aa x hx)],rfl⟩
theorem Uh:∀(n:Nat) (a b:Tm),(size a≤n)→(Nd a)→Dl Tryz.prog 44 [.agg ((A3 a).map .p),.agg ((A3 b).map .p)] (.p (.bool (JW a b))):=by
 intro n
 induction n with
 | zero=>intro a b h1;cases a;simp[size] at h1
 | succ n ih =>
  intro a b h1 h2;obtain⟨ak,ai,an,al,as1⟩:=a;simp only[size] at h1;simp only[Nd,Cu] at h2;obtain⟨bk,bi,bn,bl,bs⟩:=b;refine An Tryz.func44 O bV (n:=38) O O (Al (A2 O (A9 O) fun b2=>A2 O (A9 O) fun b3=>Ad Aj 1 [] O (Af (BL [] 4 (fun y=>y= .p (.bool (JW (Tm.mk ak ai an al as1) (Tm.mk bk bi bn bl bs)))) ?_ ?_))))
  ·refine Ao (Am Aj 6 [1,0] O (A6 10 O (fun g=>?_) (fun g=>?_)))
   ·(try simp only[sd,se] at g);refine Am Aj 7 [1,0] O (A6 17 O (fun g1=>?_) (fun g1=>?_))
    ·(try simp only[sd,se] at g1);refine Am Aj 4 [1,0] O (Ba O (MM O O) (Am Aj 2 [] O (A6 24 O (fun g2=>?_) (fun g2=>?_))))
     ·(try simp only[sd,se] at g2);refine Am Aj 4 [1,0] O (Ba O (Av O O (UR al bl h2.2.1 h2.2.2.1) O) (Am Aj 2 [] O (A6 31 O (fun g3=>?_) (fun g3=>?_))))
      ·(try simp only[sd,se] at g3);exact Am Aj 4 [1,0] O (Ba O (Av O O (Va n as1 bs ih Aa h2.2.2.2.2.1 h2.2.2.2.1) O) (Ad Aj 2 [] O ⟨O,O,AG,(by rw[Kg];first | rfl | (refine pB ?_;simp_all)),Ac⟩))
      (try simp only[sd,se] at g3);exact Ad Aj 7 [] O ⟨O,O,AG,(by rw[Kg];first | rfl | (refine pB ?_;simp_all)),Ac⟩
     (try simp only[sd,se] at g2);exact Ad Aj 14 [] O ⟨O,O,AG,(by rw[Kg];first | rfl | (refine pB ?_;simp_all)),Ac⟩
    (try simp only[sd,se] at g1);exact Ad Aj 21 [] O ⟨O,O,AG,(by rw[Kg];first | rfl | (refine pB ?_;simp_all)),Ac⟩
   (try simp only[sd,se] at g);exact Ad Aj 28 [] O ⟨O,O,AG,(by rw[Kg];first | rfl | (refine pB ?_;simp_all)),Ac⟩
  rintro _ rfl;refine Ai (⟨O,_,_,⟨_,_,O,O,O⟩,(List.nil_sublist _),?_⟩)
  all_goals exact⟨rfl,rfl⟩
theorem _root_.Go.AI {α:Prop}(h:α:=by first | (simp[A1];done) | (simp[A1];omega)):α:=h
set_option maxHeartbeats 4000000 in
theorem GA:∀(n:Nat) (t:Tm),(size t≤n)→(Nd t)→(Wt t)→(Vb t)→(size t≤1000000)→Dl Tryz.prog 18 [.agg ((A3 t).map .p)] (.agg ((A3 (Cr t)).map .p)):=by
 intro n
 induction n with
 | zero=>intro t h1;cases t;simp[size] at h1
 | succ n ih =>
  intro t h1 h2 h3 h4 h5;have hle:=Kv;obtain⟨tk,ti,tn,tl,ts⟩:=t;simp only[size] at h1 h5;have hn:=h2;simp only[Nd,Cu] at hn;have hw:=h3;simp only[Wt] at hw;have hkp:∀z∈ts,Nd (Cr z)∧Wt (Cr z)∧size (Cr z)+1≤1000000∧Vb (Cr z):=by
   intro z hz;obtain⟨q1,q2,q3⟩:=Kv z (Dw hn.2.2.2.2.1 z hz) (Cm hw.2.2 z hz);have:=DH hz;exact⟨q1,q3,by omega,PD z (Dw hn.2.2.2.2.1 z hz) (Cm hw.2.2 z hz) (DJ h4.2 z hz) Aa⟩
  refine An Tryz.func18 O br (n:=141) O O (Al (A2 O (A9 O) fun b1=>A2 O (As Bf O) fun b2=>Bb O (Af (Al (Am Aj 2 [1] O (Ah O (A7 BJ O (A1 _)) (Ad Aj 1 [] O (Ag O (fun c=>?_) (fun c=>?_)))))))))
  ·(try simp only[sd,se] at c);refine Ae Aj 2 [1,0,0] O (Ai (⟨O,_,_,⟨_,_,O,(BA (i:=0) Bd O O O),O⟩,(List.nil_sublist _),?_⟩))
   all_goals exact⟨by show (.agg [.p (I tk),.p (I ti),.p (.str tn),.p (.lst (List.map By tl)),.p (.lst (Ax ts))]:AV)=_;rw[Ms (ts:=ts) Aa]<;>rfl,rfl⟩
  (try simp only[sd,se] at c);refine Ak (Al (Am Aj 2 [1] O (Ah O (A7 BJ O (A1 _)) (Pb O O (Ee BJ Bf O O AZ O O O Aa Aa Aa (WW (((ts.length:Nat):Int).toNat) (.mk 0 0 ⟨#[]⟩ [] []:Tm))) fun b19 cp=>Ad Aj 1 [] O (Af (Al (Am Aj 2 [2] O (Ah O (A7 BJ O (A1 _)) (Ad Aj 1 [] O (Au ?_))))))))));refine BZ (α:=Nat×Option Nat×Nat) (fun(i,o,cp1)=>⟨141,mk [(1,.ptr b1 0),(2,.ptr b2 0),(3,.vs o (Ax ((ts.take i).map Cr++List.replicate (ts.length - i) BF)).length cp1),(21,.p (.lst (Ax ts))),(22,.p (I (ts.length:Nat))),(23,.p (I (i:Int)))],[.vec o 5 (Ax ((ts.take i).map Cr++List.replicate (ts.length - i) BF)) cp1,.box b2 [.p (I 0),.p (I 0),.p (.str ⟨#[]⟩),.p (.nils),.p (.nils)],.box b1 [.p (I tk),.p (I ti),.p (.str tn),.p (.lst (List.map By tl)),.p (.lst (Ax ts))]],[]⟩) (fun(i,o,cp1)=>ts.length - i) (fun(i,o,cp1)=>i≤ts.length) ⟨0,(some b19),cp⟩ AJ ?_ ?_
  ·exact BO ⟨we O,we O,we (O5 (List.replicate (((ts.length:Nat):Int).toNat) (.mk 0 0 ⟨#[]⟩ [] []:Tm)) (by simp[BF])),we O,we O,we O,Ac⟩ (leH (is:=[0,1,2]) O (wl (Ip (List.replicate (((ts.length:Nat):Int).toNat) (.mk 0 0 ⟨#[]⟩ [] []:Tm)) (by simp[BF])) (wl (oe O) (wl (oe O) (DM)))))
  rintro⟨i,o,cp1⟩ hC
  try simp only at hC
  have hi:=hC;refine Ae Aj 1 [] O (Af (Ag O (fun c1=>?_) (fun c1=>?_)))
  ·(try simp only[sd,se] at c1);refine Ak (Af (Au (Al (BY O ?_))));obtain⟨x,hx⟩:=Ar (l:=ts) (i:=i) Aa;refine Ah O (Aq BJ O O Aa (BI hx) (Az _)) (Ah O (BE Bd O (Az _)) (A2 O (As Bf O) fun b5=>Ad Aj 2 [0,1] O (Ao (Am Aj 3 [0] O (Ah O (Av O O (ih x (by have:=Bp hx;omega) (CK hn.2.2.2.2.1 hx) (QZ hw.2.2 hx) (DJ h4.2 _ (List.mem_of_getElem? hx)) (by have:=Bp hx;omega)) O) (NI (i:=1) O AI fun b hb=>?_))))));subst hb;refine Ah O (CV BJ O O Aa AI) (Ah O (CY (i:=1) (j:=i) Bd O O O AI O (H6 _) (Az _) (HF _) (L0 ((ts.take i).map Cr++List.replicate (ts.length - i) BF) i (Cr x))) (Bb O (Ao (Ad Aj 2 [] O ?_))));refine⟨⟨i+1,(some b),cp1⟩,AK,by omega,BO ⟨we rfl,we rfl,we (Ep ((ts.take i).map Cr++List.replicate (ts.length - i) BF) AU),we rfl,we rfl,we rfl,trivial⟩ (leH (is:=[1,2,3]) rfl (wl (Ip (((ts.take i).map Cr++List.replicate (ts.length - i) BF).set i (Cr x)) (Zb hx)) (wl (oe rfl) (wl (oe rfl) (DM)))))⟩
  (try simp only[sd,se] at c1);generalize hK:(ts.take i).map Cr++List.replicate (ts.length - i) BF=K;have hKe:ts.map Cr=K:=by rw[←hK,List.take_of_length_le Aa,show ts.length - i=0 by omega,List.replicate_zero,List.append_nil]
  have hKp:∀y∈K,Nd y∧Wt y∧size y+1≤1000000∧Vb y:=by
   intro y hy;rw[←hKe] at hy;obtain⟨z,hz,rfl⟩:=List.mem_map.1 hy;exact hkp z hz
  refine BS (Ae Aj 3 [2,0] O (Af (Au (Af (BL [1,2,3] 36 (fun y=>y= .p (.bool (((tk:Int)==(5:Int))&&(((K.length:Nat):Int)==(2:Int))))) ?_ ?_)))))
  ·refine Ao (Am Aj 4 [2] O (A6 40 O (fun g=>?_) (fun g=>?_)))
   ·(try simp only[sd,se] at g);exact Ba O (Ch O) (Ba O (K7 BJ O (A1 _)) (Ad Aj 3 [] O (⟨O,O,AG,AF,⟨O,O,O,Ac⟩⟩)))
   (try simp only[sd,se] at g);exact Ad Aj 5 [] O (⟨O,O,AG,AF,⟨O,O,O,Ac⟩⟩)
  rintro _ rfl;refine Ag O (fun c2=>?_) (fun c2=>?_)
  ·(try simp only[sd,se] at c2);obtain⟨hk5,hl2⟩:tk=5∧K.length=2:=by
    have q:=c2;exact⟨q.1,by omega⟩
   obtain⟨k0,k1,rfl⟩:=Og hl2;obtain⟨hk1n,hk1w,hk1z,hk1v⟩:=hKp k1 Ab;refine Al (Am Aj 2 [] O (NI (i:=0) O AI fun b hb=>?_));subst hb;refine Ah O (CV BJ O O Aa AI) (Ah O (CY (i:=0) (j:=0) Bd O O O AI O O O O (L0 [k0,k1] 0 (.mk 1 0 ⟨#[]⟩ [] []:Tm))) (Bb O (Al (Br (B1 (i:=0) (j:=2) (q:=4) (rows:=Ax [CF,k1]) [3,45] O O O (Da ⟨O,O,Ac⟩)) (BY O (Ah O (Aq BJ O O Aa (BI O) (Az _)) (Ah O (BE Bd O (Az _)) (A2 O (As Bf O) fun b6=>Ad Aj 1 [0,1] O (Af (Af (BL [1,2,6] 75 (fun y=>y= .p (.bool (!Ej k1))) ?_ ?_)))))))))))
   ·refine Ao (Ah O (BH K2 O O) ?_);obtain⟨k1k,k1i,k1n,k1l,k1s⟩:=k1;(try simp only[Tm.kids] at hl1);have hn1:=hk1n;simp only[Nd,Cu] at hn1;simp only[size] at hk1z;refine Am Aj 3 [0] O (A6 54 O (fun g=>?_) (fun g=>?_))
    ·(try simp only[sd,se] at g);refine Ad Aj 21 [] O ?_;exact⟨rfl,rfl,AG,(by refine pB ?_;simp_all [QG,Ej,Tm.kind,Tm.kids,Tm.index,List.getD_eq_getElem?_getD]<;>first | rfl | (simp[bne];done)),⟨rfl,rfl,rfl,trivial⟩⟩
    (try simp only[sd,se] at g);refine Am Aj 2 [0] O (Ba O (A7 BJ O (A1 _)) (Am Aj 3 [] O (A6 60 O (fun g1=>?_) (fun g1=>?_))))
    ·(try simp only[sd,se] at g1);refine Ad Aj 15 [] O ?_;exact⟨rfl,rfl,AG,(by refine pB ?_;simp_all [QG,Ej,Tm.kind,Tm.kids,Tm.index,List.getD_eq_getElem?_getD]<;>first | rfl | (simp[bne];done)),⟨rfl,rfl,rfl,trivial⟩⟩
    (try simp only[sd,se] at g1);refine Am Aj 2 [0] O ?_;obtain⟨x,hx⟩:=Ar (l:=k1s) (i:=1) Aa;refine Ba O (Aq BJ O O Aa (BI hx) (Az _)) ?_;obtain⟨xk,xi,xn,xl,xs⟩:=x;refine Am Aj 5 [] O (A6 68 O (fun g2=>?_) (fun g2=>?_))
    ·(try simp only[sd,se] at g2);refine Ad Aj 7 [] O ?_;exact⟨rfl,rfl,AG,(by refine pB ?_;simp_all [QG,Ej,Tm.kind,Tm.kids,Tm.index,List.getD_eq_getElem?_getD]<;>first | rfl | (simp[bne];done)),⟨rfl,rfl,rfl,trivial⟩⟩
    (try simp only[sd,se] at g2);refine Am Aj 2 [0] O (Ba O (Aq BJ O O Aa (BI hx) (Az _)) (Ad Aj 4 [] O ?_));exact⟨rfl,rfl,AG,(by refine pB ?_;simp_all [QG,Ej,Tm.kind,Tm.kids,Tm.index,List.getD_eq_getElem?_getD]<;>first | rfl | (simp[bne];done)),⟨rfl,rfl,rfl,trivial⟩⟩
   rintro _ rfl;refine Ag O (fun c3=>?_) (fun c3=>?_)
   ·(try simp only[sd,se] at c3);have hce:Ej k1=false:=by simpa using c3
    refine BS (Ae Aj 2 [2,1,0] O (Ai (⟨O,_,_,⟨_,_,O,(BA (i:=1) Bd O O O),O⟩,(List.nil_sublist _),?_⟩)))
    all_goals exact⟨by show (.agg [.p (I tk),.p (I ti),.p (.str tn),.p (.lst (List.map By tl)),.p (.lst (Ax [CF,k1]))]:AV)=_;rw[DP,hKe,CP hk5 (fun e=>by simp[hce] at e)]<;>rfl,rfl⟩
   (try simp only[sd,se] at c3);have hce:Ej k1=true:=by simpa using c3
   have hl1:=JZ hce;refine Ak (Al (Ah O (BH K2 O O) ?_));obtain⟨k1k,k1i,k1n,k1l,k1s⟩:=k1;(try simp only[Tm.kids] at hl1);have hn1:=hk1n;simp only[Nd,Cu] at hn1;simp only[size] at hk1z;refine Ah O (BU (i:=0) Tl O O O) ?_;obtain⟨x,hx⟩:=Ar (l:=k1s) (i:=0) Aa;refine Ah O (Aq BJ O O Aa (BI hx) (Az _)) (Ah O (BE Bd O (Az _)) (Ah O (Av O O (UH x (-1) Aa (CK hn1.2.2.2.2.1 hx) (DJ hk1v.2 _ (List.mem_of_getElem? hx)).vp (by have:=Bp hx;omega)) O) (Am Aj 3 [] O (A2 O (As Bf O) fun b7=>Ad Aj 2 [0,1] O (Ae Aj 2 [] O (Ag O (fun c4=>?_) (fun c4=>?_)))))))
   ·(try simp only[sd,se] at c4);have hm:=List.mem_of_getElem? hx;have hxw:=Cm hk1w.2.2 x hm;have hxv:=DJ hk1v.2 x hm;have hxz:size x<1099511627776:=by have:=DH hm;omega
    have hoc:=(QI hxw hxv hxz).1 c4;refine Ae Aj 2 [0,2,1] O (Ai (⟨O,_,_,⟨_,_,O,(BA (i:=2) Bd O O AS),O⟩,(List.nil_sublist _),?_⟩))
    all_goals exact⟨by show (.agg ((A3 ((JR (-1) x).1)).map .p):AV)=_;rw[DP,hKe,Ds hk5 hce hx hoc,Q1 hxw hxv.vp hxz]<;>rfl,rfl⟩
   (try simp only[sd,se] at c4);have hm:=List.mem_of_getElem? hx;have hxw:=Cm hk1w.2.2 x hm;have hxv:=DJ hk1v.2 x hm;have hxz:size x<1099511627776:=by have:=DH hm;omega
   have hoc:HI 0 0 x=true:=by
    cases q:HI 0 0 x with
    | true=>rfl
    | false=>exact absurd ((QI hxw hxv hxz).2 q) c4
   refine Ak (Ae Aj 2 [3,2,0] O (Ai (⟨O,_,_,⟨_,_,O,(BA (i:=2) Bd O O O),O⟩,(List.nil_sublist _),?_⟩)))
   all_goals exact⟨by show (.agg [.p (I tk),.p (I ti),.p (.str tn),.p (.lst (List.map By tl)),.p (.lst (Ax [CF,(.mk k1k k1i k1n k1l k1s:Tm)]))]:AV)=_;rw[DP,hKe,CP hk5 (fun e y hy=>by simp_all [Tm.kids])]<;>rfl,rfl⟩
  (try simp only[sd,se] at c2);have hn5:¬(tk=5∧K.length=2):=by
   rintro⟨q1,q2⟩;simp[q1,q2] at c2
  refine Af (BL [1,2,3] 87 (fun y=>y= .p (.bool (((tk:Int)==(8:Int))&&(((K.length:Nat):Int)==(3:Int))))) ?_ ?_)
  ·refine Ao (Am Aj 4 [2] O (A6 91 O (fun g=>?_) (fun g=>?_)))
   ·(try simp only[sd,se] at g);exact Ba O (Ch O) (Ba O (K7 BJ O (A1 _)) (Ad Aj 3 [] O (⟨O,O,AG,AF,⟨O,O,O,Ac⟩⟩)))
   (try simp only[sd,se] at g);exact Ad Aj 5 [] O (⟨O,O,AG,AF,⟨O,O,O,Ac⟩⟩)
  rintro _ rfl;refine Ag O (fun c3=>?_) (fun c3=>?_)
  ·(try simp only[sd,se] at c3);obtain⟨hk8,hl3⟩:tk=8∧K.length=3:=by
    have q:=c3;exact⟨q.1,by omega⟩
   obtain⟨k0,k1,k2,rfl⟩:=Rc hl3;obtain⟨hk1n,hk1w,hk1z,hk1v⟩:=hKp k1 Ab;obtain⟨hk2n,hk2w,hk2z,hk2v⟩:=hKp k2 Ab;refine Al (Am Aj 2 [] O (NI (i:=0) O AI fun b hb=>?_));subst hb;refine Ah O (CV BJ O O Aa AI) (Ah O (CY (i:=0) (j:=0) Bd O O O AI O O O O (L0 [k0,k1,k2] 0 (.mk 1 0 ⟨#[]⟩ [] []:Tm))) (Bb O (Af (BP (B1 (i:=0) (j:=2) (q:=4) (rows:=Ax [CF,k1,k2]) [3,96] O O O (Da ⟨O,O,Ac⟩)) (Vf [.val (.p (.lst (Ax [CF,k1,k2]))),.val (.ref (A3 k1)),.val (.agg ((A3 k1).map .p)),.val (.p (.lst (Ax [CF,k1,k2]))),.val (.ref (A3 k2)),.val (.agg ((A3 k2).map .p)),.new [.p (I 0),.p (I 0),.p (.str ⟨#[]⟩),.p (.nils),.p (.nils)],.new [.p (I 0),.p (I 0),.p (.str ⟨#[]⟩),.p (.nils),.p (.nils)]] [.p .any,.p .any] [3,4,5] Er O AW AW AW ?_ ?_)))))
   ·exact Ac
   refine IJ O (fun Bs=>Ch O) (IJ O (fun Bs=>Aq BJ O O Aa (BI O) (Az _)) (IJ O (fun Bs=>BE Bd O (Az _)) (IJ O (fun Bs=>Ch O) (IJ O (fun Bs=>Aq BJ O O Aa (BI O) (Az _)) (IJ O (fun Bs=>BE Bd O (Az _)) (UK O (fun Bs=>As Bf O) fun b9=>UK O (fun Bs=>As Bf O) fun b10=>Xm (P4 [.box b9 ((A3 k1).map .p),.box b10 [.p (I 0),.p (I 0),.p (.str ⟨#[]⟩),.p (.nils),.p (.nils)]] O (EL (i:=0) Bd O O O AS (by first | rfl | simp[Az]) (HF _)) (P4 [.box b9 ((A3 k1).map .p),.box b10 ((A3 k2).map .p)] O (EL (i:=1) Bd O O O AS (by first | rfl | simp[Az]) (HF _)) (XQ (Af (BL [1,2,9] 135 (fun y=>y= .p (.bool (Ei k1 k2))) ?_ ?_)))))))))))
   ·refine Bq (fun k=>false) Er (A5 O (fun _=>BH K2 O O) Ac ?_);obtain⟨k1k,k1i,k1n,k1l,k1s⟩:=k1;(try simp only[Tm.kids] at hl1);have hn1:=hk1n;simp only[Nd,Cu] at hn1;simp only[size] at hk1z;refine BC Aj 3 [0] O (E6 108 O (fun g=>?_) (fun g=>?_))
    ·(try simp only[sd,se] at g);refine BC Aj 1 [] O ?_;obtain⟨k2k,k2i,k2n,k2l,k2s⟩:=k2;have hn2:=hk2n;simp only[Nd,Cu] at hn2;simp only[size] at hk2z;refine BC Aj 4 [1] O (E6 113 O (fun g1=>?_) (fun g1=>?_))
     ·(try simp only[sd,se] at g1);refine BC Aj 2 [0] O (Bh O (fun _=>A7 BJ O (A1 _)) Ac (BC Aj 3 [] O (E6 119 O (fun g2=>?_) (fun g2=>?_))))
      ·(try simp only[sd,se] at g2);refine BC Aj 2 [1] O (Bh O (fun _=>A7 BJ O (A1 _)) Ac (BC Aj 3 [] O (E6 125 O (fun g3=>?_) (fun g3=>?_))))
       ·(try simp only[sd,se] at g3);refine BC Aj 2 [0] O ?_;obtain⟨x,hx⟩:=Ar (l:=k1s) (i:=0) Aa;refine Bh O (fun _=>Aq BJ O O Aa (BI hx) (Az _)) Ac (BC Aj 3 [1] O ?_);obtain⟨x1,hx1⟩:=Ar (l:=k2s) (i:=0) Aa;exact Bh O (fun _=>Aq BJ O O Aa (BI hx1) (Az _)) Ac (BC Aj 1 [] O (Bh O (fun _=>Av O O (Uh _ x x1 (Nat.le_refl _) (CK hn1.2.2.2.2.1 hx)) O) Ac (Bo Aj 1 [] O (⟨O,O,AG,(by refine pB ?_;simp_all [Nr,Ei,Tm.kind,Tm.kids,Tm.index,List.getD_eq_getElem?_getD]),⟨O,O,O,Ac⟩⟩))))
       (try simp only[sd,se] at g3);exact Bo Aj 10 [] O (⟨O,O,AG,(by refine pB ?_;simp_all [Nr,Ei,Tm.kind,Tm.kids,Tm.index,List.getD_eq_getElem?_getD]),⟨O,O,O,Ac⟩⟩)
      (try simp only[sd,se] at g2);exact Bo Aj 16 [] O (⟨O,O,AG,(by refine pB ?_;simp_all [Nr,Ei,Tm.kind,Tm.kids,Tm.index,List.getD_eq_getElem?_getD]),⟨O,O,O,Ac⟩⟩)
     (try simp only[sd,se] at g1);exact Bo Aj 22 [] O (⟨O,O,AG,(by refine pB ?_;simp_all [Nr,Ei,Tm.kind,Tm.kids,Tm.index,List.getD_eq_getElem?_getD]),⟨O,O,O,Ac⟩⟩)
    (try simp only[sd,se] at g);exact Bo Aj 27 [] O (⟨O,O,AG,(by refine pB ?_;simp_all [Nr,Ei,Tm.kind,Tm.kids,Tm.index,List.getD_eq_getElem?_getD]),⟨O,O,O,Ac⟩⟩)
   rintro _ rfl;refine Ag O (fun c4=>?_) (fun c4=>?_)
   ·(try simp only[sd,se] at c4);have hce:=c4;have hl1:=(Mq hce).1;refine Al (Ah O (BH K2 O O) ?_);obtain⟨k1k,k1i,k1n,k1l,k1s⟩:=k1;(try simp only[Tm.kids] at hl1);have hn1:=hk1n;simp only[Nd,Cu] at hn1;simp only[size] at hk1z;refine Ah O (BU (i:=0) Tl O O O) ?_;obtain⟨x,hx⟩:=Ar (l:=k1s) (i:=0) Aa;refine Ah O (Aq BJ O O Aa (BI hx) (Az _)) (Ad Aj 2 [2,1] O (Ai (⟨O,_,_,⟨_,_,O,(BA (i:=2) Bd O O AS),O⟩,(List.nil_sublist _),?_⟩)))
    all_goals exact⟨by show (.agg ((A3 x).map .p):AV)=_;rw[DP,hKe,EO hk8 hce hx]<;>rfl,rfl⟩
   (try simp only[sd,se] at c4);have hce:=c4;refine Ak (Ae Aj 2 [3,2,0] O (Ai (⟨O,_,_,⟨_,_,O,(BA (i:=2) Bd O O O),O⟩,(List.nil_sublist _),?_⟩)))
   all_goals exact⟨by show (.agg [.p (I tk),.p (I ti),.p (.str tn),.p (.lst (List.map By tl)),.p (.lst (Ax [CF,k1,k2]))]:AV)=_;rw[DP,hKe,EG hk8 (by simpa using hce)]<;>rfl,rfl⟩
  (try simp only[sd,se] at c3);have hn8:¬(tk=8∧K.length=3):=by
   rintro⟨q1,q2⟩;simp[q1,q2] at c3
  refine Ak (Al (Br (B1 (i:=0) (j:=2) (q:=4) (rows:=Ax K) [3] O O O (Da ⟨O,Ac⟩)) (Ad Aj 2 [1,0,0] O (Ai (⟨O,_,_,⟨_,_,O,(BA (i:=0) Bd O O O),O⟩,(List.nil_sublist _),?_⟩)))))
  all_goals exact⟨by show (.agg [.p (I tk),.p (I ti),.p (.str tn),.p (.lst (List.map By tl)),.p (.lst (Ax K))]:AV)=_;rw[DP,hKe,Cl hn5 hn8]<;>rfl,rfl⟩
theorem NY:∀(n:Nat) (l:List Tm) (most:Int),A0 l≤n→Vv l→l.length<wide→Dl Tryz.prog 27 [.p (I most),eM l] (.p (I (CM l most 0))):=by
 intro n
 induction n using Nat.strongRecOn with
 | ind n ih =>
  intro l most hs hnd hlen;simp only[wide] at hlen;refine An Tryz.func27 O dq (n:=29) O O (Ae Aj 1 [] O (Ae Aj 1 [] O (Af (Al (BY O (Ah O (B0 BJ O) (Ad Aj 1 [] O (Au (BZ (α:=Nat×Int) (fun s=>⟨29,mk [(0,.p (I most)),(5,.p (I s.2)),(8,eM l),(9,.p (I (Ax l).length)),(10,.p (I s.1))],[],[]⟩) (fun s=>l.length - s.1) (fun s=>s.1≤l.length∧CM (l.drop s.1) most s.2=CM l most 0) ((0,0)) Ab ?_ ?_)))))))))
  ·exact DE ⟨O,O,O,O,O,Ac⟩ AA
  rintro⟨i,m⟩ ⟨hi,hC⟩;simp only at hi hC;refine Ae Aj 1 [] O (Af (Ag O (fun c1=>?_) (fun c1=>?_)))
  ·(try simp only[sd] at c1);have hi2:i<l.length:=by rw[A1] at c1;omega
   obtain⟨t,hk⟩:=Ar hi2;have hks:=Bp hk;obtain⟨kd,ix,nm,ls,ks⟩:=t;have hnt:=Jc hnd hk;simp only[Wd] at hnt;simp only[size] at hks;refine Ak (Af (Au (Al (Ah O (Aq BJ O O Aa (BI hk) (Az _)) (Ah O (BE Bd O (Az _)) (A2 O (As Bf O) fun b7=>Ad Aj 1 [0,0] O (Af (Ae Aj 3 [] O (Ag O (fun c2=>?_) (fun c2=>?_))))))))))
   ·(try simp only[sd] at c2);refine Ae Aj 2 [] O (Ai ⟨O,_,[],Bu O,List.nil_sublist _,?_⟩);exact⟨pI (by rw[←hC,L5 hk,if_pos Aa]),O⟩
   (try simp only[sd] at c2);refine Ak (Ao (Am Aj 3 [] O (Ah O (FQ O O) (Am Aj 2 [0] O (Ah O (Av O O (ih (A0 ks) Aa ks _ (Nat.le_refl _) hnt.2.2.2.2.1 hnt.2.2.2.1) O) (Ah O (DR O O) (Ah O (DR O O) (Ad Aj 1 [] O (Ao (Ad Aj 2 [] O ?_))))))))));exact⟨(i+1,wr (m+wr (1+CM ks (wr (most - m)) 0))),AU,⟨by omega,by rw[←hC,L5 hk,if_neg Aa,CU]⟩,DE ⟨rfl,rfl,rfl,rfl,rfl,trivial⟩ AA⟩
  (try simp only[sd] at c1);have hi2:i=l.length:=by rw[A1] at c1;omega
  refine BS (Ae Aj 2 [] O (Ai ⟨O,_,[],Bu O,List.nil_sublist _,?_⟩));exact⟨pI (by rw[←hC,hi2,List.drop_length];rfl),O⟩
theorem Xe:∀(x:B6),(YU x)→Dl Tryz.prog 101 [.agg ((By x).map .p)] (.p (.bool (decide ((x.vars.length:Int) > 20)))):=by
 intro x h1;refine An Tryz.func101 O aM (n:=7) O O (Al (A2 O (A9 O) fun b1=>Ad Aj 1 [] O (Al (Am Aj 2 [0] O (Ah O (A7 DO O (List.length_map _)) (Ad Aj 2 [] O (Ai (⟨O,_,_,⟨_,_,O,O,O⟩,(List.nil_sublist _),?_⟩))))))))
 all_goals exact⟨rfl,rfl⟩
theorem YG:∀(l:List B6),(l.length<wide)→(∀x∈l,YU x)→F4 Tryz.prog 134 [.p (.lst (List.map By l)),.p (.fn 101)] (fun v=>∃r:Int,v= .p (I r)∧(r<0→∀x∈l,x.vars.length≤20)):=by
 intro l h1 h2;simp only[wide] at h1;refine An Tryz.func134 O Zf (n:=19) O O (Ae Aj 1 [] O (Af (Al (BY O (Ah O (A7 Ek O (List.length_map _)) (Ad Aj 1 [] O (Au ?_)))))));refine BZ (α:=Nat) (fun i=>⟨19,mk [(0,.p (.lst (List.map By l))),(1,.p (.fn 101)),(7,.p (I (l.length:Nat))),(8,.p (I (i:Int)))],[],[]⟩) (fun i=>l.length - i) (fun i=>i≤l.length∧(∀j,j<i→∀x,l[j]?=some x→x.vars.length≤20)) 0 (⟨by omega,fun j h=>by omega⟩) ?_ ?_
 ·exact BO ⟨we O,we O,we O,we O,Ac⟩ (leH (is:=[]) O (DM))
 rintro i hC
 try simp only at hC
 obtain⟨hi,hC⟩:=hC;refine Ae Aj 1 [] O (Af (Ag O (fun c=>?_) (fun c=>?_)))
 ·(try simp only[sd,se] at c);refine Ak (Af (Au (Ae Aj 2 [] O (Al (Am Aj 3 [] O ?_)))));obtain⟨x,hx⟩:=Ar (l:=l) (i:=i) Aa;refine Ah O (Aq Ek O O Aa (Ef hx) (Cq _)) (Ah O (BE Ls O (Cq _)) (Ah O (Av O O (Xe x (h2 x (List.mem_of_getElem? hx))) O) (Bb O (Ag O (fun c1=>?_) (fun c1=>?_)))))
  ·(try simp only[sd,se] at c1);refine Ae Aj 2 [] O (Ai (⟨O,_,[],Bu O,List.nil_sublist _,⟨⟨_,O,?_⟩,O⟩⟩));exact fun h=>by omega
  (try simp only[sd,se] at c1);refine Ak (Ao (Ad Aj 2 [] O (⟨(i+1),AK,⟨by omega,Dk hC hx Aa⟩,BO ⟨we rfl,we rfl,we rfl,we rfl,trivial⟩ (leH (is:=[]) rfl (DM))⟩)))
 (try simp only[sd,se] at c);refine BS (Ae Aj 1 [] O (Ai (⟨O,_,[],Bu O,List.nil_sublist _,⟨⟨_,O,?_⟩,O⟩⟩)));exact fun _ x hx=>by obtain⟨j,hj⟩:=D0 hx;exact hC j (by have:=(List.getElem?_eq_some_iff.1 hj).1;omega) x hj
theorem VT:∀(l:List B6),(l.length<wide)→(∀x∈l,YU x)→F4 Tryz.prog 100 [.p (.lst (List.map By l)),.p (.fn 101)] (fun v=>∃b:Bool,v= .p (.bool b)∧(b=false→∀x∈l,x.vars.length≤20)):=by
 intro l h1 h2;refine An Tryz.func100 O aJ (n:=9) O O (Ae Aj 1 [] O (Al (Am Aj 2 [] O (EM O O (CC O O (YG l h1 h2) (.inl O)) ?_))));rintro _ ⟨r,rfl,hr⟩;refine Ad Aj 2 [] O (Ai (⟨O,_,[],Bu O,List.nil_sublist _,⟨⟨_,O,?_⟩,O⟩⟩));exact fun h=>hr (by simp at h;omega)
theorem ZU:∀(n:Nat) (l:List Tm),(A0 l≤n)→(Vv l)→(l.length<wide)→F4 Tryz.prog 50 [.p (.lst (Ax l))] (fun v=>∃b:Bool,v= .p (.bool b)∧(b=true→NW l)):=by
 intro n
 induction n using Nat.strongRecOn with
 | ind n ih =>
  intro l h1 h2 h3;have h3b:=h3;simp only[wide] at h3b;refine An Tryz.func50 O bT (n:=36) O O (Ae Aj 1 [] O (Af (Al (BY O (Ah O (Av O O (NY _ l 200 (Nat.le_refl _) h2 h3) O) (Ad Aj 1 [] O (Ag O (fun c=>?_) (fun c=>?_))))))))
  ·have cR:=c;(try simp only[sd,se] at c);refine Ae Aj 1 [] O (Ai (⟨O,_,[],Bu O,List.nil_sublist _,⟨⟨_,O,?_⟩,O⟩⟩));exact fun h=>absurd h AZ
  have cR:=c;(try simp only[sd,se] at c);refine Ak (Af (Al (BY O (Ah O (A7 BJ O (A1 _)) (Ad Aj 1 [] O (Au ?_))))));refine BZ (α:=Nat) (fun i=>⟨36,mk [(8,.p (.lst (Ax l))),(9,.p (I (l.length:Nat))),(10,.p (I (i:Int)))],[],[]⟩) (fun i=>l.length - i) (fun i=>i≤l.length∧(∀j,j<i→∀x,l[j]?=some x→RO x)) 0 (⟨by omega,fun j h=>by omega⟩) ?_ ?_
  ·exact BO ⟨we O,we O,we O,Ac⟩ (leH (is:=[]) O (DM))
  rintro i hC
  try simp only at hC
  obtain⟨hi,hC⟩:=hC;refine Ae Aj 1 [] O (Af (Ag O (fun c1=>?_) (fun c1=>?_)))
  ·have c1R:=c1;(try simp only[sd,se] at c1);refine Ak (Af (Au (Al ?_)));obtain⟨t,ht⟩:=Ar (l:=l) (i:=i) Aa;refine Ah O (Aq BJ O O Aa (BI ht) (Az _)) (Ah O (BE Bd O (Az _)) (A2 O (As Bf O) fun b4=>Ad Aj 1 [0,1] O (Af ?_)));obtain⟨tk,ti,tn,tl,ts⟩:=t;have hnt:=Jc h2 ht;simp only[Wd] at hnt;have hks:=Bp ht;simp only[size] at hks;refine BL [8,9,10] 34 (fun y=>∃b:Bool,y= .p (.bool b)∧(b=false→RO (.mk tk ti tn tl ts))) ?_ ?_
   ·refine Ao (Am Aj 2 [0] O (Ah O (F5 au O) (Am Aj 2 [] O (A6 18 O (fun g=>?_) (fun g=>?_)))))
    ·(try simp only[sd,se] at g);refine Ad Aj 16 [] O ?_;exact⟨O,O,AG,(by first | exact⟨_,rfl,fun h=>absurd h AZ⟩ | exact⟨_,rfl,fun h=>by simp only[Bool.not_eq_false'] at h;exact⟨by omega,by omega,hb AX,(hb1 h).sz,(hb1 h).nd,(hb1 h).fw⟩⟩),⟨O,O,O,Ac⟩⟩
    (try simp only[sd,se] at g);refine Am Aj 2 [0] O (Ba O (A7 Ek O (List.length_map _)) (Am Aj 3 [] O (A6 24 O (fun g1=>?_) (fun g1=>?_))))
    ·(try simp only[sd,se] at g1);refine Ad Aj 10 [] O ?_;exact⟨O,O,AG,(by first | exact⟨_,rfl,fun h=>absurd h AZ⟩ | exact⟨_,rfl,fun h=>by simp only[Bool.not_eq_false'] at h;exact⟨by omega,by omega,hb AX,(hb1 h).sz,(hb1 h).nd,(hb1 h).fw⟩⟩),⟨O,O,O,Ac⟩⟩
    (try simp only[sd,se] at g1);refine Am Aj 2 [0] O (Hj O O O O (CC O O (VT tl hnt.2.1 hnt.2.2.1) (.inl O)) ?_);rintro _ ⟨b,rfl,hb⟩;refine Am Aj 2 [] O (A6 29 O (fun g2=>?_) (fun g2=>?_))
    ·(try simp only[sd,se] at g2);refine Ad Aj 5 [] O ?_;exact⟨O,O,AG,(by first | exact⟨_,rfl,fun h=>absurd h AZ⟩ | exact⟨_,rfl,fun h=>by simp only[Bool.not_eq_false'] at h;exact⟨by omega,by omega,hb AX,(hb1 h).sz,(hb1 h).nd,(hb1 h).fw⟩⟩),⟨O,O,O,Ac⟩⟩
    (try simp only[sd,se] at g2);refine Am Aj 2 [0] O (Hj O O O O (CC O O (ih (A0 ts) Aa ts (Nat.le_refl _) hnt.2.2.2.2.1 hnt.2.2.2.1) (.inl O)) ?_);rintro _ ⟨b1,rfl,hb1⟩;refine Ad Aj 2 [] O ?_;exact⟨O,O,AG,(by first | exact⟨_,rfl,fun h=>absurd h AZ⟩ | exact⟨_,rfl,fun h=>by simp only[Bool.not_eq_false'] at h;exact⟨by omega,by omega,hb AX,(hb1 h).sz,(hb1 h).nd,(hb1 h).fw⟩⟩),⟨O,O,O,Ac⟩⟩
   rintro _ ⟨q,rfl,hq⟩;refine Ag O (fun c2=>?_) (fun c2=>?_)
   ·have c2R:=c2;(try simp only[sd,se] at c2);refine Ae Aj 1 [] O (Ai (⟨O,_,[],Bu O,List.nil_sublist _,⟨⟨_,O,?_⟩,O⟩⟩));exact fun h=>absurd h AZ
   have c2R:=c2;(try simp only[sd,se] at c2);refine Ak (Ao (Ad Aj 2 [] O (⟨(i+1),AK,⟨by omega,Dk hC ht (hq (by simpa using c2))⟩,BO ⟨we rfl,we rfl,we rfl,trivial⟩ (leH (is:=[]) rfl (DM))⟩)))
  have c1R:=c1;(try simp only[sd,se] at c1);refine BS (Ae Aj 1 [] O (Ai (⟨O,_,[],Bu O,List.nil_sublist _,⟨⟨_,O,?_⟩,O⟩⟩)));exact fun _=>Uq (m:=i) Aa h2 h3 Aa hC
end Go.Proofs.YtldfmjoncbjldaaGreat
namespace Go.Eu
open Go.Abs
mutual
def Lw:Tm→Prop
 | .mk _ i _ _ ks=>i≤60000∧bU ks
def bU:List Tm→Prop
 | []=>True
 | t::ts=>Lw t∧bU ts
end
theorem Vz {ts:List Tm}(h:bU ts):∀t∈ts,Lw t:=by
 induction ts with
 | nil=>intro t ht;cases ht
 | cons a ts ih=>intro t ht;rcases List.mem_cons.1 ht with rfl | ht;exact h.1;exact ih h.2 t ht
theorem Um {ts:List Tm}(h:PZ ts):∀t∈ts,Vp t:=by
 induction ts with
 | nil=>intro t ht;cases ht
 | cons a ts ih=>intro t ht;rcases List.mem_cons.1 ht with rfl | ht;exact h.1;exact ih h.2 t ht
theorem Lw.vb:∀{t:Tm},Lw t→Vp t→Vb t:= @(WN (P:=fun t=>Lw t→Vp t→Vb t) fun k i n l ks ih h v =>
 ⟨fun e=>by have:=v.1 e;have:=h.1;omega,TC fun t ht=>ih t ht (Vz h.2 t ht) (Um v.2 t ht)⟩)
structure bK (l:List Tm):Prop where
 sz:A0 l≤60
 ok:∀t∈l,Nd t∧Wt t∧Vp t
theorem SB {l:List Tm}(h:NW l):l.length<1000000:=by
 have:=h.sz;have:=DN l;omega
theorem Rb {l:List Tm}(h:NW l):∀x∈l,Nd x∧size x<1000000:=fun x hx =>
 ⟨(Jr h hx).1,by have:=(Jr h hx).2;omega⟩
structure eF (t:Tm):Prop where
 nd:Nd t
 wt:Wt t
 vb:Vb t
 sz:size t≤60
def dH:Tm:= .mk 5 0 ⟨#[]⟩ [] [cA,DQ (Bc 4) (Bc 0)]
def cO:Tm:= .mk 5 0 ⟨#[]⟩ [] [cA,DQ (Bc 0) (Bc 0)]
def cr:Tm:= .mk 8 0 ⟨#[]⟩ [] [cA,.mk 9 0 ⟨#[]⟩ [] [Bc 1],.mk 10 0 ⟨#[]⟩ [] [Bc 1]]
theorem My (i:Int):Cr (Bc i)=Bc i:=Ms rfl
theorem Oz:Cr cA=cA:=Ms rfl
theorem Ql (a b:Tm):Cr (DQ a b)=DQ (Cr a) (Cr b):=by
 unfold DQ;rw[DP,Cl Ab Ab];rfl
theorem QN (k:Int) (h:k≠5) (h8:k≠8) (a:Tm):Cr (.mk k 0 ⟨#[]⟩ [] [a])= .mk k 0 ⟨#[]⟩ [] [Cr a]:=by
 rw[DP,Cl Ab Ab];rfl
theorem RP:Cr dH=Bc 3:=by
 unfold dH;rw[DP];simp only[List.map_cons,List.map_nil,Oz,Ql,My];rw[Ds rfl rfl (x:=Bc 4) rfl rfl];rfl
theorem Ra:Cr cO= .mk 5 0 ⟨#[]⟩ [] [CF,DQ (Bc 0) (Bc 0)]:=by
 unfold cO;rw[DP];simp only[List.map_cons,List.map_nil,Oz,Ql,My];rw[CP rfl (fun _ x hx=>by injection hx with hx;rw[←hx];rfl)]
theorem RN:Cr cr=Bc 1:=by
 unfold cr;rw[DP];simp only[List.map_cons,List.map_nil,Oz,QN 9 AZ AZ,QN 10 AZ AZ,My];rw[EO rfl (by simp[Ei,Tm.kind,Tm.kids,CN]) (x:=Bc 1) rfl]
def fo (t:Tm):Bool:=Qr t
theorem Ku {t:Tm}(h:Qr t=true):Nd t:=(Ga t h).1
mutual
def aZ:Tm→Bool
 | .mk k i _ _ ks=>(decide (k≠0)||(decide (0≤i)&&decide (i≤65535)))&&VD ks
def VD:List Tm→Bool
 | []=>true
 | t::ts=>aZ t&&VD ts
end
mutual
theorem TG:∀t,aZ t=true→Vb t
 | .mk k i n l ks,h=>by
  simp only[aZ,Bool.and_eq_true,Bool.or_eq_true,decide_eq_true_eq] at h;exact⟨fun e=>by rcases h.1 with q | q;exact absurd e q;exact q,P9 ks h.2⟩
theorem P9:∀ts,VD ts=true→R4 ts
 | [],_=>trivial
 | t::ts,h=>by
  simp only[VD,Bool.and_eq_true] at h;exact⟨TG t h.1,P9 ts h.2⟩
end
theorem So {α:Type}{l:List α}{i:Nat}{P:α→Prop}(hi:l.length≤i) (h:∀j,j<i→∀x,l[j]?=some x→P x):∀x∈l,P x:=fun x hx=>by
 obtain⟨j,hj⟩:=D0 hx;exact h j (by have:=(List.getElem?_eq_some_iff.1 hj).1;omega) x hj
end Go.Eu
namespace Go.Proofs.YtldfmjoncbjldaaGreat
open Go.Abs Go.Eu
theorem TH:Dl Tryz.prog 52 [.p (.lst (List.map JT ([]:List Cc)))] (.p (.bool true)):=by
 refine An Tryz.func52 O cg (n:=23) O O (Ae Aj 1 [] O (Af (Ae Aj 1 [] O (Au (BZ (α:=Nat) (fun i=>⟨23,mk [(0,.p (.lst (List.map JT ([]:List Cc)))),(3,.p (I (i:Int)))],[],[]⟩) (fun i=>0 - i) (fun i=>i≤0) 0 AJ ?_ ?_)))))
 ·exact BO ⟨we O,we O,Ac⟩ (leH (is:=[]) O (DM))
 rintro i hC
 try simp only at hC
 have hi:=hC;refine Af (Af (BL [0,3] 11 (fun y=>y= .p (.bool ((decide (((i:Int):Int)<((([]:List Cc).length:Nat):Int)))&&(decide (((i:Int):Int)<(80:Int)))))) ?_ ?_))
 ·refine Ao (Am Aj 2 [] O (Ah O (A7 Tg O (List.length_map _)) (Am Aj 2 [] O (A6 8 O (fun g=>?_) (fun g=>?_)))))
  ·(try simp only[sd,se] at g);exact Ad Aj 3 [] O (⟨O,O,AG,AF,⟨O,O,Ac⟩⟩)
  (try simp only[sd,se] at g);exact Ad Aj 3 [] O (⟨O,O,AG,AF,⟨O,O,Ac⟩⟩)
 rintro _ rfl;refine Ag O (fun c=>?_) (fun c=>?_)
 ·(try simp only[sd,se] at c);exfalso;have hz:(([]:List Cc).length:Int)=0:=rfl;simp only[hz,Bool.and_eq_true,decide_eq_true_eq] at c;omega
 (try simp only[sd,se] at c);refine BS (Al (BY O (Ah O (A7 Tg O (List.length_map _)) (Ad Aj 2 [] O (Ai (⟨O,_,_,⟨_,_,O,O,O⟩,(List.nil_sublist _),?_⟩))))))
 all_goals exact⟨rfl,rfl⟩
theorem Pf:Dl Tryz.prog 53 [.p (.lst (List.map JT ([]:List Cc)))] (.tup [.p (I 0),.p (I 0)]):=by
 refine An Tryz.func53 O dA (n:=27) O O (Ae Aj 2 [] O (Af (Al (BY O (Ah O (A7 Tg O (List.length_map _)) (Ad Aj 1 [] O (Ag O (fun c=>?_) (fun c=>?_))))))))
 ·(try simp only[sd,se] at c);exfalso;have hz:(([]:List Cc).length:Int)=0:=rfl;simp only[hz,Bool.and_eq_true,decide_eq_true_eq] at c;omega
 (try simp only[sd,se] at c);refine Ak (Af (Ae Aj 1 [] O (Au (BZ (α:=Nat) (fun i=>⟨27,mk [(0,.p (.lst (List.map JT ([]:List Cc)))),(4,.p (I (i:Int)))],[],[]⟩) (fun i=>0 - i) (fun i=>i≤0) 0 AJ ?_ ?_))))
 ·exact BO ⟨we O,we O,Ac⟩ (leH (is:=[]) O (DM))
 rintro i hC
 try simp only at hC
 have hi:=hC;refine Af (Al (Am Aj 2 [] O (Ah O (A7 Tg O (List.length_map _)) (Ad Aj 1 [] O (Ag O (fun c1=>?_) (fun c1=>?_))))))
 ·(try simp only[sd,se] at c1);exfalso;have hz:(([]:List Cc).length:Int)=0:=rfl;simp only[hz,Bool.and_eq_true,decide_eq_true_eq] at c1;omega
 (try simp only[sd,se] at c1);refine BS (Ae Aj 2 [] O (Ai (⟨O,_,_,⟨_,_,O,O,⟨_,_,O,O,O⟩⟩,(List.nil_sublist _),?_⟩)))
 all_goals exact⟨rfl,rfl⟩
theorem Rk:Dl Tryz.prog 29 [.p (.lst (List.map JT ([]:List Cc)))] (.p (.bool true)):=by
 refine An Tryz.func29 O cX (n:=15) O O (Ae Aj 1 [] O (Af (Al (BY O (Ah O (Av O O (TH ) O) (Ad Aj 1 [] O ?_))))));refine Ag O (fun c=>by cases c) (fun c=>?_);refine Ak (Al (BY O (Ah O (Av O O (Pf ) O) (Ad Aj 5 [] O (Ae Aj 3 [] O (Ai (⟨O,_,_,⟨_,_,O,O,O⟩,(List.nil_sublist _),?_⟩)))))))
 all_goals exact⟨rfl,rfl⟩
set_option maxHeartbeats 4000000 in
theorem Xx:∀(n:Nat),QC n→∀(m:Nat) (mu:List Nat) (s s':NS) (t:Tm) (a:Nat) (d:Int),mu.length=s.objs.length→Fy (n+1) s (.st a) d= .ok (t,s')→BD Tryz.prog 256 [.p (Gl mu a),.p (.addr m),.p (I d)] (HS xq m mu s) (Zo xq m mu t s'):=by
 intro n hQ m mu s s' t a d hl h;obtain⟨hd,args0,hg,hwf,hkl0,hbn,hn1,hn2,hd1,hd2,t1,s1,h2,args,h0,hg1,hwf1,hal,hqa⟩:=ZQ h;obtain⟨hkw,_⟩:=Nc hwf hg;obtain⟨_,haw⟩:=Nc hwf1 hg1;have hlt:a<mu.length:=by rw[hl];exact XK hg
 rw[←hl] at hkw;obtain⟨hk,hv,⟨gk,gi,gn,gl,gs⟩,hks,hb⟩:=hd;obtain⟨k2,v2,⟨gk2,gi2,gn2,gl2,gs2⟩,ks2,b2⟩:=h2;simp only at hkl0 hbn hkw;subst hbn;refine An Tryz.func256 O Zs (n:=94) O O (Al (A2 O (As Bf O) fun b6=>Bb O (Al (Am Aj 2 [] O (Ah O (CD [1] O (.inl ⟨O,O,O⟩) (PO m s.left s.nodes d hn1 hn2 hd1 hd2) ⟨_,_,O,O,O⟩ AZ O (.inl O)) (Bb O (Al (BY O (Ah O (BR O) (Am Aj 2 [] O (Ah O (C3 (i:=s.objs.length - 1 - a+1+1) Bd O (show _=some (Ap.box _ [.p (I hk),.p (I hv),.p (I gk),.p (I gi),.p (.str gn),.p (.lst (List.map By gl)),.p (.lst (Ax gs)),.p (.lst (LH mu hks)),.p (.nilFn),.p (.lst (LH mu args0))]) from Ci (s:=({ s with nodes:=s.nodes+1 }:NS)) hl hg) O O) (A2 O (As Bf O) fun b7=>Ad Aj 1 [0,0] O (Af (Al (BY O (Ah O (BR O) (Ah O (BH KL O O) ?_)))))))))))))))));refine Ah O (C3 (i:=s.objs.length - 1 - a+1+1+1) Wb O (show _=some (Ap.box _ [.p (I hk),.p (I hv),.p (I gk),.p (I gi),.p (.str gn),.p (.lst (List.map By gl)),.p (.lst (Ax gs)),.p (.lst (LH mu hks)),.p (.nilFn),.p (.lst (LH mu args0))]) from Ci (s:=({ s with nodes:=s.nodes+1 }:NS)) hl hg) O O) (A2 O (As Yu O) fun b8=>Ad Aj 1 [0,0] O (Au (Ae Aj 4 [0] O (Ag O (fun c=>?_) (fun c=>?_)))))
 ·(try simp only[sd,se] at c);obtain⟨hv1,hv2,rfl,rfl⟩:=YK h0 c;simp only at hv1 hv2;have hawS:∀x∈args,x<mu.length:=by rw[hl];exact haw
  refine Ao (Ad Aj 7 [0,1,0] O (Af (Al (BY O (Ah O (BR O) (Ah O (BH KL O O) (Ah O (BU (i:=({ s with nodes:=s.nodes+1 }:NS).objs.length - 1 - a+1+1+1+1) Q3 O (Ci (s:=({ s with nodes:=s.nodes+1 }:NS)) hl hg1) O) (Ah O (A7 El O (GX _ _)) (Ad Aj 1 [] O (Au ?_))))))))));refine BZ (α:=Nat×Tm×NS×List Nat) (fun(i,z,S2,MUy)=>⟨94,mk [(1,.p (.addr m)),(2,.p (I d)),(6,.ptr b6 0),(7,.ptr b7 0),(76,.p (.lst (LH mu args))),(77,.p (I (args.length:Nat))),(78,.p (I (i:Int)))],(.box b7 ((A3 z).map .p):: .box b6 [.p (I 0),.p (I 0),.p (.str ⟨#[]⟩),.p (.nils),.p (.nils)]:: .box m [.p (.lst []),.p (I S2.left),.p (I S2.nodes)]::GF xq m MUy MUy S2.objs),[]⟩) (fun(i,z,S2,MUy)=>args.length - i) (fun(i,z,S2,MUy)=>i≤args.length∧(MUy.length=S2.objs.length∧(∃w,MUy=w++mu)∧Nf (LL (Fy n) n) d (args.drop i) z S2= .ok (t,s'))) ⟨0,(.mk 0 (d - 1 - hv) ⟨#[]⟩ [] []),({ s with nodes:=s.nodes+1 }:NS),mu⟩ (⟨by omega,hl,⟨[],rfl⟩,by rw[List.drop_zero];exact hqa⟩) ?_ ?_
  ·exact BO ⟨we O,we O,we O,we O,we O,we O,we O,Ac⟩ (Ou [1,2,3] [_,_,_,_] (l':=[_,_,_]) O (wl (on (O)) (wl (oe O) (wl (oe O) (DM)))))
  rintro⟨i,z,S2,MUy⟩ hC
  try simp only at hC
  obtain⟨hi,⟨hlj,⟨w2,hwf2⟩,hqi⟩⟩:=hC;refine Ae Aj 1 [] O (Af (Ag O (fun c1=>?_) (fun c1=>?_)))
  ·(try simp only[sd,se] at c1);refine Ak (Af (Au (Al ?_)));obtain⟨x,hx⟩:=Ar (l:=args) (i:=i) Aa;refine Ah O (Aq El O O Aa (Md hx) O) (Ad Aj 2 [] O (Al ?_));obtain⟨hn3,hn4,hn5,hn6,y,sy,hq1,hq2⟩:=NT (by rw[←Bx hx];exact hqi);refine Am Aj 2 [] O (Ah O (CD [2] O (.inl ⟨O,O,O⟩) (PO m S2.left S2.nodes d hn3 hn4 hn5 hn6) ⟨_,_,O,O,O⟩ AZ O (.inl O)) (Bb O (Bq (fun k=>Nat.beq k 4) Er (BC Aj 4 [0] O (E9 [] O O (CW O O (List.perm_append_comm (l₁:=[_,_])) (by have h9:=PN n hQ m MUy { S2 with nodes:=S2.nodes+1 } sy y x d hlj hq1;rw[hwf2,Ed (hawS x (List.mem_of_getElem? hx)),←hwf2] at h9;exact h9) (Js)) AW (Sz (s:={ S2 with nodes:=S2.nodes+1 }) hlj (M1 hq1) _) (OK _) ?_)))));rintro _ _ ⟨_,⟨_,hl1,⟨w,rfl⟩,rfl,rfl⟩,rfl⟩;refine⟨(.box b7 ((A3 z).map .p):: .box b6 [.p (I 0),.p (I 0),.p (.str ⟨#[]⟩),.p (.nils),.p (.nils)]:: .box m [.p (.lst []),.p (I sy.left),.p (I sy.nodes)]::GF xq m (w++MUy) (w++MUy) sy.objs),List.perm_append_comm,AB,Ac,?_⟩;refine A5 O (fun _=>BG (rows:=Ax [y]) BJ Bf O O O O (B3 (Bj _)) (C7 _)) Ac (A5 O (fun _=>Av O O (J0 z [y] (by simp only[Cu,List.length_cons,List.length_nil];decide)) O) Ac (Bo Aj 1 [0,1] O (Ao (Ad Aj 2 [] O ?_))));refine⟨⟨i+1,(apply z [y]),sy,(w++MUy)⟩,AK,⟨by omega,⟨by assumption,⟨_,by rw[hwf2,←List.append_assoc]⟩,hq2⟩⟩,BO ⟨we rfl,we rfl,we rfl,we rfl,we rfl,we rfl,we rfl,trivial⟩ (Ou [0,1,2] [_,_,_] (l':=[_,_,_]) rfl (wl (oe rfl) (wl (oe rfl) (wl (oe rfl) (DM)))))⟩
  (try simp only[sd,se] at c1);obtain⟨e1,e2⟩:=QK (by have:=hqi;rwa [List.drop_eq_nil_of_le Aa] at this);exact BS (Ae Aj 2 [0,1,1] O (Ai (⟨O,_,_,⟨_,_,O,(BA (i:=1) Bd O O AS),O⟩,(Co [] [_,_] O),⟨_,(by rw[e2];exact hlj),⟨w2,hwf2⟩,(by rw[e1]),(by rw[e2];rfl)⟩⟩)))
 (try simp only[sd,se] at c);obtain⟨hkl,_,ts,hqs,rfl⟩:=Uy h0 c;simp only at hkl hqs;refine Al (Am Aj 2 [0] O (Ah O (A7 El O (GX _ _)) (Ad Aj 2 [] O (Ag O (fun c1=>?_) (fun c1=>?_)))))
 ·(try simp only[sd,se] at c1);refine Ae Aj 4 [0,1,0] O (Af (Al (Br (C4 (i:=1) O (Sw (aw (we O) (aw (we O) (aw (we O) (aw (we O) (aw (Lo) (G7)))))))) (Br (Kk (sz:=5)) (Br (Bv (i:=2) O) (Am Aj 2 [1] O (Ah O (A7 El O (GX _ _)) (Ad Aj 1 [] O (Au ?_)))))))));refine BZ (α:=Nat×List Tm×NS×List Nat×Option Nat×Nat) (fun(i,ys,S,MUx,o,cp)=>⟨94,mk [(0,.p (.addr (JB mu a))),(1,.p (.addr m)),(2,.p (I d)),(6,.ptr b6 0),(7,.ptr b7 0),(8,.ptr b8 0),(44,.p (.lst (LH mu hks))),(45,.p (I (hks.length:Nat))),(46,.p (I (i:Int)))],(.vec o 5 (Ax ys) cp:: .box b8 [.p (I hk),.p (I hv),.p (I gk),.p (I gi),.p (.str gn),.p (.lst (List.map By gl)),.p (.lst (Ax gs)),.p (.lst (LH mu hks)),.p (.nilFn)]:: .box b7 [.p (I hk),.p (I 0),.p (.str ⟨#[]⟩),.p (.lst []),.vs o (Ax ys).length cp]:: .box b6 [.p (I 0),.p (I 0),.p (.str ⟨#[]⟩),.p (.nils),.p (.nils)]:: .box m [.p (.lst []),.p (I S.left),.p (I S.nodes)]::GF xq m MUx MUx S.objs),[]⟩) (fun(i,ys,S,MUx,o,cp)=>hks.length - i) (fun(i,ys,S,MUx,o,cp)=>i≤hks.length∧(ys.length=i∧MUx.length=S.objs.length∧(∃w,MUx=w++mu)∧∃zs,Mf (LL (Fy n) n) d (hks.drop i) S= .ok (zs,s1)∧ts=ys++zs)) ⟨0,[],({ s with nodes:=s.nodes+1 }:NS),mu,none,0⟩ (⟨by omega,rfl,hl,⟨[],rfl⟩,ts,by rw[List.drop_zero];exact hqs,rfl⟩) ?_ ?_
  ·exact BO ⟨we O,we O,we O,we O,we O,we O,we O,we O,we O,Ac⟩ (Ou [0,1,2,3,4] [_,_,_,_,_] (l':=[_,_,_,_,_]) O (wl (oe O) (wl (oe O) (wl (oe O) (wl (oe O) (wl (oe O) (DM)))))))
  rintro⟨i,ys,S,MUx,o,cp⟩ hC
  try simp only at hC
  obtain⟨hi,⟨hyl,hli,⟨w,hwe⟩,zs,hqi,htz⟩⟩:=hC;refine Ae Aj 1 [] O (Af (Ag O (fun c2=>?_) (fun c2=>?_)))
  ·(try simp only[sd,se] at c2);refine Ak (Af (Au (Al ?_)));obtain⟨x,hx⟩:=Ar (l:=hks) (i:=i) Aa;refine Ah O (Aq El O O Aa (Md hx) O) (Ad Aj 2 [] O (Bq (fun k=>Nat.beq k 5||Nat.beq k 7) Er (BC Aj 5 [2] O ?_)));obtain⟨y,sy,ys2,hq1,hq2,rfl⟩:=TM (by rw[←Bx hx];exact hqi);refine E9 [] O O (CW O O (List.perm_append_comm (l₁:=[_,_,_,_])) (by have h9:=PN n hQ m MUx S sy y x d hli hq1;rw[hwe,Ed (hkw x (List.mem_of_getElem? hx)),←hwe] at h9;exact h9) (Js)) AW (Sz hli (M1 hq1) _) (OK _) ?_;rintro _ _ ⟨_,⟨_,hl1,⟨w,rfl⟩,rfl,rfl⟩,rfl⟩;refine⟨(.vec o 5 (Ax ys) cp:: .box b8 [.p (I hk),.p (I hv),.p (I gk),.p (I gi),.p (.str gn),.p (.lst (List.map By gl)),.p (.lst (Ax gs)),.p (.lst (LH mu hks)),.p (.nilFn)]:: .box b7 [.p (I hk),.p (I 0),.p (.str ⟨#[]⟩),.p (.lst []),.vs o (Ax ys).length cp]:: .box b6 [.p (I 0),.p (I 0),.p (.str ⟨#[]⟩),.p (.nils),.p (.nils)]:: .box m [.p (.lst []),.p (I sy.left),.p (I sy.nodes)]::GF xq m (w++MUx) (w++MUx) sy.objs),List.perm_append_comm,AB,Ac,?_⟩;refine A5 O (fun _=>BG (rows:=Ax [y]) BJ Bf O O O O (B3 (Bj _)) (C7 _)) Ac (Pp [] O O (EF (i:=0) (rows':=Ax [y]) BJ BJ Bf O O O O O O (Bj _) AD (Q2 ys [y])) AW fun o1 cp1=>⟨AB,Ac,?_⟩);refine Bo Aj 2 [2,0] O (Ao (Ad Aj 2 [] O ?_));refine⟨⟨i+1,(ys++[y]),sy,(w++MUx),o1,cp1⟩,AK,⟨by omega,⟨by simp[hyl],by assumption,⟨_,by rw[hwe,←List.append_assoc]⟩,ys2,hq2,by rw[htz,List.append_assoc];rfl⟩⟩,BO ⟨we rfl,we rfl,we rfl,we rfl,we rfl,we rfl,we rfl,we rfl,we rfl,trivial⟩ (Ou [0,1,2,3,4] [_,_,_,_,_] (l':=[_,_,_,_,_]) rfl (wl (oe rfl) (wl (oe rfl) (wl (oe rfl) (wl (oe rfl) (wl (oe rfl) (DM)))))))⟩
  (try simp only[sd,se] at c2);have hqe:=VR (by have:=hqi;rwa [List.drop_eq_nil_of_le Aa] at this);have hts:ts=ys:=by rw[htz,hqe.1,List.append_nil]
  have hs1:=hqe.2;have hgS:=hg1;rw[hs1] at hgS;have hbS:JB MUx a=JB mu a:=by rw[hwe];exact HG hlt
  have hawS:∀x∈args,x<MUx.length:=by rw[hli,←hs1];exact haw
  refine BS (Al (Am Aj 2 [1] O (Ah O (Re AW O O) (Bb O ?_))));refine Ag O (fun c3=>by cases c3) (fun c3=>?_);refine Ak (Af (Al (Br (B1 (i:=0) (j:=2) (q:=4) [] O O O (Da Ac)) (BY O (Ah O (BR O) (Ah O (BH KL O O) (Ah O (BU (i:=S.objs.length - 1 - a+1+1+1+1) Q3 O (QJ hli hgS hbS) O) (Ah O (A7 El O (GX _ _)) (Ad Aj 1 [] O (Au ?_))))))))));refine BZ (α:=Nat×Tm×NS×List Nat) (fun(i,z,S2,MUy)=>⟨94,mk [(1,.p (.addr m)),(2,.p (I d)),(6,.ptr b6 0),(7,.ptr b7 0),(76,.p (.lst (LH MUx args))),(77,.p (I (args.length:Nat))),(78,.p (I (i:Int)))],(.box b7 ((A3 z).map .p):: .box b6 [.p (I 0),.p (I 0),.p (.str ⟨#[]⟩),.p (.nils),.p (.nils)]:: .box m [.p (.lst []),.p (I S2.left),.p (I S2.nodes)]::GF xq m MUy MUy S2.objs),[]⟩) (fun(i,z,S2,MUy)=>args.length - i) (fun(i,z,S2,MUy)=>i≤args.length∧(MUy.length=S2.objs.length∧(∃w,MUy=w++MUx)∧Nf (LL (Fy n) n) d (args.drop i) z S2= .ok (t,s'))) ⟨0,(.mk hk 0 ⟨#[]⟩ [] ys),S,MUx⟩ (⟨by omega,hli,⟨[],rfl⟩,by rw[List.drop_zero,←hts,←hs1];exact hqa⟩) ?_ ?_
  ·exact BO ⟨we O,we O,we O,we O,we O,we O,we O,Ac⟩ (Ou [1,2,3] [_,_,_,_] (l':=[_,_,_]) O (wl (oe O) (wl (oe O) (wl (oe O) (DM)))))
  rintro⟨i,z,S2,MUy⟩ hC1
  try simp only at hC1
  obtain⟨hi,⟨hlj,⟨w2,hwf2⟩,hqi⟩⟩:=hC1;refine Ae Aj 1 [] O (Af (Ag O (fun c4=>?_) (fun c4=>?_)))
  ·(try simp only[sd,se] at c4);refine Ak (Af (Au (Al ?_)));obtain⟨x,hx⟩:=Ar (l:=args) (i:=i) Aa;refine Ah O (Aq El O O Aa (Md hx) O) (Ad Aj 2 [] O (Al ?_));obtain⟨hn3,hn4,hn5,hn6,y,sy,hq1,hq2⟩:=NT (by rw[←Bx hx];exact hqi);refine Am Aj 2 [] O (Ah O (CD [2] O (.inl ⟨O,O,O⟩) (PO m S2.left S2.nodes d hn3 hn4 hn5 hn6) ⟨_,_,O,O,O⟩ AZ O (.inl O)) (Bb O (Bq (fun k=>Nat.beq k 4) Er (BC Aj 4 [0] O (E9 [] O O (CW O O (List.perm_append_comm (l₁:=[_,_])) (by have h9:=PN n hQ m MUy { S2 with nodes:=S2.nodes+1 } sy y x d hlj hq1;rw[hwf2,Ed (hawS x (List.mem_of_getElem? hx)),←hwf2] at h9;exact h9) (Js)) AW (Sz (s:={ S2 with nodes:=S2.nodes+1 }) hlj (M1 hq1) _) (OK _) ?_)))));rintro _ _ ⟨_,⟨_,hl1,⟨w,rfl⟩,rfl,rfl⟩,rfl⟩;refine⟨(.box b7 ((A3 z).map .p):: .box b6 [.p (I 0),.p (I 0),.p (.str ⟨#[]⟩),.p (.nils),.p (.nils)]:: .box m [.p (.lst []),.p (I sy.left),.p (I sy.nodes)]::GF xq m (w++MUy) (w++MUy) sy.objs),List.perm_append_comm,AB,Ac,?_⟩;refine A5 O (fun _=>BG (rows:=Ax [y]) BJ Bf O O O O (B3 (Bj _)) (C7 _)) Ac (A5 O (fun _=>Av O O (J0 z [y] (by simp only[Cu,List.length_cons,List.length_nil];decide)) O) Ac (Bo Aj 1 [0,1] O (Ao (Ad Aj 2 [] O ?_))));refine⟨⟨i+1,(apply z [y]),sy,(w++MUy)⟩,AK,⟨by omega,⟨by assumption,⟨_,by rw[hwf2,←List.append_assoc]⟩,hq2⟩⟩,BO ⟨we rfl,we rfl,we rfl,we rfl,we rfl,we rfl,we rfl,trivial⟩ (Ou [0,1,2] [_,_,_] (l':=[_,_,_]) rfl (wl (oe rfl) (wl (oe rfl) (wl (oe rfl) (DM)))))⟩
  (try simp only[sd,se] at c4);obtain⟨e1,e2⟩:=QK (by have:=hqi;rwa [List.drop_eq_nil_of_le Aa] at this);refine BS (Ae Aj 2 [0,1,1] O (Ai ?_));exact⟨O,_,_,⟨_,_,O,(BA (i:=1) Bd O O AS),O⟩,(Co [] [_,_] O),⟨_,(by rw[e2];exact hlj),⟨w2++w,by rw[hwf2,hwe,List.append_assoc]⟩,(by rw[e1]),(by rw[e2];rfl)⟩⟩
 (try simp only[sd,se] at c1);exfalso;omega
theorem Wg:∀n,QC n
 | 0=>fun m mu s s' t a d hl h=>(by cases h)
 | n+1=>fun m mu s s' t a d hl h=>Xx n (Wg n) m mu s s' t a d hl h
theorem V0:∀(bo be:Nat) (co ce:List AV),CR Tryz.prog 32 [.ptr bo 0,.ptr be 0] (.ret) [.box bo co,.box be ce] (fun H'=>H'=[.box bo co,.box be ce]):=by
 intro bo be co ce;refine D7 (ty2:=0) Tryz.func32 O cE (n:=16) O O O O O O (Al (BY O (Ah O (Di RH O O O) (Bb O ?_))));refine Ag O (fun c=>by cases c) (fun c=>?_);exact Ak ⟨.inl O,O,_,(CX (is:=[0,1]) O),O⟩
theorem Py:∀(n:Nat) (t z:Tm) (s2:NS),SN n t= .ok (z,s2)→Dl Tryz.prog 12 [.p (.lst []),TV t] (.tup [TV z,.p (I 0)]):=by
 intro n t z s2 h;obtain⟨⟨v,s1⟩,h1,h2⟩:=Ew h;obtain⟨_,a,e⟩:=O6 h2;simp only at e;subst e;refine Cp Tryz.func12 O bE (n:=16) O O (Al (A2 O (A9 O) fun b3=>A2 O (As Bf O) fun b4=>A2 O (As UN O) fun b5=>Bb O (Al (Ah O (CS O O) (Hh O O O O (Bb O (Al (Am Aj 2 [] O (A2 O (A9 O) fun m=>Ad Aj 1 [] O (Al (FT (List.perm_append_comm (l₁:=[_]) (l₂:=[_,_,_])) (Am Aj 2 [2] O (GI O O (CW O O (List.perm_append_comm (l₁:=[_,_,_])) ((Lk n m [] ⟨[],20000,0⟩ s1 (.st a) O).1 t none h1) (Js)) (FU _) ?_)))))))))))));rintro _ _ ⟨_,⟨_,hl,⟨w,rfl⟩,rfl,rfl⟩,rfl⟩;refine⟨(.box b5 [.p (I 0)]:: .box b4 [.p (I 0),.p (I 0),.p (.str ⟨#[]⟩),.p (.nils),.p (.nils)]:: .box b3 ((A3 t).map .p):: .box m [.p (.lst []),.p (I s1.left),.p (I s1.nodes)]::GF xq m (w++[]) (w++[]) s1.objs),List.perm_append_comm,?_⟩;refine BY O (GI O O (Fm O O AW (List.perm_append_comm (l₁:=[_,_,_])) (Wg n m (w++[]) s1 s2 z a 0 hl h2) (Js)) (OK _) ?_);rintro _ _ ⟨_,⟨_,hl1,⟨w1,rfl⟩,rfl,rfl⟩,rfl⟩;refine⟨(.box b5 [.p (I 0)]:: .box b4 [.p (I 0),.p (I 0),.p (.str ⟨#[]⟩),.p (.nils),.p (.nils)]:: .box b3 ((A3 t).map .p):: .box m [.p (.lst []),.p (I s2.left),.p (I s2.nodes)]::GF xq m (w1++(w++[])) (w1++(w++[])) s2.objs),List.perm_append_comm,?_⟩;refine Ad Aj 2 [1,1,0,0] O (Ai (⟨_,_,_,O,B9 (is:=[1,0]) AZ ⟨_,_,O,O,⟨_,_,O,O,O⟩⟩,CR.eq (V0 b4 b5 _ _) ?_⟩));refine⟨_,_,⟨_,_,O,(BA (i:=0) Bd O O AS),⟨_,_,O,(Dt (i:=1) M7 O O),O⟩⟩,(List.nil_sublist _),?_⟩
 all_goals exact⟨rfl,rfl⟩
theorem B5:∀(k:Int) (l:List Tm),Dl Tryz.prog 24 [.p (I k),.p (.lst (Ax l))] (.agg ((A3 (.mk k 0 ⟨#[]⟩ [] l)).map .p)):=by
 intro k l;refine An Tryz.func24 O dF (n:=8) O O (Al (A2 O (As Bf O) fun b4=>Bb O (Ae Aj 4 [0,0] O (BP (Bv (i:=0) O) (Ai (⟨O,_,_,⟨_,_,O,(BA (i:=0) Bd O O O),O⟩,(List.nil_sublist _),?_⟩))))))
 all_goals exact⟨rfl,rfl⟩
theorem Cn:∀(i:Int),Dl Tryz.prog 25 [.p (I i)] (.agg ((A3 (.mk 0 i ⟨#[]⟩ [] [])).map .p)):=by
 intro i;refine An Tryz.func25 O dc (n:=5) O O (Al (A2 O (As Bf O) fun b2=>Bb O (Ae Aj 3 [0,0] O (BP (Bv (i:=0) O) (Ai (⟨O,_,_,⟨_,_,O,(BA (i:=0) Bd O O O),O⟩,(List.nil_sublist _),?_⟩))))))
 all_goals exact⟨rfl,rfl⟩
theorem ZR (t:Tm) (h:t=aa):Dl Tryz.prog 12 [.p (.lst []),TV t] (.tup [TV (DQ (Bc 5) (Bc 3)),.p (I 0)]):=by
 obtain⟨s,e⟩:=UA;rw[h];exact Py 20 _ _ _ e
theorem Z1 (t:Tm) (h:t=eW):Dl Tryz.prog 12 [.p (.lst []),TV t] (.tup [TV (.mk 9 0 ⟨#[]⟩ [] [Bc 2]),.p (I 0)]):=by
 obtain⟨s,e⟩:=Ts;rw[h];exact Py 20 _ _ _ e
theorem ZB (t:Tm) (h:t=aa):Dl Tryz.prog 15 [.p (.lst []),TV t] (.p (.bool false)):=h▸QH 9 _ _ VP
theorem aG (t:Tm) (h:t=aj):Dl Tryz.prog 15 [.p (.lst []),TV t] (.p (.bool true)):=h▸QH 9 _ _ VS
theorem Sn (t r:Tm) (h1:Qr t=true) (h2:aZ t=true) (h3:size t≤1000000) (h4:Cr t=r):Dl Tryz.prog 18 [TV t] (TV r):=by
 obtain⟨a,b,c⟩:=Ga t h1;have:=GA _ t (Nat.le_refl _) a b (TG t h2) h3
 rwa [h4] at this
theorem Zh (t:Tm) (h:t=dH):Dl Tryz.prog 18 [TV t] (TV (Bc 3)):=by subst h;exact Sn _ _ rfl rfl AZ RP
theorem ZO (t:Tm) (h:t=cO):Dl Tryz.prog 18 [TV t] (TV (.mk 5 0 ⟨#[]⟩ [] [CF,DQ (Bc 0) (Bc 0)])):=by subst h;exact Sn _ _ rfl rfl AZ Ra
theorem Z3 (t:Tm) (h:t=cr):Dl Tryz.prog 18 [TV t] (TV (Bc 1)):=by subst h;exact Sn _ _ rfl rfl AZ RN
theorem E3 (a b:Tm) (h1:Nd a) (h2:a=b):Dl Tryz.prog 14 [TV a,TV b] (.p (.bool true)):=by
 have:=X1 (size a) a b (Nat.le_refl _) h1
 rwa [CN h2] at this
set_option maxHeartbeats 4000000 in
theorem Kd:Dl Tryz.prog 11 [] (.p (.bool true)):=by
 refine An Tryz.func11 O bj (n:=117) O O (Af (FI (M:=⟨117,mk [],[],[]⟩) (DE Ac (List.Sublist.refl _)) (Ao (Ad Aj 1 [] O (Af (FI (M:=⟨117,mk [],[],[]⟩) (DE Ac (List.Sublist.refl _)) (Ao (Ah O (D6 K2 Bf O) (A2 O (As Bf O) fun b1=>Ad Aj 1 [0,0] O (Af (FI (M:=⟨117,mk [(1,.ptr b1 0)],[.box b1 [.p (I 3),.p (I 0),.p (.str ⟨#[65]⟩),.p (.nils),.p (.nils)]],[]⟩) (DE ⟨O,Ac⟩ (List.Sublist.refl _)) ?_)))))))))));refine Gc [.val (.agg [.p (I 3),.p (I 0),.p (.str ⟨#[65]⟩),.p (.nils),.p (.nils)]),.val (.agg [.p (I 0),.p (I 0),.p (.str ⟨#[]⟩),.p (.lst (List.map By [])),.p (.lst (Ax []))]),.val (.p (.lst (Ax ([(.mk 3 0 ⟨#[65]⟩ [] []:Tm),(.mk 0 0 ⟨#[]⟩ [] []:Tm)])))),.val (.agg ((A3 (.mk 5 0 ⟨#[]⟩ [] ([(.mk 3 0 ⟨#[65]⟩ [] []:Tm),(.mk 0 0 ⟨#[]⟩ [] []:Tm)]))).map .p)),.new [.p (I 0),.p (I 0),.p (.str ⟨#[]⟩),.p (.nils),.p (.nils)]] Er O AW AW (Bg O (fun Bs=>BQ (i:=Bs.length+0) Bd O (Fh O) O) (Bg O (fun Bs=>Av O O (Cn 0) O) (Bg O (fun Bs=>Bt BJ Bf O O O O O) (Bg O (fun Bs=>Av O O (B5 5 ([(.mk 3 0 ⟨#[65]⟩ [] []:Tm),(.mk 0 0 ⟨#[]⟩ [] []:Tm)])) O) (Iw O (fun Bs=>As Bf O) fun b2=>IX ?_)))))
 change AL _ _ _ 5 ⟨117,_,[.box b2 [.p (I 0),.p (I 0),.p (.str ⟨#[]⟩),.p (.nils),.p (.nils)],.box b1 [.p (I 3),.p (I 0),.p (.str ⟨#[65]⟩),.p (.nils),.p (.nils)]],[]⟩ _
 refine Ad Aj 1 [0,1] O (Af (FI (M:=⟨117,mk [(1,.ptr b1 0),(2,.ptr b2 0)],[.box b2 ((A3 (.mk 5 0 ⟨#[]⟩ [] ([(.mk 3 0 ⟨#[65]⟩ [] []:Tm),(.mk 0 0 ⟨#[]⟩ [] []:Tm)]))).map .p),.box b1 [.p (I 3),.p (I 0),.p (.str ⟨#[65]⟩),.p (.nils),.p (.nils)]],[]⟩) (DE ⟨O,O,Ac⟩ (List.Sublist.refl _)) (Bq (fun k=>Nat.beq k 11) Er (A5 O (fun _=>Av O O (Cn 5) O) Ac (BC Aj 1 [0] O (A5 O (fun _=>Av O O (Cn 3) O) Ac (A5 O (fun _=>BG (rows:=Ax ([(.mk 5 0 ⟨#[]⟩ [] ([(.mk 3 0 ⟨#[65]⟩ [] []:Tm),(.mk 0 0 ⟨#[]⟩ [] []:Tm)])),(.mk 0 3 ⟨#[]⟩ [] [])])) BJ Bf O O O O (B3 (Bj _)) (C7 _)) Ac (A5 O (fun _=>Av O O (B5 4 ([(.mk 5 0 ⟨#[]⟩ [] ([(.mk 3 0 ⟨#[65]⟩ [] []:Tm),(.mk 0 0 ⟨#[]⟩ [] []:Tm)])),(.mk 0 3 ⟨#[]⟩ [] [])])) O) Ac ?_))))))));refine A5 O (fun _=>BG (rows:=Ax ([(.mk 0 5 ⟨#[]⟩ [] []),(.mk 4 0 ⟨#[]⟩ [] ([(.mk 5 0 ⟨#[]⟩ [] ([(.mk 3 0 ⟨#[65]⟩ [] []:Tm),(.mk 0 0 ⟨#[]⟩ [] []:Tm)])),(.mk 0 3 ⟨#[]⟩ [] [])]))])) BJ Bf O O O O (B3 (Bj _)) (C7 _)) Ac (A5 O (fun _=>Av O O (B5 4 ([(.mk 0 5 ⟨#[]⟩ [] []),(.mk 4 0 ⟨#[]⟩ [] ([(.mk 5 0 ⟨#[]⟩ [] ([(.mk 3 0 ⟨#[65]⟩ [] []:Tm),(.mk 0 0 ⟨#[]⟩ [] []:Tm)])),(.mk 0 3 ⟨#[]⟩ [] [])]))])) O) Ac (A5 O (fun _=>GQ O O (ZR (.mk 4 0 ⟨#[]⟩ [] ([(.mk 0 5 ⟨#[]⟩ [] []),(.mk 4 0 ⟨#[]⟩ [] ([(.mk 5 0 ⟨#[]⟩ [] ([(.mk 3 0 ⟨#[65]⟩ [] []:Tm),(.mk 0 0 ⟨#[]⟩ [] []:Tm)])),(.mk 0 3 ⟨#[]⟩ [] [])]))])) O) (aw (D5 O) (aw (we O) (G7)))) Ac (BC Aj 3 [] O (Kr [] O O (As Bf O) AW fun b3=>⟨AB,Ac,?_⟩))));refine Bo Aj 2 [0,1] O (Af (FI (M:=⟨117,mk [(1,.ptr b1 0),(2,.ptr b2 0),(3,.ptr b3 0),(4,.p (I 0))],[.box b3 ((A3 (DQ (Bc 5) (Bc 3))).map .p),.box b2 ((A3 (.mk 5 0 ⟨#[]⟩ [] ([(.mk 3 0 ⟨#[65]⟩ [] []:Tm),(.mk 0 0 ⟨#[]⟩ [] []:Tm)]))).map .p),.box b1 [.p (I 3),.p (I 0),.p (.str ⟨#[65]⟩),.p (.nils),.p (.nils)]],[]⟩) (DE ⟨O,O,O,O,Ac⟩ (List.Sublist.refl _)) (Bq (fun k=>Nat.beq k 10) Er (BC Aj 1 [1] O (A5 O (fun _=>Av O O (Cn 2) O) Ac (A5 O (fun _=>BG (rows:=Ax ([(.mk 5 0 ⟨#[]⟩ [] ([(.mk 3 0 ⟨#[65]⟩ [] []:Tm),(.mk 0 0 ⟨#[]⟩ [] []:Tm)])),(.mk 0 2 ⟨#[]⟩ [] [])])) BJ Bf O O O O (B3 (Bj _)) (C7 _)) Ac (A5 O (fun _=>Av O O (B5 4 ([(.mk 5 0 ⟨#[]⟩ [] ([(.mk 3 0 ⟨#[65]⟩ [] []:Tm),(.mk 0 0 ⟨#[]⟩ [] []:Tm)])),(.mk 0 2 ⟨#[]⟩ [] [])])) O) Ac ?_)))))))
 refine A5 O (fun _=>BG (rows:=Ax ([(.mk 4 0 ⟨#[]⟩ [] ([(.mk 5 0 ⟨#[]⟩ [] ([(.mk 3 0 ⟨#[65]⟩ [] []:Tm),(.mk 0 0 ⟨#[]⟩ [] []:Tm)])),(.mk 0 2 ⟨#[]⟩ [] [])]))])) BJ Bf O O O O (B3 (Bj _)) (C7 _)) Ac (A5 O (fun _=>Av O O (B5 9 ([(.mk 4 0 ⟨#[]⟩ [] ([(.mk 5 0 ⟨#[]⟩ [] ([(.mk 3 0 ⟨#[65]⟩ [] []:Tm),(.mk 0 0 ⟨#[]⟩ [] []:Tm)])),(.mk 0 2 ⟨#[]⟩ [] [])]))])) O) Ac (A5 O (fun _=>GQ O O (Z1 (.mk 9 0 ⟨#[]⟩ [] ([(.mk 4 0 ⟨#[]⟩ [] ([(.mk 5 0 ⟨#[]⟩ [] ([(.mk 3 0 ⟨#[65]⟩ [] []:Tm),(.mk 0 0 ⟨#[]⟩ [] []:Tm)])),(.mk 0 2 ⟨#[]⟩ [] [])]))])) O) (aw (D5 O) (aw (we O) (G7)))) Ac (BC Aj 3 [] O (Kr [] O O (As Bf O) AW fun b5=>⟨AB,Ac,?_⟩))));refine Bo Aj 2 [0,1] O (Af (FI (M:=⟨117,mk [(1,.ptr b1 0),(2,.ptr b2 0),(3,.ptr b3 0),(4,.p (I 0)),(5,.ptr b5 0),(6,.p (I 0))],[.box b5 ((A3 (.mk 9 0 ⟨#[]⟩ [] [Bc 2])).map .p),.box b3 ((A3 (DQ (Bc 5) (Bc 3))).map .p),.box b2 ((A3 (.mk 5 0 ⟨#[]⟩ [] ([(.mk 3 0 ⟨#[65]⟩ [] []:Tm),(.mk 0 0 ⟨#[]⟩ [] []:Tm)]))).map .p),.box b1 [.p (I 3),.p (I 0),.p (.str ⟨#[65]⟩),.p (.nils),.p (.nils)]],[]⟩) (DE ⟨O,O,O,O,O,O,Ac⟩ (List.Sublist.refl _)) ?_));refine Gc [.val (.agg [.p (I 3),.p (I 0),.p (.str ⟨#[65]⟩),.p (.nils),.p (.nils)]),.val (.agg ((A3 (.mk 0 4 ⟨#[]⟩ [] [])).map .p)),.val (.agg ((A3 (.mk 0 0 ⟨#[]⟩ [] [])).map .p)),.val (.p (.lst (Ax ([(.mk 0 4 ⟨#[]⟩ [] []),(.mk 0 0 ⟨#[]⟩ [] [])])))),.val (.agg [.p (I 4),.p (I 0),.p (.str ⟨#[]⟩),.p (.lst (List.map By [])),.p (.lst (Ax ([(.mk 0 4 ⟨#[]⟩ [] []),(.mk 0 0 ⟨#[]⟩ [] [])])))]),.val (.p (.lst (Ax ([(.mk 3 0 ⟨#[65]⟩ [] []:Tm),(.mk 4 0 ⟨#[]⟩ [] ([(.mk 0 4 ⟨#[]⟩ [] []),(.mk 0 0 ⟨#[]⟩ [] [])]):Tm)])))),.val (.agg ((A3 (.mk 5 0 ⟨#[]⟩ [] ([(.mk 3 0 ⟨#[65]⟩ [] []:Tm),(.mk 4 0 ⟨#[]⟩ [] ([(.mk 0 4 ⟨#[]⟩ [] []),(.mk 0 0 ⟨#[]⟩ [] [])]):Tm)]))).map .p)),.val (.agg ((A3 (Bc 3)).map .p)),.new [.p (I 0),.p (I 0),.p (.str ⟨#[]⟩),.p (.nils),.p (.nils)]] Er O AW AW (Bg O (fun Bs=>BQ (i:=Bs.length+3) Bd O (Fh O) O) ?_)
 refine Bg O (fun Bs=>Av O O (Cn 4) O) (Bg O (fun Bs=>Av O O (Cn 0) O) (Bg O (fun Bs=>BG (rows:=Ax ([(.mk 0 4 ⟨#[]⟩ [] []),(.mk 0 0 ⟨#[]⟩ [] [])])) BJ Bf O O O O (B3 (Bj _)) (C7 _)) (Bg O (fun Bs=>Av O O (B5 4 ([(.mk 0 4 ⟨#[]⟩ [] []),(.mk 0 0 ⟨#[]⟩ [] [])])) O) (Bg O (fun Bs=>Bt BJ Bf O O O O O) (Bg O (fun Bs=>Av O O (B5 5 ([(.mk 3 0 ⟨#[65]⟩ [] []:Tm),(.mk 4 0 ⟨#[]⟩ [] ([(.mk 0 4 ⟨#[]⟩ [] []),(.mk 0 0 ⟨#[]⟩ [] [])]):Tm)])) O) (Bg O (fun Bs=>Av O O (Zh (.mk 5 0 ⟨#[]⟩ [] ([(.mk 3 0 ⟨#[65]⟩ [] []:Tm),(.mk 4 0 ⟨#[]⟩ [] ([(.mk 0 4 ⟨#[]⟩ [] []),(.mk 0 0 ⟨#[]⟩ [] [])]):Tm)])) O) O) (Iw O (fun Bs=>As Bf O) fun b7=>IX ?_)))))))
 change AL _ _ _ 9 ⟨117,_,[.box b7 [.p (I 0),.p (I 0),.p (.str ⟨#[]⟩),.p (.nils),.p (.nils)],.box b5 ((A3 (.mk 9 0 ⟨#[]⟩ [] [Bc 2])).map .p),.box b3 ((A3 (DQ (Bc 5) (Bc 3))).map .p),.box b2 ((A3 (.mk 5 0 ⟨#[]⟩ [] ([(.mk 3 0 ⟨#[65]⟩ [] []:Tm),(.mk 0 0 ⟨#[]⟩ [] []:Tm)]))).map .p),.box b1 [.p (I 3),.p (I 0),.p (.str ⟨#[65]⟩),.p (.nils),.p (.nils)]],[]⟩ _
 refine Ad Aj 1 [0,1] O (Af (FI (M:=⟨117,mk [(1,.ptr b1 0),(2,.ptr b2 0),(3,.ptr b3 0),(4,.p (I 0)),(5,.ptr b5 0),(6,.p (I 0)),(7,.ptr b7 0)],[.box b7 ((A3 (Bc 3)).map .p),.box b5 ((A3 (.mk 9 0 ⟨#[]⟩ [] [Bc 2])).map .p),.box b3 ((A3 (DQ (Bc 5) (Bc 3))).map .p),.box b2 ((A3 (.mk 5 0 ⟨#[]⟩ [] ([(.mk 3 0 ⟨#[65]⟩ [] []:Tm),(.mk 0 0 ⟨#[]⟩ [] []:Tm)]))).map .p),.box b1 [.p (I 3),.p (I 0),.p (.str ⟨#[65]⟩),.p (.nils),.p (.nils)]],[]⟩) (DE ⟨O,O,O,O,O,O,O,Ac⟩ (List.Sublist.refl _)) ?_));refine Gc [.val (.agg [.p (I 3),.p (I 0),.p (.str ⟨#[65]⟩),.p (.nils),.p (.nils)]),.val (.agg ((A3 (.mk 0 0 ⟨#[]⟩ [] [])).map .p)),.val (.agg ((A3 (.mk 0 0 ⟨#[]⟩ [] [])).map .p)),.val (.p (.lst (Ax ([(.mk 0 0 ⟨#[]⟩ [] []),(.mk 0 0 ⟨#[]⟩ [] [])])))),.val (.agg [.p (I 4),.p (I 0),.p (.str ⟨#[]⟩),.p (.lst (List.map By [])),.p (.lst (Ax ([(.mk 0 0 ⟨#[]⟩ [] []),(.mk 0 0 ⟨#[]⟩ [] [])])))]),.val (.p (.lst (Ax ([(.mk 3 0 ⟨#[65]⟩ [] []:Tm),(.mk 4 0 ⟨#[]⟩ [] ([(.mk 0 0 ⟨#[]⟩ [] []),(.mk 0 0 ⟨#[]⟩ [] [])]):Tm)])))),.val (.agg ((A3 (.mk 5 0 ⟨#[]⟩ [] ([(.mk 3 0 ⟨#[65]⟩ [] []:Tm),(.mk 4 0 ⟨#[]⟩ [] ([(.mk 0 0 ⟨#[]⟩ [] []),(.mk 0 0 ⟨#[]⟩ [] [])]):Tm)]))).map .p)),.val (.agg ((A3 (.mk 5 0 ⟨#[]⟩ [] [CF,DQ (Bc 0) (Bc 0)])).map .p)),.new [.p (I 0),.p (I 0),.p (.str ⟨#[]⟩),.p (.nils),.p (.nils)]] Er O AW AW ?_;refine Bg O (fun Bs=>BQ (i:=Bs.length+4) Bd O (Fh O) O) (Bg O (fun Bs=>Av O O (Cn 0) O) (Bg O (fun Bs=>Av O O (Cn 0) O) (Bg O (fun Bs=>BG (rows:=Ax ([(.mk 0 0 ⟨#[]⟩ [] []),(.mk 0 0 ⟨#[]⟩ [] [])])) BJ Bf O O O O (B3 (Bj _)) (C7 _)) (Bg O (fun Bs=>Av O O (B5 4 ([(.mk 0 0 ⟨#[]⟩ [] []),(.mk 0 0 ⟨#[]⟩ [] [])])) O) (Bg O (fun Bs=>Bt BJ Bf O O O O O) (Bg O (fun Bs=>Av O O (B5 5 ([(.mk 3 0 ⟨#[65]⟩ [] []:Tm),(.mk 4 0 ⟨#[]⟩ [] ([(.mk 0 0 ⟨#[]⟩ [] []),(.mk 0 0 ⟨#[]⟩ [] [])]):Tm)])) O) (Bg O (fun Bs=>Av O O (ZO (.mk 5 0 ⟨#[]⟩ [] ([(.mk 3 0 ⟨#[65]⟩ [] []:Tm),(.mk 4 0 ⟨#[]⟩ [] ([(.mk 0 0 ⟨#[]⟩ [] []),(.mk 0 0 ⟨#[]⟩ [] [])]):Tm)])) O) O) (Iw O (fun Bs=>As Bf O) fun b8=>IX ?_))))))))
 change AL _ _ _ 9 ⟨117,_,[.box b8 [.p (I 0),.p (I 0),.p (.str ⟨#[]⟩),.p (.nils),.p (.nils)],.box b7 ((A3 (Bc 3)).map .p),.box b5 ((A3 (.mk 9 0 ⟨#[]⟩ [] [Bc 2])).map .p),.box b3 ((A3 (DQ (Bc 5) (Bc 3))).map .p),.box b2 ((A3 (.mk 5 0 ⟨#[]⟩ [] ([(.mk 3 0 ⟨#[65]⟩ [] []:Tm),(.mk 0 0 ⟨#[]⟩ [] []:Tm)]))).map .p),.box b1 [.p (I 3),.p (I 0),.p (.str ⟨#[65]⟩),.p (.nils),.p (.nils)]],[]⟩ _
 refine Ad Aj 1 [0,1] O (Af (FI (M:=⟨117,mk [(1,.ptr b1 0),(2,.ptr b2 0),(3,.ptr b3 0),(4,.p (I 0)),(5,.ptr b5 0),(6,.p (I 0)),(7,.ptr b7 0),(8,.ptr b8 0)],[.box b8 ((A3 (.mk 5 0 ⟨#[]⟩ [] [CF,DQ (Bc 0) (Bc 0)])).map .p),.box b7 ((A3 (Bc 3)).map .p),.box b5 ((A3 (.mk 9 0 ⟨#[]⟩ [] [Bc 2])).map .p),.box b3 ((A3 (DQ (Bc 5) (Bc 3))).map .p),.box b2 ((A3 (.mk 5 0 ⟨#[]⟩ [] ([(.mk 3 0 ⟨#[65]⟩ [] []:Tm),(.mk 0 0 ⟨#[]⟩ [] []:Tm)]))).map .p),.box b1 [.p (I 3),.p (I 0),.p (.str ⟨#[65]⟩),.p (.nils),.p (.nils)]],[]⟩) (DE ⟨O,O,O,O,O,O,O,O,Ac⟩ (List.Sublist.refl _)) ?_));refine Gc [.val (.agg [.p (I 3),.p (I 0),.p (.str ⟨#[65]⟩),.p (.nils),.p (.nils)]),.val (.agg ((A3 (.mk 0 1 ⟨#[]⟩ [] [])).map .p)),.val (.p (.lst (Ax ([(.mk 0 1 ⟨#[]⟩ [] [])])))),.val (.agg [.p (I 9),.p (I 0),.p (.str ⟨#[]⟩),.p (.lst (List.map By [])),.p (.lst (Ax ([(.mk 0 1 ⟨#[]⟩ [] [])])))]),.val (.agg ((A3 (.mk 0 1 ⟨#[]⟩ [] [])).map .p)),.val (.p (.lst (Ax ([(.mk 0 1 ⟨#[]⟩ [] [])])))),.val (.agg [.p (I 10),.p (I 0),.p (.str ⟨#[]⟩),.p (.lst (List.map By [])),.p (.lst (Ax ([(.mk 0 1 ⟨#[]⟩ [] [])])))]),.val (.p (.lst (Ax ([(.mk 3 0 ⟨#[65]⟩ [] []:Tm),(.mk 9 0 ⟨#[]⟩ [] ([(.mk 0 1 ⟨#[]⟩ [] [])]):Tm),(.mk 10 0 ⟨#[]⟩ [] ([(.mk 0 1 ⟨#[]⟩ [] [])]):Tm)])))),.val (.agg ((A3 (.mk 8 0 ⟨#[]⟩ [] ([(.mk 3 0 ⟨#[65]⟩ [] []:Tm),(.mk 9 0 ⟨#[]⟩ [] ([(.mk 0 1 ⟨#[]⟩ [] [])]):Tm),(.mk 10 0 ⟨#[]⟩ [] ([(.mk 0 1 ⟨#[]⟩ [] [])]):Tm)]))).map .p)),.val (.agg ((A3 (Bc 1)).map .p)),.new [.p (I 0),.p (I 0),.p (.str ⟨#[]⟩),.p (.nils),.p (.nils)]] Er O AW AW ?_;refine Bg O (fun Bs=>BQ (i:=Bs.length+5) Bd O (Fh O) O) (Bg O (fun Bs=>Av O O (Cn 1) O) (Bg O (fun Bs=>BG (rows:=Ax ([(.mk 0 1 ⟨#[]⟩ [] [])])) BJ Bf O O O O (B3 (Bj _)) (C7 _)) (Bg O (fun Bs=>Av O O (B5 9 ([(.mk 0 1 ⟨#[]⟩ [] [])])) O) (Bg O (fun Bs=>Av O O (Cn 1) O) (Bg O (fun Bs=>BG (rows:=Ax ([(.mk 0 1 ⟨#[]⟩ [] [])])) BJ Bf O O O O (B3 (Bj _)) (C7 _)) (Bg O (fun Bs=>Av O O (B5 10 ([(.mk 0 1 ⟨#[]⟩ [] [])])) O) (Bg O (fun Bs=>Bt BJ Bf O O O O O) (Bg O (fun Bs=>Av O O (B5 8 ([(.mk 3 0 ⟨#[65]⟩ [] []:Tm),(.mk 9 0 ⟨#[]⟩ [] ([(.mk 0 1 ⟨#[]⟩ [] [])]):Tm),(.mk 10 0 ⟨#[]⟩ [] ([(.mk 0 1 ⟨#[]⟩ [] [])]):Tm)])) O) ?_))))))))
 refine Bg O (fun Bs=>Av O O (Z3 (.mk 8 0 ⟨#[]⟩ [] ([(.mk 3 0 ⟨#[65]⟩ [] []:Tm),(.mk 9 0 ⟨#[]⟩ [] ([(.mk 0 1 ⟨#[]⟩ [] [])]):Tm),(.mk 10 0 ⟨#[]⟩ [] ([(.mk 0 1 ⟨#[]⟩ [] [])]):Tm)])) O) O) (Iw O (fun Bs=>As Bf O) fun b9=>IX ?_)
 change AL _ _ _ 11 ⟨117,_,[.box b9 [.p (I 0),.p (I 0),.p (.str ⟨#[]⟩),.p (.nils),.p (.nils)],.box b8 ((A3 (.mk 5 0 ⟨#[]⟩ [] [CF,DQ (Bc 0) (Bc 0)])).map .p),.box b7 ((A3 (Bc 3)).map .p),.box b5 ((A3 (.mk 9 0 ⟨#[]⟩ [] [Bc 2])).map .p),.box b3 ((A3 (DQ (Bc 5) (Bc 3))).map .p),.box b2 ((A3 (.mk 5 0 ⟨#[]⟩ [] ([(.mk 3 0 ⟨#[65]⟩ [] []:Tm),(.mk 0 0 ⟨#[]⟩ [] []:Tm)]))).map .p),.box b1 [.p (I 3),.p (I 0),.p (.str ⟨#[65]⟩),.p (.nils),.p (.nils)]],[]⟩ _
 refine Ad Aj 1 [0,1] O (Af (Af (FI (M:=⟨117,mk [(2,.ptr b2 0),(3,.ptr b3 0),(4,.p (I 0)),(5,.ptr b5 0),(6,.p (I 0)),(7,.ptr b7 0),(8,.ptr b8 0),(9,.ptr b9 0)],[.box b9 ((A3 (Bc 1)).map .p),.box b8 ((A3 (.mk 5 0 ⟨#[]⟩ [] [CF,DQ (Bc 0) (Bc 0)])).map .p),.box b7 ((A3 (Bc 3)).map .p),.box b5 ((A3 (.mk 9 0 ⟨#[]⟩ [] [Bc 2])).map .p),.box b3 ((A3 (DQ (Bc 5) (Bc 3))).map .p),.box b2 ((A3 (.mk 5 0 ⟨#[]⟩ [] ([(.mk 3 0 ⟨#[65]⟩ [] []:Tm),(.mk 0 0 ⟨#[]⟩ [] []:Tm)]))).map .p),.box b1 [.p (I 3),.p (I 0),.p (.str ⟨#[65]⟩),.p (.nils),.p (.nils)]],[]⟩) (DE ⟨O,O,O,O,O,O,O,O,Ac⟩ (List.Sublist.refl _)) (Bq (fun k=>false) Er (BC Aj 7 [] O (Bh O (fun _=>Av O O (Cn 5) O) Ac (BC Aj 1 [5] O (Bh O (fun _=>Av O O (Cn 3) O) Ac ?_))))))));refine Bh O (fun _=>BG (rows:=Ax ([(.mk 5 0 ⟨#[]⟩ [] ([(.mk 3 0 ⟨#[65]⟩ [] []:Tm),(.mk 0 0 ⟨#[]⟩ [] []:Tm)])),(.mk 0 3 ⟨#[]⟩ [] [])])) BJ Bf O O O O (B3 (Bj _)) (C7 _)) Ac (Bh O (fun _=>Av O O (B5 4 ([(.mk 5 0 ⟨#[]⟩ [] ([(.mk 3 0 ⟨#[65]⟩ [] []:Tm),(.mk 0 0 ⟨#[]⟩ [] []:Tm)])),(.mk 0 3 ⟨#[]⟩ [] [])])) O) Ac (Bh O (fun _=>BG (rows:=Ax ([(.mk 0 5 ⟨#[]⟩ [] []),(.mk 4 0 ⟨#[]⟩ [] ([(.mk 5 0 ⟨#[]⟩ [] ([(.mk 3 0 ⟨#[65]⟩ [] []:Tm),(.mk 0 0 ⟨#[]⟩ [] []:Tm)])),(.mk 0 3 ⟨#[]⟩ [] [])]))])) BJ Bf O O O O (B3 (Bj _)) (C7 _)) Ac (Bh O (fun _=>Av O O (B5 4 ([(.mk 0 5 ⟨#[]⟩ [] []),(.mk 4 0 ⟨#[]⟩ [] ([(.mk 5 0 ⟨#[]⟩ [] ([(.mk 3 0 ⟨#[65]⟩ [] []:Tm),(.mk 0 0 ⟨#[]⟩ [] []:Tm)])),(.mk 0 3 ⟨#[]⟩ [] [])]))])) O) Ac ?_)));refine Bh O (fun _=>GQ O O (ZB (.mk 4 0 ⟨#[]⟩ [] ([(.mk 0 5 ⟨#[]⟩ [] []),(.mk 4 0 ⟨#[]⟩ [] ([(.mk 5 0 ⟨#[]⟩ [] ([(.mk 3 0 ⟨#[65]⟩ [] []:Tm),(.mk 0 0 ⟨#[]⟩ [] []:Tm)])),(.mk 0 3 ⟨#[]⟩ [] [])]))])) O) (aw (D5 O) (aw (we O) (G7)))) Ac (BC Aj 3 [5] O (Bh O (fun _=>GQ O O (aG (.mk 5 0 ⟨#[]⟩ [] ([(.mk 3 0 ⟨#[65]⟩ [] []:Tm),(.mk 0 0 ⟨#[]⟩ [] []:Tm)])) O) (aw (D5 O) (aw (we O) (G7)))) Ac (Bo Aj 2 [] O ?_)));refine Ag O (fun c=>by cases c) (fun c=>?_)
 refine Ak (Af (FI (M:=⟨117,mk [(3,.ptr b3 0),(5,.ptr b5 0),(7,.ptr b7 0),(8,.ptr b8 0),(9,.ptr b9 0)],[.box b9 ((A3 (Bc 1)).map .p),.box b8 ((A3 (.mk 5 0 ⟨#[]⟩ [] [CF,DQ (Bc 0) (Bc 0)])).map .p),.box b7 ((A3 (Bc 3)).map .p),.box b5 ((A3 (.mk 9 0 ⟨#[]⟩ [] [Bc 2])).map .p),.box b3 ((A3 (DQ (Bc 5) (Bc 3))).map .p),.box b2 ((A3 (.mk 5 0 ⟨#[]⟩ [] ([(.mk 3 0 ⟨#[65]⟩ [] []:Tm),(.mk 0 0 ⟨#[]⟩ [] []:Tm)]))).map .p),.box b1 [.p (I 3),.p (I 0),.p (.str ⟨#[65]⟩),.p (.nils),.p (.nils)]],[]⟩) (DE ⟨O,O,O,O,O,Ac⟩ (List.Sublist.refl _)) (Bq (fun k=>false) Er (BC Aj 1 [4] O (A5 O (fun _=>Av O O (Cn 5) O) Ac (A5 O (fun _=>Av O O (Cn 3) O) Ac ?_))))));refine A5 O (fun _=>BG (rows:=Ax ([(.mk 0 5 ⟨#[]⟩ [] []),(.mk 0 3 ⟨#[]⟩ [] [])])) BJ Bf O O O O (B3 (Bj _)) (C7 _)) Ac (A5 O (fun _=>Av O O (B5 4 ([(.mk 0 5 ⟨#[]⟩ [] []),(.mk 0 3 ⟨#[]⟩ [] [])])) O) Ac (A5 O (fun _=>Av O O (E3 (DQ (Bc 5) (Bc 3)) (.mk 4 0 ⟨#[]⟩ [] ([(.mk 0 5 ⟨#[]⟩ [] []),(.mk 0 3 ⟨#[]⟩ [] [])])) (Ku O) O) O) Ac (BC Aj 2 [3] O (Bh O (fun _=>Av O O (Cn 2) O) Ac (Bh O (fun _=>BG (rows:=Ax ([(.mk 0 2 ⟨#[]⟩ [] [])])) BJ Bf O O O O (B3 (Bj _)) (C7 _)) Ac (Bh O (fun _=>Av O O (B5 9 ([(.mk 0 2 ⟨#[]⟩ [] [])])) O) Ac (Bh O (fun _=>Av O O (E3 (.mk 9 0 ⟨#[]⟩ [] [Bc 2]) (.mk 9 0 ⟨#[]⟩ [] ([(.mk 0 2 ⟨#[]⟩ [] [])])) (Ku O) O) O) Ac (BC Aj 3 [2] O ?_))))))));refine Bh O (fun _=>Av O O (Cn 3) O) Ac (Bh O (fun _=>Av O O (E3 (Bc 3) (.mk 0 3 ⟨#[]⟩ [] []) (Ku O) O) O) Ac (BC Aj 3 [1] O (Bh O (fun _=>GQ O O (B5 1 []) (aw (we O) (aw (D5 O) (G7)))) Ac (Bh O (fun _=>Av O O (Cn 0) O) Ac (Bh O (fun _=>Av O O (Cn 0) O) Ac (Bh O (fun _=>BG (rows:=Ax ([(.mk 0 0 ⟨#[]⟩ [] []),(.mk 0 0 ⟨#[]⟩ [] [])])) BJ Bf O O O O (B3 (Bj _)) (C7 _)) Ac (Bh O (fun _=>Av O O (B5 4 ([(.mk 0 0 ⟨#[]⟩ [] []),(.mk 0 0 ⟨#[]⟩ [] [])])) O) Ac (Bh O (fun _=>BG (rows:=Ax ([(.mk 1 0 ⟨#[]⟩ [] []),(.mk 4 0 ⟨#[]⟩ [] ([(.mk 0 0 ⟨#[]⟩ [] []),(.mk 0 0 ⟨#[]⟩ [] [])]))])) BJ Bf O O O O (B3 (Bj _)) (C7 _)) Ac ?_))))))))
 refine Bh O (fun _=>Av O O (B5 5 ([(.mk 1 0 ⟨#[]⟩ [] []),(.mk 4 0 ⟨#[]⟩ [] ([(.mk 0 0 ⟨#[]⟩ [] []),(.mk 0 0 ⟨#[]⟩ [] [])]))])) O) Ac (Bh O (fun _=>Av O O (E3 (.mk 5 0 ⟨#[]⟩ [] [CF,DQ (Bc 0) (Bc 0)]) (.mk 5 0 ⟨#[]⟩ [] ([(.mk 1 0 ⟨#[]⟩ [] []),(.mk 4 0 ⟨#[]⟩ [] ([(.mk 0 0 ⟨#[]⟩ [] []),(.mk 0 0 ⟨#[]⟩ [] [])]))])) (Ku O) O) O) Ac (BC Aj 3 [0] O (Bh O (fun _=>Av O O (Cn 1) O) Ac (Bh O (fun _=>Av O O (E3 (Bc 1) (.mk 0 1 ⟨#[]⟩ [] []) (Ku O) O) O) Ac (Bo Aj 2 [] O (Ai (⟨O,_,_,⟨_,_,O,O,O⟩,(List.nil_sublist _),?_⟩)))))))
 all_goals exact⟨rfl,rfl⟩
end Go.Proofs.YtldfmjoncbjldaaGreat
namespace Go.Eu
open Go.Abs
mutual
def up (d:Int):Tm→Tm
 | .mk k i n l ks=>if k=0 then (if i<d then .mk k i n l ks else Bc (i+1)) else .mk k i n l (FV d k 0 ks)
def FV (d k:Int):Nat→List Tm→List Tm
 | _,[]=>[]
 | j,t::ts=>up (d+below k j) t::FV d k (j+1) ts
end
mutual
def dn (d:Int):Tm→Tm
 | .mk k i n l ks=>if k=0 then (if i<d then .mk k i n l ks else Bc (i - 1)) else .mk k i n l (UP d k 0 ks)
def UP (d k:Int):Nat→List Tm→List Tm
 | _,[]=>[]
 | j,t::ts=>dn (d+below k j) t::UP d k (j+1) ts
end
mutual
def Pv:Tm→Prop
 | .mk k i n l ks=>(k=0→0≤i∧n=⟨#[]⟩∧l=[]∧ks=[])∧Qy ks
def Qy:List Tm→Prop
 | []=>True
 | t::ts=>Pv t∧Qy ts
end
theorem Gj {ts:List Tm}(h:Qy ts):∀t∈ts,Pv t:=by
 induction ts with
 | nil=>intro t ht;cases ht
 | cons a ts ih=>intro t ht;rcases List.mem_cons.1 ht with rfl | ht;exact h.1;exact ih h.2 t ht
theorem TN {ts:List Tm}(h:∀t∈ts,Pv t):Qy ts:=by
 induction ts with
 | nil=>trivial
 | cons t ts ih=>exact⟨h t Ab,ih fun x hx=>h x (by simp[hx])⟩
theorem Pv.var {k i:Int}{n:ByteArray}{l:List B6}{ks:List Tm}(h:Pv (.mk k i n l ks)) (hk:k=0):0≤i∧Tm.mk k i n l ks=Bc i:=by
 obtain⟨a,rfl,rfl,rfl⟩:=h.1 hk;exact⟨a,by rw[hk];rfl⟩
theorem KK {i:Int}(h:0≤i):Pv (Bc i):=⟨fun _=>⟨h,rfl,rfl,rfl⟩,trivial⟩
theorem C6 {d i:Int}:up d (Bc i)=if i<d then Bc i else Bc (i+1):=by unfold Bc up;simp only[if_true];rfl
theorem Mx {d i:Int}:dn d (Bc i)=if i<d then Bc i else Bc (i - 1):=by unfold Bc dn;simp only[if_true];rfl
theorem Is {x d i:Int}:HI x d (Bc i)=(decide (d≤i)&&decide (i - d=x)):=by unfold Bc HI;simp[Dq]
section
variable {k i d:Int}{n:ByteArray}{l:List B6}{ks:List Tm}
theorem DU (h:k≠0):up d (.mk k i n l ks)= .mk k i n l (FV d k 0 ks):=by unfold up;rw[if_neg h]
theorem To (h:k≠0):dn d (.mk k i n l ks)= .mk k i n l (UP d k 0 ks):=by unfold dn;rw[if_neg h]
theorem MT {x:Int}(h:k≠0):HI x d (.mk k i n l ks)=Dq x d k 0 ks:=by unfold HI;simp[h]
end
mutual
theorem TL:∀(t:Tm) (d:Int),Pv t→Pv (up d t)
 | .mk k i n l ks,d,h=>by
  by_cases hk:k=0
  ·obtain⟨a,e⟩:=h.var hk;rw[e,C6];split
   ·exact KK a
   exact KK Aa
  rw[DU hk];exact⟨fun e=>absurd e hk,Tb ks d k 0 h.2⟩
theorem Tb:∀(ts:List Tm) (d k:Int) (j:Nat),Qy ts→Qy (FV d k j ts)
 | [],d,k,j,h=>trivial
 | t::ts,d,k,j,h=>⟨TL t _ h.1,Tb ts d k (j+1) h.2⟩
end
mutual
theorem OO:∀(t:Tm) (d:Int),Pv t→0≤d→HI 0 d t=false→Pv (dn d t)
 | .mk k i n l ks,d,h,h0,hf=>by
  by_cases hk:k=0
  ·obtain⟨a,e⟩:=h.var hk;rw[e,Is] at hf;rw[e,Mx];split
   ·exact KK a
   rename_i hd;simp only[Bool.and_eq_false_iff,decide_eq_false_iff_not] at hf;exact KK Aa
  rw[MT hk] at hf;rw[To hk];exact⟨fun e=>absurd e hk,TZ ks d k 0 h.2 h0 hf⟩
theorem TZ:∀(ts:List Tm) (d k:Int) (j:Nat),Qy ts→0≤d→Dq 0 d k j ts=false→Qy (UP d k j ts)
 | [],d,k,j,h,h0,hf=>trivial
 | t::ts,d,k,j,h,h0,hf=>by
  unfold Dq at hf;rw[Bool.or_eq_false_iff] at hf;have:=Bn k j;exact⟨OO t _ h.1 Aa hf.1,TZ ts d k (j+1) h.2 h0 hf.2⟩
end
mutual
theorem Wa:∀(t:Tm) (c d:Int),Pv t→c≤d→up (d+1) (up c t)=up c (up d t)
 | .mk k i n l ks,c,d,h,hc=>by
  by_cases hk:k=0
  ·obtain⟨a,e⟩:=h.var hk;rw[e,C6,C6];by_cases h1:i<c
   ·rw[if_pos h1,if_pos (by omega:i<d),C6,if_pos Aa,C6,if_pos h1]
   rw[if_neg h1,C6];by_cases h2:i<d
   ·rw[if_pos Aa,if_pos h2,C6,if_neg h1]
   rw[if_neg Aa,if_neg h2,C6,if_neg Aa]
  rw[DU hk,DU hk,DU hk,DU hk,Qo ks c d k 0 h.2 hc]
theorem Qo:∀(ts:List Tm) (c d k:Int) (j:Nat),Qy ts→c≤d→FV (d+1) k j (FV c k j ts)=FV c k j (FV d k j ts)
 | [],c,d,k,j,h,hc=>rfl
 | t::ts,c,d,k,j,h,hc=>by
  simp only[FV];rw[show d+1+below k j=d+below k j+1 by omega,Wa t _ _ h.1 Aa,Qo ts c d k (j+1) h.2 hc]
end
mutual
theorem Tj:∀(t:Tm) (c d:Int),Pv t→c≤d→HI 0 c (up (d+1) t)=HI 0 c t
 | .mk k i n l ks,c,d,h,hc=>by
  by_cases hk:k=0
  ·obtain⟨a,e⟩:=h.var hk;rw[e,C6];split
   ·rfl
   rw[Is,Is,decide_eq_false (by omega:¬i+1 - c=0),decide_eq_false (by omega:¬i - c=0),Bool.and_false,Bool.and_false]
  rw[DU hk,MT hk,MT hk,SY ks c d k 0 h.2 hc]
theorem SY:∀(ts:List Tm) (c d k:Int) (j:Nat),Qy ts→c≤d→Dq 0 c k j (FV (d+1) k j ts)=Dq 0 c k j ts
 | [],c,d,k,j,h,hc=>rfl
 | t::ts,c,d,k,j,h,hc=>by
  simp only[FV,Dq];rw[show d+1+below k j=d+below k j+1 by omega,Tj t _ _ h.1 Aa,SY ts c d k (j+1) h.2 hc]
end
mutual
theorem Nz:∀(t:Tm) (d:Int),Pv t→dn d (up d t)=t∧HI 0 d (up d t)=false
 | .mk k i n l ks,d,h=>by
  by_cases hk:k=0
  ·obtain⟨a,e⟩:=h.var hk;rw[e,C6];split
   ·rename_i h1;rw[Mx,if_pos h1,Is,decide_eq_false (by omega:¬d≤i)];exact⟨O,O⟩
   rw[Mx,if_neg Aa,Is,decide_eq_false (by omega:¬i+1 - d=0),Bool.and_false];exact⟨by rw[show i+1 - 1=i by omega],rfl⟩
  rw[DU hk,To hk,MT hk,(MZ ks d k 0 h.2).1];exact⟨O,(MZ ks d k 0 h.2).2⟩
theorem MZ:∀(ts:List Tm) (d k:Int) (j:Nat),Qy ts→UP d k j (FV d k j ts)=ts∧Dq 0 d k j (FV d k j ts)=false
 | [],d,k,j,h=>⟨rfl,rfl⟩
 | t::ts,d,k,j,h=>by
  have h1:=Nz t (d+below k j) h.1;have h2:=MZ ts d k (j+1) h.2;simp only[FV,UP,Dq];exact⟨by rw[h1.1,h2.1],by rw[h1.2,h2.2];rfl⟩
end
mutual
theorem T8:∀(t:Tm) (d:Int),Pv t→HI 0 d t=false→up d (dn d t)=t
 | .mk k i n l ks,d,h,hf=>by
  by_cases hk:k=0
  ·obtain⟨a,e⟩:=h.var hk;rw[e,Is] at hf;rw[e,Mx];simp only[Bool.and_eq_false_iff,decide_eq_false_iff_not] at hf;split
   ·rename_i h1;rw[C6,if_pos h1]
   rw[C6,if_neg Aa,show i - 1+1=i by omega]
  rw[MT hk] at hf;rw[To hk,DU hk,QX ks d k 0 h.2 hf]
theorem QX:∀(ts:List Tm) (d k:Int) (j:Nat),Qy ts→Dq 0 d k j ts=false→FV d k j (UP d k j ts)=ts
 | [],d,k,j,h,hf=>rfl
 | t::ts,d,k,j,h,hf=>by
  unfold Dq at hf;rw[Bool.or_eq_false_iff] at hf;simp only[UP,FV];rw[T8 t _ h.1 hf.1,QX ts d k (j+1) h.2 hf.2]
end
theorem Pt {a b:Tm}{d:Int}(ha:Pv a) (hb:Pv b) (h:up d a=up d b):a=b:=by
 rw[←(Nz a d ha).1,←(Nz b d hb).1,h]
noncomputable def JE:Tm→Tm:=Mw (fun f=>HI 0 0 f) (dn 0)
noncomputable def Pg (k i:Int) (n:ByteArray) (l:List B6) (ks:List Tm):Tm:=L7 (fun f=>HI 0 0 f) (dn 0) k i n l ks
theorem Dd (k i:Int) (n:ByteArray) (l:List B6) (ts:List Tm):JE (.mk k i n l ts)=Pg k i n l (ts.map JE):=by
 show Mw _ _ _=_;rw[Mw,Io];rfl
theorem M6 (i:Int):JE (Bc i)=Bc i:=by
 unfold Bc;rw[Dd];exact Cl Ab Ab
theorem K3:JE CF=CF:=by
 unfold CF;rw[Dd];exact Cl Ab Ab
theorem Qp (d:Int):up d CF=CF:=by
 unfold CF;rw[DU AZ];rfl
theorem Hn {b:Tm}(hb:Pv b):Ej b=true↔∃i n l x,b= .mk 4 i n l [x,Bc 0]:=by
 constructor
 ·intro h;obtain⟨k,i,n,l,s⟩:=b;simp only[Ej,Bool.and_eq_true] at h;obtain⟨⟨⟨h1,h2⟩,h3⟩,h4⟩:=h;obtain rfl:k=4:=of_decide_eq_true h1;replace h2:s.length=2:=of_decide_eq_true h2;replace h3:(s.getD 1 default).kind=0:=of_decide_eq_true h3;replace h4:(s.getD 1 default).index=0:=of_decide_eq_true h4;obtain⟨x,v,rfl⟩:=Og h2;obtain⟨vk,vi,vn,vl,vs⟩:=v;replace h3:vk=0:=h3;replace h4:vi=0:=h4;exact⟨i,n,l,x,by rw[(hb.2.2.1.var h3).2,h4]⟩
 rintro⟨i,n,l,x,rfl⟩;rfl
theorem H7 {b c:Tm}:Ei b c=true↔∃i n l i2 n2 l2 x,b= .mk 9 i n l [x]∧c= .mk 10 i2 n2 l2 [x]:=by
 constructor
 ·intro h;obtain⟨k,i,n,l,s⟩:=b;obtain⟨k2,i2,n2,l2,s2⟩:=c;simp only[Ei,Bool.and_eq_true] at h;obtain⟨⟨⟨⟨h1,h2⟩,h3⟩,h4⟩,h5⟩:=h;obtain rfl:k=9:=of_decide_eq_true h1;obtain rfl:k2=10:=of_decide_eq_true h2;replace h3:s.length=1:=of_decide_eq_true h3;replace h4:s2.length=1:=of_decide_eq_true h4
  match s,h3,s2,h4 with
  | [x],_,[y],_ =>
   have:x=y:=EA.1 h5;exact⟨i,n,l,i2,n2,l2,x,O,by rw[this]⟩
 rintro⟨i,n,l,i2,n2,l2,x,rfl,rfl⟩;simp[Ei,Tm.kind,Tm.kids,CN]
theorem Qa:Pv CF:=⟨fun e=>absurd e AZ,trivial⟩
theorem XY {k i:Int}{n:ByteArray}{l:List B6}{ks:List Tm}(h:Pv (.mk k i n l ks)):Pv (Pg k i n l ks):=by
 unfold Pg;by_cases h5:k=5∧ks.length=2
 ·obtain⟨rfl,h2⟩:=h5;obtain⟨a,b,rfl⟩:=Og h2;have hno:Pv (.mk 5 i n l [CF,b]):=⟨fun e=>absurd e AZ,Qa,h.2.2.1,trivial⟩;cases he:Ej b with
  | true =>
   obtain⟨i2,n2,l2,x,rfl⟩:=(Hn h.2.2.1).1 he;cases ho:HI 0 0 x with
   | false=>rw[Ds rfl he (x:=x) rfl ho];exact OO x 0 h.2.2.1.2.1 Aa ho
   | true=>rw[CP rfl (fun _ y hy=>by injection hy with hy;rw[←hy];exact ho)];exact hno
  | false=>rw[CP rfl (fun e=>by rw[he] at e;cases e)];exact hno
 by_cases h8:k=8∧ks.length=3
 ·obtain⟨rfl,h2⟩:=h8;obtain⟨a,b,c,rfl⟩:=Rc h2;cases he:Ei b c with
  | true =>
   obtain⟨i2,n2,l2,i3,n3,l3,x,rfl,rfl⟩:=H7.1 he;rw[EO rfl he (x:=x) rfl];exact h.2.2.1.2.1
  | false=>rw[EG rfl he];exact⟨fun e=>absurd e AZ,Qa,h.2.2.1,h.2.2.2.1,trivial⟩
 rw[Cl h5 h8];exact h
theorem ND:∀t,Pv t→Pv (JE t):=by
 refine WN fun k i n l ks ih h=>?_;rw[Dd];refine XY ⟨fun e=>?_,TN fun y hy=>?_⟩
 ·obtain⟨a,b,c,rfl⟩:=h.1 e;exact⟨a,b,c,rfl⟩
 obtain⟨z,hz,rfl⟩:=List.mem_map.1 hy;exact ih z hz (Gj h.2 z hz)
theorem Jf (d k:Int):∀(ts:List Tm) (j:Nat),(FV d k j ts).length=ts.length
 | [],j=>rfl
 | t::ts,j=>by simp only[FV,List.length_cons,Jf d k ts (j+1)]
theorem Sy {b:Tm}{d:Int}(hb:Pv b) (hd:0≤d):Ej (up (d+1) b)=Ej b:=by
 have e0:up (d+1) (Bc 0)=Bc 0:=by rw[C6,if_pos Aa]
 rw[Bool.eq_iff_iff,Hn (TL b _ hb),Hn hb];constructor
 ·rintro⟨i,n,l,x,h⟩;obtain⟨bk,bi,bn,bl,bs⟩:=b;by_cases hk:bk=0
  ·rw[(hb.var hk).2,C6] at h;split at h<;>(injection h with h;exact absurd h AZ)
  rw[DU hk] at h;injection h with h1 h2 h3 h4 h5;subst h1 h2 h3 h4
  match bs,h5 with
  | [y,v],h5 =>
   simp only[FV] at h5;injection h5 with h6 h7;injection h7 with h7 h8;rw[show d+1+below 4 ((0+1:Nat):Int)=d+1 by simp[below]] at h7;have:v=Bc 0:=Pt hb.2.2.1 (KK Aa) (h7.trans e0.symm);exact⟨bi,bn,bl,y,by rw[this]⟩
  | [],h5=>cases h5
  | [y],h5=>simp[FV] at h5
  | a::b::c::r,h5=>simp[FV] at h5
 rintro⟨i,n,l,x,rfl⟩;refine⟨i,n,l,up (d+1) x,?_⟩;rw[DU AZ];simp only[FV];rw[show d+1+below 4 ((0:Nat):Int)=d+1 by simp[below],show d+1+below 4 ((0+1:Nat):Int)=d+1 by simp[below],e0]
theorem XV {b c:Tm}{d:Int}(hb:Pv b) (hc:Pv c):Ei (up d b) (up d c)=Ei b c:=by
 rw[Bool.eq_iff_iff,H7,H7];constructor
 ·rintro⟨i,n,l,i2,n2,l2,x,h,h'⟩;obtain⟨bk,bi,bn,bl,bs⟩:=b;obtain⟨ck,ci,cn,cl,cs⟩:=c;have hk:bk≠0:=fun hk=>by
   rw[(hb.var hk).2,C6] at h;split at h<;>(injection h with h;exact absurd h AZ)
  have hk2:ck≠0:=fun hk=>by
   rw[(hc.var hk).2,C6] at h';split at h'<;>(injection h' with h';exact absurd h' AZ)
  rw[DU hk] at h;rw[DU hk2] at h';injection h with h1 h2 h3 h4 h5;injection h' with h1' h2' h3' h4' h5';subst h1 h2 h3 h4 h1' h2' h3' h4';have hl:=congrArg List.length h5;have hl':=congrArg List.length h5';rw[Jf] at hl hl'
  match bs,hl,cs,hl' with
  | [y],_,[z],_ =>
   simp only[FV] at h5 h5';injection h5 with h5 _;injection h5' with h5' _;rw[show d+below 9 ((0:Nat):Int)=d by simp[below]] at h5;rw[show d+below 10 ((0:Nat):Int)=d by simp[below]] at h5';have:y=z:=Pt hb.2.1 hc.2.1 (h5.trans h5'.symm);exact⟨bi,bn,bl,ci,cn,cl,y,O,by rw[this]⟩
 rintro⟨i,n,l,i2,n2,l2,x,rfl,rfl⟩;refine⟨i,n,l,i2,n2,l2,up d x,?_,?_⟩
 ·rw[DU AZ];simp only[FV];rw[show d+below 9 ((0:Nat):Int)=d by simp[below]]
 rw[DU AZ];simp only[FV];rw[show d+below 10 ((0:Nat):Int)=d by simp[below]]
theorem XP {k i d:Int}{n:ByteArray}{l:List B6}{ks:List Tm}(hk:k≠0) (h:Qy ks) (hd:0≤d):Pg k i n l (FV d k 0 ks)=up d (Pg k i n l ks):=by
 unfold Pg;by_cases h5:k=5∧ks.length=2
 ·obtain⟨rfl,h2⟩:=h5;obtain⟨a,b,rfl⟩:=Og h2;have hb:=h.2.1;have e5:FV d 5 0 [a,b]=[up d a,up (d+1) b]:=by
   simp only[FV];rw[show d+below 5 ((0:Nat):Int)=d by simp[below],show d+below 5 ((0+1:Nat):Int)=d+1 by simp[below]]
  have e6:up d (.mk 5 i n l [CF,b])= .mk 5 i n l [CF,up (d+1) b]:=by
   rw[DU AZ];simp only[FV];rw[show d+below 5 ((0:Nat):Int)=d by simp[below],show d+below 5 ((0+1:Nat):Int)=d+1 by simp[below],Qp]
  rw[e5];cases he:Ej b with
  | true =>
   have he2:=(Sy hb hd).trans he;obtain⟨i2,n2,l2,x,rfl⟩:=(Hn hb).1 he;have hx:(up (d+1) (.mk 4 i2 n2 l2 [x,Bc 0])).kids[0]?=some (up (d+1) x):=by
    rw[DU AZ];simp only[FV,Tm.kids];rw[show d+1+below 4 ((0:Nat):Int)=d+1 by simp[below]];rfl
   cases ho:HI 0 0 x with
   | false =>
    rw[Ds rfl he (x:=x) rfl ho,Ds rfl he2 hx ((Tj x 0 d hb.2.1 hd).trans ho)];have e1:=T8 x 0 hb.2.1 ho;have e2:=Wa (dn 0 x) 0 d (OO x 0 hb.2.1 Aa ho) hd;rw[e1] at e2;rw[e2];exact(Nz _ 0 (TL _ _ (OO x 0 hb.2.1 Aa ho))).1
   | true =>
    rw[CP (b:=up (d+1) _) rfl (fun _ y hy=>by rw[hx] at hy;injection hy with hy;rw[←hy];exact(Tj x 0 d hb.2.1 hd).trans ho),CP (b:= .mk 4 _ _ _ _) rfl (fun _ y hy=>by injection hy with hy;rw[←hy];exact ho),e6]
  | false =>
   have he2:=(Sy hb hd).trans he;rw[CP (b:=up (d+1) b) rfl (fun e=>by rw[he2] at e;cases e),CP (b:=b) rfl (fun e=>by rw[he] at e;cases e),e6]
 by_cases h8:k=8∧ks.length=3
 ·obtain⟨rfl,h2⟩:=h8;obtain⟨a,b,c,rfl⟩:=Rc h2;have b0:∀j:Nat,d+below 8 (j:Int)=d:=fun j=>by simp[below]
  have e5:FV d 8 0 [a,b,c]=[up d a,up d b,up d c]:=by
   simp only[FV];rw[b0,b0,b0]
  rw[e5];have hp:=XV (d:=d) h.2.1 h.2.2.1;cases he:Ei b c with
  | true =>
   rw[he] at hp;obtain⟨i2,n2,l2,i3,n3,l3,x,rfl,rfl⟩:=H7.1 he;rw[EO rfl he (x:=x) rfl,EO rfl hp (x:=up d x) (by rw[DU AZ];simp only[FV,Tm.kids];rw[show d+below 9 ((0:Nat):Int)=d by simp[below]];rfl)]
  | false =>
   rw[he] at hp;rw[EG rfl he,EG rfl hp,DU AZ];simp only[FV];rw[b0,b0,b0,Qp]
 rw[Cl h5 h8,Cl (by rw[Jf];exact h5) (by rw[Jf];exact h8),DU hk]
theorem TQ:∀(t:Tm),∀d:Int,Pv t→0≤d→JE (up d t)=up d (JE t):=by
 refine WN fun k i n l ks ih d h hd=>?_;by_cases hk:k=0
 ·obtain⟨a,e⟩:=h.var hk;rw[e,C6,M6,C6];split<;>exact M6 _
 have hm:∀(ts:List Tm) (j:Nat),(∀t∈ts,t∈ks)→(FV d k j ts).map JE=FV d k j (ts.map JE):=by
  intro ts
  induction ts with
  | nil=>intro j _;rfl
  | cons t ts ih2 =>
   intro j hs;have hb:=Bn k j;simp only[FV,List.map_cons];rw[ih t (hs t Ab) _ (Gj h.2 t (hs t Ab)) Aa,ih2 (j+1) fun x hx=>hs x (by simp[hx])]
 rw[DU hk,Dd,hm ks 0 (fun _ h=>h),Dd];exact XP hk (TN fun y hy=>by obtain⟨z,hz,rfl⟩:=List.mem_map.1 hy;exact ND z (Gj h.2 z hz)) hd
theorem SM:∀t,Pv t→JE (JE t)=JE t:=by
 refine WN fun k i n l ks ih h=>?_;rw[Dd];have hK:∀y∈ks.map JE,Pv y∧JE y=y:=fun y hy=>by
  obtain⟨z,hz,rfl⟩:=List.mem_map.1 hy;exact⟨ND z (Gj h.2 z hz),ih z hz (Gj h.2 z hz)⟩
 have e0:(ks.map JE).map JE=ks.map JE:=by
  rw[List.map_map];exact List.map_congr_left fun z hz=>ih z hz (Gj h.2 z hz)
 generalize ks.map JE=K at *;unfold Pg;by_cases h5:k=5∧K.length=2
 ·obtain⟨rfl,h2⟩:=h5;obtain⟨a,b,rfl⟩:=Og h2;obtain⟨hb,hbe⟩:=hK b Ab;cases he:Ej b with
  | true =>
   obtain⟨i2,n2,l2,x,rfl⟩:=(Hn hb).1 he;have hx:=hb.2.1;cases ho:HI 0 0 x with
   | false =>
    rw[Ds rfl he (x:=x) rfl ho];have q:JE x=x:=by
     rw[Dd,Pg,Cl Ab Ab] at hbe;injection hbe with _ _ _ _ hbe;injection hbe
    have hy:=OO x 0 hx Aa ho;have e1:=T8 x 0 hx ho;have e2:=TQ (dn 0 x) 0 hy Aa;rw[e1,q] at e2;exact(Pt hy (ND _ hy) (e1.trans e2)).symm
   | true =>
    rw[CP rfl (fun _ y hy=>by injection hy with hy;rw[←hy];exact ho),Dd,Pg];simp only[List.map_cons,List.map_nil];rw[K3,hbe,CP rfl (fun _ y hy=>by injection hy with hy;rw[←hy];exact ho)]
  | false =>
   rw[CP rfl (fun e=>by rw[he] at e;cases e),Dd,Pg];simp only[List.map_cons,List.map_nil];rw[K3,hbe,CP rfl (fun e=>by rw[he] at e;cases e)]
 by_cases h8:k=8∧K.length=3
 ·obtain⟨rfl,h2⟩:=h8;obtain⟨a,b,c,rfl⟩:=Rc h2;obtain⟨hb,hbe⟩:=hK b Ab;obtain⟨hc,hce⟩:=hK c Ab;cases he:Ei b c with
  | true =>
   obtain⟨i2,n2,l2,i3,n3,l3,x,rfl,rfl⟩:=H7.1 he;rw[EO rfl he (x:=x) rfl];rw[Dd,Pg,Cl Ab Ab] at hbe;injection hbe with _ _ _ _ hbe;injection hbe
  | false =>
   rw[EG rfl he,Dd,Pg];simp only[List.map_cons,List.map_nil];rw[K3,hbe,hce,EG rfl he]
 rw[Cl h5 h8,Dd,e0];exact Cl h5 h8
mutual
theorem L4:∀(t:Tm) (d er:Int),Vb t→0≤d→d+size t<2199023255552→HI 0 d t=false→(Be (-1) 0 d er t).1=dn d t
 | .mk k i n l ks,d,er,h2,h3,h4,hf=>by
  unfold Be dn;by_cases hk:k=0
  ·have hi:=h2.1 hk;have e1:wr (0+d)=d:=by rw[Int.zero_add];exact DT (by unfold FR;omega)
   have e2:wr (i+ -1)=i+ -1:=DT (by unfold FR;omega);unfold HI at hf;simp only[hk,decide_true,Bool.true_and,Bool.or_eq_false_iff,Bool.and_eq_false_iff,decide_eq_false_iff_not] at hf;rw[if_pos hk,if_pos hk,e1,e2];by_cases hlo:i<d
   ·rw[if_pos hlo,if_pos hlo]
   rw[if_neg hlo,if_neg hlo,if_neg Aa];rfl
  rw[if_neg hk,if_neg hk];rw[MT hk] at hf;simp only;rw[KI k ks d 0 er h2.2 h3 (by simp only[size] at h4;omega) hf]
theorem KI (k:Int):∀(ts:List Tm) (d:Int) (j:Nat) (er:Int),R4 ts→0≤d→d+A0 ts<2199023255551→Dq 0 d k j ts=false→(Bk (-1) 0 k d j er ts).1=UP d k j ts
 | [],d,j,er,h2,h3,h4,hf=>rfl
 | t::ts,d,j,er,h2,h3,h4,hf=>by
  have hbl:=Bn k j;simp only[A0] at h4;unfold Dq at hf;rw[Bool.or_eq_false_iff] at hf;simp only[Bk,UP];rw[L4 t (d+below k j) er h2.1 Aa Aa hf.1,KI k ts d (j+1) _ h2.2 h3 Aa hf.2]
end
mutual
theorem MH:∀(t:Tm) (d er:Int),Vb t→0≤d→d+size t<2199023255552→(Be 1 0 d er t).1=up d t
 | .mk k i n l ks,d,er,h2,h3,h4=>by
  unfold Be up;by_cases hk:k=0
  ·have hi:=h2.1 hk;have e1:wr (0+d)=d:=by rw[Int.zero_add];exact DT (by unfold FR;omega)
   have e2:wr (i+1)=i+1:=DT (by unfold FR;omega);rw[if_pos hk,if_pos hk,e1,e2];by_cases hlo:i<d
   ·rw[if_pos hlo,if_pos hlo]
   rw[if_neg hlo,if_neg hlo,if_neg Aa]
  rw[if_neg hk,if_neg hk];simp only;rw[J3 k ks d 0 er h2.2 h3 (by simp only[size] at h4;omega)]
theorem J3 (k:Int):∀(ts:List Tm) (d:Int) (j:Nat) (er:Int),R4 ts→0≤d→d+A0 ts<2199023255551→(Bk 1 0 k d j er ts).1=FV d k j ts
 | [],d,j,er,h2,h3,h4=>rfl
 | t::ts,d,j,er,h2,h3,h4=>by
  have hbl:=Bn k j;simp only[A0] at h4;simp only[Bk,FV];rw[MH t (d+below k j) er h2.1 Aa Aa,J3 k ts d (j+1) _ h2.2 h3 Aa]
end
theorem Vq {t:Tm}(h1:Wt t) (h2:Vb t) (h3:size t<1099511627776) (hf:HI 0 0 t=false):(FG (-1) t).1=dn 0 t:=by
 have h:=(OP h1 h2 h3).2 hf;unfold FG at h ⊢;split at h
 ·rename_i q;exact absurd h q
 rename_i q;rw[if_neg q];exact L4 t 0 0 h2 Aa Aa hf
theorem Xd {oc:Tm→Bool}{sh sh':Tm→Tm}{k i:Int}{n:ByteArray}{l:List B6}{ks:List Tm}(hs:∀b∈ks,∀x∈b.kids,oc x=false→sh x=sh' x):L7 oc sh k i n l ks=L7 oc sh' k i n l ks:=by
 by_cases h5:k=5∧ks.length=2
 ·obtain⟨a,b,rfl⟩:=Og h5.2;by_cases he:Ej b=true∧∃x,b.kids[0]?=some x∧oc x=false
  ·obtain⟨he,x,hx,ho⟩:=he;rw[Ds h5.1 he hx ho,Ds h5.1 he hx ho,hs b Ab x (List.mem_of_getElem? hx) ho]
  have hq:Ej b=true→∀x,b.kids[0]?=some x→oc x=true:=fun e x hx=>by
   cases ho:oc x with
   | true=>rfl
   | false=>exact absurd ⟨e,x,hx,ho⟩ he
  rw[CP h5.1 hq,CP h5.1 hq]
 unfold L7;rw[if_neg h5,if_neg h5]
theorem Sk:∀t,Nd t→Wt t→Vb t→size t<1099511627776→Cr t=JE t:=by
 refine WN fun k i n l ks ih h w v hz=>?_;have hk:∀t∈ks,Nd (Cr t)∧size (Cr t)≤size t∧Wt (Cr t):=fun t ht=>Kv t (Dw h.2.2.2.2.1 t ht) (Cm w.2.2 t ht);have hz':∀t∈ks,size t<1099511627776:=fun t ht=>by have:=DH ht;simp only[size] at hz;omega
 rw[DP,Dd,Pg];have e:ks.map Cr=ks.map JE:=List.map_congr_left fun t ht=>ih t ht (Dw h.2.2.2.2.1 t ht) (Cm w.2.2 t ht) (DJ v.2 t ht) (hz' t ht);rw[←e];refine Xd fun b hb x hx ho=>?_;obtain⟨t,ht,rfl⟩:=List.mem_map.1 hb;obtain⟨q1,q2,q3⟩:=hk t ht;have q4:=PD t (Dw h.2.2.2.2.1 t ht) (Cm w.2.2 t ht) (DJ v.2 t ht) (hz' t ht);have q5:=hz' t ht;generalize Cr t=y at *;obtain⟨yk,yi,yn,yl,ys⟩:=y;have:=DH hx;simp only[size,Tm.kids] at q2 this;exact Vq (Cm q3.2.2 x hx) (DJ q4.2 x hx) Aa ho
mutual
def Vw:Tm→Prop
 | .mk k i _ _ ks=>(k=0→0≤i∧i<65535)∧R9 ks
def R9:List Tm→Prop
 | []=>True
 | t::ts=>Vw t∧R9 ts
end
mutual
theorem Vw.vb:∀{t:Tm},Vw t→Vb t
 | .mk k i n l ks,h=>⟨fun e=>by have:=h.1 e;omega,R9.vb h.2⟩
theorem R9.vb:∀{ts:List Tm},R9 ts→R4 ts
 | [],h=>trivial
 | t::ts,h=>⟨h.1.vb,R9.vb h.2⟩
end
mutual
theorem Vw.up:∀{t:Tm}{d:Int},Vw t→0≤d→Vb (up d t)
 | .mk k i n l ks,d,h,hd=>by
  unfold Go.Eu.up;by_cases hk:k=0
  ·have:=h.1 hk;rw[if_pos hk];split
   ·exact h.vb
   exact⟨fun _=>by omega,trivial⟩
  rw[if_neg hk];exact⟨fun e=>absurd e hk,R9.up h.2 hd⟩
theorem R9.up:∀{ts:List Tm}{d k:Int}{j:Nat},R9 ts→0≤d→R4 (FV d k j ts)
 | [],d,k,j,h,hd=>trivial
 | t::ts,d,k,j,h,hd=>by
  have:=Bn k j;exact⟨h.1.up Aa,R9.up h.2 hd⟩
end
mutual
theorem V9 {m:Int}:∀(t:Tm) (d:Int),wf (max 60000 0) m d t→0≤d→d+size t≤1000→Vw t
 | .mk k i n l ks,d,h,h0,hz=>by
  simp only[size] at hz;exact⟨fun e=>by have:=h.2.2.2.1 e;omega,S1 ks k d 0 h.2.2.2.2.2 h0 Aa⟩
theorem S1 {m:Int}:∀(ts:List Tm) (k d:Int) (j:Nat),WV (max 60000 0) m k d j ts→0≤d→d+1+A0 ts≤1000→R9 ts
 | [],k,d,j,h,h0,hz=>trivial
 | t::ts,k,d,j,h,h0,hz=>by
  have:=Bn k j;simp only[A0] at hz;exact⟨V9 t _ h.1 Aa Aa,S1 ts k d (j+1) h.2 h0 Aa⟩
end
mutual
theorem WM:∀(t:Tm),Cw t→Wt t→Vw t→Pv t
 | .mk k i n l ks,c,w,v=>by
  refine⟨fun hk=>⟨(v.1 hk).1,?_,?_,NL w hk⟩,Sb ks c.2 w.2.2 v.2⟩
  ·by_cases e:n=⟨#[]⟩
   ·exact e
   exact absurd (c.1.2.1 e) Aa
  exact List.length_eq_zero_iff.1 (c.1.2.2.2 Aa Aa)
theorem Sb:∀(ts:List Tm),ad ts→KQ ts→R9 ts→Qy ts
 | [],c,w,v=>trivial
 | t::ts,c,w,v=>⟨WM t c.1 w.1 v.1,Sb ts c.2 w.2 v.2⟩
end
structure FB (t:Tm):Prop where
 nd:Nd t
 wt:Wt t
 vw:Vw t
 pv:Pv t
 sz:size t≤60
namespace FB
variable {t a:Tm}(h:FB t) (ha:FB a)
include h
theorem q:Cr t=JE t:=Sk t h.nd h.wt h.vw.vb (by have:=h.sz;omega)
theorem good:Nd (Cr t)∧Wt (Cr t)∧Vb (Cr t)∧size (Cr t)≤size t:=by
 obtain⟨a,b,c⟩:=Kv t h.nd h.wt;exact⟨a,c,PD t h.nd h.wt h.vw.vb (by have:=h.sz;omega),b⟩
theorem idem:Cr (Cr t)=Cr t:=by
 obtain⟨a,b,c,d⟩:=h.good;rw[Sk (Cr t) a b c (by have:=h.sz;omega),h.q,SM t h.pv]
theorem upE:(Be 1 0 0 0 t).1=up 0 t:=MH t 0 0 h.vw.vb Aa (by have:=h.sz;omega)
theorem upG:Nd (up 0 t)∧Wt (up 0 t)∧Vb (up 0 t)∧size (up 0 t)=size t:=by
 rw[←h.upE];exact⟨Ic _ _ _ _ _ h.nd,IS _ _ _ _ _ h.wt,h.upE▸h.vw.up Aa,GD _ _ _ _ _ (.inr h.wt)⟩
end FB
def OU (a t:Tm):Tm:= .mk 5 0 ⟨#[]⟩ [] [a,.mk 4 0 ⟨#[]⟩ [] [t,Bc 0]]
def JH (a t:Tm):Tm:= .mk 8 0 ⟨#[]⟩ [] [a,.mk 9 0 ⟨#[]⟩ [] [t],.mk 10 0 ⟨#[]⟩ [] [t]]
theorem T9 {k:Int}{ts:List Tm}(hk:FR k) (h:∀t∈ts,Nd t) (hl:ts.length<1000):Nd (.mk k 0 ⟨#[]⟩ [] ts) :=
 ⟨by decide,by decide,by simp,by simp only[Cu];omega,by
  clear hl;induction ts with
  | nil=>trivial
  | cons t ts ih=>exact⟨h t Ab,ih fun x hx=>h x (by simp[hx])⟩,hk,by unfold FR;omega⟩
theorem Zm:Nd (Bc 0):=Qs
theorem Qk {a t:Tm}(h:FB t) (ha:FB a):Nd (OU a (up 0 t))∧Wt (OU a (up 0 t))∧Vb (OU a (up 0 t))∧size (OU a (up 0 t))≤1000:=by
 obtain⟨q1,q2,q3,q4⟩:=h.upG;unfold OU;refine⟨T9 (by unfold FR;omega) (fun x hx=>?_) Ab,⟨O,fun e=>absurd e AZ,ha.wt,⟨O,fun e=>absurd e AZ,q2,⟨O,fun e=>absurd e AZ,Ac⟩,Ac⟩,Ac⟩,⟨fun e=>absurd e AZ,ha.vw.vb,⟨fun e=>absurd e AZ,q3,⟨fun _=>by omega,trivial⟩,trivial⟩,trivial⟩,?_⟩
 ·simp only[List.mem_cons,List.not_mem_nil,or_false] at hx;rcases hx with rfl | rfl
  ·exact ha.nd
  exact T9 (by unfold FR;omega) (fun x hx=>by
   simp only[List.mem_cons,List.not_mem_nil,or_false] at hx;rcases hx with rfl | rfl
   ·exact q1
   exact Zm) Ab
 have:=h.sz;have:=ha.sz;simp only[size,A0,Bc,q4];omega
theorem SI {a t:Tm}(h:FB t) (ha:FB a):Nd (JH a t)∧Wt (JH a t)∧Vb (JH a t)∧size (JH a t)≤1000:=by
 unfold JH;refine⟨T9 (by unfold FR;omega) (fun x hx=>?_) Ab,⟨O,fun e=>absurd e AZ,ha.wt,⟨O,fun e=>absurd e AZ,h.wt,Ac⟩,⟨O,fun e=>absurd e AZ,h.wt,Ac⟩,Ac⟩,⟨fun e=>absurd e AZ,ha.vw.vb,⟨fun e=>absurd e AZ,h.vw.vb,Ac⟩,⟨fun e=>absurd e AZ,h.vw.vb,Ac⟩,Ac⟩,?_⟩
 ·simp only[List.mem_cons,List.not_mem_nil,or_false] at hx;rcases hx with rfl | rfl | rfl
  ·exact ha.nd
  ·exact T9 (by unfold FR;omega) (fun x hx=>by simp only[List.mem_cons,List.not_mem_nil,or_false] at hx;subst hx;exact h.nd) Ab
  exact T9 (by unfold FR;omega) (fun x hx=>by simp only[List.mem_cons,List.not_mem_nil,or_false] at hx;subst hx;exact h.nd) Ab
 have:=h.sz;have:=ha.sz;simp only[size,A0];omega
theorem Ph {a t:Tm}(h:FB t) (ha:FB a):Cr (OU a (up 0 t))=Cr t:=by
 obtain⟨q1,q2,q3,q4⟩:=Qk h ha;rw[Sk _ q1 q2 q3 Aa,h.q];unfold OU;rw[Dd];simp only[List.map_cons,List.map_nil];rw[show JE (.mk 4 0 ⟨#[]⟩ [] [up 0 t,Bc 0])= .mk 4 0 ⟨#[]⟩ [] [JE (up 0 t),Bc 0] by
  rw[Dd,Pg];simp only[List.map_cons,List.map_nil,M6];exact Cl Ab Ab,TQ t 0 h.pv Aa]
 have e:=Nz (JE t) 0 (ND t h.pv);rw[Pg,Ds rfl rfl (x:=up 0 (JE t)) rfl e.2];exact e.1
theorem OL {a t:Tm}(h:FB t) (ha:FB a):Cr (JH a t)=Cr t:=by
 unfold JH;rw[DP];simp only[List.map_cons,List.map_nil,QN 9 AZ AZ,QN 10 AZ AZ];rw[EO rfl (by simp[Ei,Tm.kind,Tm.kids,CN]) (x:=Cr t) rfl]
end Go.Eu
namespace Go.Eu
open Go.Abs
theorem R6 {l:List Tm}(hn:CM l 60 0≤60) (hg:NW l∧∀t∈l,Wt t∧Cw t) (hh:∀x∈l,∃m,wf (max 60000 0) m 0 x):∀t∈l,FB t:=fun t ht=>by
 have hs:=Nt hg.1 Aa hn;have hz:=DH ht;obtain⟨m,hm⟩:=hh t ht;have hv:=V9 t 0 hm Aa Aa;exact⟨(Jr hg.1 ht).1,(hg.2 t ht).1,hv,WM t (hg.2 t ht).2 (hg.2 t ht).1 hv,by omega⟩
theorem Vn {t:Tm}(h:FB t) (he:(FG 1 t).2=0):(FG 1 t).1=up 0 t:=by
 unfold FG at he ⊢;split at he
 ·rename_i q;exact absurd he q
 rename_i q;rw[if_neg q];exact h.upE
end Go.Eu
namespace Go.Proofs.YtldfmjoncbjldaaGreat
open Go.Abs Go.Eu
theorem MJ:∀(t:Tm) (vars params metas levels:Int),(Nd t)→(size t<1000000)→F4 Tryz.prog 51 [.agg ((A3 t).map .p),.p (I vars),.p (I params),.p (I metas),.p (I levels)] (fun v=>∃e:Int,v= .p (I e)∧(e=0→wf (max vars 0) metas 0 t∧Cw t)):=by
 intro t vars params metas levels h1 h2;refine An Tryz.func51 O di (n:=28) O O (Al (A2 O (A9 O) fun b5=>Ad Aj 1 [] O (Af (Al (Am Aj 2 [0] O (Ah O (M5 O O) (Am Aj 3 [] O (EM O O (CC O O (U6 _ t 0 (max (vars:Int) (0:Int)) params metas levels (Nat.le_refl _) h1 Aa AP) (.inl O)) ?_))))))));rintro _ ⟨e,rfl,he⟩;refine Ad Aj 1 [] O (Ae Aj 2 [] O (Ag O (fun c=>?_) (fun c=>?_)))
 ·(try simp only[sd,se] at c);refine Ae Aj 2 [] O (Ai (⟨O,_,[],Bu O,List.nil_sublist _,⟨⟨_,O,?_⟩,O⟩⟩));exact fun h=>absurd h AX
 (try simp only[sd,se] at c);refine Ak (Af (Al (Ah O (BQ (i:=0) Bd O O AS) (Ah O (Av O O (PC _ t (Nat.le_refl _) Aa) O) (Ad Aj 1 [] O (Ag O (fun c1=>?_) (fun c1=>?_)))))))
 ·(try simp only[sd,se] at c1);refine Ae Aj 1 [] O (Ai (⟨O,_,[],Bu O,List.nil_sublist _,⟨⟨_,O,?_⟩,O⟩⟩));exact fun h=>absurd h AZ
 (try simp only[sd,se] at c1);refine Ak (Af (Al (Ah O (BQ (i:=0) Bd O O AS) (Ah O (Av O O (Vm _ t (Nat.le_refl _) Aa) O) (Ad Aj 1 [] O (Ag O (fun c2=>?_) (fun c2=>?_)))))))
 ·(try simp only[sd,se] at c2);refine Ae Aj 1 [] O (Ai (⟨O,_,[],Bu O,List.nil_sublist _,⟨⟨_,O,?_⟩,O⟩⟩));exact fun h=>absurd h AZ
 (try simp only[sd,se] at c2);refine Ak (Ae Aj 1 [] O (Ai (⟨O,_,[],Bu O,List.nil_sublist _,⟨⟨_,O,?_⟩,O⟩⟩)));exact fun _=>he Aa
theorem RC:∀(l:List Tm),(Vv l)→(l.length<wide)→F4 Tryz.prog 28 [.p (.lst (Ax l))] (fun v=>∃bb:Bool,v= .p (.bool bb)∧(bb=true→NW l∧∀t∈l,Wt t∧Cw t)):=by
 intro l h1 h2;have h2b:=h2;simp only[wide] at h2b;refine An Tryz.func28 O cc (n:=18) O O (Ae Aj 1 [] O (Af (Al (BY O (EM O O (CC O O (ZU _ l (Nat.le_refl _) h1 h2) (.inl O)) ?_)))));rintro _ ⟨b,rfl,hb⟩;refine Ad Aj 1 [] O (Ag O (fun c=>?_) (fun c=>?_))
 ·(try simp only[sd,se] at c);refine Ae Aj 1 [] O (Ai (⟨O,_,[],Bu O,List.nil_sublist _,⟨⟨_,O,?_⟩,O⟩⟩));exact fun h=>absurd h AZ
 (try simp only[sd,se] at c);have hf:=hb (by simpa using c);refine Ak (Af (Al (BY O (Ah O (A7 BJ O (A1 _)) (Ad Aj 1 [] O (Au ?_))))));refine BZ (α:=Nat) (fun i=>⟨18,mk [(8,.p (.lst (Ax l))),(9,.p (I (l.length:Nat))),(10,.p (I (i:Int)))],[],[]⟩) (fun i=>l.length - i) (fun i=>i≤l.length∧(∀j,j<i→∀x,l[j]?=some x→Wt x∧Cw x)) 0 (⟨by omega,fun j h=>by omega⟩) ?_ ?_
 ·exact BO ⟨we O,we O,we O,Ac⟩ (leH (is:=[]) O (DM))
 rintro i hC
 try simp only at hC
 obtain⟨hi,hC⟩:=hC;refine Ae Aj 1 [] O (Af (Ag O (fun c1=>?_) (fun c1=>?_)))
 ·(try simp only[sd,se] at c1);refine Ak (Af (Au (Al ?_)));obtain⟨x,hx⟩:=Ar (l:=l) (i:=i) Aa;refine Ah O (Aq BJ O O Aa (BI hx) (Az _)) (Ah O (BE Bd O (Az _)) (A2 O (As Bf O) fun b4=>Ad Aj 1 [0,1] O (Al (Ah O (BQ (i:=0) Bd O O AS) (EM O O (CC O O (MJ x 65536 8 65536 65536 (CK hf.nd hx) (by have:=Bp hx;have:=hf.sz;omega)) (.inl O)) ?_)))));rintro _ ⟨e,rfl,he⟩;refine Ad Aj 1 [] O (Ag O (fun c2=>?_) (fun c2=>?_))
  ·(try simp only[sd,se] at c2);refine Ae Aj 1 [] O (Ai (⟨O,_,[],Bu O,List.nil_sublist _,⟨⟨_,O,?_⟩,O⟩⟩));exact fun h=>absurd h AZ
  (try simp only[sd,se] at c2);refine Ak (Ao (Ad Aj 2 [] O (⟨(i+1),AK,⟨by omega,Dk hC hx ⟨WC x 0 (he Aa).1,(he Aa).2⟩⟩,BO ⟨we rfl,we rfl,we rfl,trivial⟩ (leH (is:=[]) rfl (DM))⟩)))
 (try simp only[sd,se] at c1);refine BS (Ae Aj 1 [] O (Ai (⟨O,_,[],Bu O,List.nil_sublist _,⟨⟨_,O,?_⟩,O⟩⟩)));exact fun _=>⟨hf,So Aa hC⟩
theorem Sx:∀(t:Tm),(Nd t)→(size t<1000000)→F4 Tryz.prog 31 [.agg ((A3 t).map .p)] (fun v=>∃bb:Bool,v= .p (.bool bb)∧(bb=false→∃m,wf (max 60000 0) m 0 t)):=by
 intro t h1 h2;refine An Tryz.func31 O ba (n:=6) O O (Al (A2 O (A9 O) fun b1=>Ad Aj 1 [] O (Al (Ah O (BQ (i:=0) Bd O O AS) (EM O O (CC O O (MJ t 60000 8 65536 65536 h1 h2) (.inl O)) ?_)))));rintro _ ⟨e,rfl,he⟩;refine Ad Aj 2 [] O (Ai (⟨O,_,[],Bu O,List.nil_sublist _,⟨⟨_,O,?_⟩,O⟩⟩));exact fun h=>⟨_,(he (by simpa using h)).1⟩
theorem X3:∀(l:List Tm),(l.length<1000000)→(∀x∈l,Nd x∧size x<1000000)→F4 Tryz.prog 54 [.p (.lst (Ax l)),.p (.fn 31)] (fun v=>∃r:Int,v= .p (I r)∧(r<0→∀x∈l,∃m,wf (max 60000 0) m 0 x)):=by
 intro l h1 h2;refine An Tryz.func54 O df (n:=19) O O (Ae Aj 1 [] O (Af (Al (BY O (Ah O (A7 BJ O (A1 _)) (Ad Aj 1 [] O (Au ?_)))))));refine BZ (α:=Nat) (fun i=>⟨19,mk [(0,.p (.lst (Ax l))),(1,.p (.fn 31)),(7,.p (I (l.length:Nat))),(8,.p (I (i:Int)))],[],[]⟩) (fun i=>l.length - i) (fun i=>i≤l.length∧(∀j,j<i→∀x,l[j]?=some x→∃m,wf (max 60000 0) m 0 x)) 0 (⟨by omega,fun j h=>by omega⟩) ?_ ?_
 ·exact BO ⟨we O,we O,we O,we O,Ac⟩ (leH (is:=[]) O (DM))
 rintro i hC
 try simp only at hC
 obtain⟨hi,hC⟩:=hC;refine Ae Aj 1 [] O (Af (Ag O (fun c=>?_) (fun c=>?_)))
 ·(try simp only[sd,se] at c);refine Ak (Af (Au (Ae Aj 2 [] O (Al (Am Aj 3 [] O ?_)))));obtain⟨x,hx⟩:=Ar (l:=l) (i:=i) Aa;refine Ah O (Aq BJ O O Aa (BI hx) (Az _)) (Ah O (BE Bd O (Az _)) (EM O O (CC O O (Sx x (h2 _ (List.mem_of_getElem? hx)).1 (h2 _ (List.mem_of_getElem? hx)).2) (.inl O)) ?_));rintro _ ⟨b,rfl,hb⟩;refine Bb O (Ag O (fun c1=>?_) (fun c1=>?_))
  ·(try simp only[sd,se] at c1);refine Ae Aj 2 [] O (Ai (⟨O,_,[],Bu O,List.nil_sublist _,⟨⟨_,O,?_⟩,O⟩⟩));exact fun h=>by omega
  (try simp only[sd,se] at c1);have hq1:=hb (by simpa using c1);refine Ak (Ao (Ad Aj 2 [] O (⟨(i+1),AK,⟨by omega,Dk (p:=fun j x=>∃m,wf (max 60000 0) m 0 x) hC hx hq1⟩,BO ⟨we rfl,we rfl,we rfl,we rfl,trivial⟩ (leH (is:=[]) rfl (DM))⟩)))
 (try simp only[sd,se] at c);refine BS (Ae Aj 1 [] O (Ai (⟨O,_,[],Bu O,List.nil_sublist _,⟨⟨_,O,?_⟩,O⟩⟩)));exact fun _ x hx=>by obtain⟨j,hj⟩:=D0 hx;exact hC j (by have:=(List.getElem?_eq_some_iff.1 hj).1;omega) x hj
theorem Vx:∀(l:List Tm),(l.length<1000000)→(∀x∈l,Nd x∧size x<1000000)→F4 Tryz.prog 30 [.p (.lst (Ax l)),.p (.fn 31)] (fun v=>∃bb:Bool,v= .p (.bool bb)∧(bb=false→∀x∈l,∃m,wf (max 60000 0) m 0 x)):=by
 intro l h1 h2;refine An Tryz.func30 O cx (n:=9) O O (Ae Aj 1 [] O (Al (Am Aj 2 [] O (EM O O (CC O O (X3 l h1 h2) (.inl O)) ?_))));rintro _ ⟨r,rfl,hr⟩;refine Ad Aj 2 [] O (Ai (⟨O,_,[],Bu O,List.nil_sublist _,⟨⟨_,O,?_⟩,O⟩⟩));exact fun h=>hr (by simp at h;omega)
theorem TB:∀(l:List Tm),(Vv l)→(l.length<wide)→F4 Tryz.prog 10 [.p (.lst (List.map JT ([]:List Cc))),.p (.lst (Ax l))] (fun v=>∃bb:Bool,v= .p (.bool bb)∧(bb=true→∀t∈l,FB t)):=by
 intro l h1 h2;refine An Tryz.func10 O bu (n:=21) O O (Ae Aj 1 [] O (Al (BY O (Ah O (Av O O (NY _ l 60 (Nat.le_refl _) h1 h2) O) (Am Aj 2 [] O (A6 8 O (fun g=>?_) (fun g=>?_)))))))
 ·(try simp only[sd,se] at g);refine Ba O (Ch O) (Hj O O O O (CC O O (RC l h1 h2) (.inl O)) ?_);rintro _ ⟨b,rfl,hb⟩;refine Am Aj 2 [] O (A6 12 O (fun g1=>?_) (fun g1=>?_))
  ·(try simp only[sd,se] at g1);refine Ba O (Ch O) (Ba O (Av O O (Rk ) O) (Am Aj 3 [] O (Hj O O O O (CC O O (Vx l (SB (hb AX).1) (Rb (hb AX).1)) (.inl O)) ?_)));rintro _ ⟨q,rfl,hq⟩;refine Ad Aj 3 [] O (Ai (⟨O,_,_,⟨_,_,O,O,O⟩,(List.nil_sublist _),?_⟩))
   all_goals exact⟨⟨_,rfl,fun h=>R6 Aa (hb AX) (hq (by simpa using h))⟩,rfl⟩
  (try simp only[sd,se] at g1);refine Ad Aj 9 [] O (Ai (⟨O,_,_,⟨_,_,O,O,O⟩,(List.nil_sublist _),?_⟩))
  all_goals exact⟨⟨_,rfl,fun h=>absurd h AZ⟩,rfl⟩
 (try simp only[sd,se] at g);refine Ad Aj 13 [] O (Ai (⟨O,_,_,⟨_,_,O,O,O⟩,(List.nil_sublist _),?_⟩))
 all_goals exact⟨⟨_,rfl,fun h=>absurd h AZ⟩,rfl⟩
theorem Zd (t:Tm) (h:FB t):Dl Tryz.prog 18 [TV t] (TV (Cr t)):=GA _ t (Nat.le_refl _) h.nd h.wt h.vw.vb (by have:=h.sz;omega)
theorem Y3 (x t:Tm) (e:x=Cr t) (h:FB t):Dl Tryz.prog 18 [TV x] (TV (Cr t)):=by
 obtain⟨a,b,c,d⟩:=h.good;have:=GA _ (Cr t) (Nat.le_refl _) a b c (by have:=h.sz;omega);rw[h.idem] at this
 rwa [e]
theorem Zg (x a t:Tm) (e:x=OU a (up 0 t)) (h:FB t) (ha:FB a):Dl Tryz.prog 18 [TV x] (TV (Cr t)):=by
 obtain⟨q1,q2,q3,q4⟩:=Qk h ha;have:=GA _ _ (Nat.le_refl _) q1 q2 q3 Aa;rw[Ph h ha] at this
 rwa [e]
theorem aP (x a t:Tm) (e:x=JH a t) (h:FB t) (ha:FB a):Dl Tryz.prog 18 [TV x] (TV (Cr t)):=by
 obtain⟨q1,q2,q3,q4⟩:=SI h ha;have:=GA _ _ (Nat.le_refl _) q1 q2 q3 Aa;rw[OL h ha] at this
 rwa [e]
set_option maxHeartbeats 2000000 in
theorem Pa:∀(t a:Tm),(Wd t)→(Wd a)→Dl Tryz.prog 9 [.agg ((A3 t).map .p),.agg ((A3 a).map .p)] (.p (.bool true)):=by
 intro t a h1 h2;refine An Tryz.func9 O fe (n:=68) O O (Al (A2 O (A9 O) fun b2=>A2 O (A9 O) fun b3=>Ad Aj 1 [] O (Af (Al (Am Aj 2 [1,0] O (Ah O (BG (rows:=Ax [t,a]) BJ Bf O O O O (B3 (Bj _)) (C7 _)) (EM O O (CC O O (BD.args (TB [t,a] ⟨h1,h2,Ac⟩ (by simp[wide])) (aw (D5 O) (aw (we O) (G7)))) (.inl O)) ?_)))))));rintro _ ⟨q,rfl,hq⟩;refine Ad Aj 1 [] O (Ag O (fun c=>?_) (fun c=>?_))
 ·(try simp only[sd,se] at c);refine Al (Ah O (Av O O (Kd ) O) (Ad Aj 1 [] O (Ai (⟨O,_,_,⟨_,_,O,O,O⟩,(List.nil_sublist _),?_⟩))))
  all_goals exact⟨rfl,rfl⟩
 (try simp only[sd,se] at c);have hE:=hq (by simpa using c);have ht:=hE t Ab;have ha:=hE a Ab;refine Ak (Al (Ah O (BQ (i:=1) Bd O O AS) (Ah O (Av O O (Zd t ht) O) (A2 O (As Bf O) fun b5=>Ad Aj 1 [0,1] O (Al (Ah O (BQ (i:=2) Bd O O AS) (Ah O (Av O O (Sc t 1 Aa ht.nd (by have:=ht.sz;omega)) O) (Am Aj 3 [] O (A2 O (As Bf O) fun b6=>Ad Aj 2 [0,1] O (Af (Ae Aj 2 [] O (Ag O (fun c1=>?_) (fun c1=>?_)))))))))))))
 ·(try simp only[sd,se] at c1);refine Al (Ah O (Av O O (Kd ) O) (Ad Aj 1 [] O (Ai (⟨O,_,_,⟨_,_,O,O,O⟩,(List.nil_sublist _),?_⟩))))
  all_goals exact⟨rfl,rfl⟩
 (try simp only[sd,se] at c1);rw[Vn ht (by simpa using c1)];refine Ak (Af (Gc [.val (.agg ((A3 a).map .p)),.val (.agg ((A3 (up 0 t)).map .p)),.val (.agg ((A3 (.mk 0 0 ⟨#[]⟩ [] [])).map .p)),.val (.p (.lst (Ax ([(up 0 t),(.mk 0 0 ⟨#[]⟩ [] [])])))),.val (.agg ((A3 (.mk 4 0 ⟨#[]⟩ [] ([(up 0 t),(.mk 0 0 ⟨#[]⟩ [] [])]))).map .p)),.val (.p (.lst (Ax ([a,(.mk 4 0 ⟨#[]⟩ [] ([(up 0 t),(.mk 0 0 ⟨#[]⟩ [] [])]))])))),.val (.agg ((A3 (.mk 5 0 ⟨#[]⟩ [] ([a,(.mk 4 0 ⟨#[]⟩ [] ([(up 0 t),(.mk 0 0 ⟨#[]⟩ [] [])]))]))).map .p)),.val (.agg ((A3 (Cr t)).map .p)),.new [.p (I 0),.p (I 0),.p (.str ⟨#[]⟩),.p (.nils),.p (.nils)]] Er O AW AW (Bg O (fun Bs=>BQ (i:=Bs.length+2) Bd O (Fh O) AS) (Bg O (fun Bs=>BQ (i:=Bs.length+0) Bd O (Fh O) AS) (Bg O (fun Bs=>Av O O (Cn 0) O) ?_)))));refine Bg O (fun Bs=>BG (rows:=Ax ([(up 0 t),(.mk 0 0 ⟨#[]⟩ [] [])])) BJ Bf O O O O (B3 (Bj _)) (C7 _)) (Bg O (fun Bs=>Av O O (B5 4 ([(up 0 t),(.mk 0 0 ⟨#[]⟩ [] [])])) O) (Bg O (fun Bs=>BG (rows:=Ax ([a,(.mk 4 0 ⟨#[]⟩ [] ([(up 0 t),(.mk 0 0 ⟨#[]⟩ [] [])]))])) BJ Bf O O O O (B3 (Bj _)) (C7 _)) (Bg O (fun Bs=>Av O O (B5 5 ([a,(.mk 4 0 ⟨#[]⟩ [] ([(up 0 t),(.mk 0 0 ⟨#[]⟩ [] [])]))])) O) (Bg O (fun Bs=>Av O O (Zg (.mk 5 0 ⟨#[]⟩ [] ([a,(.mk 4 0 ⟨#[]⟩ [] ([(up 0 t),(.mk 0 0 ⟨#[]⟩ [] [])]))])) a t O ht ha) O) (Iw O (fun Bs=>As Bf O) fun b8=>IX ?_)))))
 change AL _ _ _ 9 ⟨68,_,[.box b8 [.p (I 0),.p (I 0),.p (.str ⟨#[]⟩),.p (.nils),.p (.nils)],.box b6 ((A3 (up 0 t)).map .p),.box b5 ((A3 (Cr t)).map .p),.box b3 ((A3 a).map .p),.box b2 ((A3 t).map .p)],[]⟩ _
 refine Ad Aj 1 [0,1] O (Af (Gc [.val (.agg ((A3 a).map .p)),.val (.agg ((A3 t).map .p)),.val (.p (.lst (Ax [t]))),.val (.agg ((A3 (.mk 9 0 ⟨#[]⟩ [] [t])).map .p)),.val (.agg ((A3 t).map .p)),.val (.p (.lst (Ax [t]))),.val (.agg ((A3 (.mk 10 0 ⟨#[]⟩ [] [t])).map .p)),.val (.p (.lst (Ax ([a,(.mk 9 0 ⟨#[]⟩ [] [t]),(.mk 10 0 ⟨#[]⟩ [] [t])])))),.val (.agg ((A3 (.mk 8 0 ⟨#[]⟩ [] ([a,(.mk 9 0 ⟨#[]⟩ [] [t]),(.mk 10 0 ⟨#[]⟩ [] [t])]))).map .p)),.val (.agg ((A3 (Cr t)).map .p)),.new [.p (I 0),.p (I 0),.p (.str ⟨#[]⟩),.p (.nils),.p (.nils)]] Er O AW AW (Bg O (fun Bs=>BQ (i:=Bs.length+3) Bd O (Fh O) AS) (Bg O (fun Bs=>BQ (i:=Bs.length+4) Bd O (Fh O) AS) (Bg O (fun Bs=>BG (rows:=Ax [t]) BJ Bf O O O O (B3 (Bj _)) (C7 _)) ?_)))));refine Bg O (fun Bs=>Av O O (B5 9 [t]) O) (Bg O (fun Bs=>BQ (i:=Bs.length+4) Bd O (Fh O) AS) (Bg O (fun Bs=>BG (rows:=Ax [t]) BJ Bf O O O O (B3 (Bj _)) (C7 _)) (Bg O (fun Bs=>Av O O (B5 10 [t]) O) (Bg O (fun Bs=>BG (rows:=Ax ([a,(.mk 9 0 ⟨#[]⟩ [] [t]),(.mk 10 0 ⟨#[]⟩ [] [t])])) BJ Bf O O O O (B3 (Bj _)) (C7 _)) (Bg O (fun Bs=>Av O O (B5 8 ([a,(.mk 9 0 ⟨#[]⟩ [] [t]),(.mk 10 0 ⟨#[]⟩ [] [t])])) O) (Bg O (fun Bs=>Av O O (aP (.mk 8 0 ⟨#[]⟩ [] ([a,(.mk 9 0 ⟨#[]⟩ [] [t]),(.mk 10 0 ⟨#[]⟩ [] [t])])) a t O ht ha) O) (Iw O (fun Bs=>As Bf O) fun b9=>IX ?_)))))))
 change AL _ _ _ 11 ⟨68,_,[.box b9 [.p (I 0),.p (I 0),.p (.str ⟨#[]⟩),.p (.nils),.p (.nils)],.box b8 ((A3 (Cr t)).map .p),.box b6 ((A3 (up 0 t)).map .p),.box b5 ((A3 (Cr t)).map .p),.box b3 ((A3 a).map .p),.box b2 ((A3 t).map .p)],[]⟩ _
 refine Ad Aj 1 [0,1] O (Af (BL [] 4 (fun y=>y= .p (.bool true)) ?_ ?_))
 ·refine Bq (fun k=>false) Er (BC Aj 1 [3] O (A5 O (fun _=>Av O O (Y3 (Cr t) t O ht) O) Ac (BC Aj 1 [3] O (A5 O (fun _=>Av O O (E3 (Cr t) (Cr t) ht.good.1 O) O) Ac (BC Aj 3 [1,3] O (Bh O (fun _=>Av O O (E3 (Cr t) (Cr t) ht.good.1 O) O) Ac (BC Aj 4 [0,3] O (Bh O (fun _=>Av O O (E3 (Cr t) (Cr t) ht.good.1 O) O) Ac (BC Aj 3 [3] O (Bh O (fun _=>Av O O (PC _ (Cr t) (Nat.le_refl _) (by have:=ht.sz;have:=ht.good.2.2.2;omega)) O) Ac (BC Aj 1 [5] O (Bh O (fun _=>Av O O (PC _ t (Nat.le_refl _) (by have:=ht.sz;have:=ht.good.2.2.2;omega)) O) Ac (BC Aj 3 [] O (E6 65 O (fun g=>?_) (fun g=>?_)))))))))))))))
  ·(try simp only[sd,se] at g);exact Bh O (fun _=>Av O O (Kd ) O) Ac (Bo Aj 2 [] O ⟨O,O,AG,(by first | rfl | (exfalso;have:=ht.good.2.2.2;simp_all;done) | (exfalso;have:=ht.good.2.2.2;omega)),Ac⟩)
  (try simp only[sd,se] at g);exact Bo Aj 3 [] O ⟨O,O,AG,(by first | rfl | (exfalso;have:=ht.good.2.2.2;simp_all;done) | (exfalso;have:=ht.good.2.2.2;omega)),Ac⟩
 rintro _ rfl;refine Ai (⟨O,_,_,⟨_,_,O,O,O⟩,(List.nil_sublist _),?_⟩)
 all_goals exact⟨rfl,rfl⟩
end Go.Proofs.YtldfmjoncbjldaaGreat
