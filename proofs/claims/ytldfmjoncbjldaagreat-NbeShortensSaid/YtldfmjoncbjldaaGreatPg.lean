/- Part of the proofs: an abstract program logic, plain models and contracts of functions. -/
import Derived.Test.YtldfmjoncbjldaaGreatPf
import Derived.Test.YtldfmjoncbjldaaGreatPb
import Derived.Test.YtldfmjoncbjldaaGreatPd
import Derived.Test.YtldfmjoncbjldaaGreatPe
set_option linter.unusedVariables false
set_option linter.unusedSimpArgs false
set_option maxRecDepth 100000
namespace Go.Proofs.YtldfmjoncbjldaaGreat
open Go.Abs Go.Eu
theorem UH:∀(be:Nat) (ce:List AV),CX Tryz.prog 111 [.ptr be 0] (.ret) [.box be ce] (fun H'=>H'=[.box be ce]):=by
 intro be ce;refine D2 (ty2:=0) Tryz.func111 O ZT (n:=14) O O O O O O (Ao (Ba O (Aj O (Dj Qs O O O) (Bb O ?_))));refine Ak O (fun c=>by cases c) (fun c=>?_);exact An ⟨.inl O,O,_,(Ca (is:=[0]) O),O⟩
theorem XY:∀(cn:Int) (fid:Nat) (caps:List AV) (T G:List Au) (hf:∀m,BK Tryz.prog fid ([.ptr m 0]++caps) (.box m [.p (.lst []),.p (I 20000)]::T) (GV (.tup []) (.box m [.p (.lst []),.p (I cn)]::G))),BK Tryz.prog 65 [.p (.lst []),.fn (.func fid) [] caps] T (GV (.p (I 0)) G):=by
 intro cn fid caps T G hf;refine Cr Tryz.func65 O Z9 (n:=11) O O (Ao (A6 O (Ax Sl O) fun b4=>Bb O (Ao (Aj O (CU O O) (Hk O O O O (Bb O (Ao (Aq Al 3 [] O (A6 O (BF O) fun b9=>FK (List.Perm.swap _ _ _) (Ep [_] O O O (.inr O) (hf b9) (DH _) ?_ (fun _ _ h=>h.elim)))))))))));rintro v T2 ⟨rfl,rfl⟩;refine Bb O (Ah Al 1 [0,0] O (Am ⟨_,[_],_,O,List.Perm.refl _,CX.eq (UH b4 _) ?_⟩));refine⟨_,_,⟨_,_,O,(Dq (i:=0) Mi O O),O⟩,(Cu [] [_,_] O),?_⟩
 all_goals exact⟨rfl,rfl⟩
theorem Ur:∀(m bt bo bk:Nat) (t:Tm) (q:Option Tm),(okB t=true)→(J0 t= .ok q)→BK Tryz.prog 66 [.ptr m 0,.ptr bt 0,.ptr bo 0,.ptr bk 0] [.box m [.p (.lst []),.p (I 20000)],.box bt ((BA t).map .p),.box bo [.p (I 0),.p (I 0),.p (.str ⟨#[]⟩),.p (.nils),.p (.nils)],.box bk [.p (.bool false)]] (GV (.tup []) [.box m [.p (.lst []),.p (I (if q.isSome=true then 19999 else 20000))],.box bt ((BA t).map .p),.box bo ((BA (q.getD BN)).map .p),.box bk [.p (.bool q.isSome)]]):=by
 intro m bt bo bk t q h1 h2;refine Ar Tryz.func66 O bI (n:=11) O O (Ap (Aq Al 2 [1] O (Aj O (CI [0] O (.inl ⟨O,O,O⟩) (T7 m t q h1 h2) ⟨_,_,O,O,O⟩ Ac O (.inl O)) (Ag Al 5 [2,1,3,0] O ⟨O,_,_,O,(Ca (is:=[0,1,2,3]) O),?_⟩))))
 all_goals exact⟨rfl,rfl⟩
theorem TM:∀(t:Tm) (q:Option Tm),(okB t=true)→(J0 t= .ok q)→(q.isSome=true→okB (q.getD BN)=true∧size (q.getD BN)≤4096∧Dc (q.getD BN)≤200)→Dp Tryz.prog 37 [.p (.lst []),.agg ((BA t).map .p)] (.tup [.agg ((BA (q.getD BN)).map .p),.p (.bool q.isSome),.p (I 0)]):=by
 intro t q h1 h2 h3;refine Ar Tryz.func37 O bC (n:=34) O O (Ao (A6 O (BF O) fun b3=>A6 O (Ax Bh O) fun b4=>Ag Al 2 [] O (Ao (A6 O (Ax Bh O) fun b7=>Bb O (Ao (A6 O (Ax eL O) fun b8=>Ag Al 1 [0,0] O (Ao (Aq Al 2 [] O (Aj O (CI [3,1,0] O (.inl ⟨O,O,O⟩) (XY (if q.isSome=true then 19999 else 20000) 66 [.ptr b3 0,.ptr b7 0,.ptr b8 0] [.box b3 ((BA t).map .p),.box b7 [.p (I 0),.p (I 0),.p (.str ⟨#[]⟩),.p (.nils),.p (.nils)],.box b8 [.p (.bool false)]] [.box b3 ((BA t).map .p),.box b7 ((BA (q.getD BN)).map .p),.box b8 [.p (.bool q.isSome)]] (fun m=>Ur m b3 b7 b8 t q h1 h2)) ⟨_,_,O,O,⟨_,_,O,O,⟨_,_,O,O,O⟩⟩⟩ Ac O (.inl O)) (Ag Al 1 [] O (Ai (Ai ?_))))))))))));rcases q with _ | y
 ·refine BL [4,7,8,9] 27 (fun y=>y= .p (.bool false)) ?_ ?_
  ·exact Ap (Ag Al 15 [0] O (⟨O,O,AH,(by refine pB ?_;simp;try omega),⟨O,O,O,O,Af⟩⟩))
  rintro _ rfl;refine Ak O (fun c=>by cases c) (fun c=>?_);refine An (Ai (Ah Al 2 [] O ?_));refine Ak O (fun c1=>by cases c1) (fun c1=>?_);refine An (Ai (Bt (fun k=>false) EY (Bl Al 5 [1,0,2,1] O (Am (⟨O,_,_,⟨_,_,O,(BD (i:=2) Be O O AW),⟨_,_,O,O,⟨_,_,O,O,O⟩⟩⟩,(List.nil_sublist _),?_⟩)))))
  all_goals exact⟨rfl,rfl⟩
 have hy:=h3 rfl;simp only[Option.getD_some] at hy;obtain⟨hyo,hys,hyd⟩:=hy;refine BL [4,7,8,9] 27 (fun y=>y= .p (.bool false)) ?_ ?_
 ·refine Ap (Aq Al 7 [0,1] O (BP O (A0 O O (Pb y (Jd.1 hyo).nd Ad) O) (Aq Al 2 [] O (A5 22 O (fun g=>?_) (fun g=>?_)))))
  ·(try simp only[sd,se] at g);exact Ag Al 5 [] O (⟨O,O,AH,(by refine pB ?_;simp;try omega),⟨O,O,O,O,Af⟩⟩)
  (try simp only[sd,se] at g);exact BP O (Bf (i:=1) Be O O AW) (BP O (A0 O O (ON _ y (Nat.le_refl _) (Jd.1 hyo).nd) O) (Ag Al 3 [] O (⟨O,O,AH,(by refine pB ?_;simp;try omega),⟨O,O,O,O,Af⟩⟩)))
 rintro _ rfl;refine Ak O (fun c=>by cases c) (fun c=>?_);refine An (Ai (Ah Al 2 [] O ?_));refine Ak O (fun c1=>by cases c1) (fun c1=>?_);refine An (Ai (Bt (fun k=>false) EY (Bl Al 5 [1,0,2,1] O (Am (⟨O,_,_,⟨_,_,O,(BD (i:=2) Be O O AW),⟨_,_,O,O,⟨_,_,O,O,O⟩⟩⟩,(List.nil_sublist _),?_⟩)))))
 all_goals exact⟨rfl,rfl⟩
theorem Pt:∀(n:Nat) (t:Tm) (b:Bool),(OJ n t= .ok b)→Dp Tryz.prog 15 [.p (.lst []),.agg ((BA t).map .p)] (.p (.bool b)):=by
 intro n
 induction n with
 | zero=>intro t b h;cases h
 | succ m ih =>
  intro t b h;obtain⟨m2,q,e,ho,hs,hc⟩:=VE h;injection e with e;subst e;have hsp:=Vh ho;have hsl:=hsp.len;have hss:=hsp.sz;refine Ar Tryz.func15 O aX (n:=44) O O (Ao (A6 O (BF O) fun b3=>Ag Al 1 [] O (Ai (Ao (Aq Al 2 [0] O ?_)))));refine Aj rfl (A0 rfl rfl (TM t q ho hs (fun e=>by rcases hc with ⟨_,e2,_⟩ | ⟨e2,_⟩;exact e2;rw[e2] at e;cases e)) rfl) ?_;refine Aq Al 4 [] O (A6 O (Ax Bh O) fun b5=>Ag Al 3 [0,1] O (Ai (BL [0,3] 23 (fun y=>y= .p (.bool (q.isSome&&true))) ?_ ?_)))
  ·refine Ap (Aq Al 2 [] O (A5 20 O (fun g=>?_) (fun g=>?_)))
   ·(try simp only[sd,se] at g);exact Ag Al 3 [] O (⟨O,O,AH,AG,⟨O,O,Af⟩⟩)
   (try simp only[sd,se] at g);exact Ag Al 3 [] O (⟨O,O,AH,AG,⟨O,O,Af⟩⟩)
  rintro _ rfl;refine Ak O (fun c=>?_) (fun c=>?_)
  ·(try simp only[sd,se] at c);rcases hc with ⟨_,_,rfl⟩ | ⟨rfl,_⟩
   rotate_left
   ·simp at c
   refine Ah Al 1 [] O (Am (⟨O,_,_,⟨_,_,O,O,O⟩,(List.nil_sublist _),?_⟩))
   all_goals exact⟨rfl,rfl⟩
  (try simp only[sd,se] at c);rcases hc with ⟨e,_⟩ | ⟨rfl,hk1,hk2,ha⟩
  ·rw[e] at c;simp at c
  refine An (Ao (Aj O (Bf (i:=1) Be O O AW) (Aj O (A0 O O (NZ t hsp.nd AS) O) (Aq Al 3 [] O (A6 O (Ax Bh O) fun b8=>Ag Al 2 [0,1] O (Ai (Ao (Aj O (BH HE O O) ?_))))))));generalize hz:(A3 t).1=z;obtain⟨zk,zi,zn,zl,zs⟩:=z;rw[hz] at ha hk1;simp only[Tm.kids] at ha hk1;rw[show zs++(A3 t).2=[zs,(A3 t).2].flatten by simp] at ha;have hfl:([zs,(A3 t).2].flatten).length<2000:=by simp;omega
  refine Aq Al 2 [0] O (Aj O (Bi Na aA O O O O O) ?_);refine TT rfl rfl rfl (.inl ⟨rfl,rfl,rfl⟩) (T9 [zs,(A3 t).2] Ae (fun l hl=>by simp only[List.mem_cons,List.not_mem_nil,or_false] at hl;rcases hl with rfl | rfl<;>omega)) (.inl rfl) fun o cp=>?_;refine Bv (Cm (i:=0) [33] O (Cq ⟨O,Af⟩)) (Aj O (A8 BI O (A2 _)) (Ag Al 1 [] O (Aw (BR (α:=Nat) (fun i=>⟨44,mk [(0,.p (.lst [])),(33,.p (.lst (A1 ([zs,(A3 t).2].flatten)))),(34,.p (I (([zs,(A3 t).2].flatten).length:Nat))),(35,.p (I (i:Int)))],[],[]⟩) (fun i=>[zs,(A3 t).2].flatten.length - i) (fun i=>i≤[zs,(A3 t).2].flatten.length∧(PG (OJ m) (List.drop i [zs,(A3 t).2].flatten)= .ok b)) 0 (⟨by omega,ha⟩) ?_ ?_))))
  ·exact BM ⟨we O,we O,we O,we O,Af⟩ (leH (is:=[]) O (Cv))
  rintro i hC
  try simp only at hC
  obtain⟨hi,hC⟩:=hC;refine Ah Al 1 [] O (Ai (Ak O (fun c1=>?_) (fun c1=>?_)))
  ·(try simp only[sd,se] at c1);refine An (Ai (Aw (Ao ?_)));obtain⟨x,hx⟩:=Av (l:=[zs,(A3 t).2].flatten) (i:=i) Ad;refine Aj O (As BI O O Ad (BB hx) (Ay _)) (Aj O (BC Be O (Ay _)) (A6 O (Ax Bh O) fun b11=>Ag Al 1 [0,1] O (Ao (Aq Al 2 [0] O ?_))));obtain⟨c9,hq1,hq2⟩:=Q6 (by rw[←B3 hx];exact hC);refine Aj O (A0 O O (ih x c9 hq1) O) (Ag Al 1 [] O (Ak O (fun c2=>?_) (fun c2=>?_)))
   ·(try simp only[sd,se] at c2);have hbf:b=false:=by rcases hq2 with ⟨e,_⟩ | ⟨_,e⟩;rw[e] at c2;simp at c2;exact e
    refine Ah Al 1 [] O (Am (⟨O,_,_,⟨_,_,O,O,O⟩,(List.nil_sublist _),?_⟩))
    all_goals exact⟨by show (.p (.bool false):AV)=_;rw[hbf],rfl⟩
   (try simp only[sd,se] at c2);have hq3:PG (OJ m) (List.drop (i+1) [zs,(A3 t).2].flatten)= .ok b:=by rcases hq2 with ⟨_,e⟩ | ⟨e,_⟩;exact e;rw[e] at c2;simp at c2
   refine An (Ap (Ag Al 2 [] O (⟨(i+1),AN,⟨by omega,hq3⟩,BM ⟨we rfl,we rfl,we rfl,we rfl,trivial⟩ (leH (is:=[]) rfl (Cv))⟩)))
  (try simp only[sd,se] at c1);refine BQ (Ah Al 1 [] O (Am (⟨O,_,_,⟨_,_,O,O,O⟩,(List.nil_sublist _),?_⟩)))
  all_goals exact⟨by show (.p (.bool true):AV)=_;have h9:=hC;rw[List.drop_eq_nil_of_le Ad] at h9;injection h9 with h9;rw[←h9],rfl⟩
end Go.Proofs.YtldfmjoncbjldaaGreat
namespace Go.Eu
open Go.Abs
def GS (b:Int) (t:Tm):Tm×Int:=if (Bk b 0 0 0 t).2≠0 then (BN,(Bk b 0 0 0 t).2) else ((Bk b 0 0 0 t).1,0)
def JO (b:Int) (t:Tm):Tm×Int:=match FB b 0 t with
 | .ok z=>(z,0)
 | .error e=>(BN,e)
theorem Uk {b:Int}{t z:Tm}(h:FB b 0 t= .ok z):JO b t=(z,0):=by simp[JO,h]
theorem SS {b e:Int}{t:Tm}(h:FB b 0 t= .error e):JO b t=(BN,e):=by simp[JO,h]
def CP:Tm:= .mk 1 0 ⟨#[]⟩ [] []
def FW (b:Tm):Bool:=decide (b.kind=4)&&decide (b.kids.length=2)&&decide ((b.kids.getD 1 default).kind=0)&&decide ((b.kids.getD 1 default).index=0)
noncomputable def FQ (a b:Tm):Bool:=decide (a.kind=9)&&decide (b.kind=10)&&decide (a.kids.length=1)&&decide (b.kids.length=1)&&JT (a.kids.getD 0 default) (b.kids.getD 0 default)
noncomputable def Oa (oc:Tm→Bool) (sh:Tm→Tm) (k i:Int) (n:ByteArray) (l:List CE) (ks:List Tm):Tm :=
 if k=5∧ks.length=2 then
  if (FW (ks.getD 1 default)&& !oc ((ks.getD 1 default).kids.getD 0 default))=true then sh ((ks.getD 1 default).kids.getD 0 default) else .mk k i n l (ks.set 0 CP)
 else if k=8∧ks.length=3 then
  if FQ (ks.getD 1 default) (ks.getD 2 default)=true then (ks.getD 1 default).kids.getD 0 default else .mk k i n l (ks.set 0 CP)
 else .mk k i n l ks
section
variable (oc:Tm→Bool) (sh:Tm→Tm)
mutual
noncomputable def Ql:Tm→Tm
 | .mk k i n l ks=>Oa oc sh k i n l (QN ks)
noncomputable def QN:List Tm→List Tm
 | []=>[]
 | t::ts=>Ql t::QN ts
end
theorem L3:∀ts,QN oc sh ts=ts.map (Ql oc sh)
 | []=>rfl
 | t::ts=>by simp only[QN,List.map_cons,L3 ts]
end
noncomputable def Dh:Tm→Tm:=Ql (fun f=>MT 0 0 f) (fun f=>(GS (-1) f).1)
noncomputable def et:Tm→Tm:=Ql (fun f=>decide ((JO (-1) f).2≠0)) (fun f=>(JO (-1) f).1)
theorem C0 (k i:Int) (n:ByteArray) (l:List CE) (ts:List Tm):Dh (.mk k i n l ts)=Oa (fun f=>MT 0 0 f) (fun f=>(GS (-1) f).1) k i n l (ts.map Dh):=by
 show Ql _ _ _=_;rw[Ql,L3];rfl
section
variable {oc:Tm→Bool}{sh:Tm→Tm}{k i:Int}{n:ByteArray}{l:List CE}{ks:List Tm}{a b c x y:Tm}
theorem H6 (h:FW b=true):b.kids.length=2:=by
 simp only[FW,Bool.and_eq_true,decide_eq_true_eq] at h;exact h.1.1.2
theorem JV (h:FQ a b=true):a.kids.length=1∧b.kids.length=1:=by
 simp only[FQ,Bool.and_eq_true,decide_eq_true_eq] at h;exact⟨h.1.1.2,h.1.2⟩
theorem Hg (hk:k=5) (he:FW b=true) (hx:b.kids[0]?=some x) (ho:oc x=false):Oa oc sh k i n l [a,b]=sh x:=by
 have hg:b.kids.getD 0 default=x:=by rw[List.getD_eq_getElem?_getD,hx];rfl
 unfold Oa;rw[if_pos ⟨hk,rfl⟩];simp only[List.getD_cons_succ,List.getD_cons_zero,hg,he,ho,Bool.not_false,Bool.and_self,if_true]
theorem Et (hk:k=5) (he:FW b=true→∀x,b.kids[0]?=some x→oc x=true):Oa oc sh k i n l [a,b]= .mk k i n l [CP,b]:=by
 unfold Oa;rw[if_pos ⟨hk,rfl⟩];simp only[List.getD_cons_succ,List.getD_cons_zero];rw[if_neg]
 ·rfl
 intro h;simp only[Bool.and_eq_true,Bool.not_eq_true'] at h;have h2:=H6 h.1;have:=he h.1 (b.kids.getD 0 default) (by rw[List.getD_eq_getElem?_getD,List.getElem?_eq_getElem Ad];rfl);rw[h.2] at this;cases this
theorem Hy (hk:k=8) (he:FQ b c=true) (hx:b.kids[0]?=some x):Oa oc sh k i n l [a,b,c]=x:=by
 have hg:b.kids.getD 0 default=x:=by rw[List.getD_eq_getElem?_getD,hx];rfl
 unfold Oa;rw[if_neg Ae,if_pos ⟨hk,rfl⟩];simp only[List.getD_cons_succ,List.getD_cons_zero,he,if_true,hg]
theorem IB (hk:k=8) (he:FQ b c=false):Oa oc sh k i n l [a,b,c]= .mk k i n l [CP,b,c]:=by
 unfold Oa;rw[if_neg Ae,if_pos ⟨hk,rfl⟩];simp only[List.getD_cons_succ,List.getD_cons_zero,he,Bool.false_eq_true,if_false];rfl
theorem Fj (h5:¬(k=5∧ks.length=2)) (h8:¬(k=8∧ks.length=3)):Oa oc sh k i n l ks= .mk k i n l ks:=by
 unfold Oa;rw[if_neg h5,if_neg h8]
theorem UZ {K:List Tm}(h:K.length=2):∃a b,K=[a,b]:=by
 match K,h with
 | [a,b],_=>exact⟨a,b,rfl⟩
theorem U1 {K:List Tm}(h:K.length=3):∃a b c,K=[a,b,c]:=by
 match K,h with
 | [a,b,c],_=>exact⟨a,b,c,rfl⟩
end
theorem U3 {t:Tm}(h:Nd t) (hw:Wt t):Nd (GS (-1) t).1∧size (GS (-1) t).1≤size t∧Wt (GS (-1) t).1:=by
 unfold GS;split
 ·exact⟨T4,by have:=size_pos t;simp[BN,size,A4];omega,by simp[BN,Wt,arity,K8]⟩
 exact⟨LY _ _ _ _ _ h,Nat.le_of_eq (JJ _ _ _ _ _ (.inr hw)),Lu _ _ _ _ _ hw⟩
end Go.Eu
namespace Go.Proofs.YtldfmjoncbjldaaGreat
open Go.Abs Go.Eu
theorem _root_.Go.AP {α:Prop}(h:α:=by refine pB ?_;simp_all<;>omega):α:=h
theorem SO:∀(t:Tm) (b:Int),(-65536≤b∧b≤65536)→(Nd t)→(size t≤1000000)→Dp Tryz.prog 23 [.agg ((BA t).map .p),.p (I b),.p (I 0)] (.tup [.agg ((BA ((GS b t).1)).map .p),.p (I ((GS b t).2))]):=by
 intro t b h1 h2 h3;refine Ar Tryz.func23 O aS (n:=40) O O (Ao (A6 O (BF O) fun b3=>A6 O (Ax Bh O) fun b6=>Ag Al 1 [] O (Ai (Ai (BL [1,2,3,6] 19 (fun y=>y= .p (.bool false)) ?_ ?_)))))
 ·refine Ap (Aq Al 3 [] O (A5 12 O (fun g=>?_) (fun g=>?_)))
  ·(try simp only[sd,se] at g);exact Ag Al 7 [] O (⟨O,O,AH,AP,⟨O,O,O,O,Af⟩⟩)
  (try simp only[sd,se] at g);refine Aq Al 4 [] O (A5 16 O (fun g1=>?_) (fun g1=>?_))
  ·(try simp only[sd,se] at g1);exact Ag Al 3 [] O (⟨O,O,AH,AP,⟨O,O,O,O,Af⟩⟩)
  (try simp only[sd,se] at g1);exact Ag Al 3 [] O (⟨O,O,AH,AP,⟨O,O,O,O,Af⟩⟩)
 rintro _ rfl;refine Ak O (fun c=>by cases c) (fun c=>?_);refine An (Ao (Aj O (D7 aq ad O) (A6 O (BF O) fun b22=>Ag Al 1 [] O (Ao (Aq Al 4 [2] O (Aj O (UL O O) (Aj O (CI [0] O (.inl ⟨O,O,O⟩) (U0 (size t) t b22 b (min (0:Int) (65536:Int)) 0 0 0 (Nat.le_refl _) h2 Ac Ad) ⟨_,_,O,O,O⟩ Ac O (.inl O)) (A6 O (Ax Bh O) fun b9=>Ag Al 1 [0,1] O (Ai (Ah Al 5 [1] O (Ak O (fun c1=>?_) (fun c1=>?_))))))))))))
 ·(try simp only[sd,se] at c1);have hce:=c1;refine Ai (Bt (fun k=>false) EY (Bl Al 7 [1,2,0] O (BO (By (i:=2) O) (Am (⟨O,_,_,⟨_,_,O,(BD (i:=2) Be O O O),⟨_,_,O,O,O⟩⟩,(List.nil_sublist _),?_⟩)))))
  all_goals exact⟨by show (.tup [.agg [.p (I 0),.p (I 0),.p (.str ⟨#[]⟩),.p (.lst []),.p (.lst [])],.p (I ((Bk b (min (0:Int) (65536:Int)) 0 0 t).2))]:AV)=_;unfold GS;rw[if_pos (c:=(Bk b 0 0 0 t).2≠0) hce];rfl,rfl⟩
 (try simp only[sd,se] at c1);have hce:=c1;refine An (Ah Al 3 [0,2,1] O (Am (⟨O,_,_,⟨_,_,O,(BD (i:=2) Be O O AW),⟨_,_,O,O,O⟩⟩,(List.nil_sublist _),?_⟩)))
 all_goals exact⟨by show (.tup [.agg ((BA ((Bk b (min (0:Int) (65536:Int)) 0 0 t).1)).map .p),.p (I 0)]:AV)=_;unfold GS;rw[if_neg (c:=(Bk b 0 0 0 t).2≠0) (fun h=>h hce)];rfl,rfl⟩
theorem T5:∀(bo be:Nat) (co ce:List AV),CX Tryz.prog 79 [.ptr bo 0,.ptr be 0] (.ret) [.box bo co,.box be ce] (fun H'=>H'=[.box bo co,.box be ce]):=by
 intro bo be co ce;refine D2 (ty2:=0) Tryz.func79 O ZF (n:=9) O O O O O O (Ao (Ba O (Aj O (Dj Qs O O O) (Bb O ?_))));refine Ak O (fun c=>by cases c) (fun c=>?_);exact An ⟨.inl O,O,_,(Ca (is:=[0,1]) O),O⟩
theorem UQ:∀(bo be:Nat) (e:Int),CX Tryz.prog 79 [.ptr bo 0,.ptr be 0] (.pan (.p (.iface 207 (I e)))) [.box bo [.p (I 0),.p (I 0),.p (.str ⟨#[]⟩),.p (.nils),.p (.nils)],.box be [.p (I 0)]] (fun H'=>H'=[.box bo [.p (I 0),.p (I 0),.p (.str ⟨#[]⟩),.p (.lst []),.p (.lst [])],.box be [.p (I e)]]):=by
 intro bo be e;refine D2 (ty2:=0) Tryz.func79 O ZF (n:=9) O O O O O O (Ao (Ba O (Aj O (Dj Qs O O O) (Bv (By (i:=0) O) (Bb O ?_)))));refine Ak O (fun c=>?_) (fun c=>by cases c);exact Ap (Aq Al 2 [] O (Aj O (A0 O O (MF _) O) (Aq Al 2 [0,0,1,0] O (Bv (By (i:=0) O) (Bb O ⟨.inl O,O,_,(Ca (is:=[0,1]) O),O⟩)))))
set_option maxHeartbeats 2000000 in
theorem Sw:∀(t:Tm) (b:Int),(-65536≤b∧b≤65536)→(Nd t)→(Vp t)→(size t≤1000000)→Dp Tryz.prog 43 [.agg ((BA t).map .p),.p (I b),.p (I 0)] (.tup [.agg ((BA ((JO b t).1)).map .p),.p (I ((JO b t).2))]):=by
 intro t b h1 h2 h3 h4;refine Cr Tryz.func43 O bH (n:=24) O O (Ao (A6 O (BF O) fun b3=>A6 O (Ax Bh O) fun b6=>A6 O (Ax Sl O) fun b7=>Bb O (Ai (Ai (BL [1,2,3,6,7] 17 (fun y=>y= .p (.bool false)) ?_ ?_)))))
 ·refine Ap (Aq Al 3 [] O (A5 10 O (fun g=>?_) (fun g=>?_)))
  ·(try simp only[sd,se] at g);exact Ag Al 7 [] O (⟨O,O,AH,AP,⟨O,O,O,O,O,Af⟩⟩)
  (try simp only[sd,se] at g);refine Aq Al 4 [] O (A5 14 O (fun g1=>?_) (fun g1=>?_))
  ·(try simp only[sd,se] at g1);exact Ag Al 3 [] O (⟨O,O,AH,AP,⟨O,O,O,O,O,Af⟩⟩)
  (try simp only[sd,se] at g1);exact Ag Al 3 [] O (⟨O,O,AH,AP,⟨O,O,O,O,O,Af⟩⟩)
 rintro _ rfl;refine Ak O (fun c=>by cases c) (fun c=>?_);refine An (Ao (Aj O (CU O O) (Hk O O O O (Bb O (Ao (Aq Al 3 [2] O (KL [] O O O (.inl ⟨O,O,O⟩) (Kt t b 0 h2 h3 AS Ad Ad) O Ac (aw (we O) (aw (we O) (aw (we O) (Gy)))) (fun _ _ h=>(congrArg List.length h).trans O) ?_ ?_)))))))
 rotate_left
 ·intro e _ he;refine⟨_,_,_,O,Ii (is:=[1,0]) _ Ac ⟨_,_,O,O,⟨_,_,O,O,O⟩⟩,CX.eq (UQ b6 b7 _) ?_⟩;refine⟨_,[],⟨_,_,O,(BD (i:=0) Be O O O),⟨_,_,O,(Dq (i:=1) Mi O O),O⟩⟩,(List.nil_sublist _),?_⟩;rw[SS he];exact⟨O,O⟩
 rintro z _ hz rfl;refine Ag Al 2 [1,1,0,0] O (Am (⟨_,_,_,O,CF (is:=[1,0]) Ac ⟨_,_,O,O,⟨_,_,O,O,O⟩⟩,CX.eq (T5 b6 b7 _ _) ?_⟩));refine⟨_,_,⟨_,_,O,(BD (i:=0) Be O O AW),⟨_,_,O,(Dq (i:=1) Mi O O),O⟩⟩,(List.nil_sublist _),?_⟩
 all_goals exact⟨by show (.tup [.agg ((BA z).map .p),.p (I 0)]:AV)=_;rw[Uk hz],rfl⟩
end Go.Proofs.YtldfmjoncbjldaaGreat
namespace Go.Eu
open Go.Abs
theorem Gu (l:List Tm):((l.length:Int)=1)=(l.length=1):=propext ⟨fun h=>by omega,fun h=>by omega⟩
theorem H7 (l:List Tm):((l.length:Int)=2)=(l.length=2):=propext ⟨fun h=>by omega,fun h=>by omega⟩
theorem Tg {ts:List Tm}{f:Tm→Tm}(h:∀t∈ts,Nd (f t)):IX (ts.map f):=by
 induction ts with
 | nil=>trivial
 | cons t ts ih=>exact⟨h t Ae,ih fun x hx=>h x (by simp[hx])⟩
theorem P1 {ts:List Tm}{f:Tm→Tm}(h:∀t∈ts,Wt (f t)):K8 (ts.map f):=by
 induction ts with
 | nil=>trivial
 | cons t ts ih=>exact⟨h t Ae,ih fun x hx=>h x (by simp[hx])⟩
theorem Lp {ts:List Tm}{f:Tm→Tm}(h:∀t∈ts,size (f t)≤size t):A4 (ts.map f)≤A4 ts:=by
 induction ts with
 | nil=>simp[A4]
 | cons t ts ih=>have:=h t Ae;have:=ih fun x hx=>h x (by simp[hx]);simp only[List.map_cons,A4];omega
theorem EO {ts:List Tm}(h:IX ts):∀t∈ts,Nd t:=by
 induction ts with
 | nil=>intro t ht;cases ht
 | cons a ts ih=>intro t ht;rcases List.mem_cons.1 ht with rfl | ht;exact h.1;exact ih h.2 t ht
theorem DP {ts:List Tm}(h:K8 ts):∀t∈ts,Wt t:=by
 induction ts with
 | nil=>intro t ht;cases ht
 | cons a ts ih=>intro t ht;rcases List.mem_cons.1 ht with rfl | ht;exact h.1;exact ih h.2 t ht
theorem Du {ts:List Tm}{t:Tm}(h:t∈ts):size t≤A4 ts:=by
 obtain⟨i,hi⟩:=List.mem_iff_getElem?.1 h;exact Bg hi
theorem Xk {oc:Tm→Bool}{sh:Tm→Tm}(hs:∀t,Nd t→Wt t→Nd (sh t)∧size (sh t)≤size t∧Wt (sh t)) {k i:Int}{n:ByteArray}{l:List CE}{ks:List Tm}(h:Nd (.mk k i n l ks)) (w:Wt (.mk k i n l ks)) :
  Nd (Oa oc sh k i n l ks)∧size (Oa oc sh k i n l ks)≤size (.mk k i n l ks)∧Wt (Oa oc sh k i n l ks):=by
 have hp:∀a,a∈ks→Nd a∧Wt a∧size a+1≤size (.mk k i n l ks):=fun a ha=>⟨EO h.2.2.2.2.1 a ha,DP w.2.2 a ha,by have:=Du ha;simp only[size];omega⟩;have hpr:Nd CP∧Wt CP∧size CP=1:=⟨⟨by decide,by decide,by simp,by decide,trivial,⟨by decide,by decide⟩,⟨by decide,by decide⟩⟩,by simp[CP,Wt,arity,K8],by simp[CP,size,A4]⟩;by_cases h5:k=5∧ks.length=2
 ·obtain⟨a,b,rfl⟩:=UZ h5.2;obtain⟨b1,b2,b3⟩:=hp b Ae;cases he:FW b with
  | true =>
   have hl:=H6 he;obtain⟨x,hx⟩:∃x,b.kids[0]?=some x:=⟨_,List.getElem?_eq_getElem Ad⟩;cases ho:oc x with
   | false =>
    rw[Hg h5.1 he hx ho];obtain⟨bk,bi,bn,bl,bs⟩:=b;have hm:=List.mem_of_getElem? hx;obtain⟨q1,q2,q3⟩:=hs x (EO b1.2.2.2.2.1 x hm) (DP b2.2.2 x hm);have:=Du hm;simp only[size] at b3 ⊢;simp only[Tm.kids] at this;exact⟨q1,by omega,q3⟩
   | true =>
    rw[Et h5.1 (fun _ y hy=>by rw[hx] at hy;injection hy with hy;rw[←hy];exact ho)];exact⟨⟨h.1,h.2.1,h.2.2.1,h.2.2.2.1,⟨hpr.1,b1,Af⟩,h.2.2.2.2.2⟩,by have:=size_pos a;simp only[size,A4,hpr.2.2] at *;omega,⟨w.1,w.2.1,hpr.2.1,b2,trivial⟩⟩
  | false =>
   rw[Et h5.1 (fun e=>by rw[he] at e;cases e)];exact⟨⟨h.1,h.2.1,h.2.2.1,h.2.2.2.1,⟨hpr.1,b1,Af⟩,h.2.2.2.2.2⟩,by have:=size_pos a;simp only[size,A4,hpr.2.2] at *;omega,⟨w.1,w.2.1,hpr.2.1,b2,trivial⟩⟩
 by_cases h8:k=8∧ks.length=3
 ·obtain⟨a,b,c,rfl⟩:=U1 h8.2;obtain⟨b1,b2,b3⟩:=hp b Ae;obtain⟨c1,c2,c3⟩:=hp c Ae;cases he:FQ b c with
  | true =>
   have hl:=(JV he).1;obtain⟨x,hx⟩:∃x,b.kids[0]?=some x:=⟨_,List.getElem?_eq_getElem Ad⟩;rw[Hy h8.1 he hx];obtain⟨bk,bi,bn,bl,bs⟩:=b;have hm:=List.mem_of_getElem? hx;have:=Du hm;simp only[size] at b3 ⊢;simp only[Tm.kids] at this;exact⟨EO b1.2.2.2.2.1 x hm,by omega,DP b2.2.2 x hm⟩
  | false =>
   rw[IB h8.1 he];exact⟨⟨h.1,h.2.1,h.2.2.1,h.2.2.2.1,⟨hpr.1,b1,c1,Af⟩,h.2.2.2.2.2⟩,by have:=size_pos a;simp only[size,A4,hpr.2.2] at *;omega,⟨w.1,w.2.1,hpr.2.1,b2,c2,trivial⟩⟩
 rw[Fj h5 h8];exact⟨h,Nat.le_refl _,w⟩
theorem Z6 {P:Tm→Prop}(h:∀k i n l ks,(∀t∈ks,P t)→P (.mk k i n l ks)):∀t,P t:=by
 have:∀m t,size t≤m→P t:=by
  intro m
  induction m with
  | zero=>intro t ht;have:=size_pos t;omega
  | succ m ih =>
   intro t ht;obtain⟨k,i,n,l,ks⟩:=t;exact h k i n l ks fun x hx=>ih x (by have:=Du hx;simp only[size] at ht;omega)
 exact fun t=>this _ t (Nat.le_refl _)
theorem IU:∀t,Nd t→Wt t→Nd (Dh t)∧size (Dh t)≤size t∧Wt (Dh t):=by
 refine Z6 fun k i n l ks ih h w=>?_;have hk:∀t∈ks,Nd (Dh t)∧size (Dh t)≤size t∧Wt (Dh t):=fun t ht=>ih t ht (EO h.2.2.2.2.1 t ht) (DP w.2.2 t ht);have h2:Nd (.mk k i n l (ks.map Dh)):=⟨h.1,h.2.1,h.2.2.1,by rw[List.length_map];exact h.2.2.2.1,Tg fun t ht=>(hk t ht).1,h.2.2.2.2.2⟩;have w2:Wt (.mk k i n l (ks.map Dh)):=⟨by rw[List.length_map];exact w.1,w.2.1,P1 fun t ht=>(hk t ht).2.2⟩;have s2:A4 (ks.map Dh)≤A4 ks:=Lp fun t ht=>(hk t ht).2.1;rw[C0];obtain⟨a,b,c⟩:=Xk (oc:=fun f=>MT 0 0 f) (fun t ht wt=>U3 ht wt) h2 w2;exact⟨a,by simp only[size] at b ⊢;omega,c⟩
end Go.Eu
namespace Go.Proofs.YtldfmjoncbjldaaGreat
open Go.Abs Go.Eu
theorem Pg:Dp Tryz.prog 45 [] (.agg ((BA CP).map .p)):=by
 refine Ar Tryz.func45 O ca (n:=2) O O (Ao (A6 O (Ax Bh O) fun b0=>Bb O (Ah Al 2 [0,0] O (BO (By (i:=0) O) (Am (⟨O,_,_,⟨_,_,O,(BD (i:=0) Be O O O),O⟩,(List.nil_sublist _),?_⟩))))))
 all_goals exact⟨rfl,rfl⟩
theorem _root_.Go.AQ {α:Prop}(h:α:=by first | rfl | simp[Ay]):α:=h
theorem _root_.Go.AF {α:Prop}(h:α:=by first | (simp only[List.length_map,A2];omega) | (simp_all;done) | (simp_all;omega)):α:=h
theorem _root_.Go.AK {α:Prop}(h:α:=by first | (simp[A2];done) | (simp[A2];omega)):α:=h
set_option maxHeartbeats 4000000 in
theorem Sk:∀(n:Nat) (t:Tm),(size t≤n)→(Nd t)→(Wt t)→(size t≤1000000)→Dp Tryz.prog 19 [.agg ((BA t).map .p)] (.agg ((BA (Dh t)).map .p)):=by
 intro n
 induction n with
 | zero=>intro t h1;cases t;simp[size] at h1
 | succ n ih =>
  intro t h1 h2 h3 h4;have hle:=IU;obtain⟨tk,ti,tn,tl,ts⟩:=t;simp only[size] at h1 h4;have hn:=h2;simp only[Nd,Ci] at hn;have hw:=h3;simp only[Wt] at hw;have hkp:∀z∈ts,Nd (Dh z)∧Wt (Dh z)∧size (Dh z)+1≤1000000:=by
   intro z hz;obtain⟨q1,q2,q3⟩:=IU z (EO hn.2.2.2.2.1 z hz) (DP hw.2.2 z hz);have:=Du hz;exact⟨q1,q3,by omega⟩
  refine Ar Tryz.func19 O bM (n:=144) O O (Ao (A6 O (BF O) fun b1=>A6 O (Ax Bh O) fun b2=>Bb O (Ah Al 1 [] O (Ai (Ah Al 1 [] O (Aw (BO (FV (t:=3) (sz:=5) O) (BR (α:=Nat×Option Nat×Nat) (fun(i,o,cp)=>⟨144,mk [(1,.ptr b1 0),(2,.ptr b2 0),(3,.vs o (A1 ((ts.take i).map Dh)).length cp),(4,.p (I (i:Int)))],[.vec o 5 (A1 ((ts.take i).map Dh)) cp,.box b2 [.p (I 0),.p (I 0),.p (.str ⟨#[]⟩),.p (.nils),.p (.nils)],.box b1 [.p (I tk),.p (I ti),.p (.str tn),.p (.lst (List.map B0 tl)),.p (.lst (A1 ts))]],[]⟩) (fun(i,o,cp)=>ts.length - i) (fun(i,o,cp)=>i≤ts.length) ⟨0,none,0⟩ AM ?_ ?_))))))))
  ·exact BM ⟨we O,we O,we O,we O,Af⟩ (leH (is:=[0,1,2]) O (wl (oe O) (wl (oe O) (wl (oe O) (Cv)))))
  rintro⟨i,o,cp⟩ hC
  try simp only at hC
  have hi:=hC;refine Ai (Ao (Aq Al 3 [2] O (Aj O (A8 BI O (A2 _)) (Ag Al 1 [] O (Ak O (fun c=>?_) (fun c=>?_))))))
  ·(try simp only[sd,se] at c);refine An (Ai (Aw (Ap (Aq Al 4 [2] O ?_))));obtain⟨x,hx⟩:=Av (l:=ts) (i:=i) Ad;refine Aj O (As BI O O Ad (BB hx) (Ay _)) (Aj O (BC Be O (Ay _)) (Aj O (A0 O O (ih x (by have:=Bg hx;omega) (B2 hn.2.2.2.2.1 hx) (Mw hw.2.2 hx) (by have:=Bg hx;omega)) O) (Aj O (BZ (rows:=A1 [(Dh x)]) BI Bh O O O O (CL (Bu _)) (Dm _)) (G8 O O (CZ (i:=0) (rows':=A1 [(Dh x)]) BI BI Bh O O O O O O (Bu _) (by simp only[A2,List.length_map,List.length_take,List.length_cons,List.length_nil,List.nil_append,List.length_append];omega) (Ni ((ts.take i).map Dh) [(Dh x)])) fun o1 cp1=>Ag Al 1 [] O (Ap (Ag Al 3 [] O ?_))))));refine⟨⟨i+1,o1,cp1⟩,AN,by omega,BM ⟨we rfl,we rfl,we (M9 ((ts.take i).map Dh++[(Dh x)]) (by rw[List.take_add_one,hx];simp)),we rfl,trivial⟩ (leH (is:=[0,1,2]) rfl (wl (HB ((ts.take i).map Dh++[(Dh x)]) (by rw[List.take_add_one,hx];simp)) (wl (oe rfl) (wl (oe rfl) (Cv)))))⟩
  (try simp only[sd,se] at c);generalize hK:(ts.take i).map Dh=K;have hKe:ts.map Dh=K:=by rw[←hK,List.take_of_length_le Ad]
  have hKp:∀y∈K,Nd y∧Wt y∧size y+1≤1000000:=by
   intro y hy;rw[←hKe] at hy;obtain⟨z,hz,rfl⟩:=List.mem_map.1 hy;exact hkp z hz
  refine BQ (Ai (Ai (BL [1,2,3] 33 (fun y=>y= .p (.bool (((tk:Int)==(5:Int))&&(((K.length:Nat):Int)==(2:Int))))) ?_ ?_)))
  ·refine Ap (Aq Al 4 [2] O (A5 29 O (fun g=>?_) (fun g=>?_)))
   ·(try simp only[sd,se] at g);exact BP O (B8 O) (BP O (GM BI O (A2 _)) (Ag Al 2 [] O (⟨O,O,AH,AG,⟨O,O,O,Af⟩⟩)))
   (try simp only[sd,se] at g);exact Ag Al 4 [] O (⟨O,O,AH,AG,⟨O,O,O,Af⟩⟩)
  rintro _ rfl;refine Ak O (fun c1=>?_) (fun c1=>?_)
  ·(try simp only[sd,se] at c1);obtain⟨hk5,hl2⟩:tk=5∧K.length=2:=by
    have q:=c1;exact⟨q.1,by omega⟩
   obtain⟨k0,k1,rfl⟩:=UZ hl2;obtain⟨hk1n,hk1w,hk1z⟩:=hKp k1 Ae;refine Ao (Ba O (Aj O (A0 O O (Pg ) O) (Hh (i:=0) O AK fun b hb=>?_)));subst hb;refine Aj O (CB BI O O Ad AF) (Aj O (CC (i:=0) (j:=0) Be O O O AI O (FO _) (Ay _) (Ed _) (JB [k0,k1] 0 CP)) (Bb O (Ao (Bv (Cm (i:=0) [3,34] O (Cq ⟨O,O,Af⟩)) (Ba O (Aj O (As BI O O Ad (BB O) (Ay _)) (Aj O (BC Be O (Ay _)) (A6 O (Ax Bh O) fun b5=>Ag Al 1 [0,1] O (Ai (BL [1,2,3,5] 72 (fun y=>y= .p (.bool (FW k1&& !(k1.kids[0]?.any fun f=>MT 0 0 f)))) ?_ ?_))))))))))
   ·refine Ap (Aj O (BH HE O O) ?_);obtain⟨k1k,k1i,k1n,k1l,k1s⟩:=k1;(try simp only[Tm.kids] at hl1);have hn1:=hk1n;simp only[Nd,Ci] at hn1;simp only[size] at hk1z;refine Aq Al 3 [0] O (A5 43 O (fun g=>?_) (fun g=>?_))
    ·(try simp only[sd,se] at g);refine Aq Al 2 [0] O (BP O (A8 BI O (A2 _)) (Aq Al 3 [] O (A5 49 O (fun g1=>?_) (fun g1=>?_))))
     ·(try simp only[sd,se] at g1);refine Aq Al 2 [0] O ?_;obtain⟨x,hx⟩:=Av (l:=k1s) (i:=1) Ad;refine BP O (As BI O O Ad (BB hx) (Ay _)) ?_;obtain⟨xk,xi,xn,xl,xs⟩:=x;refine Aq Al 5 [] O (A5 57 O (fun g2=>?_) (fun g2=>?_))
      ·(try simp only[sd,se] at g2);refine Aq Al 2 [0] O (BP O (As BI O O Ad (BB hx) (Ay _)) (Aq Al 5 [] O (A5 65 O (fun g3=>?_) (fun g3=>?_))))
       ·(try simp only[sd,se] at g3);refine Aq Al 2 [0] O ?_;obtain⟨x1,hx1⟩:=Av (l:=k1s) (i:=0) Ad;exact BP O (As BI O O Ad (BB hx1) (Ay _)) (BP O (BC Be O (Ay _)) (BP O (A0 O O (Wf x1 0 (B2 hn1.2.2.2.2.1 hx1) (by have:=Bg hx1;omega)) O) (Ag Al 2 [] O (⟨O,O,AH,(by refine pB ?_;simp_all [H7,FW,Tm.kind,Tm.kids,Tm.index,List.getD_eq_getElem?_getD]),⟨O,O,O,O,Af⟩⟩))))
       (try simp only[sd,se] at g3);exact Ag Al 7 [] O (⟨O,O,AH,(by refine pB ?_;simp_all [H7,FW,Tm.kind,Tm.kids,Tm.index,List.getD_eq_getElem?_getD]),⟨O,O,O,O,Af⟩⟩)
      (try simp only[sd,se] at g2);exact Ag Al 15 [] O (⟨O,O,AH,(by refine pB ?_;simp_all [H7,FW,Tm.kind,Tm.kids,Tm.index,List.getD_eq_getElem?_getD]),⟨O,O,O,O,Af⟩⟩)
     (try simp only[sd,se] at g1);exact Ag Al 23 [] O (⟨O,O,AH,(by refine pB ?_;simp_all [H7,FW,Tm.kind,Tm.kids,Tm.index,List.getD_eq_getElem?_getD]),⟨O,O,O,O,Af⟩⟩)
    (try simp only[sd,se] at g);exact Ag Al 29 [] O (⟨O,O,AH,(by refine pB ?_;simp_all [H7,FW,Tm.kind,Tm.kids,Tm.index,List.getD_eq_getElem?_getD]),⟨O,O,O,O,Af⟩⟩)
   rintro _ rfl;refine Ak O (fun c2=>?_) (fun c2=>?_)
   ·(try simp only[sd,se] at c2);have hce:=c2;have hl1:=H6 hce.1;refine Ao (Aj O (BH HE O O) ?_);obtain⟨k1k,k1i,k1n,k1l,k1s⟩:=k1;(try simp only[Tm.kids] at hl1);have hn1:=hk1n;simp only[Nd,Ci] at hn1;simp only[size] at hk1z;refine Aj O (BT (i:=0) PO O O O) ?_;obtain⟨x,hx⟩:=Av (l:=k1s) (i:=0) Ad;refine Aj O (As BI O O Ad (BB hx) (Ay _)) (Aj O (BC Be O (Ay _)) (Aj O (A0 O O (SO x (-1) Ad (B2 hn1.2.2.2.2.1 hx) (by have:=Bg hx;omega)) O) (Aq Al 3 [] O (A6 O (Ax Bh O) fun b6=>Ag Al 2 [0,1] O (Ah Al 2 [0,2,1] O (Am (⟨O,_,_,⟨_,_,O,(BD (i:=2) Be O O AW),O⟩,(List.nil_sublist _),?_⟩)))))))
    all_goals exact⟨by show (.agg ((BA ((GS (-1) x).1)).map .p):AV)=_;rw[C0,hKe,Hg hk5 hce.1 hx (by have:=hce.2;simpa [Tm.kids,hx] using this)]<;>rfl,rfl⟩
   (try simp only[sd,se] at c2);have hce:=c2;refine An (Ai (Ai (BL [1,2,3] 89 (fun y=>y= .p (.bool (((tk:Int)==(8:Int))&&((([CP,k1].length:Nat):Int)==(3:Int))))) ?_ ?_)))
   ·refine Ap (Aq Al 4 [2] O (A5 85 O (fun g=>?_) (fun g=>?_)))
    ·(try simp only[sd,se] at g);exact BP O (B8 O) (BP O (A8 BI O (A2 _)) (Ag Al 2 [] O (⟨O,O,AH,AG,⟨O,O,O,Af⟩⟩)))
    (try simp only[sd,se] at g);exact Ag Al 4 [] O (⟨O,O,AH,AG,⟨O,O,O,Af⟩⟩)
   rintro _ rfl;refine Ak O (fun c3=>?_) (fun c3=>?_)
   ·(try simp only[sd,se] at c3);exfalso;simp_all
   (try simp only[sd,se] at c3);refine An (Ah Al 11 [2,2,2,2,1,0] O (Am (⟨O,_,_,⟨_,_,O,(BD (i:=1) Be O O O),O⟩,(List.nil_sublist _),?_⟩)))
   all_goals exact⟨by show (.agg [.p (I tk),.p (I ti),.p (.str tn),.p (.lst (List.map B0 tl)),.p (.lst (A1 [CP,k1]))]:AV)=_;rw[C0,hKe,Et hk5 (fun e y hy=>by simp_all)]<;>rfl,rfl⟩
  (try simp only[sd,se] at c1);have hn5:¬(tk=5∧K.length=2):=by
   rintro⟨q1,q2⟩;simp[q1,q2] at c1
  refine An (Ai (Ai (BL [1,2,3] 89 (fun y=>y= .p (.bool (((tk:Int)==(8:Int))&&(((K.length:Nat):Int)==(3:Int))))) ?_ ?_)))
  ·refine Ap (Aq Al 4 [2] O (A5 85 O (fun g=>?_) (fun g=>?_)))
   ·(try simp only[sd,se] at g);exact BP O (B8 O) (BP O (GM BI O (A2 _)) (Ag Al 2 [] O (⟨O,O,AH,AG,⟨O,O,O,Af⟩⟩)))
   (try simp only[sd,se] at g);exact Ag Al 4 [] O (⟨O,O,AH,AG,⟨O,O,O,Af⟩⟩)
  rintro _ rfl;refine Ak O (fun c2=>?_) (fun c2=>?_)
  ·(try simp only[sd,se] at c2);obtain⟨hk8,hl3⟩:tk=8∧K.length=3:=by
    have q:=c2;exact⟨q.1,by omega⟩
   obtain⟨k0,k1,k2,rfl⟩:=U1 hl3;obtain⟨hk1n,hk1w,hk1z⟩:=hKp k1 Ae;obtain⟨hk2n,hk2w,hk2z⟩:=hKp k2 Ae;refine Ao (Ba O (Aj O (A0 O O (Pg ) O) (Hh (i:=0) O AK fun b hb=>?_)));subst hb;refine Aj O (CB BI O O Ad AF) (Aj O (CC (i:=0) (j:=0) Be O O O AI O (FO _) (Ay _) (Ed _) (JB [k0,k1,k2] 0 CP)) (Bb O (Ai (BO (Cm (i:=0) [3,90] O (Cq ⟨O,O,Af⟩)) (Ph [.val (.p (.lst (A1 [CP,k1,k2]))),.val (.ref (BA k1)),.val (.agg ((BA k1).map .p)),.val (.p (.lst (A1 [CP,k1,k2]))),.val (.ref (BA k2)),.val (.agg ((BA k2).map .p)),.new [.p (I 0),.p (I 0),.p (.str ⟨#[]⟩),.p (.nils),.p (.nils)],.new [.p (I 0),.p (I 0),.p (.str ⟨#[]⟩),.p (.nils),.p (.nils)]] [.p .any,.p .any] [3,4,5] EY O AZ AZ AZ ?_ ?_)))))
   ·exact Af
   refine EJ O (fun Bs=>B8 O) (EJ O (fun Bs=>As BI O O Ad (BB O) (Ay _)) (EJ O (fun Bs=>BC Be O (Ay _)) (EJ O (fun Bs=>B8 O) (EJ O (fun Bs=>As BI O O Ad (BB O) (Ay _)) (EJ O (fun Bs=>BC Be O (Ay _)) (Mx O (fun Bs=>Ax Bh O) fun b8=>Mx O (fun Bs=>Ax Bh O) fun b9=>Rw (Jb [.box b8 ((BA k1).map .p),.box b9 [.p (I 0),.p (I 0),.p (.str ⟨#[]⟩),.p (.nils),.p (.nils)]] O (C7 (i:=0) Be O O O AW AQ (Ed _)) (Jb [.box b8 ((BA k1).map .p),.box b9 ((BA k2).map .p)] O (C7 (i:=1) Be O O O AW AQ (Ed _)) (Sd (Ai (BL [1,2,3,8] 129 (fun y=>y= .p (.bool (FQ k1 k2))) ?_ ?_)))))))))))
   ·refine Bt (fun k=>false) EY (A7 O (fun _=>BH HE O O) Af ?_);obtain⟨k1k,k1i,k1n,k1l,k1s⟩:=k1;(try simp only[Tm.kids] at hl1);have hn1:=hk1n;simp only[Nd,Ci] at hn1;simp only[size] at hk1z;refine BE Al 3 [0] O (Dt 102 O (fun g=>?_) (fun g=>?_))
    ·(try simp only[sd,se] at g);refine BE Al 1 [] O ?_;obtain⟨k2k,k2i,k2n,k2l,k2s⟩:=k2;have hn2:=hk2n;simp only[Nd,Ci] at hn2;simp only[size] at hk2z;refine BE Al 4 [1] O (Dt 107 O (fun g1=>?_) (fun g1=>?_))
     ·(try simp only[sd,se] at g1);refine BE Al 2 [0] O (Bj O (fun _=>A8 BI O (A2 _)) Af (BE Al 3 [] O (Dt 113 O (fun g2=>?_) (fun g2=>?_))))
      ·(try simp only[sd,se] at g2);refine BE Al 2 [1] O (Bj O (fun _=>A8 BI O (A2 _)) Af (BE Al 3 [] O (Dt 119 O (fun g3=>?_) (fun g3=>?_))))
       ·(try simp only[sd,se] at g3);refine BE Al 2 [0] O ?_;obtain⟨x,hx⟩:=Av (l:=k1s) (i:=0) Ad;refine Bj O (fun _=>As BI O O Ad (BB hx) (Ay _)) Af (BE Al 3 [1] O ?_);obtain⟨x1,hx1⟩:=Av (l:=k2s) (i:=0) Ad;exact Bj O (fun _=>As BI O O Ad (BB hx1) (Ay _)) Af (BE Al 1 [] O (Bj O (fun _=>A0 O O (Rp _ x x1 (Nat.le_refl _) (B2 hn1.2.2.2.2.1 hx)) O) Af (Bl Al 1 [] O (⟨O,O,AH,(by refine pB ?_;simp_all [Gu,FQ,Tm.kind,Tm.kids,Tm.index,List.getD_eq_getElem?_getD]),⟨O,O,O,O,Af⟩⟩))))
       (try simp only[sd,se] at g3);exact Bl Al 10 [] O (⟨O,O,AH,(by refine pB ?_;simp_all [Gu,FQ,Tm.kind,Tm.kids,Tm.index,List.getD_eq_getElem?_getD]),⟨O,O,O,O,Af⟩⟩)
      (try simp only[sd,se] at g2);exact Bl Al 16 [] O (⟨O,O,AH,(by refine pB ?_;simp_all [Gu,FQ,Tm.kind,Tm.kids,Tm.index,List.getD_eq_getElem?_getD]),⟨O,O,O,O,Af⟩⟩)
     (try simp only[sd,se] at g1);exact Bl Al 22 [] O (⟨O,O,AH,(by refine pB ?_;simp_all [Gu,FQ,Tm.kind,Tm.kids,Tm.index,List.getD_eq_getElem?_getD]),⟨O,O,O,O,Af⟩⟩)
    (try simp only[sd,se] at g);exact Bl Al 27 [] O (⟨O,O,AH,(by refine pB ?_;simp_all [Gu,FQ,Tm.kind,Tm.kids,Tm.index,List.getD_eq_getElem?_getD]),⟨O,O,O,O,Af⟩⟩)
   rintro _ rfl;refine Ak O (fun c3=>?_) (fun c3=>?_)
   ·(try simp only[sd,se] at c3);have hce:=c3;have hl1:=(JV hce).1;refine Ao (Aj O (BH HE O O) ?_);obtain⟨k1k,k1i,k1n,k1l,k1s⟩:=k1;(try simp only[Tm.kids] at hl1);have hn1:=hk1n;simp only[Nd,Ci] at hn1;simp only[size] at hk1z;refine Aj O (BT (i:=0) PO O O O) ?_;obtain⟨x,hx⟩:=Av (l:=k1s) (i:=0) Ad;refine Aj O (As BI O O Ad (BB hx) (Ay _)) (Ag Al 2 [2,1] O (Am (⟨O,_,_,⟨_,_,O,(BD (i:=2) Be O O AW),O⟩,(List.nil_sublist _),?_⟩)))
    all_goals exact⟨by show (.agg ((BA x).map .p):AV)=_;rw[C0,hKe,Hy hk8 hce hx]<;>rfl,rfl⟩
   (try simp only[sd,se] at c3);have hce:=c3;refine An (Ah Al 11 [3,3,3,3,2,0] O (Am (⟨O,_,_,⟨_,_,O,(BD (i:=2) Be O O O),O⟩,(List.nil_sublist _),?_⟩)))
   all_goals exact⟨by show (.agg [.p (I tk),.p (I ti),.p (.str tn),.p (.lst (List.map B0 tl)),.p (.lst (A1 [CP,k1,k2]))]:AV)=_;rw[C0,hKe,IB hk8 (by simpa using hce)]<;>rfl,rfl⟩
  (try simp only[sd,se] at c2);have hn8:¬(tk=8∧K.length=3):=by
   rintro⟨q1,q2⟩;simp[q1,q2] at c2
  refine An (Ah Al 11 [2,2,2,2,1,0] O (BO (Bz (i:=0) (j:=1) (q:=4) [3,142] O O O (Cq ⟨O,O,Af⟩)) (Am (⟨O,_,_,⟨_,_,O,(BD (i:=0) Be O O O),O⟩,(List.nil_sublist _),?_⟩))))
  all_goals exact⟨by show (.agg [.p (I tk),.p (I ti),.p (.str tn),.p (.lst (List.map B0 tl)),.p (.lst (A1 K))]:AV)=_;rw[C0,hKe,Fj hn5 hn8]<;>rfl,rfl⟩
end Go.Proofs.YtldfmjoncbjldaaGreat
namespace Go.Eu
open Go.Abs
mutual
theorem J3:∀(t:Tm) (d:Int),Wt t→Vp t→0≤d→d+size t<2199023255552→CW (F3 (Pn (-1) 0)) t d ()=IN (Bk (-1) 0 d 0 t)
 | .mk k i n l ks,d,h1,h2,h3,h4=>by
  by_cases hk:k=0
  ·have hks:=Pf h1 hk;have hi:=h2.1 hk;have e1:wr (0+d)=d:=by rw[Int.zero_add];exact EH (by unfold HD;omega)
   have e2:wr (i+ -1)=i+ -1:=EH (by unfold HD;omega);by_cases hlo:i - d<0
   ·rw[GW (Mm hk (P3 hlo))];unfold Bk;rw[if_pos hk,e1,if_pos Ad];subst hks;rfl
   by_cases h0:i - d<0 - (-1)
   ·rw[HX (J5 hk (P0 hlo Ad h0))];unfold Bk;rw[if_pos hk,e1,if_neg Ad,e2,if_pos Ad];rfl
   have hsh:Pn (-1) 0 (.mk k i n l ks) d=E9 (i+ -1):=PC hlo Ad;unfold Bk;rw[if_pos hk,e1,if_neg Ad,e2,if_neg Ad];by_cases hbig:i+ -1 > 65535
   ·rw[HX (J5 hk (hsh.trans (if_pos hbig)))];unfold IN K2 Ew;simp[hbig]
   rw[GW (Mm hk (hsh.trans (if_neg hbig)))];unfold IN K2;simp[hbig]
  have hs:d+A4 ks<2199023255551:=by simp only[size] at h4;omega
  have hL:=JC k ks d 0 h1.2.2 h2.2 h3 hs;unfold Bk;rw[if_neg hk];unfold JX at hL;unfold IN;by_cases he:(Bw (-1) 0 k d 0 0 ks).2=0
  ·rw[if_pos he] at hL;rw[if_pos he];exact F6 (M6 hk) hL
  rw[if_neg he] at hL;rw[if_neg he];exact I0 (M6 hk) hL
theorem JC (k:Int):∀(ts:List Tm) (d:Int) (j:Nat),K8 ts→Oc ts→0≤d→d+A4 ts<2199023255551→Cf (F3 (Pn (-1) 0)) k j ts d ()=JX (Bw (-1) 0 k d j 0 ts)
 | [],d,j,h1,h2,h3,h4=>rfl
 | t::ts,d,j,h1,h2,h3,h4=>by
  have hbl:=Bp k j;simp only[A4] at h4;have hT:=J3 t (d+below k j) h1.1 h2.1 Ad Ad;have hL:=JC k ts d (j+1) h1.2 h2.2 h3 Ad;unfold Cf Bw;rw[hT];unfold IN JX CM;by_cases he:(Bk (-1) 0 (d+below k j) 0 t).2=0
  ·rw[if_pos he];simp only;rw[hL,he];unfold JX;by_cases hq:(Bw (-1) 0 k d (j+1) 0 ts).2=0
   ·rw[if_pos hq,if_pos hq]
   rw[if_neg hq,if_neg hq]
  rw[if_neg he];simp only;rw[Fl (-1) 0 k ts d (j+1) _ he,if_neg he]
end
theorem P6 {v:Tm}(h1:Wt v) (h2:Vp v) (h3:size v<1099511627776):JO (-1) v=GS (-1) v:=by
 unfold JO GS FB;rw[J3 v 0 h1 h2 Ad Ad];unfold IN;by_cases he:(Bk (-1) 0 0 0 v).2=0
 ·rw[if_pos he,if_neg (by simp[he])];rfl
 rw[if_neg he,if_pos he];rfl
mutual
def Vb:Tm→Prop
 | .mk k i _ _ ks=>(k=0→0≤i∧i≤65535)∧UW ks
def UW:List Tm→Prop
 | []=>True
 | t::ts=>Vb t∧UW ts
end
theorem EC {ts:List Tm}(h:UW ts):∀t∈ts,Vb t:=by
 induction ts with
 | nil=>intro t ht;cases ht
 | cons a ts ih=>intro t ht;rcases List.mem_cons.1 ht with rfl | ht;exact h.1;exact ih h.2 t ht
theorem SB {ts:List Tm}(h:∀t∈ts,Vb t):UW ts:=by
 induction ts with
 | nil=>trivial
 | cons t ts ih=>exact⟨h t Ae,ih fun x hx=>h x (by simp[hx])⟩
theorem Um {ts:List Tm}{f:Tm→Tm}(h:∀t∈ts,Vb (f t)):UW (ts.map f):=SB fun x hx=>by
 obtain⟨y,hy,rfl⟩:=List.mem_map.1 hx;exact h y hy
theorem T3 {ts:List Tm}(h:∀t∈ts,Vp t):Oc ts:=by
 induction ts with
 | nil=>trivial
 | cons t ts ih=>exact⟨h t Ae,ih fun x hx=>h x (by simp[hx])⟩
theorem Vb.vp:∀{t:Tm},Vb t→Vp t:= @(Z6 (P:=fun t=>Vb t→Vp t) fun k i n l ks ih h=>⟨fun e=>by have:=h.1 e;omega,T3 fun t ht=>ih t ht (EC h.2 t ht)⟩)
mutual
theorem SQ:∀(t:Tm) (d:Int),Wt t→Vb t→0≤d→d+size t<2199023255552→((Bk (-1) 0 d 0 t).2=0↔MT 0 d t=false)
 | .mk k i n l ks,d,h1,h2,h3,h4=>by
  unfold Bk MT;by_cases hk:k=0
  ·have hks:=Pf h1 hk;have hi:=h2.1 hk;have e1:wr (0+d)=d:=by rw[Int.zero_add];exact EH (by unfold HD;omega)
   have e2:wr (i+ -1)=i+ -1:=EH (by unfold HD;omega);subst hks;rw[if_pos hk,e1,e2];simp only[Fy,Bool.or_false];by_cases hlo:i<d
   ·rw[if_pos hlo];simp[show ¬d≤i by omega]
   rw[if_neg hlo];by_cases h0:i+ -1<d
   ·rw[if_pos h0];simp[Ew,hk,show d≤i by omega,show i - d=0 by omega]
   rw[if_neg h0];simp[K2,Ew,show ¬i+ -1 > 65535 by omega,show ¬i - d=0 by omega]
  have hs:d+A4 ks<2199023255551:=by simp only[size] at h4;omega
  rw[if_neg hk];simp only[hk,decide_false,Bool.false_and,Bool.false_or];exact Pp k ks d 0 h1.2.2 h2.2 h3 hs
theorem Pp (k:Int):∀(ts:List Tm) (d:Int) (j:Nat),K8 ts→UW ts→0≤d→d+A4 ts<2199023255551→((Bw (-1) 0 k d j 0 ts).2=0↔Fy 0 d k j ts=false)
 | [],d,j,h1,h2,h3,h4=>by simp[Bw,Fy]
 | t::ts,d,j,h1,h2,h3,h4=>by
  have hbl:=Bp k j;simp only[A4] at h4;have hT:=SQ t (d+below k j) h1.1 h2.1 Ad Ad;have hL:=Pp k ts d (j+1) h1.2 h2.2 h3 Ad;unfold Bw Fy;simp only;rw[Bool.or_eq_false_iff];by_cases he:(Bk (-1) 0 (d+below k j) 0 t).2=0
  ·rw[he,hL,←hT];simp[he]
  rw[Fl (-1) 0 k ts d (j+1) _ he,←hT];simp[he]
end
mutual
theorem L0:∀(t:Tm) (d er:Int),Wt t→Vb t→0≤d→d+size t<2199023255552→Vb (Bk (-1) 0 d er t).1
 | .mk k i n l ks,d,er,h1,h2,h3,h4=>by
  unfold Bk;by_cases hk:k=0
  ·have hi:=h2.1 hk;have e1:wr (0+d)=d:=by rw[Int.zero_add];exact EH (by unfold HD;omega)
   have e2:wr (i+ -1)=i+ -1:=EH (by unfold HD;omega);rw[if_pos hk,e1,e2];split
   ·exact h2
   split
   ·exact h2
   exact⟨fun _=>by omega,trivial⟩
  rw[if_neg hk];exact⟨fun e=>absurd e hk,KT k ks d 0 er h1.2.2 h2.2 h3 (by simp only[size] at h4;omega)⟩
theorem KT (k:Int):∀(ts:List Tm) (d:Int) (j:Nat) (er:Int),K8 ts→UW ts→0≤d→d+A4 ts<2199023255551→UW (Bw (-1) 0 k d j er ts).1
 | [],d,j,er,h1,h2,h3,h4=>trivial
 | t::ts,d,j,er,h1,h2,h3,h4=>by
  have hbl:=Bp k j;simp only[A4] at h4;exact⟨L0 t (d+below k j) er h1.1 h2.1 Ad Ad,KT k ts d (j+1) _ h1.2 h2.2 h3 Ad⟩
end
theorem UM {t:Tm}(h1:Wt t) (h2:Vb t) (h3:size t<1099511627776):Vb (GS (-1) t).1:=by
 unfold GS;split
 ·exact⟨fun _=>by omega,trivial⟩
 exact L0 t 0 0 h1 h2 Ad Ad
theorem Se {t:Tm}(h1:Wt t) (h2:Vb t) (h3:size t<1099511627776):(GS (-1) t).2=0↔MT 0 0 t=false:=by
 rw[←SQ t 0 h1 h2 Ad Ad];unfold GS;split
 ·exact Iff.rfl
 rename_i h;simpa using h
theorem QT {t:Tm}(h1:Wt t) (h2:Vb t) (h3:size t<1099511627776):(JO (-1) t).2=0↔MT 0 0 t=false:=by
 rw[P6 h1 h2.vp h3];exact Se h1 h2 h3
theorem Xg {oc:Tm→Bool}{sh:Tm→Tm}(hs:∀t,Wt t→Vb t→size t<1099511627776→Vb (sh t)) {k i:Int}{n:ByteArray}{l:List CE}{ks:List Tm}(w:Wt (.mk k i n l ks)) (v:Vb (.mk k i n l ks)) (hz:size (.mk k i n l ks)<1099511627776):Vb (Oa oc sh k i n l ks):=by
 have hp:∀a,a∈ks→Wt a∧Vb a∧size a+1≤size (.mk k i n l ks):=fun a ha=>⟨DP w.2.2 a ha,EC v.2 a ha,by have:=Du ha;simp only[size];omega⟩;have hpr:Vb CP:=⟨fun e=>absurd e Ac,trivial⟩;by_cases h5:k=5∧ks.length=2
 ·obtain⟨a,b,rfl⟩:=UZ h5.2;obtain⟨b1,b2,b3⟩:=hp b Ae;have hno:Vb (.mk k i n l [CP,b]):=⟨v.1,hpr,b2,trivial⟩;cases he:FW b with
  | true =>
   have hl:=H6 he;obtain⟨x,hx⟩:∃x,b.kids[0]?=some x:=⟨_,List.getElem?_eq_getElem Ad⟩;cases ho:oc x with
   | false =>
    rw[Hg h5.1 he hx ho];obtain⟨bk,bi,bn,bl,bs⟩:=b;have hm:=List.mem_of_getElem? hx;exact hs x (DP b1.2.2 x hm) (EC b2.2 x hm) (by have:=Du hm;simp only[size,Tm.kids] at b3 this hz;omega)
   | true =>
    rw[Et h5.1 (fun _ y hy=>by rw[hx] at hy;injection hy with hy;rw[←hy];exact ho)];exact hno
  | false =>
   rw[Et h5.1 (fun e=>by rw[he] at e;cases e)];exact hno
 by_cases h8:k=8∧ks.length=3
 ·obtain⟨a,b,c,rfl⟩:=U1 h8.2;obtain⟨b1,b2,b3⟩:=hp b Ae;obtain⟨c1,c2,c3⟩:=hp c Ae;cases he:FQ b c with
  | true =>
   have hl:=(JV he).1;obtain⟨x,hx⟩:∃x,b.kids[0]?=some x:=⟨_,List.getElem?_eq_getElem Ad⟩;rw[Hy h8.1 he hx];obtain⟨bk,bi,bn,bl,bs⟩:=b;exact EC b2.2 x (List.mem_of_getElem? hx)
  | false =>
   rw[IB h8.1 he];exact⟨v.1,hpr,b2,c2,Af⟩
 rw[Fj h5 h8];exact v
theorem WG:∀t,Nd t→Wt t→Vb t→size t<1099511627776→Vb (Dh t):=by
 refine Z6 fun k i n l ks ih h w v hz=>?_;have hk:∀t∈ks,Nd (Dh t)∧size (Dh t)≤size t∧Wt (Dh t):=fun t ht=>IU t (EO h.2.2.2.2.1 t ht) (DP w.2.2 t ht);have w2:Wt (.mk k i n l (ks.map Dh)):=⟨by rw[List.length_map];exact w.1,w.2.1,P1 fun t ht=>(hk t ht).2.2⟩;have v2:Vb (.mk k i n l (ks.map Dh)):=⟨v.1,Um fun t ht=>ih t ht (EO h.2.2.2.2.1 t ht) (DP w.2.2 t ht) (EC v.2 t ht) (by have:=Du ht;simp only[size] at hz;omega)⟩;have s2:A4 (ks.map Dh)≤A4 ks:=Lp fun t ht=>(hk t ht).2.1;rw[C0];exact Xg (fun t ht vt zt=>UM ht vt zt) w2 v2 (by simp only[size] at hz ⊢;omega)
theorem Yv {f:Tm→Tm}{ts:List Tm}{i:Nat}{x:Tm}(hx:ts[i]?=some x):(((ts.take i).map f)++List.replicate (ts.length - i) BN).set i (f x)=(ts.take (i+1)).map f++List.replicate (ts.length - (i+1)) BN:=by
 have hi:i<ts.length:=by
  have:=List.getElem?_eq_some_iff.1 hx;exact this.1
 rw[Nl (by rw[List.length_map,List.length_take];omega) Ad,List.take_add_one,hx,List.map_append];rfl
theorem PF {α:Type}{a b:List α}(hl:a.length=b.length) (h:∀j,j<a.length→∀x,a[j]?=some x→b[j]?=some x):a=b:=by
 refine List.ext_getElem? fun j=>?_;rcases Nat.lt_or_ge j a.length with q | q
 ·rw[List.getElem?_eq_getElem q];exact(h j q _ (List.getElem?_eq_getElem q)).symm
 rw[List.getElem?_eq_none q,List.getElem?_eq_none Ad]
theorem QK {c d:Int}{u v:List Br}:JT (CE.mk c u) (CE.mk d v)=((c==d)&&JT u v):=by
 rw[Bool.eq_iff_iff,ER];simp[ER]
theorem Ky {k i k' i':Int}{n n':ByteArray}{l l':List CE}{s s':List Tm}:JT (Tm.mk k i n l s) (Tm.mk k' i' n' l' s')=(((((k==k')&&(i==i'))&&(n.toList==n'.toList))&&JT l l')&&JT s s'):=by
 rw[Bool.eq_iff_iff,ER];simp only[Tm.mk.injEq,Bool.and_eq_true,ER,beq_iff_eq];constructor
 ·rintro⟨rfl,rfl,rfl,rfl,rfl⟩;exact⟨⟨⟨⟨rfl,rfl⟩,rfl⟩,rfl⟩,rfl⟩
 rintro⟨⟨⟨⟨rfl,rfl⟩,e⟩,rfl⟩,rfl⟩;exact⟨rfl,rfl,Hj e,rfl,rfl⟩
theorem Mr {k i:Int}{n:ByteArray}{l:List CE}{ts:List Tm}(h:ts.length=0):Dh (.mk k i n l ts)= .mk k i n l ts:=by
 obtain rfl:ts=[]:=List.length_eq_zero_iff.1 h;rw[C0];exact Fj Ae Ae
end Go.Eu
namespace Go.Proofs.YtldfmjoncbjldaaGreat
open Go.Abs Go.Eu
theorem Xp:∀(a b:List Br),(a.length<Ci)→Dp Tryz.prog 130 [.p (.lst (List.map HK a)),.p (.lst (List.map HK b))] (.p (.bool (JT a b))):=by
 intro a b h1;simp only[Ci] at h1;refine Ar Tryz.func130 O Yx (n:=26) O O (Ah Al 1 [] O (Ai (Ao (Ba O (Aj O (A8 DR O (List.length_map _)) (Ba O (Aj O (A8 DR O (List.length_map _)) (Ag Al 1 [] O (Ak O (fun c=>?_) (fun c=>?_))))))))))
 ·(try simp only[sd,se] at c);refine Ah Al 1 [] O (Am (⟨O,_,_,⟨_,_,O,O,O⟩,(List.nil_sublist _),?_⟩))
  all_goals exact⟨by show (.p (.bool false):AV)=_;rw[Cj (fun h=>by subst h;simp at c)],rfl⟩
 (try simp only[sd,se] at c);refine An (Ai (Ao (Ba O (Aj O (A8 DR O (List.length_map _)) (Ag Al 1 [] O (Aw ?_))))));refine BR (α:=Nat) (fun i=>⟨26,mk [(0,.p (.lst (List.map HK a))),(1,.p (.lst (List.map HK b))),(12,.p (I (a.length:Nat))),(13,.p (I (i:Int)))],[],[]⟩) (fun i=>a.length - i) (fun i=>i≤a.length∧(∀j,j<i→∀x,a[j]?=some x→b[j]?=some x)) 0 (⟨by omega,fun j h=>by omega⟩) ?_ ?_
 ·exact BM ⟨we O,we O,we O,we O,Af⟩ (leH (is:=[]) O (Cv))
 rintro i hC
 try simp only at hC
 obtain⟨hi,hC⟩:=hC;refine Ah Al 1 [] O (Ai (Ak O (fun c1=>?_) (fun c1=>?_)))
 ·(try simp only[sd,se] at c1);refine An (Ai (Aw (Ah Al 2 [] O (Ai (Bt (fun k=>false) EY (BE Al 2 [] O ?_))))));obtain⟨x,hx⟩:=Av (l:=a) (i:=i) Ad;refine A7 O (fun _=>As DR O O Ad (DV hx) (O)) Af (BE Al 3 [] O ?_);obtain⟨x1,hx1⟩:=Av (l:=b) (i:=i) Ad;refine A7 O (fun _=>As DR O O Ad (DV hx1) (O)) Af (A7 O (fun _=>BC SZ O (O)) Af (A7 O (fun _=>L7 VS O O) Af (F5 O AZ (Ak O (fun c2=>?_) (fun c2=>?_)))))
  ·(try simp only[sd,se] at c2);refine Ah Al 1 [] O (Am (⟨O,_,_,⟨_,_,O,O,O⟩,(List.nil_sublist _),?_⟩))
   all_goals exact⟨by show (.p (.bool false):AV)=_;rw[Cj (fun h=>by subst h;rw[hx] at hx1;injection hx1 with e;subst e;simp[Cl] at c2)],rfl⟩
  (try simp only[sd,se] at c2);refine An (Ap (Ag Al 2 [] O (⟨(i+1),AN,⟨by omega,Dk (p:=fun j x=>b[j]?=some x) hC hx (by have e:x=x1:=(by obtain⟨_,_⟩:=x;obtain⟨_,_⟩:=x1;simp at c2;simp[c2]);rw[e];exact hx1)⟩,BM ⟨we rfl,we rfl,we rfl,we rfl,trivial⟩ (leH (is:=[]) rfl (Cv))⟩)))
 (try simp only[sd,se] at c1);refine BQ (Ah Al 1 [] O (Am (⟨O,_,_,⟨_,_,O,O,O⟩,(List.nil_sublist _),?_⟩)))
 all_goals exact⟨by show (.p (.bool true):AV)=_;rw[Cl (PF Ad fun j hj x hx=>hC j Ad x hx)],rfl⟩
theorem R6:∀(a b:CE),(a.vars.length<Ci)→Dp Tryz.prog 83 [.agg ((B0 a).map .p),.agg ((B0 b).map .p)] (.p (.bool (JT a b))):=by
 intro a b h1;refine Ar Tryz.func83 O bN (n:=17) O O (Ao (A6 O (BF O) fun b2=>A6 O (BF O) fun b3=>Ag Al 1 [] O (Ai (BL [] 4 (fun y=>y= .p (.bool (JT a b))) ?_ ?_))))
 ·refine Ap (Aq Al 6 [1,0] O (A5 10 O (fun g=>?_) (fun g=>?_)))
  ·(try simp only[sd,se] at g);exact Aq Al 4 [1,0] O (BP O (A0 O O (Xp a.vars b.vars h1) O) (Ag Al 2 [] O ⟨O,O,AH,(by rw[QK];first | rfl | (refine pB ?_;simp_all)),Af⟩))
  (try simp only[sd,se] at g);exact Ag Al 7 [] O ⟨O,O,AH,(by rw[QK];first | rfl | (refine pB ?_;simp_all)),Af⟩
 rintro _ rfl;refine Am (⟨O,_,_,⟨_,_,O,O,O⟩,(List.nil_sublist _),?_⟩)
 all_goals exact⟨rfl,rfl⟩
theorem VA:∀(a b:List CE),(a.length<Ci)→(∀l∈a,Ve l)→Dp Tryz.prog 82 [.p (.lst (List.map B0 a)),.p (.lst (List.map B0 b)),.p (.fn 83)] (.p (.bool (JT a b))):=by
 intro a b h1 h2;simp only[Ci] at h1;refine Ar Tryz.func82 O aN (n:=32) O O (Ah Al 1 [] O (Ai (Ao (Ba O (Aj O (A8 Ee O (List.length_map _)) (Ba O (Aj O (A8 Ee O (List.length_map _)) (Ag Al 1 [] O (Ak O (fun c=>?_) (fun c=>?_))))))))))
 ·(try simp only[sd,se] at c);refine Ah Al 1 [] O (Am (⟨O,_,_,⟨_,_,O,O,O⟩,(List.nil_sublist _),?_⟩))
  all_goals exact⟨by show (.p (.bool false):AV)=_;rw[Cj (fun h=>by subst h;simp at c)],rfl⟩
 (try simp only[sd,se] at c);refine An (Ai (Ao (Ba O (Aj O (A8 Ee O (List.length_map _)) (Ag Al 1 [] O (Aw ?_))))));refine BR (α:=Nat) (fun i=>⟨32,mk [(1,.p (.lst (List.map B0 b))),(2,.p (.fn 83)),(15,.p (.lst (List.map B0 a))),(16,.p (I (a.length:Nat))),(17,.p (I (i:Int)))],[],[]⟩) (fun i=>a.length - i) (fun i=>i≤a.length∧(∀j,j<i→∀x,a[j]?=some x→b[j]?=some x)) 0 (⟨by omega,fun j h=>by omega⟩) ?_ ?_
 ·exact BM ⟨we O,we O,we O,we O,we O,Af⟩ (leH (is:=[]) O (Cv))
 rintro i hC
 try simp only at hC
 obtain⟨hi,hC⟩:=hC;refine Ah Al 1 [] O (Ai (Ak O (fun c1=>?_) (fun c1=>?_)))
 ·(try simp only[sd,se] at c1);refine An (Ai (Aw (Ao (Ba O ?_))));obtain⟨x,hx⟩:=Av (l:=a) (i:=i) Ad;refine Aj O (As Ee O O Ad (Ek hx) (Ct _)) (Aj O (BC ME O (Ct _)) (A6 O (Ax Li O) fun b8=>Ag Al 2 [0,1] O (Ao (Aq Al 2 [] O ?_))));obtain⟨x1,hx1⟩:=Av (l:=b) (i:=i) Ad;refine Aj O (As Ee O O Ad (Ek hx1) (Ct _)) (Aj O (BC ME O (Ct _)) (A6 O (Ax Li O) fun b9=>Ag Al 1 [0,1] O (Ao (Aq Al 3 [1,0] O (Aj O (A0 O O (R6 x x1 (h2 x (List.mem_of_getElem? hx)).vars) O) (Ag Al 1 [] O (Ak O (fun c2=>?_) (fun c2=>?_))))))))
  ·(try simp only[sd,se] at c2);refine Ah Al 1 [] O (Am (⟨O,_,_,⟨_,_,O,O,O⟩,(List.nil_sublist _),?_⟩))
   all_goals exact⟨by show (.p (.bool false):AV)=_;rw[Cj (fun h=>by subst h;rw[hx] at hx1;injection hx1 with e;subst e;simp[Cl] at c2)],rfl⟩
  (try simp only[sd,se] at c2);refine An (Ap (Ag Al 2 [] O (⟨(i+1),AN,⟨by omega,Dk (p:=fun j x=>b[j]?=some x) hC hx (by have e:x=x1:=ER.1 (by simpa using c2);rw[e];exact hx1)⟩,BM ⟨we rfl,we rfl,we rfl,we rfl,we rfl,trivial⟩ (leH (is:=[]) rfl (Cv))⟩)))
 (try simp only[sd,se] at c1);refine BQ (Ah Al 1 [] O (Am (⟨O,_,_,⟨_,_,O,O,O⟩,(List.nil_sublist _),?_⟩)))
 all_goals exact⟨by show (.p (.bool true):AV)=_;rw[Cl (PF Ad fun j hj x hx=>hC j Ad x hx)],rfl⟩
theorem VC:∀(n:Nat) (a b:List Tm),(∀x y:Tm,size x≤n→Nd x→Dp Tryz.prog 44 [TV x,TV y] (.p (.bool (JT x y))))→(A4 a≤n)→(IX a)→(a.length<Ci)→Dp Tryz.prog 84 [.p (.lst (A1 a)),.p (.lst (A1 b)),.p (.fn 44)] (.p (.bool (JT a b))):=by
 intro n a b h1 h2 h3 h4;simp only[Ci] at h4;refine Ar Tryz.func84 O cj (n:=32) O O (Ah Al 1 [] O (Ai (Ao (Ba O (Aj O (A8 BI O (A2 _)) (Ba O (Aj O (A8 BI O (A2 _)) (Ag Al 1 [] O (Ak O (fun c=>?_) (fun c=>?_))))))))))
 ·(try simp only[sd,se] at c);refine Ah Al 1 [] O (Am (⟨O,_,_,⟨_,_,O,O,O⟩,(List.nil_sublist _),?_⟩))
  all_goals exact⟨by show (.p (.bool false):AV)=_;rw[Cj (fun h=>by subst h;simp at c)],rfl⟩
 (try simp only[sd,se] at c);refine An (Ai (Ao (Ba O (Aj O (A8 BI O (A2 _)) (Ag Al 1 [] O (Aw ?_))))));refine BR (α:=Nat) (fun i=>⟨32,mk [(1,.p (.lst (A1 b))),(2,.p (.fn 44)),(15,.p (.lst (A1 a))),(16,.p (I (a.length:Nat))),(17,.p (I (i:Int)))],[],[]⟩) (fun i=>a.length - i) (fun i=>i≤a.length∧(∀j,j<i→∀x,a[j]?=some x→b[j]?=some x)) 0 (⟨by omega,fun j h=>by omega⟩) ?_ ?_
 ·exact BM ⟨we O,we O,we O,we O,we O,Af⟩ (leH (is:=[]) O (Cv))
 rintro i hC
 try simp only at hC
 obtain⟨hi,hC⟩:=hC;refine Ah Al 1 [] O (Ai (Ak O (fun c1=>?_) (fun c1=>?_)))
 ·(try simp only[sd,se] at c1);refine An (Ai (Aw (Ao (Ba O ?_))));obtain⟨x,hx⟩:=Av (l:=a) (i:=i) Ad;refine Aj O (As BI O O Ad (BB hx) (Ay _)) (Aj O (BC Be O (Ay _)) (A6 O (Ax Bh O) fun b8=>Ag Al 2 [0,1] O (Ao (Aq Al 2 [] O ?_))));obtain⟨x1,hx1⟩:=Av (l:=b) (i:=i) Ad;refine Aj O (As BI O O Ad (BB hx1) (Ay _)) (Aj O (BC Be O (Ay _)) (A6 O (Ax Bh O) fun b9=>Ag Al 1 [0,1] O (Ao (Aq Al 3 [1,0] O (Aj O (A0 O O (h1 x x1 (by have:=Bg hx;omega) (B2 h3 hx)) O) (Ag Al 1 [] O (Ak O (fun c2=>?_) (fun c2=>?_))))))))
  ·(try simp only[sd,se] at c2);refine Ah Al 1 [] O (Am (⟨O,_,_,⟨_,_,O,O,O⟩,(List.nil_sublist _),?_⟩))
   all_goals exact⟨by show (.p (.bool false):AV)=_;rw[Cj (fun h=>by subst h;rw[hx] at hx1;injection hx1 with e;subst e;simp[Cl] at c2)],rfl⟩
  (try simp only[sd,se] at c2);refine An (Ap (Ag Al 2 [] O (⟨(i+1),AN,⟨by omega,Dk (p:=fun j x=>b[j]?=some x) hC hx (by have e:x=x1:=ER.1 (by simpa using c2);rw[e];exact hx1)⟩,BM ⟨we rfl,we rfl,we rfl,we rfl,we rfl,trivial⟩ (leH (is:=[]) rfl (Cv))⟩)))
 (try simp only[sd,se] at c1);refine BQ (Ah Al 1 [] O (Am (⟨O,_,_,⟨_,_,O,O,O⟩,(List.nil_sublist _),?_⟩)))
 all_goals exact⟨by show (.p (.bool true):AV)=_;rw[Cl (PF Ad fun j hj x hx=>hC j Ad x hx)],rfl⟩
theorem UF:∀(n:Nat) (a b:Tm),(size a≤n)→(Nd a)→Dp Tryz.prog 44 [.agg ((BA a).map .p),.agg ((BA b).map .p)] (.p (.bool (JT a b))):=by
 intro n
 induction n with
 | zero=>intro a b h1;cases a;simp[size] at h1
 | succ n ih =>
  intro a b h1 h2;obtain⟨ak,ai,an,al,as1⟩:=a;simp only[size] at h1;simp only[Nd,Ci] at h2;obtain⟨bk,bi,bn,bl,bs⟩:=b;refine Ar Tryz.func44 O dB (n:=38) O O (Ao (A6 O (BF O) fun b2=>A6 O (BF O) fun b3=>Ag Al 1 [] O (Ai (BL [] 4 (fun y=>y= .p (.bool (JT (Tm.mk ak ai an al as1) (Tm.mk bk bi bn bl bs)))) ?_ ?_))))
  ·refine Ap (Aq Al 6 [1,0] O (A5 10 O (fun g=>?_) (fun g=>?_)))
   ·(try simp only[sd,se] at g);refine Aq Al 7 [1,0] O (A5 17 O (fun g1=>?_) (fun g1=>?_))
    ·(try simp only[sd,se] at g1);refine Aq Al 4 [1,0] O (BP O (Lm O O) (Aq Al 2 [] O (A5 24 O (fun g2=>?_) (fun g2=>?_))))
     ·(try simp only[sd,se] at g2);refine Aq Al 4 [1,0] O (BP O (A0 O O (VA al bl h2.2.1 h2.2.2.1) O) (Aq Al 2 [] O (A5 31 O (fun g3=>?_) (fun g3=>?_))))
      ·(try simp only[sd,se] at g3);exact Aq Al 4 [1,0] O (BP O (A0 O O (VC n as1 bs ih Ad h2.2.2.2.2.1 h2.2.2.2.1) O) (Ag Al 2 [] O ⟨O,O,AH,(by rw[Ky];first | rfl | (refine pB ?_;simp_all)),Af⟩))
      (try simp only[sd,se] at g3);exact Ag Al 7 [] O ⟨O,O,AH,(by rw[Ky];first | rfl | (refine pB ?_;simp_all)),Af⟩
     (try simp only[sd,se] at g2);exact Ag Al 14 [] O ⟨O,O,AH,(by rw[Ky];first | rfl | (refine pB ?_;simp_all)),Af⟩
    (try simp only[sd,se] at g1);exact Ag Al 21 [] O ⟨O,O,AH,(by rw[Ky];first | rfl | (refine pB ?_;simp_all)),Af⟩
   (try simp only[sd,se] at g);exact Ag Al 28 [] O ⟨O,O,AH,(by rw[Ky];first | rfl | (refine pB ?_;simp_all)),Af⟩
  rintro _ rfl;refine Am (⟨O,_,_,⟨_,_,O,O,O⟩,(List.nil_sublist _),?_⟩)
  all_goals exact⟨rfl,rfl⟩
set_option maxHeartbeats 4000000 in
theorem OQ:∀(n:Nat) (t:Tm),(size t≤n)→(Nd t)→(Wt t)→(Vb t)→(size t≤1000000)→Dp Tryz.prog 18 [.agg ((BA t).map .p)] (.agg ((BA (Dh t)).map .p)):=by
 intro n
 induction n with
 | zero=>intro t h1;cases t;simp[size] at h1
 | succ n ih =>
  intro t h1 h2 h3 h4 h5;have hle:=IU;obtain⟨tk,ti,tn,tl,ts⟩:=t;simp only[size] at h1 h5;have hn:=h2;simp only[Nd,Ci] at hn;have hw:=h3;simp only[Wt] at hw;have hkp:∀z∈ts,Nd (Dh z)∧Wt (Dh z)∧size (Dh z)+1≤1000000∧Vb (Dh z):=by
   intro z hz;obtain⟨q1,q2,q3⟩:=IU z (EO hn.2.2.2.2.1 z hz) (DP hw.2.2 z hz);have:=Du hz;exact⟨q1,q3,by omega,WG z (EO hn.2.2.2.2.1 z hz) (DP hw.2.2 z hz) (EC h4.2 z hz) Ad⟩
  refine Ar Tryz.func18 O a0 (n:=141) O O (Ao (A6 O (BF O) fun b1=>A6 O (Ax Bh O) fun b2=>Bb O (Ai (Ao (Aq Al 2 [1] O (Aj O (A8 BI O (A2 _)) (Ag Al 1 [] O (Ak O (fun c=>?_) (fun c=>?_)))))))))
  ·(try simp only[sd,se] at c);refine Ah Al 2 [1,0,0] O (Am (⟨O,_,_,⟨_,_,O,(BD (i:=0) Be O O O),O⟩,(List.nil_sublist _),?_⟩))
   all_goals exact⟨by show (.agg [.p (I tk),.p (I ti),.p (.str tn),.p (.lst (List.map B0 tl)),.p (.lst (A1 ts))]:AV)=_;rw[Mr (ts:=ts) Ad]<;>rfl,rfl⟩
  (try simp only[sd,se] at c);refine An (Ao (Aq Al 2 [1] O (Aj O (A8 BI O (A2 _)) (PQ O O (Em BI Bh O O Ac O O O Ad Ad Ad (Va (((ts.length:Nat):Int).toNat) (.mk 0 0 ⟨#[]⟩ [] []:Tm))) fun b19 cp=>Ag Al 1 [] O (Ai (Ao (Aq Al 2 [2] O (Aj O (A8 BI O (A2 _)) (Ag Al 1 [] O (Aw ?_))))))))));refine BR (α:=Nat×Option Nat×Nat) (fun(i,o,cp1)=>⟨141,mk [(1,.ptr b1 0),(2,.ptr b2 0),(3,.vs o (A1 ((ts.take i).map Dh++List.replicate (ts.length - i) BN)).length cp1),(21,.p (.lst (A1 ts))),(22,.p (I (ts.length:Nat))),(23,.p (I (i:Int)))],[.vec o 5 (A1 ((ts.take i).map Dh++List.replicate (ts.length - i) BN)) cp1,.box b2 [.p (I 0),.p (I 0),.p (.str ⟨#[]⟩),.p (.nils),.p (.nils)],.box b1 [.p (I tk),.p (I ti),.p (.str tn),.p (.lst (List.map B0 tl)),.p (.lst (A1 ts))]],[]⟩) (fun(i,o,cp1)=>ts.length - i) (fun(i,o,cp1)=>i≤ts.length) ⟨0,(some b19),cp⟩ AM ?_ ?_
  ·exact BM ⟨we O,we O,we (M9 (List.replicate (((ts.length:Nat):Int).toNat) (.mk 0 0 ⟨#[]⟩ [] []:Tm)) (by simp[BN])),we O,we O,we O,Af⟩ (leH (is:=[0,1,2]) O (wl (HB (List.replicate (((ts.length:Nat):Int).toNat) (.mk 0 0 ⟨#[]⟩ [] []:Tm)) (by simp[BN])) (wl (oe O) (wl (oe O) (Cv)))))
  rintro⟨i,o,cp1⟩ hC
  try simp only at hC
  have hi:=hC;refine Ah Al 1 [] O (Ai (Ak O (fun c1=>?_) (fun c1=>?_)))
  ·(try simp only[sd,se] at c1);refine An (Ai (Aw (Ao (Ba O ?_))));obtain⟨x,hx⟩:=Av (l:=ts) (i:=i) Ad;refine Aj O (As BI O O Ad (BB hx) (Ay _)) (Aj O (BC Be O (Ay _)) (A6 O (Ax Bh O) fun b5=>Ag Al 2 [0,1] O (Ap (Aq Al 3 [0] O (Aj O (A0 O O (ih x (by have:=Bg hx;omega) (B2 hn.2.2.2.2.1 hx) (Mw hw.2.2 hx) (EC h4.2 _ (List.mem_of_getElem? hx)) (by have:=Bg hx;omega)) O) (Hh (i:=1) O AK fun b hb=>?_))))));subst hb;refine Aj O (CB BI O O Ad AK) (Aj O (CC (i:=1) (j:=i) Be O O O AK O (FO _) (Ay _) (Ed _) (JB ((ts.take i).map Dh++List.replicate (ts.length - i) BN) i (Dh x))) (Bb O (Ap (Ag Al 2 [] O ?_))));refine⟨⟨i+1,(some b),cp1⟩,AN,by omega,BM ⟨we rfl,we rfl,we (Ef ((ts.take i).map Dh++List.replicate (ts.length - i) BN) AY),we rfl,we rfl,we rfl,trivial⟩ (leH (is:=[1,2,3]) rfl (wl (HB (((ts.take i).map Dh++List.replicate (ts.length - i) BN).set i (Dh x)) (Yv hx)) (wl (oe rfl) (wl (oe rfl) (Cv)))))⟩
  (try simp only[sd,se] at c1);generalize hK:(ts.take i).map Dh++List.replicate (ts.length - i) BN=K;have hKe:ts.map Dh=K:=by rw[←hK,List.take_of_length_le Ad,show ts.length - i=0 by omega,List.replicate_zero,List.append_nil]
  have hKp:∀y∈K,Nd y∧Wt y∧size y+1≤1000000∧Vb y:=by
   intro y hy;rw[←hKe] at hy;obtain⟨z,hz,rfl⟩:=List.mem_map.1 hy;exact hkp z hz
  refine BQ (Ah Al 3 [2,0] O (Ai (Aw (Ai (BL [1,2,3] 36 (fun y=>y= .p (.bool (((tk:Int)==(5:Int))&&(((K.length:Nat):Int)==(2:Int))))) ?_ ?_)))))
  ·refine Ap (Aq Al 4 [2] O (A5 40 O (fun g=>?_) (fun g=>?_)))
   ·(try simp only[sd,se] at g);exact BP O (B8 O) (BP O (GM BI O (A2 _)) (Ag Al 3 [] O (⟨O,O,AH,AG,⟨O,O,O,Af⟩⟩)))
   (try simp only[sd,se] at g);exact Ag Al 5 [] O (⟨O,O,AH,AG,⟨O,O,O,Af⟩⟩)
  rintro _ rfl;refine Ak O (fun c2=>?_) (fun c2=>?_)
  ·(try simp only[sd,se] at c2);obtain⟨hk5,hl2⟩:tk=5∧K.length=2:=by
    have q:=c2;exact⟨q.1,by omega⟩
   obtain⟨k0,k1,rfl⟩:=UZ hl2;obtain⟨hk1n,hk1w,hk1z,hk1v⟩:=hKp k1 Ae;refine Ao (Aq Al 2 [] O (Hh (i:=0) O AK fun b hb=>?_));subst hb;refine Aj O (CB BI O O Ad AK) (Aj O (CC (i:=0) (j:=0) Be O O O AK O O O O (JB [k0,k1] 0 (.mk 1 0 ⟨#[]⟩ [] []:Tm))) (Bb O (Ao (Bv (Bz (i:=0) (j:=2) (q:=4) (rows:=A1 [CP,k1]) [3,45] O O O (Cq ⟨O,O,Af⟩)) (Ba O (Aj O (As BI O O Ad (BB O) (Ay _)) (Aj O (BC Be O (Ay _)) (A6 O (Ax Bh O) fun b6=>Ag Al 1 [0,1] O (Ai (Ai (BL [1,2,6] 75 (fun y=>y= .p (.bool (!FW k1))) ?_ ?_)))))))))))
   ·refine Ap (Aj O (BH HE O O) ?_);obtain⟨k1k,k1i,k1n,k1l,k1s⟩:=k1;(try simp only[Tm.kids] at hl1);have hn1:=hk1n;simp only[Nd,Ci] at hn1;simp only[size] at hk1z;refine Aq Al 3 [0] O (A5 54 O (fun g=>?_) (fun g=>?_))
    ·(try simp only[sd,se] at g);refine Ag Al 21 [] O ?_;exact⟨rfl,rfl,AH,(by refine pB ?_;simp_all [H7,FW,Tm.kind,Tm.kids,Tm.index,List.getD_eq_getElem?_getD]<;>first | rfl | (simp[bne];done)),⟨rfl,rfl,rfl,trivial⟩⟩
    (try simp only[sd,se] at g);refine Aq Al 2 [0] O (BP O (A8 BI O (A2 _)) (Aq Al 3 [] O (A5 60 O (fun g1=>?_) (fun g1=>?_))))
    ·(try simp only[sd,se] at g1);refine Ag Al 15 [] O ?_;exact⟨rfl,rfl,AH,(by refine pB ?_;simp_all [H7,FW,Tm.kind,Tm.kids,Tm.index,List.getD_eq_getElem?_getD]<;>first | rfl | (simp[bne];done)),⟨rfl,rfl,rfl,trivial⟩⟩
    (try simp only[sd,se] at g1);refine Aq Al 2 [0] O ?_;obtain⟨x,hx⟩:=Av (l:=k1s) (i:=1) Ad;refine BP O (As BI O O Ad (BB hx) (Ay _)) ?_;obtain⟨xk,xi,xn,xl,xs⟩:=x;refine Aq Al 5 [] O (A5 68 O (fun g2=>?_) (fun g2=>?_))
    ·(try simp only[sd,se] at g2);refine Ag Al 7 [] O ?_;exact⟨rfl,rfl,AH,(by refine pB ?_;simp_all [H7,FW,Tm.kind,Tm.kids,Tm.index,List.getD_eq_getElem?_getD]<;>first | rfl | (simp[bne];done)),⟨rfl,rfl,rfl,trivial⟩⟩
    (try simp only[sd,se] at g2);refine Aq Al 2 [0] O (BP O (As BI O O Ad (BB hx) (Ay _)) (Ag Al 4 [] O ?_));exact⟨rfl,rfl,AH,(by refine pB ?_;simp_all [H7,FW,Tm.kind,Tm.kids,Tm.index,List.getD_eq_getElem?_getD]<;>first | rfl | (simp[bne];done)),⟨rfl,rfl,rfl,trivial⟩⟩
   rintro _ rfl;refine Ak O (fun c3=>?_) (fun c3=>?_)
   ·(try simp only[sd,se] at c3);have hce:FW k1=false:=by simpa using c3
    refine BQ (Ah Al 2 [2,1,0] O (Am (⟨O,_,_,⟨_,_,O,(BD (i:=1) Be O O O),O⟩,(List.nil_sublist _),?_⟩)))
    all_goals exact⟨by show (.agg [.p (I tk),.p (I ti),.p (.str tn),.p (.lst (List.map B0 tl)),.p (.lst (A1 [CP,k1]))]:AV)=_;rw[C0,hKe,Et hk5 (fun e=>by simp[hce] at e)]<;>rfl,rfl⟩
   (try simp only[sd,se] at c3);have hce:FW k1=true:=by simpa using c3
   have hl1:=H6 hce;refine An (Ao (Aj O (BH HE O O) ?_));obtain⟨k1k,k1i,k1n,k1l,k1s⟩:=k1;(try simp only[Tm.kids] at hl1);have hn1:=hk1n;simp only[Nd,Ci] at hn1;simp only[size] at hk1z;refine Aj O (BT (i:=0) PO O O O) ?_;obtain⟨x,hx⟩:=Av (l:=k1s) (i:=0) Ad;refine Aj O (As BI O O Ad (BB hx) (Ay _)) (Aj O (BC Be O (Ay _)) (Aj O (A0 O O (Sw x (-1) Ad (B2 hn1.2.2.2.2.1 hx) (EC hk1v.2 _ (List.mem_of_getElem? hx)).vp (by have:=Bg hx;omega)) O) (Aq Al 3 [] O (A6 O (Ax Bh O) fun b7=>Ag Al 2 [0,1] O (Ah Al 2 [] O (Ak O (fun c4=>?_) (fun c4=>?_)))))))
   ·(try simp only[sd,se] at c4);have hm:=List.mem_of_getElem? hx;have hxw:=DP hk1w.2.2 x hm;have hxv:=EC hk1v.2 x hm;have hxz:size x<1099511627776:=by have:=Du hm;omega
    have hoc:=(QT hxw hxv hxz).1 c4;refine Ah Al 2 [0,2,1] O (Am (⟨O,_,_,⟨_,_,O,(BD (i:=2) Be O O AW),O⟩,(List.nil_sublist _),?_⟩))
    all_goals exact⟨by show (.agg ((BA ((JO (-1) x).1)).map .p):AV)=_;rw[C0,hKe,Hg hk5 hce hx hoc,P6 hxw hxv.vp hxz]<;>rfl,rfl⟩
   (try simp only[sd,se] at c4);have hm:=List.mem_of_getElem? hx;have hxw:=DP hk1w.2.2 x hm;have hxv:=EC hk1v.2 x hm;have hxz:size x<1099511627776:=by have:=Du hm;omega
   have hoc:MT 0 0 x=true:=by
    cases q:MT 0 0 x with
    | true=>rfl
    | false=>exact absurd ((QT hxw hxv hxz).2 q) c4
   refine An (Ah Al 2 [3,2,0] O (Am (⟨O,_,_,⟨_,_,O,(BD (i:=2) Be O O O),O⟩,(List.nil_sublist _),?_⟩)))
   all_goals exact⟨by show (.agg [.p (I tk),.p (I ti),.p (.str tn),.p (.lst (List.map B0 tl)),.p (.lst (A1 [CP,(.mk k1k k1i k1n k1l k1s:Tm)]))]:AV)=_;rw[C0,hKe,Et hk5 (fun e y hy=>by simp_all [Tm.kids])]<;>rfl,rfl⟩
  (try simp only[sd,se] at c2);have hn5:¬(tk=5∧K.length=2):=by
   rintro⟨q1,q2⟩;simp[q1,q2] at c2
  refine Ai (BL [1,2,3] 87 (fun y=>y= .p (.bool (((tk:Int)==(8:Int))&&(((K.length:Nat):Int)==(3:Int))))) ?_ ?_)
  ·refine Ap (Aq Al 4 [2] O (A5 91 O (fun g=>?_) (fun g=>?_)))
   ·(try simp only[sd,se] at g);exact BP O (B8 O) (BP O (GM BI O (A2 _)) (Ag Al 3 [] O (⟨O,O,AH,AG,⟨O,O,O,Af⟩⟩)))
   (try simp only[sd,se] at g);exact Ag Al 5 [] O (⟨O,O,AH,AG,⟨O,O,O,Af⟩⟩)
  rintro _ rfl;refine Ak O (fun c3=>?_) (fun c3=>?_)
  ·(try simp only[sd,se] at c3);obtain⟨hk8,hl3⟩:tk=8∧K.length=3:=by
    have q:=c3;exact⟨q.1,by omega⟩
   obtain⟨k0,k1,k2,rfl⟩:=U1 hl3;obtain⟨hk1n,hk1w,hk1z,hk1v⟩:=hKp k1 Ae;obtain⟨hk2n,hk2w,hk2z,hk2v⟩:=hKp k2 Ae;refine Ao (Aq Al 2 [] O (Hh (i:=0) O AK fun b hb=>?_));subst hb;refine Aj O (CB BI O O Ad AK) (Aj O (CC (i:=0) (j:=0) Be O O O AK O O O O (JB [k0,k1,k2] 0 (.mk 1 0 ⟨#[]⟩ [] []:Tm))) (Bb O (Ai (BO (Bz (i:=0) (j:=2) (q:=4) (rows:=A1 [CP,k1,k2]) [3,96] O O O (Cq ⟨O,O,Af⟩)) (Ph [.val (.p (.lst (A1 [CP,k1,k2]))),.val (.ref (BA k1)),.val (.agg ((BA k1).map .p)),.val (.p (.lst (A1 [CP,k1,k2]))),.val (.ref (BA k2)),.val (.agg ((BA k2).map .p)),.new [.p (I 0),.p (I 0),.p (.str ⟨#[]⟩),.p (.nils),.p (.nils)],.new [.p (I 0),.p (I 0),.p (.str ⟨#[]⟩),.p (.nils),.p (.nils)]] [.p .any,.p .any] [3,4,5] EY O AZ AZ AZ ?_ ?_)))))
   ·exact Af
   refine EJ O (fun Bs=>B8 O) (EJ O (fun Bs=>As BI O O Ad (BB O) (Ay _)) (EJ O (fun Bs=>BC Be O (Ay _)) (EJ O (fun Bs=>B8 O) (EJ O (fun Bs=>As BI O O Ad (BB O) (Ay _)) (EJ O (fun Bs=>BC Be O (Ay _)) (Mx O (fun Bs=>Ax Bh O) fun b9=>Mx O (fun Bs=>Ax Bh O) fun b10=>Rw (Jb [.box b9 ((BA k1).map .p),.box b10 [.p (I 0),.p (I 0),.p (.str ⟨#[]⟩),.p (.nils),.p (.nils)]] O (C7 (i:=0) Be O O O AW AQ (Ed _)) (Jb [.box b9 ((BA k1).map .p),.box b10 ((BA k2).map .p)] O (C7 (i:=1) Be O O O AW AQ (Ed _)) (Sd (Ai (BL [1,2,9] 135 (fun y=>y= .p (.bool (FQ k1 k2))) ?_ ?_)))))))))))
   ·refine Bt (fun k=>false) EY (A7 O (fun _=>BH HE O O) Af ?_);obtain⟨k1k,k1i,k1n,k1l,k1s⟩:=k1;(try simp only[Tm.kids] at hl1);have hn1:=hk1n;simp only[Nd,Ci] at hn1;simp only[size] at hk1z;refine BE Al 3 [0] O (Dt 108 O (fun g=>?_) (fun g=>?_))
    ·(try simp only[sd,se] at g);refine BE Al 1 [] O ?_;obtain⟨k2k,k2i,k2n,k2l,k2s⟩:=k2;have hn2:=hk2n;simp only[Nd,Ci] at hn2;simp only[size] at hk2z;refine BE Al 4 [1] O (Dt 113 O (fun g1=>?_) (fun g1=>?_))
     ·(try simp only[sd,se] at g1);refine BE Al 2 [0] O (Bj O (fun _=>A8 BI O (A2 _)) Af (BE Al 3 [] O (Dt 119 O (fun g2=>?_) (fun g2=>?_))))
      ·(try simp only[sd,se] at g2);refine BE Al 2 [1] O (Bj O (fun _=>A8 BI O (A2 _)) Af (BE Al 3 [] O (Dt 125 O (fun g3=>?_) (fun g3=>?_))))
       ·(try simp only[sd,se] at g3);refine BE Al 2 [0] O ?_;obtain⟨x,hx⟩:=Av (l:=k1s) (i:=0) Ad;refine Bj O (fun _=>As BI O O Ad (BB hx) (Ay _)) Af (BE Al 3 [1] O ?_);obtain⟨x1,hx1⟩:=Av (l:=k2s) (i:=0) Ad;exact Bj O (fun _=>As BI O O Ad (BB hx1) (Ay _)) Af (BE Al 1 [] O (Bj O (fun _=>A0 O O (UF _ x x1 (Nat.le_refl _) (B2 hn1.2.2.2.2.1 hx)) O) Af (Bl Al 1 [] O (⟨O,O,AH,(by refine pB ?_;simp_all [Gu,FQ,Tm.kind,Tm.kids,Tm.index,List.getD_eq_getElem?_getD]),⟨O,O,O,Af⟩⟩))))
       (try simp only[sd,se] at g3);exact Bl Al 10 [] O (⟨O,O,AH,(by refine pB ?_;simp_all [Gu,FQ,Tm.kind,Tm.kids,Tm.index,List.getD_eq_getElem?_getD]),⟨O,O,O,Af⟩⟩)
      (try simp only[sd,se] at g2);exact Bl Al 16 [] O (⟨O,O,AH,(by refine pB ?_;simp_all [Gu,FQ,Tm.kind,Tm.kids,Tm.index,List.getD_eq_getElem?_getD]),⟨O,O,O,Af⟩⟩)
     (try simp only[sd,se] at g1);exact Bl Al 22 [] O (⟨O,O,AH,(by refine pB ?_;simp_all [Gu,FQ,Tm.kind,Tm.kids,Tm.index,List.getD_eq_getElem?_getD]),⟨O,O,O,Af⟩⟩)
    (try simp only[sd,se] at g);exact Bl Al 27 [] O (⟨O,O,AH,(by refine pB ?_;simp_all [Gu,FQ,Tm.kind,Tm.kids,Tm.index,List.getD_eq_getElem?_getD]),⟨O,O,O,Af⟩⟩)
   rintro _ rfl;refine Ak O (fun c4=>?_) (fun c4=>?_)
   ·(try simp only[sd,se] at c4);have hce:=c4;have hl1:=(JV hce).1;refine Ao (Aj O (BH HE O O) ?_);obtain⟨k1k,k1i,k1n,k1l,k1s⟩:=k1;(try simp only[Tm.kids] at hl1);have hn1:=hk1n;simp only[Nd,Ci] at hn1;simp only[size] at hk1z;refine Aj O (BT (i:=0) PO O O O) ?_;obtain⟨x,hx⟩:=Av (l:=k1s) (i:=0) Ad;refine Aj O (As BI O O Ad (BB hx) (Ay _)) (Ag Al 2 [2,1] O (Am (⟨O,_,_,⟨_,_,O,(BD (i:=2) Be O O AW),O⟩,(List.nil_sublist _),?_⟩)))
    all_goals exact⟨by show (.agg ((BA x).map .p):AV)=_;rw[C0,hKe,Hy hk8 hce hx]<;>rfl,rfl⟩
   (try simp only[sd,se] at c4);have hce:=c4;refine An (Ah Al 2 [3,2,0] O (Am (⟨O,_,_,⟨_,_,O,(BD (i:=2) Be O O O),O⟩,(List.nil_sublist _),?_⟩)))
   all_goals exact⟨by show (.agg [.p (I tk),.p (I ti),.p (.str tn),.p (.lst (List.map B0 tl)),.p (.lst (A1 [CP,k1,k2]))]:AV)=_;rw[C0,hKe,IB hk8 (by simpa using hce)]<;>rfl,rfl⟩
  (try simp only[sd,se] at c3);have hn8:¬(tk=8∧K.length=3):=by
   rintro⟨q1,q2⟩;simp[q1,q2] at c3
  refine An (Ao (Bv (Bz (i:=0) (j:=2) (q:=4) (rows:=A1 K) [3] O O O (Cq ⟨O,Af⟩)) (Ag Al 2 [1,0,0] O (Am (⟨O,_,_,⟨_,_,O,(BD (i:=0) Be O O O),O⟩,(List.nil_sublist _),?_⟩)))))
  all_goals exact⟨by show (.agg [.p (I tk),.p (I ti),.p (.str tn),.p (.lst (List.map B0 tl)),.p (.lst (A1 K))]:AV)=_;rw[C0,hKe,Fj hn5 hn8]<;>rfl,rfl⟩
theorem OF:∀(n:Nat) (l:List Tm) (most:Int),A4 l≤n→VD l→l.length<wide→Dp Tryz.prog 27 [.p (I most),dT l] (.p (I (CR l most 0))):=by
 intro n
 induction n using Nat.strongRecOn with
 | ind n ih =>
  intro l most hs hnd hlen;simp only[wide] at hlen;refine Ar Tryz.func27 O bx (n:=29) O O (Ah Al 1 [] O (Ah Al 1 [] O (Ai (Ao (Ba O (Aj O (B5 BI O) (Ag Al 1 [] O (Aw (BR (α:=Nat×Int) (fun s=>⟨29,mk [(0,.p (I most)),(5,.p (I s.2)),(8,dT l),(9,.p (I (A1 l).length)),(10,.p (I s.1))],[],[]⟩) (fun s=>l.length - s.1) (fun s=>s.1≤l.length∧CR (l.drop s.1) most s.2=CR l most 0) ((0,0)) Ae ?_ ?_)))))))))
  ·exact DK ⟨O,O,O,O,O,Af⟩ AA
  rintro⟨i,m⟩ ⟨hi,hC⟩;simp only at hi hC;refine Ah Al 1 [] O (Ai (Ak O (fun c1=>?_) (fun c1=>?_)))
  ·(try simp only[sd] at c1);have hi2:i<l.length:=by rw[A2] at c1;omega
   obtain⟨t,hk⟩:=Av hi2;have hks:=Bg hk;obtain⟨kd,ix,nm,ls,ks⟩:=t;have hnt:=Jh hnd hk;simp only[Wd] at hnt;simp only[size] at hks;refine An (Ai (Aw (Ao (Aj O (As BI O O Ad (BB hk) (Ay _)) (Aj O (BC Be O (Ay _)) (A6 O (Ax Bh O) fun b7=>Ag Al 1 [0,0] O (Ai (Ah Al 3 [] O (Ak O (fun c2=>?_) (fun c2=>?_))))))))))
   ·(try simp only[sd] at c2);refine Ah Al 2 [] O (Am ⟨O,_,[],Bx O,List.nil_sublist _,?_⟩);exact⟨pI (by rw[←hC,L9 hk,if_pos Ad]),O⟩
   (try simp only[sd] at c2);refine An (Ap (Aq Al 3 [] O (Aj O (FM O O) (Aq Al 2 [0] O (Aj O (A0 O O (ih (A4 ks) Ad ks _ (Nat.le_refl _) hnt.2.2.2.2.1 hnt.2.2.2.1) O) (Aj O (DU O O) (Aj O (DU O O) (Ag Al 1 [] O (Ap (Ag Al 2 [] O ?_))))))))));exact⟨(i+1,wr (m+wr (1+CR ks (wr (most - m)) 0))),AY,⟨by omega,by rw[←hC,L9 hk,if_neg Ad,CV]⟩,DK ⟨rfl,rfl,rfl,rfl,rfl,trivial⟩ AA⟩
  (try simp only[sd] at c1);have hi2:i=l.length:=by rw[A2] at c1;omega
  refine BQ (Ah Al 2 [] O (Am ⟨O,_,[],Bx O,List.nil_sublist _,?_⟩));exact⟨pI (by rw[←hC,hi2,List.drop_length];rfl),O⟩
theorem Wm:∀(x:CE),(Xs x)→Dp Tryz.prog 101 [.agg ((B0 x).map .p)] (.p (.bool (decide ((x.vars.length:Int) > 20)))):=by
 intro x h1;refine Ar Tryz.func101 O YT (n:=7) O O (Ao (A6 O (BF O) fun b1=>Ag Al 1 [] O (Ao (Aq Al 2 [0] O (Aj O (A8 DR O (List.length_map _)) (Ag Al 2 [] O (Am (⟨O,_,_,⟨_,_,O,O,O⟩,(List.nil_sublist _),?_⟩))))))))
 all_goals exact⟨rfl,rfl⟩
theorem Xq:∀(l:List CE),(l.length<wide)→(∀x∈l,Xs x)→D1 Tryz.prog 134 [.p (.lst (List.map B0 l)),.p (.fn 101)] (fun v=>∃r:Int,v= .p (I r)∧(r<0→∀x∈l,x.vars.length≤20)):=by
 intro l h1 h2;simp only[wide] at h1;refine Ar Tryz.func134 O Zb (n:=19) O O (Ah Al 1 [] O (Ai (Ao (Ba O (Aj O (A8 Ee O (List.length_map _)) (Ag Al 1 [] O (Aw ?_)))))));refine BR (α:=Nat) (fun i=>⟨19,mk [(0,.p (.lst (List.map B0 l))),(1,.p (.fn 101)),(7,.p (I (l.length:Nat))),(8,.p (I (i:Int)))],[],[]⟩) (fun i=>l.length - i) (fun i=>i≤l.length∧(∀j,j<i→∀x,l[j]?=some x→x.vars.length≤20)) 0 (⟨by omega,fun j h=>by omega⟩) ?_ ?_
 ·exact BM ⟨we O,we O,we O,we O,Af⟩ (leH (is:=[]) O (Cv))
 rintro i hC
 try simp only at hC
 obtain⟨hi,hC⟩:=hC;refine Ah Al 1 [] O (Ai (Ak O (fun c=>?_) (fun c=>?_)))
 ·(try simp only[sd,se] at c);refine An (Ai (Aw (Ah Al 2 [] O (Ao (Aq Al 3 [] O ?_)))));obtain⟨x,hx⟩:=Av (l:=l) (i:=i) Ad;refine Aj O (As Ee O O Ad (Ek hx) (Ct _)) (Aj O (BC ME O (Ct _)) (Aj O (A0 O O (Wm x (h2 x (List.mem_of_getElem? hx))) O) (Bb O (Ak O (fun c1=>?_) (fun c1=>?_)))))
  ·(try simp only[sd,se] at c1);refine Ah Al 2 [] O (Am (⟨O,_,[],Bx O,List.nil_sublist _,⟨⟨_,O,?_⟩,O⟩⟩));exact fun h=>by omega
  (try simp only[sd,se] at c1);refine An (Ap (Ag Al 2 [] O (⟨(i+1),AN,⟨by omega,Dk hC hx Ad⟩,BM ⟨we rfl,we rfl,we rfl,we rfl,trivial⟩ (leH (is:=[]) rfl (Cv))⟩)))
 (try simp only[sd,se] at c);refine BQ (Ah Al 1 [] O (Am (⟨O,_,[],Bx O,List.nil_sublist _,⟨⟨_,O,?_⟩,O⟩⟩)));exact fun _ x hx=>by obtain⟨j,hj⟩:=D5 hx;exact hC j (by have:=(List.getElem?_eq_some_iff.1 hj).1;omega) x hj
theorem Ua:∀(l:List CE),(l.length<wide)→(∀x∈l,Xs x)→D1 Tryz.prog 100 [.p (.lst (List.map B0 l)),.p (.fn 101)] (fun v=>∃b:Bool,v= .p (.bool b)∧(b=false→∀x∈l,x.vars.length≤20)):=by
 intro l h1 h2;refine Ar Tryz.func100 O YS (n:=9) O O (Ah Al 1 [] O (Ao (Aq Al 2 [] O (DB O O (Bo O O (Xq l h1 h2) (.inl O)) ?_))));rintro _ ⟨r,rfl,hr⟩;refine Ag Al 2 [] O (Am (⟨O,_,[],Bx O,List.nil_sublist _,⟨⟨_,O,?_⟩,O⟩⟩));exact fun h=>hr (by simp at h;omega)
theorem Zk:∀(n:Nat) (l:List Tm),(A4 l≤n)→(VD l)→(l.length<wide)→D1 Tryz.prog 50 [.p (.lst (A1 l))] (fun v=>∃b:Bool,v= .p (.bool b)∧(b=true→OH l)):=by
 intro n
 induction n using Nat.strongRecOn with
 | ind n ih =>
  intro l h1 h2 h3;have h3b:=h3;simp only[wide] at h3b;refine Ar Tryz.func50 O aM (n:=36) O O (Ah Al 1 [] O (Ai (Ao (Ba O (Aj O (A0 O O (OF _ l 200 (Nat.le_refl _) h2 h3) O) (Ag Al 1 [] O (Ak O (fun c=>?_) (fun c=>?_))))))))
  ·have cR:=c;(try simp only[sd,se] at c);refine Ah Al 1 [] O (Am (⟨O,_,[],Bx O,List.nil_sublist _,⟨⟨_,O,?_⟩,O⟩⟩));exact fun h=>absurd h Ac
  have cR:=c;(try simp only[sd,se] at c);refine An (Ai (Ao (Ba O (Aj O (A8 BI O (A2 _)) (Ag Al 1 [] O (Aw ?_))))));refine BR (α:=Nat) (fun i=>⟨36,mk [(8,.p (.lst (A1 l))),(9,.p (I (l.length:Nat))),(10,.p (I (i:Int)))],[],[]⟩) (fun i=>l.length - i) (fun i=>i≤l.length∧(∀j,j<i→∀x,l[j]?=some x→RQ x)) 0 (⟨by omega,fun j h=>by omega⟩) ?_ ?_
  ·exact BM ⟨we O,we O,we O,Af⟩ (leH (is:=[]) O (Cv))
  rintro i hC
  try simp only at hC
  obtain⟨hi,hC⟩:=hC;refine Ah Al 1 [] O (Ai (Ak O (fun c1=>?_) (fun c1=>?_)))
  ·have c1R:=c1;(try simp only[sd,se] at c1);refine An (Ai (Aw (Ao ?_)));obtain⟨t,ht⟩:=Av (l:=l) (i:=i) Ad;refine Aj O (As BI O O Ad (BB ht) (Ay _)) (Aj O (BC Be O (Ay _)) (A6 O (Ax Bh O) fun b4=>Ag Al 1 [0,1] O (Ai ?_)));obtain⟨tk,ti,tn,tl,ts⟩:=t;have hnt:=Jh h2 ht;simp only[Wd] at hnt;have hks:=Bg ht;simp only[size] at hks;refine BL [8,9,10] 34 (fun y=>∃b:Bool,y= .p (.bool b)∧(b=false→RQ (.mk tk ti tn tl ts))) ?_ ?_
   ·refine Ap (Aq Al 2 [0] O (Aj O (F9 Z1 O) (Aq Al 2 [] O (A5 18 O (fun g=>?_) (fun g=>?_)))))
    ·(try simp only[sd,se] at g);refine Ag Al 16 [] O ?_;exact⟨O,O,AH,(by first | exact⟨_,rfl,fun h=>absurd h Ac⟩ | exact⟨_,rfl,fun h=>by simp only[Bool.not_eq_false'] at h;exact⟨by omega,by omega,hb Aa,(hb1 h).sz,(hb1 h).nd,(hb1 h).fw⟩⟩),⟨O,O,O,Af⟩⟩
    (try simp only[sd,se] at g);refine Aq Al 2 [0] O (BP O (A8 Ee O (List.length_map _)) (Aq Al 3 [] O (A5 24 O (fun g1=>?_) (fun g1=>?_))))
    ·(try simp only[sd,se] at g1);refine Ag Al 10 [] O ?_;exact⟨O,O,AH,(by first | exact⟨_,rfl,fun h=>absurd h Ac⟩ | exact⟨_,rfl,fun h=>by simp only[Bool.not_eq_false'] at h;exact⟨by omega,by omega,hb Aa,(hb1 h).sz,(hb1 h).nd,(hb1 h).fw⟩⟩),⟨O,O,O,Af⟩⟩
    (try simp only[sd,se] at g1);refine Aq Al 2 [0] O (Fa O O O O (Bo O O (Ua tl hnt.2.1 hnt.2.2.1) (.inl O)) ?_);rintro _ ⟨b,rfl,hb⟩;refine Aq Al 2 [] O (A5 29 O (fun g2=>?_) (fun g2=>?_))
    ·(try simp only[sd,se] at g2);refine Ag Al 5 [] O ?_;exact⟨O,O,AH,(by first | exact⟨_,rfl,fun h=>absurd h Ac⟩ | exact⟨_,rfl,fun h=>by simp only[Bool.not_eq_false'] at h;exact⟨by omega,by omega,hb Aa,(hb1 h).sz,(hb1 h).nd,(hb1 h).fw⟩⟩),⟨O,O,O,Af⟩⟩
    (try simp only[sd,se] at g2);refine Aq Al 2 [0] O (Fa O O O O (Bo O O (ih (A4 ts) Ad ts (Nat.le_refl _) hnt.2.2.2.2.1 hnt.2.2.2.1) (.inl O)) ?_);rintro _ ⟨b1,rfl,hb1⟩;refine Ag Al 2 [] O ?_;exact⟨O,O,AH,(by first | exact⟨_,rfl,fun h=>absurd h Ac⟩ | exact⟨_,rfl,fun h=>by simp only[Bool.not_eq_false'] at h;exact⟨by omega,by omega,hb Aa,(hb1 h).sz,(hb1 h).nd,(hb1 h).fw⟩⟩),⟨O,O,O,Af⟩⟩
   rintro _ ⟨q,rfl,hq⟩;refine Ak O (fun c2=>?_) (fun c2=>?_)
   ·have c2R:=c2;(try simp only[sd,se] at c2);refine Ah Al 1 [] O (Am (⟨O,_,[],Bx O,List.nil_sublist _,⟨⟨_,O,?_⟩,O⟩⟩));exact fun h=>absurd h Ac
   have c2R:=c2;(try simp only[sd,se] at c2);refine An (Ap (Ag Al 2 [] O (⟨(i+1),AN,⟨by omega,Dk hC ht (hq (by simpa using c2))⟩,BM ⟨we rfl,we rfl,we rfl,trivial⟩ (leH (is:=[]) rfl (Cv))⟩)))
  have c1R:=c1;(try simp only[sd,se] at c1);refine BQ (Ah Al 1 [] O (Am (⟨O,_,[],Bx O,List.nil_sublist _,⟨⟨_,O,?_⟩,O⟩⟩)));exact fun _=>Uv (m:=i) Ad h2 h3 Ad hC
end Go.Proofs.YtldfmjoncbjldaaGreat
namespace Go.Eu
open Go.Abs
mutual
def Lw:Tm→Prop
 | .mk _ i _ _ ks=>i≤60000∧Z3 ks
def Z3:List Tm→Prop
 | []=>True
 | t::ts=>Lw t∧Z3 ts
end
theorem Wc {ts:List Tm}(h:∀t∈ts,Lw t):Z3 ts:=by
 induction ts with
 | nil=>trivial
 | cons t ts ih=>exact⟨h t Ae,ih fun x hx=>h x (by simp[hx])⟩
theorem VB {ts:List Tm}(h:Z3 ts):∀t∈ts,Lw t:=by
 induction ts with
 | nil=>intro t ht;cases ht
 | cons a ts ih=>intro t ht;rcases List.mem_cons.1 ht with rfl | ht;exact h.1;exact ih h.2 t ht
theorem U9 {ts:List Tm}(h:Oc ts):∀t∈ts,Vp t:=by
 induction ts with
 | nil=>intro t ht;cases ht
 | cons a ts ih=>intro t ht;rcases List.mem_cons.1 ht with rfl | ht;exact h.1;exact ih h.2 t ht
theorem Lw.vb:∀{t:Tm},Lw t→Vp t→Vb t:= @(Z6 (P:=fun t=>Lw t→Vp t→Vb t) fun k i n l ks ih h v =>
 ⟨fun e=>by have:=v.1 e;have:=h.1;omega,SB fun t ht=>ih t ht (VB h.2 t ht) (U9 v.2 t ht)⟩)
structure PL (l:List Tm):Prop where
 sz:A4 l≤60
 ok:∀t∈l,Nd t∧Wt t∧Vp t
theorem R2 {t:Tm}{m:Int}(h:wf (max 65536 0) m 0 t) (hz:size t<1000000):Wt t∧Vp t :=
 ⟨Vu t 0 h,V2 Ad t 0 h Ad Ad⟩
theorem Q3 {l:List Tm}(hn:CR l 60 0≤60) (hg:OH l∧∀t∈l,Wt t∧Vp t):PL l :=
 ⟨by have:=OE hg.1 Ad hn;omega,fun t ht=>⟨(J6 hg.1 ht).1,hg.2 t ht⟩⟩
theorem SX {l:List Tm}(h:OH l):l.length<1000000:=by
 have:=h.sz;have:=DQ l;omega
theorem Q9 {l:List Tm}(h:OH l):∀x∈l,Nd x∧size x<1000000:=fun x hx =>
 ⟨(J6 h hx).1,by have:=(J6 h hx).2;omega⟩
structure Vr (t:Tm):Prop where
 nd:Nd t
 wt:Wt t
 vb:Vb t
 sz:size t≤60
theorem V0 {t:Tm}(h:PL [t]) (hl:Lw t):Vr t :=
 have q:=h.ok t Ae
 ⟨q.1,q.2.1,hl.vb q.2.2,by have:=h.sz;simp only[A4] at this;omega⟩
def bE:Tm:= .mk 5 0 ⟨#[]⟩ [] [cA,DT (Bm 4) (Bm 0)]
def aW:Tm:= .mk 5 0 ⟨#[]⟩ [] [cA,DT (Bm 0) (Bm 0)]
def bL:Tm:= .mk 8 0 ⟨#[]⟩ [] [cA,.mk 9 0 ⟨#[]⟩ [] [Bm 1],.mk 10 0 ⟨#[]⟩ [] [Bm 1]]
theorem Ma (i:Int):Dh (Bm i)=Bm i:=Mr rfl
theorem PI:Dh cA=cA:=Mr rfl
theorem P4 (a b:Tm):Dh (DT a b)=DT (Dh a) (Dh b):=by
 unfold DT;rw[C0,Fj Ae Ae];rfl
theorem Vq (k:Int) (h:k≠5) (h8:k≠8) (a:Tm):Dh (.mk k 0 ⟨#[]⟩ [] [a])= .mk k 0 ⟨#[]⟩ [] [Dh a]:=by
 rw[C0,Fj Ae Ae];rfl
theorem RH:Dh bE=Bm 3:=by
 unfold bE;rw[C0];simp only[List.map_cons,List.map_nil,PI,P4,Ma];rw[Hg rfl rfl (x:=Bm 4) rfl rfl];rfl
theorem Qh:Dh aW= .mk 5 0 ⟨#[]⟩ [] [CP,DT (Bm 0) (Bm 0)]:=by
 unfold aW;rw[C0];simp only[List.map_cons,List.map_nil,PI,P4,Ma];rw[Et rfl (fun _ x hx=>by injection hx with hx;rw[←hx];rfl)]
theorem Qi:Dh bL=Bm 1:=by
 unfold bL;rw[C0];simp only[List.map_cons,List.map_nil,PI,Vq 9 Ac Ac,Vq 10 Ac Ac,Ma];rw[Hy rfl (by simp[FQ,Tm.kind,Tm.kids,Cl]) (x:=Bm 1) rfl]
def ej (t:Tm):Bool:=P5 t
theorem KK {t:Tm}(h:P5 t=true):Nd t:=(GZ t h).1
mutual
def Zs:Tm→Bool
 | .mk k i _ _ ks=>(decide (k≠0)||(decide (0≤i)&&decide (i≤65535)))&&Uy ks
def Uy:List Tm→Bool
 | []=>true
 | t::ts=>Zs t&&Uy ts
end
mutual
theorem TL:∀t,Zs t=true→Vb t
 | .mk k i n l ks,h=>by
  simp only[Zs,Bool.and_eq_true,Bool.or_eq_true,decide_eq_true_eq] at h;exact⟨fun e=>by rcases h.1 with q | q;exact absurd e q;exact q,Pm ks h.2⟩
theorem Pm:∀ts,Uy ts=true→UW ts
 | [],_=>trivial
 | t::ts,h=>by
  simp only[Uy,Bool.and_eq_true] at h;exact⟨TL t h.1,Pm ts h.2⟩
end
theorem SY {α:Type}{l:List α}{i:Nat}{P:α→Prop}(hi:l.length≤i) (h:∀j,j<i→∀x,l[j]?=some x→P x):∀x∈l,P x:=fun x hx=>by
 obtain⟨j,hj⟩:=D5 hx;exact h j (by have:=(List.getElem?_eq_some_iff.1 hj).1;omega) x hj
end Go.Eu
namespace Go.Proofs.YtldfmjoncbjldaaGreat
open Go.Abs Go.Eu
theorem LU:∀(t:Tm) (vars params metas levels:Int),(Nd t)→(size t<1000000)→D1 Tryz.prog 51 [.agg ((BA t).map .p),.p (I vars),.p (I params),.p (I metas),.p (I levels)] (fun v=>∃e:Int,v= .p (I e)∧(e=0→wf (max vars 0) metas 0 t)):=by
 intro t vars params metas levels h1 h2;refine Ar Tryz.func51 O cJ (n:=28) O O (Ao (A6 O (BF O) fun b5=>Ag Al 1 [] O (Ai (Ao (Aq Al 2 [0] O (Aj O (Mk O O) (Aq Al 3 [] O (DB O O (Bo O O (Uu _ t 0 (max (vars:Int) (0:Int)) params metas levels (Nat.le_refl _) h1 Ad AS) (.inl O)) ?_))))))));rintro _ ⟨e,rfl,he⟩;refine Ag Al 1 [] O (Ah Al 2 [] O (Ak O (fun c=>?_) (fun c=>?_)))
 ·(try simp only[sd,se] at c);refine Ah Al 2 [] O (Am (⟨O,_,[],Bx O,List.nil_sublist _,⟨⟨_,O,?_⟩,O⟩⟩));exact fun h=>absurd h Aa
 (try simp only[sd,se] at c);refine An (Ai (Ao (Aj O (Bf (i:=0) Be O O AW) (Aj O (A0 O O (Xi _ t (Nat.le_refl _) Ad) O) (Ag Al 1 [] O (Ak O (fun c1=>?_) (fun c1=>?_)))))))
 ·(try simp only[sd,se] at c1);refine Ah Al 1 [] O (Am (⟨O,_,[],Bx O,List.nil_sublist _,⟨⟨_,O,?_⟩,O⟩⟩));exact fun h=>absurd h Ac
 (try simp only[sd,se] at c1);refine An (Ai (Ao (Aj O (Bf (i:=0) Be O O AW) (Aj O (A0 O O (Tn _ t (Nat.le_refl _) Ad) O) (Ag Al 1 [] O (Ak O (fun c2=>?_) (fun c2=>?_)))))))
 ·(try simp only[sd,se] at c2);refine Ah Al 1 [] O (Am (⟨O,_,[],Bx O,List.nil_sublist _,⟨⟨_,O,?_⟩,O⟩⟩));exact fun h=>absurd h Ac
 (try simp only[sd,se] at c2);refine An (Ah Al 1 [] O (Am (⟨O,_,[],Bx O,List.nil_sublist _,⟨⟨_,O,?_⟩,O⟩⟩)));exact fun _=>(he Ad).1
theorem Q4:∀(l:List Tm),(VD l)→(l.length<wide)→D1 Tryz.prog 28 [.p (.lst (A1 l))] (fun v=>∃bb:Bool,v= .p (.bool bb)∧(bb=true→OH l∧∀t∈l,Wt t∧Vp t)):=by
 intro l h1 h2;have h2b:=h2;simp only[wide] at h2b;refine Ar Tryz.func28 O a8 (n:=18) O O (Ah Al 1 [] O (Ai (Ao (Ba O (DB O O (Bo O O (Zk _ l (Nat.le_refl _) h1 h2) (.inl O)) ?_)))));rintro _ ⟨b,rfl,hb⟩;refine Ag Al 1 [] O (Ak O (fun c=>?_) (fun c=>?_))
 ·(try simp only[sd,se] at c);refine Ah Al 1 [] O (Am (⟨O,_,[],Bx O,List.nil_sublist _,⟨⟨_,O,?_⟩,O⟩⟩));exact fun h=>absurd h Ac
 (try simp only[sd,se] at c);have hf:=hb (by simpa using c);refine An (Ai (Ao (Ba O (Aj O (A8 BI O (A2 _)) (Ag Al 1 [] O (Aw ?_))))));refine BR (α:=Nat) (fun i=>⟨18,mk [(8,.p (.lst (A1 l))),(9,.p (I (l.length:Nat))),(10,.p (I (i:Int)))],[],[]⟩) (fun i=>l.length - i) (fun i=>i≤l.length∧(∀j,j<i→∀x,l[j]?=some x→Wt x∧Vp x)) 0 (⟨by omega,fun j h=>by omega⟩) ?_ ?_
 ·exact BM ⟨we O,we O,we O,Af⟩ (leH (is:=[]) O (Cv))
 rintro i hC
 try simp only at hC
 obtain⟨hi,hC⟩:=hC;refine Ah Al 1 [] O (Ai (Ak O (fun c1=>?_) (fun c1=>?_)))
 ·(try simp only[sd,se] at c1);refine An (Ai (Aw (Ao ?_)));obtain⟨x,hx⟩:=Av (l:=l) (i:=i) Ad;refine Aj O (As BI O O Ad (BB hx) (Ay _)) (Aj O (BC Be O (Ay _)) (A6 O (Ax Bh O) fun b4=>Ag Al 1 [0,1] O (Ao (Aj O (Bf (i:=0) Be O O AW) (DB O O (Bo O O (LU x 65536 8 65536 65536 (B2 hf.nd hx) (by have:=Bg hx;have:=hf.sz;omega)) (.inl O)) ?_)))));rintro _ ⟨e,rfl,he⟩;refine Ag Al 1 [] O (Ak O (fun c2=>?_) (fun c2=>?_))
  ·(try simp only[sd,se] at c2);refine Ah Al 1 [] O (Am (⟨O,_,[],Bx O,List.nil_sublist _,⟨⟨_,O,?_⟩,O⟩⟩));exact fun h=>absurd h Ac
  (try simp only[sd,se] at c2);refine An (Ap (Ag Al 2 [] O (⟨(i+1),AN,⟨by omega,Dk hC hx (R2 (he Ad) (by have:=Bg hx;have:=hf.sz;omega))⟩,BM ⟨we rfl,we rfl,we rfl,trivial⟩ (leH (is:=[]) rfl (Cv))⟩)))
 (try simp only[sd,se] at c1);refine BQ (Ah Al 1 [] O (Am (⟨O,_,[],Bx O,List.nil_sublist _,⟨⟨_,O,?_⟩,O⟩⟩)));exact fun _=>⟨hf,SY Ad hC⟩
theorem Rt:Dp Tryz.prog 52 [.p (.lst (List.map JU ([]:List Cg)))] (.p (.bool true)):=by
 refine Ar Tryz.func52 O cY (n:=23) O O (Ah Al 1 [] O (Ai (Ah Al 1 [] O (Aw (BR (α:=Nat) (fun i=>⟨23,mk [(0,.p (.lst (List.map JU ([]:List Cg)))),(3,.p (I (i:Int)))],[],[]⟩) (fun i=>0 - i) (fun i=>i≤0) 0 AM ?_ ?_)))))
 ·exact BM ⟨we O,we O,Af⟩ (leH (is:=[]) O (Cv))
 rintro i hC
 try simp only at hC
 have hi:=hC;refine Ai (Ai (BL [0,3] 11 (fun y=>y= .p (.bool ((decide (((i:Int):Int)<((([]:List Cg).length:Nat):Int)))&&(decide (((i:Int):Int)<(80:Int)))))) ?_ ?_))
 ·refine Ap (Aq Al 2 [] O (Aj O (A8 SR O (List.length_map _)) (Aq Al 2 [] O (A5 8 O (fun g=>?_) (fun g=>?_)))))
  ·(try simp only[sd,se] at g);exact Ag Al 3 [] O (⟨O,O,AH,AG,⟨O,O,Af⟩⟩)
  (try simp only[sd,se] at g);exact Ag Al 3 [] O (⟨O,O,AH,AG,⟨O,O,Af⟩⟩)
 rintro _ rfl;refine Ak O (fun c=>?_) (fun c=>?_)
 ·(try simp only[sd,se] at c);exfalso;have hz:(([]:List Cg).length:Int)=0:=rfl;simp only[hz,Bool.and_eq_true,decide_eq_true_eq] at c;omega
 (try simp only[sd,se] at c);refine BQ (Ao (Ba O (Aj O (A8 SR O (List.length_map _)) (Ag Al 2 [] O (Am (⟨O,_,_,⟨_,_,O,O,O⟩,(List.nil_sublist _),?_⟩))))))
 all_goals exact⟨rfl,rfl⟩
theorem Oy:Dp Tryz.prog 53 [.p (.lst (List.map JU ([]:List Cg)))] (.tup [.p (I 0),.p (I 0)]):=by
 refine Ar Tryz.func53 O bT (n:=27) O O (Ah Al 2 [] O (Ai (Ao (Ba O (Aj O (A8 SR O (List.length_map _)) (Ag Al 1 [] O (Ak O (fun c=>?_) (fun c=>?_))))))))
 ·(try simp only[sd,se] at c);exfalso;have hz:(([]:List Cg).length:Int)=0:=rfl;simp only[hz,Bool.and_eq_true,decide_eq_true_eq] at c;omega
 (try simp only[sd,se] at c);refine An (Ai (Ah Al 1 [] O (Aw (BR (α:=Nat) (fun i=>⟨27,mk [(0,.p (.lst (List.map JU ([]:List Cg)))),(4,.p (I (i:Int)))],[],[]⟩) (fun i=>0 - i) (fun i=>i≤0) 0 AM ?_ ?_))))
 ·exact BM ⟨we O,we O,Af⟩ (leH (is:=[]) O (Cv))
 rintro i hC
 try simp only at hC
 have hi:=hC;refine Ai (Ao (Aq Al 2 [] O (Aj O (A8 SR O (List.length_map _)) (Ag Al 1 [] O (Ak O (fun c1=>?_) (fun c1=>?_))))))
 ·(try simp only[sd,se] at c1);exfalso;have hz:(([]:List Cg).length:Int)=0:=rfl;simp only[hz,Bool.and_eq_true,decide_eq_true_eq] at c1;omega
 (try simp only[sd,se] at c1);refine BQ (Ah Al 2 [] O (Am (⟨O,_,_,⟨_,_,O,O,⟨_,_,O,O,O⟩⟩,(List.nil_sublist _),?_⟩)))
 all_goals exact⟨rfl,rfl⟩
theorem RW:Dp Tryz.prog 29 [.p (.lst (List.map JU ([]:List Cg)))] (.p (.bool true)):=by
 refine Ar Tryz.func29 O cg (n:=15) O O (Ah Al 1 [] O (Ai (Ao (Ba O (Aj O (A0 O O (Rt ) O) (Ag Al 1 [] O ?_))))));refine Ak O (fun c=>by cases c) (fun c=>?_);refine An (Ao (Ba O (Aj O (A0 O O (Oy ) O) (Ag Al 5 [] O (Ah Al 3 [] O (Am (⟨O,_,_,⟨_,_,O,O,O⟩,(List.nil_sublist _),?_⟩)))))))
 all_goals exact⟨rfl,rfl⟩
theorem Un:∀(t:Tm),(Nd t)→(size t<1000000)→D1 Tryz.prog 31 [.agg ((BA t).map .p)] (Hr):=by
 intro t h1 h2;refine Ar Tryz.func31 O aJ (n:=6) O O (Ao (A6 O (BF O) fun b1=>Ag Al 1 [] O (Ao (Aj O (Bf (i:=0) Be O O AW) (DB O O (Bo O O (LU t 60000 8 65536 65536 h1 h2) (.inl O)) ?_)))));rintro _ ⟨e,rfl,he⟩;refine Ag Al 2 [] O (Am (⟨O,_,_,⟨_,_,O,O,O⟩,(List.nil_sublist _),?_⟩))
 all_goals exact⟨⟨_,rfl⟩,rfl⟩
theorem Ue:∀(l:List Tm),(l.length<1000000)→(∀x∈l,Nd x∧size x<1000000)→D1 Tryz.prog 54 [.p (.lst (A1 l)),.p (.fn 31)] (VY):=by
 intro l h1 h2;refine Ar Tryz.func54 O YM (n:=19) O O (Ah Al 1 [] O (Ai (Ao (Ba O (Aj O (A8 BI O (A2 _)) (Ag Al 1 [] O (Aw (BR (α:=Nat) (fun i=>⟨19,mk [(0,.p (.lst (A1 l))),(1,.p (.fn 31)),(7,.p (I (l.length:Nat))),(8,.p (I (i:Int)))],[],[]⟩) (fun i=>l.length - i) (fun i=>i≤l.length) 0 AM ?_ ?_))))))))
 ·exact BM ⟨we O,we O,we O,we O,Af⟩ (leH (is:=[]) O (Cv))
 rintro i hC
 try simp only at hC
 have hi:=hC;refine Ah Al 1 [] O (Ai (Ak O (fun c=>?_) (fun c=>?_)))
 ·(try simp only[sd,se] at c);refine An (Ai (Aw (Ah Al 2 [] O (Ao (Aq Al 3 [] O ?_)))));obtain⟨x,hx⟩:=Av (l:=l) (i:=i) Ad;refine Aj O (As BI O O Ad (BB hx) (Ay _)) (Aj O (BC Be O (Ay _)) (DB O O (Bo O O (Un x (h2 _ (List.mem_of_getElem? hx)).1 (h2 _ (List.mem_of_getElem? hx)).2) (.inl O)) ?_));rintro _ ⟨q,rfl⟩;refine Bb O (Ak O (fun c1=>?_) (fun c1=>?_))
  ·(try simp only[sd,se] at c1);refine Ah Al 2 [] O (Am (⟨O,_,_,⟨_,_,O,O,O⟩,(List.nil_sublist _),?_⟩))
   all_goals exact⟨⟨_,rfl⟩,rfl⟩
  (try simp only[sd,se] at c1);refine An (Ap (Ag Al 2 [] O ?_));refine⟨(i+1),AN,by omega,BM ⟨we rfl,we rfl,we rfl,we rfl,trivial⟩ (leH (is:=[]) rfl (Cv))⟩
 (try simp only[sd,se] at c);refine BQ (Ah Al 1 [] O (Am (⟨O,_,_,⟨_,_,O,O,O⟩,(List.nil_sublist _),?_⟩)))
 all_goals exact⟨⟨_,rfl⟩,rfl⟩
theorem S4:∀(l:List Tm),(l.length<1000000)→(∀x∈l,Nd x∧size x<1000000)→D1 Tryz.prog 30 [.p (.lst (A1 l)),.p (.fn 31)] (Hr):=by
 intro l h1 h2;refine Ar Tryz.func30 O Yb (n:=9) O O (Ah Al 1 [] O (Ao (Aq Al 2 [] O (DB O O (Bo O O (Ue l h1 h2) (.inl O)) ?_))));rintro _ ⟨r,rfl⟩;refine Ag Al 2 [] O (Am (⟨O,_,_,⟨_,_,O,O,O⟩,(List.nil_sublist _),?_⟩))
 all_goals exact⟨⟨_,rfl⟩,rfl⟩
theorem Ro:∀(l:List Tm),(VD l)→(l.length<wide)→D1 Tryz.prog 10 [.p (.lst (List.map JU ([]:List Cg))),.p (.lst (A1 l))] (fun v=>∃bb:Bool,v= .p (.bool bb)∧(bb=true→PL l)):=by
 intro l h1 h2;refine Ar Tryz.func10 O aZ (n:=21) O O (Ah Al 1 [] O (Ao (Ba O (Aj O (A0 O O (OF _ l 60 (Nat.le_refl _) h1 h2) O) (Aq Al 2 [] O (A5 8 O (fun g=>?_) (fun g=>?_)))))))
 ·(try simp only[sd,se] at g);refine BP O (B8 O) (Fa O O O O (Bo O O (Q4 l h1 h2) (.inl O)) ?_);rintro _ ⟨b,rfl,hb⟩;refine Aq Al 2 [] O (A5 12 O (fun g1=>?_) (fun g1=>?_))
  ·(try simp only[sd,se] at g1);refine BP O (B8 O) (BP O (A0 O O (RW ) O) (Aq Al 3 [] O (Fa O O O O (Bo O O (S4 l (SX (hb Aa).1) (Q9 (hb Aa).1)) (.inl O)) ?_)));rintro _ ⟨q,rfl⟩;refine Ag Al 3 [] O (Am (⟨O,_,_,⟨_,_,O,O,O⟩,(List.nil_sublist _),?_⟩))
   all_goals exact⟨⟨_,rfl,fun h=>Q3 Ad (hb Aa)⟩,rfl⟩
  (try simp only[sd,se] at g1);refine Ag Al 9 [] O (Am (⟨O,_,_,⟨_,_,O,O,O⟩,(List.nil_sublist _),?_⟩))
  all_goals exact⟨⟨_,rfl,fun h=>absurd h Ac⟩,rfl⟩
 (try simp only[sd,se] at g);refine Ag Al 13 [] O (Am (⟨O,_,_,⟨_,_,O,O,O⟩,(List.nil_sublist _),?_⟩))
 all_goals exact⟨⟨_,rfl,fun h=>absurd h Ac⟩,rfl⟩
theorem XN:∀(n:Nat) (x:Tm),(∀x:Tm,size x≤n→Nd x→D1 Tryz.prog 17 [TV x] (fun v=>∃bb:Bool,v= .p (.bool bb)∧(bb=true→Lw x)))→(size x≤n)→(Nd x)→D1 Tryz.prog 42 [.agg ((BA x).map .p)] (fun v=>∃bb:Bool,v= .p (.bool bb)∧(bb=false→Lw x)):=by
 intro n x h1 h2 h3;refine Ar Tryz.func42 O aL (n:=6) O O (Ao (A6 O (BF O) fun b1=>Ag Al 1 [] O (Ao (Aj O (Bf (i:=0) Be O O AW) (DB O O (Bo O O (h1 x h2 h3) (.inl O)) ?_)))));rintro _ ⟨b,rfl,hb⟩;refine Ag Al 2 [] O (Am (⟨O,_,[],Bx O,List.nil_sublist _,⟨⟨_,O,?_⟩,O⟩⟩));exact fun h=>hb (by simpa using h)
theorem XH:∀(n:Nat) (l:List Tm),(∀x:Tm,size x≤n→Nd x→D1 Tryz.prog 42 [TV x] (fun v=>∃bb:Bool,v= .p (.bool bb)∧(bb=false→Lw x)))→(A4 l≤n)→(IX l)→(l.length<Ci)→D1 Tryz.prog 54 [.p (.lst (A1 l)),.p (.fn 42)] (fun v=>∃r:Int,v= .p (I r)∧(r<0→∀x∈l,Lw x)):=by
 intro n l h1 h2 h3 h4;simp only[Ci] at h4;refine Ar Tryz.func54 O YM (n:=19) O O (Ah Al 1 [] O (Ai (Ao (Ba O (Aj O (A8 BI O (A2 _)) (Ag Al 1 [] O (Aw ?_)))))));refine BR (α:=Nat) (fun i=>⟨19,mk [(0,.p (.lst (A1 l))),(1,.p (.fn 42)),(7,.p (I (l.length:Nat))),(8,.p (I (i:Int)))],[],[]⟩) (fun i=>l.length - i) (fun i=>i≤l.length∧(∀j,j<i→∀x,l[j]?=some x→Lw x)) 0 (⟨by omega,fun j h=>by omega⟩) ?_ ?_
 ·exact BM ⟨we O,we O,we O,we O,Af⟩ (leH (is:=[]) O (Cv))
 rintro i hC
 try simp only at hC
 obtain⟨hi,hC⟩:=hC;refine Ah Al 1 [] O (Ai (Ak O (fun c=>?_) (fun c=>?_)))
 ·(try simp only[sd,se] at c);refine An (Ai (Aw (Ah Al 2 [] O (Ao (Aq Al 3 [] O ?_)))));obtain⟨x,hx⟩:=Av (l:=l) (i:=i) Ad;refine Aj O (As BI O O Ad (BB hx) (Ay _)) (Aj O (BC Be O (Ay _)) (DB O O (Bo O O (h1 x (by have:=Bg hx;omega) (B2 h3 hx)) (.inl O)) ?_));rintro _ ⟨b,rfl,hb⟩;refine Bb O (Ak O (fun c1=>?_) (fun c1=>?_))
  ·(try simp only[sd,se] at c1);refine Ah Al 2 [] O (Am (⟨O,_,[],Bx O,List.nil_sublist _,⟨⟨_,O,?_⟩,O⟩⟩));exact fun h=>by omega
  (try simp only[sd,se] at c1);have hq1:=hb (by simpa using c1);refine An (Ap (Ag Al 2 [] O (⟨(i+1),AN,⟨by omega,Dk hC hx hq1⟩,BM ⟨we rfl,we rfl,we rfl,we rfl,trivial⟩ (leH (is:=[]) rfl (Cv))⟩)))
 (try simp only[sd,se] at c);refine BQ (Ah Al 1 [] O (Am (⟨O,_,[],Bx O,List.nil_sublist _,⟨⟨_,O,?_⟩,O⟩⟩)));exact fun _ x hx=>by obtain⟨j,hj⟩:=D5 hx;exact hC j (by have:=(List.getElem?_eq_some_iff.1 hj).1;omega) x hj
theorem U5:∀(n:Nat) (l:List Tm),(∀x:Tm,size x≤n→Nd x→D1 Tryz.prog 42 [TV x] (fun v=>∃bb:Bool,v= .p (.bool bb)∧(bb=false→Lw x)))→(A4 l≤n)→(IX l)→(l.length<Ci)→D1 Tryz.prog 30 [.p (.lst (A1 l)),.p (.fn 42)] (fun v=>∃bb:Bool,v= .p (.bool bb)∧(bb=false→∀x∈l,Lw x)):=by
 intro n l h1 h2 h3 h4;refine Ar Tryz.func30 O Yb (n:=9) O O (Ah Al 1 [] O (Ao (Aq Al 2 [] O (DB O O (Bo O O (XH n l h1 h2 h3 h4) (.inl O)) ?_))));rintro _ ⟨r,rfl,hr⟩;refine Ag Al 2 [] O (Am (⟨O,_,[],Bx O,List.nil_sublist _,⟨⟨_,O,?_⟩,O⟩⟩));exact fun h=>hr (by simp at h;omega)
theorem XQ:∀(n:Nat) (t:Tm),(size t≤n)→(Nd t)→D1 Tryz.prog 17 [.agg ((BA t).map .p)] (fun v=>∃bb:Bool,v= .p (.bool bb)∧(bb=true→Lw t)):=by
 intro n
 induction n with
 | zero=>intro t h1;cases t;simp[size] at h1
 | succ n ih =>
  intro t h1 h2;obtain⟨tk,ti,tn,tl,ts⟩:=t;simp only[size] at h1;simp only[Nd] at h2;refine Ar Tryz.func17 O bO (n:=12) O O (Ao (A6 O (BF O) fun b1=>Ag Al 1 [] O (Ao (Aq Al 4 [0] O (A5 6 O (fun g=>?_) (fun g=>?_))))))
  ·(try simp only[sd,se] at g);refine Aq Al 2 [0] O (Fa O O O O (Bo O O (U5 n ts (fun x hx hn=>XN n x ih hx hn) Ad h2.2.2.2.2.1 h2.2.2.2.1) (.inl O)) ?_);rintro _ ⟨b,rfl,hb⟩;refine Ag Al 3 [] O (Am (⟨O,_,_,⟨_,_,O,O,O⟩,(List.nil_sublist _),?_⟩))
   all_goals exact⟨⟨_,rfl,fun h=>⟨by omega,Wc (hb (by simpa using h))⟩⟩,rfl⟩
  (try simp only[sd,se] at g);refine Ag Al 6 [] O (Am (⟨O,_,_,⟨_,_,O,O,O⟩,(List.nil_sublist _),?_⟩))
  all_goals exact⟨⟨_,rfl,fun h=>absurd h Ac⟩,rfl⟩
set_option maxHeartbeats 4000000 in
theorem W2:∀(n:Nat),QC n→∀(m:Nat) (mu:List Nat) (s s':NS) (t:Tm) (a:Nat) (d:Int),mu.length=s.objs.length→Fx (n+1) s (.st a) d= .ok (t,s')→BK Tryz.prog 256 [.p (Gp mu a),.p (.addr m),.p (I d)] (HS xq m mu s) (ZY xq m mu t s'):=by
 intro n hQ m mu s s' t a d hl h;obtain⟨hd,args0,hg,hwf,hkl0,hbn,hn1,hn2,hd1,hd2,t1,s1,h2,args,h0,hg1,hwf1,hal,hqa⟩:=Y7 h;obtain⟨hkw,_⟩:=NC hwf hg;obtain⟨_,haw⟩:=NC hwf1 hg1;have hlt:a<mu.length:=by rw[hl];exact WK hg
 rw[←hl] at hkw;obtain⟨hk,hv,⟨gk,gi,gn,gl,gs⟩,hks,hb⟩:=hd;obtain⟨k2,v2,⟨gk2,gi2,gn2,gl2,gs2⟩,ks2,b2⟩:=h2;simp only at hkl0 hbn hkw;subst hbn;refine Ar Tryz.func256 O X3 (n:=94) O O (Ao (A6 O (Ax Bh O) fun b6=>Bb O (Ao (Aq Al 2 [] O (Aj O (CI [1] O (.inl ⟨O,O,O⟩) (PX m s.left s.nodes d hn1 hn2 hd1 hd2) ⟨_,_,O,O,O⟩ Ac O (.inl O)) (Bb O (Ao (Ba O (Aj O (Bc O) (Aq Al 2 [] O (Aj O (C4 (i:=s.objs.length - 1 - a+1+1) Be O (show _=some (Au.box _ [.p (I hk),.p (I hv),.p (I gk),.p (I gi),.p (.str gn),.p (.lst (List.map B0 gl)),.p (.lst (A1 gs)),.p (.lst (LA mu hks)),.p (.nilFn),.p (.lst (LA mu args0))]) from Cn (s:=({ s with nodes:=s.nodes+1 }:NS)) hl hg) O O) (A6 O (Ax Bh O) fun b7=>Ag Al 1 [0,0] O (Ai (Ao (Ba O (Aj O (Bc O) (Aj O (BH K6 O O) ?_)))))))))))))))));refine Aj O (C4 (i:=s.objs.length - 1 - a+1+1+1) Vx O (show _=some (Au.box _ [.p (I hk),.p (I hv),.p (I gk),.p (I gi),.p (.str gn),.p (.lst (List.map B0 gl)),.p (.lst (A1 gs)),.p (.lst (LA mu hks)),.p (.nilFn),.p (.lst (LA mu args0))]) from Cn (s:=({ s with nodes:=s.nodes+1 }:NS)) hl hg) O O) (A6 O (Ax Zq O) fun b8=>Ag Al 1 [0,0] O (Aw (Ah Al 4 [0] O (Ak O (fun c=>?_) (fun c=>?_)))))
 ·(try simp only[sd,se] at c);obtain⟨hv1,hv2,rfl,rfl⟩:=Wl h0 c;simp only at hv1 hv2;have hawS:∀x∈args,x<mu.length:=by rw[hl];exact haw
  refine Ap (Ag Al 7 [0,1,0] O (Ai (Ao (Ba O (Aj O (Bc O) (Aj O (BH K6 O O) (Aj O (BT (i:=({ s with nodes:=s.nodes+1 }:NS).objs.length - 1 - a+1+1+1+1) QU O (Cn (s:=({ s with nodes:=s.nodes+1 }:NS)) hl hg1) O) (Aj O (A8 En O (GX _ _)) (Ag Al 1 [] O (Aw ?_))))))))));refine BR (α:=Nat×Tm×NS×List Nat) (fun(i,z,S2,MUy)=>⟨94,mk [(1,.p (.addr m)),(2,.p (I d)),(6,.ptr b6 0),(7,.ptr b7 0),(76,.p (.lst (LA mu args))),(77,.p (I (args.length:Nat))),(78,.p (I (i:Int)))],(.box b7 ((BA z).map .p):: .box b6 [.p (I 0),.p (I 0),.p (.str ⟨#[]⟩),.p (.nils),.p (.nils)]:: .box m [.p (.lst []),.p (I S2.left),.p (I S2.nodes)]::GG xq m MUy MUy S2.objs),[]⟩) (fun(i,z,S2,MUy)=>args.length - i) (fun(i,z,S2,MUy)=>i≤args.length∧(MUy.length=S2.objs.length∧(∃w,MUy=w++mu)∧OA (LH (Fx n) n) d (args.drop i) z S2= .ok (t,s'))) ⟨0,(.mk 0 (d - 1 - hv) ⟨#[]⟩ [] []),({ s with nodes:=s.nodes+1 }:NS),mu⟩ (⟨by omega,hl,⟨[],rfl⟩,by rw[List.drop_zero];exact hqa⟩) ?_ ?_
  ·exact BM ⟨we O,we O,we O,we O,we O,we O,we O,Af⟩ (Od [1,2,3] [_,_,_,_] (l':=[_,_,_]) O (wl (on (O)) (wl (oe O) (wl (oe O) (Cv)))))
  rintro⟨i,z,S2,MUy⟩ hC
  try simp only at hC
  obtain⟨hi,⟨hlj,⟨w2,hwf2⟩,hqi⟩⟩:=hC;refine Ah Al 1 [] O (Ai (Ak O (fun c1=>?_) (fun c1=>?_)))
  ·(try simp only[sd,se] at c1);refine An (Ai (Aw (Ao ?_)));obtain⟨x,hx⟩:=Av (l:=args) (i:=i) Ad;refine Aj O (As En O O Ad (MP hx) O) (Ag Al 2 [] O (Ao ?_));obtain⟨hn3,hn4,hn5,hn6,y,sy,hq1,hq2⟩:=Nc (by rw[←B3 hx];exact hqi);refine Aq Al 2 [] O (Aj O (CI [2] O (.inl ⟨O,O,O⟩) (PX m S2.left S2.nodes d hn3 hn4 hn5 hn6) ⟨_,_,O,O,O⟩ Ac O (.inl O)) (Bb O (Bt (fun k=>Nat.beq k 4) EY (BE Al 4 [0] O (FG [] O O (Cb O O (List.perm_append_comm (l₁:=[_,_])) (by have h9:=O4 n hQ m MUy { S2 with nodes:=S2.nodes+1 } sy y x d hlj hq1;rw[hwf2,Eo (hawS x (List.mem_of_getElem? hx)),←hwf2] at h9;exact h9) (Kx)) AZ (S6 (s:={ S2 with nodes:=S2.nodes+1 }) hlj (Mo hq1) _) (NX _) ?_)))));rintro _ _ ⟨_,⟨_,hl1,⟨w,rfl⟩,rfl,rfl⟩,rfl⟩;refine⟨(.box b7 ((BA z).map .p):: .box b6 [.p (I 0),.p (I 0),.p (.str ⟨#[]⟩),.p (.nils),.p (.nils)]:: .box m [.p (.lst []),.p (I sy.left),.p (I sy.nodes)]::GG xq m (w++MUy) (w++MUy) sy.objs),List.perm_append_comm,AB,Af,?_⟩;refine A7 O (fun _=>BZ (rows:=A1 [y]) BI Bh O O O O (CL (Bu _)) (Dm _)) Af (A7 O (fun _=>A0 O O (Jz z [y] (by simp only[Ci,List.length_cons,List.length_nil];decide)) O) Af (Bl Al 1 [0,1] O (Ap (Ag Al 2 [] O ?_))));refine⟨⟨i+1,(apply z [y]),sy,(w++MUy)⟩,AN,⟨by omega,⟨by assumption,⟨_,by rw[hwf2,←List.append_assoc]⟩,hq2⟩⟩,BM ⟨we rfl,we rfl,we rfl,we rfl,we rfl,we rfl,we rfl,trivial⟩ (Od [0,1,2] [_,_,_] (l':=[_,_,_]) rfl (wl (oe rfl) (wl (oe rfl) (wl (oe rfl) (Cv)))))⟩
  (try simp only[sd,se] at c1);obtain⟨e1,e2⟩:=Pe (by have:=hqi;rwa [List.drop_eq_nil_of_le Ad] at this);exact BQ (Ah Al 2 [0,1,1] O (Am (⟨O,_,_,⟨_,_,O,(BD (i:=1) Be O O AW),O⟩,(Cu [] [_,_] O),⟨_,(by rw[e2];exact hlj),⟨w2,hwf2⟩,(by rw[e1]),(by rw[e2];rfl)⟩⟩)))
 (try simp only[sd,se] at c);obtain⟨hkl,_,ts,hqs,rfl⟩:=Uz h0 c;simp only at hkl hqs;refine Ao (Aq Al 2 [0] O (Aj O (A8 En O (GX _ _)) (Ag Al 2 [] O (Ak O (fun c1=>?_) (fun c1=>?_)))))
 ·(try simp only[sd,se] at c1);refine Ah Al 4 [0,1,0] O (Ai (Ao (Bv (C9 (i:=1) O (SF (aw (we O) (aw (we O) (aw (we O) (aw (we O) (aw (LS) (Gy)))))))) (Bv (KY (sz:=5)) (Bv (By (i:=2) O) (Aq Al 2 [1] O (Aj O (A8 En O (GX _ _)) (Ag Al 1 [] O (Aw ?_)))))))));refine BR (α:=Nat×List Tm×NS×List Nat×Option Nat×Nat) (fun(i,ys,S,MUx,o,cp)=>⟨94,mk [(0,.p (.addr (JD mu a))),(1,.p (.addr m)),(2,.p (I d)),(6,.ptr b6 0),(7,.ptr b7 0),(8,.ptr b8 0),(44,.p (.lst (LA mu hks))),(45,.p (I (hks.length:Nat))),(46,.p (I (i:Int)))],(.vec o 5 (A1 ys) cp:: .box b8 [.p (I hk),.p (I hv),.p (I gk),.p (I gi),.p (.str gn),.p (.lst (List.map B0 gl)),.p (.lst (A1 gs)),.p (.lst (LA mu hks)),.p (.nilFn)]:: .box b7 [.p (I hk),.p (I 0),.p (.str ⟨#[]⟩),.p (.lst []),.vs o (A1 ys).length cp]:: .box b6 [.p (I 0),.p (I 0),.p (.str ⟨#[]⟩),.p (.nils),.p (.nils)]:: .box m [.p (.lst []),.p (I S.left),.p (I S.nodes)]::GG xq m MUx MUx S.objs),[]⟩) (fun(i,ys,S,MUx,o,cp)=>hks.length - i) (fun(i,ys,S,MUx,o,cp)=>i≤hks.length∧(ys.length=i∧MUx.length=S.objs.length∧(∃w,MUx=w++mu)∧∃zs,MN (LH (Fx n) n) d (hks.drop i) S= .ok (zs,s1)∧ts=ys++zs)) ⟨0,[],({ s with nodes:=s.nodes+1 }:NS),mu,none,0⟩ (⟨by omega,rfl,hl,⟨[],rfl⟩,ts,by rw[List.drop_zero];exact hqs,rfl⟩) ?_ ?_
  ·exact BM ⟨we O,we O,we O,we O,we O,we O,we O,we O,we O,Af⟩ (Od [0,1,2,3,4] [_,_,_,_,_] (l':=[_,_,_,_,_]) O (wl (oe O) (wl (oe O) (wl (oe O) (wl (oe O) (wl (oe O) (Cv)))))))
  rintro⟨i,ys,S,MUx,o,cp⟩ hC
  try simp only at hC
  obtain⟨hi,⟨hyl,hli,⟨w,hwe⟩,zs,hqi,htz⟩⟩:=hC;refine Ah Al 1 [] O (Ai (Ak O (fun c2=>?_) (fun c2=>?_)))
  ·(try simp only[sd,se] at c2);refine An (Ai (Aw (Ao ?_)));obtain⟨x,hx⟩:=Av (l:=hks) (i:=i) Ad;refine Aj O (As En O O Ad (MP hx) O) (Ag Al 2 [] O (Bt (fun k=>Nat.beq k 5||Nat.beq k 7) EY (BE Al 5 [2] O ?_)));obtain⟨y,sy,ys2,hq1,hq2,rfl⟩:=R9 (by rw[←B3 hx];exact hqi);refine FG [] O O (Cb O O (List.perm_append_comm (l₁:=[_,_,_,_])) (by have h9:=O4 n hQ m MUx S sy y x d hli hq1;rw[hwe,Eo (hkw x (List.mem_of_getElem? hx)),←hwe] at h9;exact h9) (Kx)) AZ (S6 hli (Mo hq1) _) (NX _) ?_;rintro _ _ ⟨_,⟨_,hl1,⟨w,rfl⟩,rfl,rfl⟩,rfl⟩;refine⟨(.vec o 5 (A1 ys) cp:: .box b8 [.p (I hk),.p (I hv),.p (I gk),.p (I gi),.p (.str gn),.p (.lst (List.map B0 gl)),.p (.lst (A1 gs)),.p (.lst (LA mu hks)),.p (.nilFn)]:: .box b7 [.p (I hk),.p (I 0),.p (.str ⟨#[]⟩),.p (.lst []),.vs o (A1 ys).length cp]:: .box b6 [.p (I 0),.p (I 0),.p (.str ⟨#[]⟩),.p (.nils),.p (.nils)]:: .box m [.p (.lst []),.p (I sy.left),.p (I sy.nodes)]::GG xq m (w++MUx) (w++MUx) sy.objs),List.perm_append_comm,AB,Af,?_⟩;refine A7 O (fun _=>BZ (rows:=A1 [y]) BI Bh O O O O (CL (Bu _)) (Dm _)) Af (O8 [] O O (CZ (i:=0) (rows':=A1 [y]) BI BI Bh O O O O O O (Bu _) AD (Ni ys [y])) AZ fun o1 cp1=>⟨AB,Af,?_⟩);refine Bl Al 2 [2,0] O (Ap (Ag Al 2 [] O ?_));refine⟨⟨i+1,(ys++[y]),sy,(w++MUx),o1,cp1⟩,AN,⟨by omega,⟨by simp[hyl],by assumption,⟨_,by rw[hwe,←List.append_assoc]⟩,ys2,hq2,by rw[htz,List.append_assoc];rfl⟩⟩,BM ⟨we rfl,we rfl,we rfl,we rfl,we rfl,we rfl,we rfl,we rfl,we rfl,trivial⟩ (Od [0,1,2,3,4] [_,_,_,_,_] (l':=[_,_,_,_,_]) rfl (wl (oe rfl) (wl (oe rfl) (wl (oe rfl) (wl (oe rfl) (wl (oe rfl) (Cv)))))))⟩
  (try simp only[sd,se] at c2);have hqe:=US (by have:=hqi;rwa [List.drop_eq_nil_of_le Ad] at this);have hts:ts=ys:=by rw[htz,hqe.1,List.append_nil]
  have hs1:=hqe.2;have hgS:=hg1;rw[hs1] at hgS;have hbS:JD MUx a=JD mu a:=by rw[hwe];exact HL hlt
  have hawS:∀x∈args,x<MUx.length:=by rw[hli,←hs1];exact haw
  refine BQ (Ao (Aq Al 2 [1] O (Aj O (RA AZ O O) (Bb O ?_))));refine Ak O (fun c3=>by cases c3) (fun c3=>?_);refine An (Ai (Ao (Bv (Bz (i:=0) (j:=2) (q:=4) [] O O O (Cq Af)) (Ba O (Aj O (Bc O) (Aj O (BH K6 O O) (Aj O (BT (i:=S.objs.length - 1 - a+1+1+1+1) QU O (QX hli hgS hbS) O) (Aj O (A8 En O (GX _ _)) (Ag Al 1 [] O (Aw ?_))))))))));refine BR (α:=Nat×Tm×NS×List Nat) (fun(i,z,S2,MUy)=>⟨94,mk [(1,.p (.addr m)),(2,.p (I d)),(6,.ptr b6 0),(7,.ptr b7 0),(76,.p (.lst (LA MUx args))),(77,.p (I (args.length:Nat))),(78,.p (I (i:Int)))],(.box b7 ((BA z).map .p):: .box b6 [.p (I 0),.p (I 0),.p (.str ⟨#[]⟩),.p (.nils),.p (.nils)]:: .box m [.p (.lst []),.p (I S2.left),.p (I S2.nodes)]::GG xq m MUy MUy S2.objs),[]⟩) (fun(i,z,S2,MUy)=>args.length - i) (fun(i,z,S2,MUy)=>i≤args.length∧(MUy.length=S2.objs.length∧(∃w,MUy=w++MUx)∧OA (LH (Fx n) n) d (args.drop i) z S2= .ok (t,s'))) ⟨0,(.mk hk 0 ⟨#[]⟩ [] ys),S,MUx⟩ (⟨by omega,hli,⟨[],rfl⟩,by rw[List.drop_zero,←hts,←hs1];exact hqa⟩) ?_ ?_
  ·exact BM ⟨we O,we O,we O,we O,we O,we O,we O,Af⟩ (Od [1,2,3] [_,_,_,_] (l':=[_,_,_]) O (wl (oe O) (wl (oe O) (wl (oe O) (Cv)))))
  rintro⟨i,z,S2,MUy⟩ hC1
  try simp only at hC1
  obtain⟨hi,⟨hlj,⟨w2,hwf2⟩,hqi⟩⟩:=hC1;refine Ah Al 1 [] O (Ai (Ak O (fun c4=>?_) (fun c4=>?_)))
  ·(try simp only[sd,se] at c4);refine An (Ai (Aw (Ao ?_)));obtain⟨x,hx⟩:=Av (l:=args) (i:=i) Ad;refine Aj O (As En O O Ad (MP hx) O) (Ag Al 2 [] O (Ao ?_));obtain⟨hn3,hn4,hn5,hn6,y,sy,hq1,hq2⟩:=Nc (by rw[←B3 hx];exact hqi);refine Aq Al 2 [] O (Aj O (CI [2] O (.inl ⟨O,O,O⟩) (PX m S2.left S2.nodes d hn3 hn4 hn5 hn6) ⟨_,_,O,O,O⟩ Ac O (.inl O)) (Bb O (Bt (fun k=>Nat.beq k 4) EY (BE Al 4 [0] O (FG [] O O (Cb O O (List.perm_append_comm (l₁:=[_,_])) (by have h9:=O4 n hQ m MUy { S2 with nodes:=S2.nodes+1 } sy y x d hlj hq1;rw[hwf2,Eo (hawS x (List.mem_of_getElem? hx)),←hwf2] at h9;exact h9) (Kx)) AZ (S6 (s:={ S2 with nodes:=S2.nodes+1 }) hlj (Mo hq1) _) (NX _) ?_)))));rintro _ _ ⟨_,⟨_,hl1,⟨w,rfl⟩,rfl,rfl⟩,rfl⟩;refine⟨(.box b7 ((BA z).map .p):: .box b6 [.p (I 0),.p (I 0),.p (.str ⟨#[]⟩),.p (.nils),.p (.nils)]:: .box m [.p (.lst []),.p (I sy.left),.p (I sy.nodes)]::GG xq m (w++MUy) (w++MUy) sy.objs),List.perm_append_comm,AB,Af,?_⟩;refine A7 O (fun _=>BZ (rows:=A1 [y]) BI Bh O O O O (CL (Bu _)) (Dm _)) Af (A7 O (fun _=>A0 O O (Jz z [y] (by simp only[Ci,List.length_cons,List.length_nil];decide)) O) Af (Bl Al 1 [0,1] O (Ap (Ag Al 2 [] O ?_))));refine⟨⟨i+1,(apply z [y]),sy,(w++MUy)⟩,AN,⟨by omega,⟨by assumption,⟨_,by rw[hwf2,←List.append_assoc]⟩,hq2⟩⟩,BM ⟨we rfl,we rfl,we rfl,we rfl,we rfl,we rfl,we rfl,trivial⟩ (Od [0,1,2] [_,_,_] (l':=[_,_,_]) rfl (wl (oe rfl) (wl (oe rfl) (wl (oe rfl) (Cv)))))⟩
  (try simp only[sd,se] at c4);obtain⟨e1,e2⟩:=Pe (by have:=hqi;rwa [List.drop_eq_nil_of_le Ad] at this);refine BQ (Ah Al 2 [0,1,1] O (Am ?_));exact⟨O,_,_,⟨_,_,O,(BD (i:=1) Be O O AW),O⟩,(Cu [] [_,_] O),⟨_,(by rw[e2];exact hlj),⟨w2++w,by rw[hwf2,hwe,List.append_assoc]⟩,(by rw[e1]),(by rw[e2];rfl)⟩⟩
 (try simp only[sd,se] at c1);exfalso;omega
theorem VT:∀n,QC n
 | 0=>fun m mu s s' t a d hl h=>(by cases h)
 | n+1=>fun m mu s s' t a d hl h=>W2 n (VT n) m mu s s' t a d hl h
theorem UU:∀(bo be:Nat) (co ce:List AV),CX Tryz.prog 32 [.ptr bo 0,.ptr be 0] (.ret) [.box bo co,.box be ce] (fun H'=>H'=[.box bo co,.box be ce]):=by
 intro bo be co ce;refine D2 (ty2:=0) Tryz.func32 O c8 (n:=16) O O O O O O (Ao (Ba O (Aj O (Dj Qs O O O) (Bb O ?_))));refine Ak O (fun c=>by cases c) (fun c=>?_);exact An ⟨.inl O,O,_,(Ca (is:=[0,1]) O),O⟩
theorem Py:∀(n:Nat) (t z:Tm) (s2:NS),S8 n t= .ok (z,s2)→Dp Tryz.prog 12 [.p (.lst []),TV t] (.tup [TV z,.p (I 0)]):=by
 intro n t z s2 h;obtain⟨⟨v,s1⟩,h1,h2⟩:=E4 h;obtain⟨_,a,e⟩:=O0 h2;simp only at e;subst e;refine Cr Tryz.func12 O ck (n:=16) O O (Ao (A6 O (BF O) fun b3=>A6 O (Ax Bh O) fun b4=>A6 O (Ax Sl O) fun b5=>Bb O (Ao (Aj O (CU O O) (Hk O O O O (Bb O (Ao (Aq Al 2 [] O (A6 O (BF O) fun m=>Ag Al 1 [] O (Ao (FK (List.perm_append_comm (l₁:=[_]) (l₂:=[_,_,_])) (Aq Al 2 [2] O (GI O O (Cb O O (List.perm_append_comm (l₁:=[_,_,_])) ((MA n m [] ⟨[],20000,0⟩ s1 (.st a) O).1 t none h1) (Kx)) (FL _) ?_)))))))))))));rintro _ _ ⟨_,⟨_,hl,⟨w,rfl⟩,rfl,rfl⟩,rfl⟩;refine⟨(.box b5 [.p (I 0)]:: .box b4 [.p (I 0),.p (I 0),.p (.str ⟨#[]⟩),.p (.nils),.p (.nils)]:: .box b3 ((BA t).map .p):: .box m [.p (.lst []),.p (I s1.left),.p (I s1.nodes)]::GG xq m (w++[]) (w++[]) s1.objs),List.perm_append_comm,?_⟩;refine Ba O (GI O O (Fi O O AZ (List.perm_append_comm (l₁:=[_,_,_])) (VT n m (w++[]) s1 s2 z a 0 hl h2) (Kx)) (NX _) ?_);rintro _ _ ⟨_,⟨_,hl1,⟨w1,rfl⟩,rfl,rfl⟩,rfl⟩;refine⟨(.box b5 [.p (I 0)]:: .box b4 [.p (I 0),.p (I 0),.p (.str ⟨#[]⟩),.p (.nils),.p (.nils)]:: .box b3 ((BA t).map .p):: .box m [.p (.lst []),.p (I s2.left),.p (I s2.nodes)]::GG xq m (w1++(w++[])) (w1++(w++[])) s2.objs),List.perm_append_comm,?_⟩;refine Ag Al 2 [1,1,0,0] O (Am (⟨_,_,_,O,CF (is:=[1,0]) Ac ⟨_,_,O,O,⟨_,_,O,O,O⟩⟩,CX.eq (UU b4 b5 _ _) ?_⟩));refine⟨_,_,⟨_,_,O,(BD (i:=0) Be O O AW),⟨_,_,O,(Dq (i:=1) Mi O O),O⟩⟩,(List.nil_sublist _),?_⟩
 all_goals exact⟨rfl,rfl⟩
theorem CS:∀(k:Int) (l:List Tm),Dp Tryz.prog 24 [.p (I k),.p (.lst (A1 l))] (.agg ((BA (.mk k 0 ⟨#[]⟩ [] l)).map .p)):=by
 intro k l;refine Ar Tryz.func24 O cP (n:=8) O O (Ao (A6 O (Ax Bh O) fun b4=>Bb O (Ah Al 4 [0,0] O (BO (By (i:=0) O) (Am (⟨O,_,_,⟨_,_,O,(BD (i:=0) Be O O O),O⟩,(List.nil_sublist _),?_⟩))))))
 all_goals exact⟨rfl,rfl⟩
theorem C2:∀(i:Int),Dp Tryz.prog 25 [.p (I i)] (.agg ((BA (.mk 0 i ⟨#[]⟩ [] [])).map .p)):=by
 intro i;refine Ar Tryz.func25 O bg (n:=5) O O (Ao (A6 O (Ax Bh O) fun b2=>Bb O (Ah Al 3 [0,0] O (BO (By (i:=0) O) (Am (⟨O,_,_,⟨_,_,O,(BD (i:=0) Be O O O),O⟩,(List.nil_sublist _),?_⟩))))))
 all_goals exact⟨rfl,rfl⟩
theorem ZH (t:Tm) (h:t=Zr):Dp Tryz.prog 12 [.p (.lst []),TV t] (.tup [TV (DT (Bm 5) (Bm 3)),.p (I 0)]):=by
 obtain⟨s,e⟩:=SI;rw[h];exact Py 20 _ _ _ e
theorem ZA (t:Tm) (h:t=dY):Dp Tryz.prog 12 [.p (.lst []),TV t] (.tup [TV (.mk 9 0 ⟨#[]⟩ [] [Bm 2]),.p (I 0)]):=by
 obtain⟨s,e⟩:=SV;rw[h];exact Py 20 _ _ _ e
theorem Zj (t:Tm) (h:t=Zr):Dp Tryz.prog 15 [.p (.lst []),TV t] (.p (.bool false)):=h▸Pt 9 _ _ UK
theorem YO (t:Tm) (h:t=Z0):Dp Tryz.prog 15 [.p (.lst []),TV t] (.p (.bool true)):=h▸Pt 9 _ _ Tv
theorem R4 (t r:Tm) (h1:P5 t=true) (h2:Zs t=true) (h3:size t≤1000000) (h4:Dh t=r):Dp Tryz.prog 18 [TV t] (TV r):=by
 obtain⟨a,b,c⟩:=GZ t h1;have:=OQ _ t (Nat.le_refl _) a b (TL t h2) h3
 rwa [h4] at this
theorem YX (t:Tm) (h:t=bE):Dp Tryz.prog 18 [TV t] (TV (Bm 3)):=by subst h;exact R4 _ _ rfl rfl Ac RH
theorem Zf (t:Tm) (h:t=aW):Dp Tryz.prog 18 [TV t] (TV (.mk 5 0 ⟨#[]⟩ [] [CP,DT (Bm 0) (Bm 0)])):=by subst h;exact R4 _ _ rfl rfl Ac Qh
theorem ZC (t:Tm) (h:t=bL):Dp Tryz.prog 18 [TV t] (TV (Bm 1)):=by subst h;exact R4 _ _ rfl rfl Ac Qi
theorem GY (a b:Tm) (h1:Nd a) (h2:a=b):Dp Tryz.prog 14 [TV a,TV b] (.p (.bool true)):=by
 have:=Rp (size a) a b (Nat.le_refl _) h1
 rwa [Cl h2] at this
set_option maxHeartbeats 4000000 in
theorem Nq:Dp Tryz.prog 11 [] (.p (.bool true)):=by
 refine Ar Tryz.func11 O cw (n:=117) O O (Ai (E8 (M:=⟨117,mk [],[],[]⟩) (DK Af (List.Sublist.refl _)) (Ap (Ag Al 1 [] O (Ai (E8 (M:=⟨117,mk [],[],[]⟩) (DK Af (List.Sublist.refl _)) (Ap (Aj O (D7 HE Bh O) (A6 O (Ax Bh O) fun b1=>Ag Al 1 [0,0] O (Ai (E8 (M:=⟨117,mk [(1,.ptr b1 0)],[.box b1 [.p (I 3),.p (I 0),.p (.str ⟨#[65]⟩),.p (.nils),.p (.nils)]],[]⟩) (DK ⟨O,Af⟩ (List.Sublist.refl _)) ?_)))))))))));refine Ja [.val (.agg [.p (I 3),.p (I 0),.p (.str ⟨#[65]⟩),.p (.nils),.p (.nils)]),.val (.agg [.p (I 0),.p (I 0),.p (.str ⟨#[]⟩),.p (.lst (List.map B0 [])),.p (.lst (A1 []))]),.val (.p (.lst (A1 ([(.mk 3 0 ⟨#[65]⟩ [] []:Tm),(.mk 0 0 ⟨#[]⟩ [] []:Tm)])))),.val (.agg ((BA (.mk 5 0 ⟨#[]⟩ [] ([(.mk 3 0 ⟨#[65]⟩ [] []:Tm),(.mk 0 0 ⟨#[]⟩ [] []:Tm)]))).map .p)),.new [.p (I 0),.p (I 0),.p (.str ⟨#[]⟩),.p (.nils),.p (.nils)]] EY O AZ AZ (B9 O (fun Bs=>Bf (i:=Bs.length+0) Be O (M0 O) O) (B9 O (fun Bs=>A0 O O (C2 0) O) (B9 O (fun Bs=>Bi BI Bh O O O O O) (B9 O (fun Bs=>A0 O O (CS 5 ([(.mk 3 0 ⟨#[65]⟩ [] []:Tm),(.mk 0 0 ⟨#[]⟩ [] []:Tm)])) O) (MU O (fun Bs=>Ax Bh O) fun b2=>Mh ?_)))))
 change AL _ _ _ 5 ⟨117,_,[.box b2 [.p (I 0),.p (I 0),.p (.str ⟨#[]⟩),.p (.nils),.p (.nils)],.box b1 [.p (I 3),.p (I 0),.p (.str ⟨#[65]⟩),.p (.nils),.p (.nils)]],[]⟩ _
 refine Ag Al 1 [0,1] O (Ai (E8 (M:=⟨117,mk [(1,.ptr b1 0),(2,.ptr b2 0)],[.box b2 ((BA (.mk 5 0 ⟨#[]⟩ [] ([(.mk 3 0 ⟨#[65]⟩ [] []:Tm),(.mk 0 0 ⟨#[]⟩ [] []:Tm)]))).map .p),.box b1 [.p (I 3),.p (I 0),.p (.str ⟨#[65]⟩),.p (.nils),.p (.nils)]],[]⟩) (DK ⟨O,O,Af⟩ (List.Sublist.refl _)) (Bt (fun k=>Nat.beq k 11) EY (A7 O (fun _=>A0 O O (C2 5) O) Af (BE Al 1 [0] O (A7 O (fun _=>A0 O O (C2 3) O) Af (A7 O (fun _=>BZ (rows:=A1 ([(.mk 5 0 ⟨#[]⟩ [] ([(.mk 3 0 ⟨#[65]⟩ [] []:Tm),(.mk 0 0 ⟨#[]⟩ [] []:Tm)])),(.mk 0 3 ⟨#[]⟩ [] [])])) BI Bh O O O O (CL (Bu _)) (Dm _)) Af (A7 O (fun _=>A0 O O (CS 4 ([(.mk 5 0 ⟨#[]⟩ [] ([(.mk 3 0 ⟨#[65]⟩ [] []:Tm),(.mk 0 0 ⟨#[]⟩ [] []:Tm)])),(.mk 0 3 ⟨#[]⟩ [] [])])) O) Af ?_))))))));refine A7 O (fun _=>BZ (rows:=A1 ([(.mk 0 5 ⟨#[]⟩ [] []),(.mk 4 0 ⟨#[]⟩ [] ([(.mk 5 0 ⟨#[]⟩ [] ([(.mk 3 0 ⟨#[65]⟩ [] []:Tm),(.mk 0 0 ⟨#[]⟩ [] []:Tm)])),(.mk 0 3 ⟨#[]⟩ [] [])]))])) BI Bh O O O O (CL (Bu _)) (Dm _)) Af (A7 O (fun _=>A0 O O (CS 4 ([(.mk 0 5 ⟨#[]⟩ [] []),(.mk 4 0 ⟨#[]⟩ [] ([(.mk 5 0 ⟨#[]⟩ [] ([(.mk 3 0 ⟨#[65]⟩ [] []:Tm),(.mk 0 0 ⟨#[]⟩ [] []:Tm)])),(.mk 0 3 ⟨#[]⟩ [] [])]))])) O) Af (A7 O (fun _=>GJ O O (ZH (.mk 4 0 ⟨#[]⟩ [] ([(.mk 0 5 ⟨#[]⟩ [] []),(.mk 4 0 ⟨#[]⟩ [] ([(.mk 5 0 ⟨#[]⟩ [] ([(.mk 3 0 ⟨#[65]⟩ [] []:Tm),(.mk 0 0 ⟨#[]⟩ [] []:Tm)])),(.mk 0 3 ⟨#[]⟩ [] [])]))])) O) (aw (Dl O) (aw (we O) (Gy)))) Af (BE Al 3 [] O (Jy [] O O (Ax Bh O) AZ fun b3=>⟨AB,Af,?_⟩))));refine Bl Al 2 [0,1] O (Ai (E8 (M:=⟨117,mk [(1,.ptr b1 0),(2,.ptr b2 0),(3,.ptr b3 0),(4,.p (I 0))],[.box b3 ((BA (DT (Bm 5) (Bm 3))).map .p),.box b2 ((BA (.mk 5 0 ⟨#[]⟩ [] ([(.mk 3 0 ⟨#[65]⟩ [] []:Tm),(.mk 0 0 ⟨#[]⟩ [] []:Tm)]))).map .p),.box b1 [.p (I 3),.p (I 0),.p (.str ⟨#[65]⟩),.p (.nils),.p (.nils)]],[]⟩) (DK ⟨O,O,O,O,Af⟩ (List.Sublist.refl _)) (Bt (fun k=>Nat.beq k 10) EY (BE Al 1 [1] O (A7 O (fun _=>A0 O O (C2 2) O) Af (A7 O (fun _=>BZ (rows:=A1 ([(.mk 5 0 ⟨#[]⟩ [] ([(.mk 3 0 ⟨#[65]⟩ [] []:Tm),(.mk 0 0 ⟨#[]⟩ [] []:Tm)])),(.mk 0 2 ⟨#[]⟩ [] [])])) BI Bh O O O O (CL (Bu _)) (Dm _)) Af (A7 O (fun _=>A0 O O (CS 4 ([(.mk 5 0 ⟨#[]⟩ [] ([(.mk 3 0 ⟨#[65]⟩ [] []:Tm),(.mk 0 0 ⟨#[]⟩ [] []:Tm)])),(.mk 0 2 ⟨#[]⟩ [] [])])) O) Af ?_)))))))
 refine A7 O (fun _=>BZ (rows:=A1 ([(.mk 4 0 ⟨#[]⟩ [] ([(.mk 5 0 ⟨#[]⟩ [] ([(.mk 3 0 ⟨#[65]⟩ [] []:Tm),(.mk 0 0 ⟨#[]⟩ [] []:Tm)])),(.mk 0 2 ⟨#[]⟩ [] [])]))])) BI Bh O O O O (CL (Bu _)) (Dm _)) Af (A7 O (fun _=>A0 O O (CS 9 ([(.mk 4 0 ⟨#[]⟩ [] ([(.mk 5 0 ⟨#[]⟩ [] ([(.mk 3 0 ⟨#[65]⟩ [] []:Tm),(.mk 0 0 ⟨#[]⟩ [] []:Tm)])),(.mk 0 2 ⟨#[]⟩ [] [])]))])) O) Af (A7 O (fun _=>GJ O O (ZA (.mk 9 0 ⟨#[]⟩ [] ([(.mk 4 0 ⟨#[]⟩ [] ([(.mk 5 0 ⟨#[]⟩ [] ([(.mk 3 0 ⟨#[65]⟩ [] []:Tm),(.mk 0 0 ⟨#[]⟩ [] []:Tm)])),(.mk 0 2 ⟨#[]⟩ [] [])]))])) O) (aw (Dl O) (aw (we O) (Gy)))) Af (BE Al 3 [] O (Jy [] O O (Ax Bh O) AZ fun b5=>⟨AB,Af,?_⟩))));refine Bl Al 2 [0,1] O (Ai (E8 (M:=⟨117,mk [(1,.ptr b1 0),(2,.ptr b2 0),(3,.ptr b3 0),(4,.p (I 0)),(5,.ptr b5 0),(6,.p (I 0))],[.box b5 ((BA (.mk 9 0 ⟨#[]⟩ [] [Bm 2])).map .p),.box b3 ((BA (DT (Bm 5) (Bm 3))).map .p),.box b2 ((BA (.mk 5 0 ⟨#[]⟩ [] ([(.mk 3 0 ⟨#[65]⟩ [] []:Tm),(.mk 0 0 ⟨#[]⟩ [] []:Tm)]))).map .p),.box b1 [.p (I 3),.p (I 0),.p (.str ⟨#[65]⟩),.p (.nils),.p (.nils)]],[]⟩) (DK ⟨O,O,O,O,O,O,Af⟩ (List.Sublist.refl _)) ?_));refine Ja [.val (.agg [.p (I 3),.p (I 0),.p (.str ⟨#[65]⟩),.p (.nils),.p (.nils)]),.val (.agg ((BA (.mk 0 4 ⟨#[]⟩ [] [])).map .p)),.val (.agg ((BA (.mk 0 0 ⟨#[]⟩ [] [])).map .p)),.val (.p (.lst (A1 ([(.mk 0 4 ⟨#[]⟩ [] []),(.mk 0 0 ⟨#[]⟩ [] [])])))),.val (.agg [.p (I 4),.p (I 0),.p (.str ⟨#[]⟩),.p (.lst (List.map B0 [])),.p (.lst (A1 ([(.mk 0 4 ⟨#[]⟩ [] []),(.mk 0 0 ⟨#[]⟩ [] [])])))]),.val (.p (.lst (A1 ([(.mk 3 0 ⟨#[65]⟩ [] []:Tm),(.mk 4 0 ⟨#[]⟩ [] ([(.mk 0 4 ⟨#[]⟩ [] []),(.mk 0 0 ⟨#[]⟩ [] [])]):Tm)])))),.val (.agg ((BA (.mk 5 0 ⟨#[]⟩ [] ([(.mk 3 0 ⟨#[65]⟩ [] []:Tm),(.mk 4 0 ⟨#[]⟩ [] ([(.mk 0 4 ⟨#[]⟩ [] []),(.mk 0 0 ⟨#[]⟩ [] [])]):Tm)]))).map .p)),.val (.agg ((BA (Bm 3)).map .p)),.new [.p (I 0),.p (I 0),.p (.str ⟨#[]⟩),.p (.nils),.p (.nils)]] EY O AZ AZ (B9 O (fun Bs=>Bf (i:=Bs.length+3) Be O (M0 O) O) ?_)
 refine B9 O (fun Bs=>A0 O O (C2 4) O) (B9 O (fun Bs=>A0 O O (C2 0) O) (B9 O (fun Bs=>BZ (rows:=A1 ([(.mk 0 4 ⟨#[]⟩ [] []),(.mk 0 0 ⟨#[]⟩ [] [])])) BI Bh O O O O (CL (Bu _)) (Dm _)) (B9 O (fun Bs=>A0 O O (CS 4 ([(.mk 0 4 ⟨#[]⟩ [] []),(.mk 0 0 ⟨#[]⟩ [] [])])) O) (B9 O (fun Bs=>Bi BI Bh O O O O O) (B9 O (fun Bs=>A0 O O (CS 5 ([(.mk 3 0 ⟨#[65]⟩ [] []:Tm),(.mk 4 0 ⟨#[]⟩ [] ([(.mk 0 4 ⟨#[]⟩ [] []),(.mk 0 0 ⟨#[]⟩ [] [])]):Tm)])) O) (B9 O (fun Bs=>A0 O O (YX (.mk 5 0 ⟨#[]⟩ [] ([(.mk 3 0 ⟨#[65]⟩ [] []:Tm),(.mk 4 0 ⟨#[]⟩ [] ([(.mk 0 4 ⟨#[]⟩ [] []),(.mk 0 0 ⟨#[]⟩ [] [])]):Tm)])) O) O) (MU O (fun Bs=>Ax Bh O) fun b7=>Mh ?_)))))))
 change AL _ _ _ 9 ⟨117,_,[.box b7 [.p (I 0),.p (I 0),.p (.str ⟨#[]⟩),.p (.nils),.p (.nils)],.box b5 ((BA (.mk 9 0 ⟨#[]⟩ [] [Bm 2])).map .p),.box b3 ((BA (DT (Bm 5) (Bm 3))).map .p),.box b2 ((BA (.mk 5 0 ⟨#[]⟩ [] ([(.mk 3 0 ⟨#[65]⟩ [] []:Tm),(.mk 0 0 ⟨#[]⟩ [] []:Tm)]))).map .p),.box b1 [.p (I 3),.p (I 0),.p (.str ⟨#[65]⟩),.p (.nils),.p (.nils)]],[]⟩ _
 refine Ag Al 1 [0,1] O (Ai (E8 (M:=⟨117,mk [(1,.ptr b1 0),(2,.ptr b2 0),(3,.ptr b3 0),(4,.p (I 0)),(5,.ptr b5 0),(6,.p (I 0)),(7,.ptr b7 0)],[.box b7 ((BA (Bm 3)).map .p),.box b5 ((BA (.mk 9 0 ⟨#[]⟩ [] [Bm 2])).map .p),.box b3 ((BA (DT (Bm 5) (Bm 3))).map .p),.box b2 ((BA (.mk 5 0 ⟨#[]⟩ [] ([(.mk 3 0 ⟨#[65]⟩ [] []:Tm),(.mk 0 0 ⟨#[]⟩ [] []:Tm)]))).map .p),.box b1 [.p (I 3),.p (I 0),.p (.str ⟨#[65]⟩),.p (.nils),.p (.nils)]],[]⟩) (DK ⟨O,O,O,O,O,O,O,Af⟩ (List.Sublist.refl _)) ?_));refine Ja [.val (.agg [.p (I 3),.p (I 0),.p (.str ⟨#[65]⟩),.p (.nils),.p (.nils)]),.val (.agg ((BA (.mk 0 0 ⟨#[]⟩ [] [])).map .p)),.val (.agg ((BA (.mk 0 0 ⟨#[]⟩ [] [])).map .p)),.val (.p (.lst (A1 ([(.mk 0 0 ⟨#[]⟩ [] []),(.mk 0 0 ⟨#[]⟩ [] [])])))),.val (.agg [.p (I 4),.p (I 0),.p (.str ⟨#[]⟩),.p (.lst (List.map B0 [])),.p (.lst (A1 ([(.mk 0 0 ⟨#[]⟩ [] []),(.mk 0 0 ⟨#[]⟩ [] [])])))]),.val (.p (.lst (A1 ([(.mk 3 0 ⟨#[65]⟩ [] []:Tm),(.mk 4 0 ⟨#[]⟩ [] ([(.mk 0 0 ⟨#[]⟩ [] []),(.mk 0 0 ⟨#[]⟩ [] [])]):Tm)])))),.val (.agg ((BA (.mk 5 0 ⟨#[]⟩ [] ([(.mk 3 0 ⟨#[65]⟩ [] []:Tm),(.mk 4 0 ⟨#[]⟩ [] ([(.mk 0 0 ⟨#[]⟩ [] []),(.mk 0 0 ⟨#[]⟩ [] [])]):Tm)]))).map .p)),.val (.agg ((BA (.mk 5 0 ⟨#[]⟩ [] [CP,DT (Bm 0) (Bm 0)])).map .p)),.new [.p (I 0),.p (I 0),.p (.str ⟨#[]⟩),.p (.nils),.p (.nils)]] EY O AZ AZ ?_;refine B9 O (fun Bs=>Bf (i:=Bs.length+4) Be O (M0 O) O) (B9 O (fun Bs=>A0 O O (C2 0) O) (B9 O (fun Bs=>A0 O O (C2 0) O) (B9 O (fun Bs=>BZ (rows:=A1 ([(.mk 0 0 ⟨#[]⟩ [] []),(.mk 0 0 ⟨#[]⟩ [] [])])) BI Bh O O O O (CL (Bu _)) (Dm _)) (B9 O (fun Bs=>A0 O O (CS 4 ([(.mk 0 0 ⟨#[]⟩ [] []),(.mk 0 0 ⟨#[]⟩ [] [])])) O) (B9 O (fun Bs=>Bi BI Bh O O O O O) (B9 O (fun Bs=>A0 O O (CS 5 ([(.mk 3 0 ⟨#[65]⟩ [] []:Tm),(.mk 4 0 ⟨#[]⟩ [] ([(.mk 0 0 ⟨#[]⟩ [] []),(.mk 0 0 ⟨#[]⟩ [] [])]):Tm)])) O) (B9 O (fun Bs=>A0 O O (Zf (.mk 5 0 ⟨#[]⟩ [] ([(.mk 3 0 ⟨#[65]⟩ [] []:Tm),(.mk 4 0 ⟨#[]⟩ [] ([(.mk 0 0 ⟨#[]⟩ [] []),(.mk 0 0 ⟨#[]⟩ [] [])]):Tm)])) O) O) (MU O (fun Bs=>Ax Bh O) fun b8=>Mh ?_))))))))
 change AL _ _ _ 9 ⟨117,_,[.box b8 [.p (I 0),.p (I 0),.p (.str ⟨#[]⟩),.p (.nils),.p (.nils)],.box b7 ((BA (Bm 3)).map .p),.box b5 ((BA (.mk 9 0 ⟨#[]⟩ [] [Bm 2])).map .p),.box b3 ((BA (DT (Bm 5) (Bm 3))).map .p),.box b2 ((BA (.mk 5 0 ⟨#[]⟩ [] ([(.mk 3 0 ⟨#[65]⟩ [] []:Tm),(.mk 0 0 ⟨#[]⟩ [] []:Tm)]))).map .p),.box b1 [.p (I 3),.p (I 0),.p (.str ⟨#[65]⟩),.p (.nils),.p (.nils)]],[]⟩ _
 refine Ag Al 1 [0,1] O (Ai (E8 (M:=⟨117,mk [(1,.ptr b1 0),(2,.ptr b2 0),(3,.ptr b3 0),(4,.p (I 0)),(5,.ptr b5 0),(6,.p (I 0)),(7,.ptr b7 0),(8,.ptr b8 0)],[.box b8 ((BA (.mk 5 0 ⟨#[]⟩ [] [CP,DT (Bm 0) (Bm 0)])).map .p),.box b7 ((BA (Bm 3)).map .p),.box b5 ((BA (.mk 9 0 ⟨#[]⟩ [] [Bm 2])).map .p),.box b3 ((BA (DT (Bm 5) (Bm 3))).map .p),.box b2 ((BA (.mk 5 0 ⟨#[]⟩ [] ([(.mk 3 0 ⟨#[65]⟩ [] []:Tm),(.mk 0 0 ⟨#[]⟩ [] []:Tm)]))).map .p),.box b1 [.p (I 3),.p (I 0),.p (.str ⟨#[65]⟩),.p (.nils),.p (.nils)]],[]⟩) (DK ⟨O,O,O,O,O,O,O,O,Af⟩ (List.Sublist.refl _)) ?_));refine Ja [.val (.agg [.p (I 3),.p (I 0),.p (.str ⟨#[65]⟩),.p (.nils),.p (.nils)]),.val (.agg ((BA (.mk 0 1 ⟨#[]⟩ [] [])).map .p)),.val (.p (.lst (A1 ([(.mk 0 1 ⟨#[]⟩ [] [])])))),.val (.agg [.p (I 9),.p (I 0),.p (.str ⟨#[]⟩),.p (.lst (List.map B0 [])),.p (.lst (A1 ([(.mk 0 1 ⟨#[]⟩ [] [])])))]),.val (.agg ((BA (.mk 0 1 ⟨#[]⟩ [] [])).map .p)),.val (.p (.lst (A1 ([(.mk 0 1 ⟨#[]⟩ [] [])])))),.val (.agg [.p (I 10),.p (I 0),.p (.str ⟨#[]⟩),.p (.lst (List.map B0 [])),.p (.lst (A1 ([(.mk 0 1 ⟨#[]⟩ [] [])])))]),.val (.p (.lst (A1 ([(.mk 3 0 ⟨#[65]⟩ [] []:Tm),(.mk 9 0 ⟨#[]⟩ [] ([(.mk 0 1 ⟨#[]⟩ [] [])]):Tm),(.mk 10 0 ⟨#[]⟩ [] ([(.mk 0 1 ⟨#[]⟩ [] [])]):Tm)])))),.val (.agg ((BA (.mk 8 0 ⟨#[]⟩ [] ([(.mk 3 0 ⟨#[65]⟩ [] []:Tm),(.mk 9 0 ⟨#[]⟩ [] ([(.mk 0 1 ⟨#[]⟩ [] [])]):Tm),(.mk 10 0 ⟨#[]⟩ [] ([(.mk 0 1 ⟨#[]⟩ [] [])]):Tm)]))).map .p)),.val (.agg ((BA (Bm 1)).map .p)),.new [.p (I 0),.p (I 0),.p (.str ⟨#[]⟩),.p (.nils),.p (.nils)]] EY O AZ AZ ?_;refine B9 O (fun Bs=>Bf (i:=Bs.length+5) Be O (M0 O) O) (B9 O (fun Bs=>A0 O O (C2 1) O) (B9 O (fun Bs=>BZ (rows:=A1 ([(.mk 0 1 ⟨#[]⟩ [] [])])) BI Bh O O O O (CL (Bu _)) (Dm _)) (B9 O (fun Bs=>A0 O O (CS 9 ([(.mk 0 1 ⟨#[]⟩ [] [])])) O) (B9 O (fun Bs=>A0 O O (C2 1) O) (B9 O (fun Bs=>BZ (rows:=A1 ([(.mk 0 1 ⟨#[]⟩ [] [])])) BI Bh O O O O (CL (Bu _)) (Dm _)) (B9 O (fun Bs=>A0 O O (CS 10 ([(.mk 0 1 ⟨#[]⟩ [] [])])) O) (B9 O (fun Bs=>Bi BI Bh O O O O O) (B9 O (fun Bs=>A0 O O (CS 8 ([(.mk 3 0 ⟨#[65]⟩ [] []:Tm),(.mk 9 0 ⟨#[]⟩ [] ([(.mk 0 1 ⟨#[]⟩ [] [])]):Tm),(.mk 10 0 ⟨#[]⟩ [] ([(.mk 0 1 ⟨#[]⟩ [] [])]):Tm)])) O) ?_))))))))
 refine B9 O (fun Bs=>A0 O O (ZC (.mk 8 0 ⟨#[]⟩ [] ([(.mk 3 0 ⟨#[65]⟩ [] []:Tm),(.mk 9 0 ⟨#[]⟩ [] ([(.mk 0 1 ⟨#[]⟩ [] [])]):Tm),(.mk 10 0 ⟨#[]⟩ [] ([(.mk 0 1 ⟨#[]⟩ [] [])]):Tm)])) O) O) (MU O (fun Bs=>Ax Bh O) fun b9=>Mh ?_)
 change AL _ _ _ 11 ⟨117,_,[.box b9 [.p (I 0),.p (I 0),.p (.str ⟨#[]⟩),.p (.nils),.p (.nils)],.box b8 ((BA (.mk 5 0 ⟨#[]⟩ [] [CP,DT (Bm 0) (Bm 0)])).map .p),.box b7 ((BA (Bm 3)).map .p),.box b5 ((BA (.mk 9 0 ⟨#[]⟩ [] [Bm 2])).map .p),.box b3 ((BA (DT (Bm 5) (Bm 3))).map .p),.box b2 ((BA (.mk 5 0 ⟨#[]⟩ [] ([(.mk 3 0 ⟨#[65]⟩ [] []:Tm),(.mk 0 0 ⟨#[]⟩ [] []:Tm)]))).map .p),.box b1 [.p (I 3),.p (I 0),.p (.str ⟨#[65]⟩),.p (.nils),.p (.nils)]],[]⟩ _
 refine Ag Al 1 [0,1] O (Ai (Ai (E8 (M:=⟨117,mk [(2,.ptr b2 0),(3,.ptr b3 0),(4,.p (I 0)),(5,.ptr b5 0),(6,.p (I 0)),(7,.ptr b7 0),(8,.ptr b8 0),(9,.ptr b9 0)],[.box b9 ((BA (Bm 1)).map .p),.box b8 ((BA (.mk 5 0 ⟨#[]⟩ [] [CP,DT (Bm 0) (Bm 0)])).map .p),.box b7 ((BA (Bm 3)).map .p),.box b5 ((BA (.mk 9 0 ⟨#[]⟩ [] [Bm 2])).map .p),.box b3 ((BA (DT (Bm 5) (Bm 3))).map .p),.box b2 ((BA (.mk 5 0 ⟨#[]⟩ [] ([(.mk 3 0 ⟨#[65]⟩ [] []:Tm),(.mk 0 0 ⟨#[]⟩ [] []:Tm)]))).map .p),.box b1 [.p (I 3),.p (I 0),.p (.str ⟨#[65]⟩),.p (.nils),.p (.nils)]],[]⟩) (DK ⟨O,O,O,O,O,O,O,O,Af⟩ (List.Sublist.refl _)) (Bt (fun k=>false) EY (BE Al 7 [] O (Bj O (fun _=>A0 O O (C2 5) O) Af (BE Al 1 [5] O (Bj O (fun _=>A0 O O (C2 3) O) Af ?_))))))));refine Bj O (fun _=>BZ (rows:=A1 ([(.mk 5 0 ⟨#[]⟩ [] ([(.mk 3 0 ⟨#[65]⟩ [] []:Tm),(.mk 0 0 ⟨#[]⟩ [] []:Tm)])),(.mk 0 3 ⟨#[]⟩ [] [])])) BI Bh O O O O (CL (Bu _)) (Dm _)) Af (Bj O (fun _=>A0 O O (CS 4 ([(.mk 5 0 ⟨#[]⟩ [] ([(.mk 3 0 ⟨#[65]⟩ [] []:Tm),(.mk 0 0 ⟨#[]⟩ [] []:Tm)])),(.mk 0 3 ⟨#[]⟩ [] [])])) O) Af (Bj O (fun _=>BZ (rows:=A1 ([(.mk 0 5 ⟨#[]⟩ [] []),(.mk 4 0 ⟨#[]⟩ [] ([(.mk 5 0 ⟨#[]⟩ [] ([(.mk 3 0 ⟨#[65]⟩ [] []:Tm),(.mk 0 0 ⟨#[]⟩ [] []:Tm)])),(.mk 0 3 ⟨#[]⟩ [] [])]))])) BI Bh O O O O (CL (Bu _)) (Dm _)) Af (Bj O (fun _=>A0 O O (CS 4 ([(.mk 0 5 ⟨#[]⟩ [] []),(.mk 4 0 ⟨#[]⟩ [] ([(.mk 5 0 ⟨#[]⟩ [] ([(.mk 3 0 ⟨#[65]⟩ [] []:Tm),(.mk 0 0 ⟨#[]⟩ [] []:Tm)])),(.mk 0 3 ⟨#[]⟩ [] [])]))])) O) Af ?_)));refine Bj O (fun _=>GJ O O (Zj (.mk 4 0 ⟨#[]⟩ [] ([(.mk 0 5 ⟨#[]⟩ [] []),(.mk 4 0 ⟨#[]⟩ [] ([(.mk 5 0 ⟨#[]⟩ [] ([(.mk 3 0 ⟨#[65]⟩ [] []:Tm),(.mk 0 0 ⟨#[]⟩ [] []:Tm)])),(.mk 0 3 ⟨#[]⟩ [] [])]))])) O) (aw (Dl O) (aw (we O) (Gy)))) Af (BE Al 3 [5] O (Bj O (fun _=>GJ O O (YO (.mk 5 0 ⟨#[]⟩ [] ([(.mk 3 0 ⟨#[65]⟩ [] []:Tm),(.mk 0 0 ⟨#[]⟩ [] []:Tm)])) O) (aw (Dl O) (aw (we O) (Gy)))) Af (Bl Al 2 [] O ?_)));refine Ak O (fun c=>by cases c) (fun c=>?_)
 refine An (Ai (E8 (M:=⟨117,mk [(3,.ptr b3 0),(5,.ptr b5 0),(7,.ptr b7 0),(8,.ptr b8 0),(9,.ptr b9 0)],[.box b9 ((BA (Bm 1)).map .p),.box b8 ((BA (.mk 5 0 ⟨#[]⟩ [] [CP,DT (Bm 0) (Bm 0)])).map .p),.box b7 ((BA (Bm 3)).map .p),.box b5 ((BA (.mk 9 0 ⟨#[]⟩ [] [Bm 2])).map .p),.box b3 ((BA (DT (Bm 5) (Bm 3))).map .p),.box b2 ((BA (.mk 5 0 ⟨#[]⟩ [] ([(.mk 3 0 ⟨#[65]⟩ [] []:Tm),(.mk 0 0 ⟨#[]⟩ [] []:Tm)]))).map .p),.box b1 [.p (I 3),.p (I 0),.p (.str ⟨#[65]⟩),.p (.nils),.p (.nils)]],[]⟩) (DK ⟨O,O,O,O,O,Af⟩ (List.Sublist.refl _)) (Bt (fun k=>false) EY (BE Al 1 [4] O (A7 O (fun _=>A0 O O (C2 5) O) Af (A7 O (fun _=>A0 O O (C2 3) O) Af ?_))))));refine A7 O (fun _=>BZ (rows:=A1 ([(.mk 0 5 ⟨#[]⟩ [] []),(.mk 0 3 ⟨#[]⟩ [] [])])) BI Bh O O O O (CL (Bu _)) (Dm _)) Af (A7 O (fun _=>A0 O O (CS 4 ([(.mk 0 5 ⟨#[]⟩ [] []),(.mk 0 3 ⟨#[]⟩ [] [])])) O) Af (A7 O (fun _=>A0 O O (GY (DT (Bm 5) (Bm 3)) (.mk 4 0 ⟨#[]⟩ [] ([(.mk 0 5 ⟨#[]⟩ [] []),(.mk 0 3 ⟨#[]⟩ [] [])])) (KK O) O) O) Af (BE Al 2 [3] O (Bj O (fun _=>A0 O O (C2 2) O) Af (Bj O (fun _=>BZ (rows:=A1 ([(.mk 0 2 ⟨#[]⟩ [] [])])) BI Bh O O O O (CL (Bu _)) (Dm _)) Af (Bj O (fun _=>A0 O O (CS 9 ([(.mk 0 2 ⟨#[]⟩ [] [])])) O) Af (Bj O (fun _=>A0 O O (GY (.mk 9 0 ⟨#[]⟩ [] [Bm 2]) (.mk 9 0 ⟨#[]⟩ [] ([(.mk 0 2 ⟨#[]⟩ [] [])])) (KK O) O) O) Af (BE Al 3 [2] O ?_))))))));refine Bj O (fun _=>A0 O O (C2 3) O) Af (Bj O (fun _=>A0 O O (GY (Bm 3) (.mk 0 3 ⟨#[]⟩ [] []) (KK O) O) O) Af (BE Al 3 [1] O (Bj O (fun _=>GJ O O (CS 1 []) (aw (we O) (aw (Dl O) (Gy)))) Af (Bj O (fun _=>A0 O O (C2 0) O) Af (Bj O (fun _=>A0 O O (C2 0) O) Af (Bj O (fun _=>BZ (rows:=A1 ([(.mk 0 0 ⟨#[]⟩ [] []),(.mk 0 0 ⟨#[]⟩ [] [])])) BI Bh O O O O (CL (Bu _)) (Dm _)) Af (Bj O (fun _=>A0 O O (CS 4 ([(.mk 0 0 ⟨#[]⟩ [] []),(.mk 0 0 ⟨#[]⟩ [] [])])) O) Af (Bj O (fun _=>BZ (rows:=A1 ([(.mk 1 0 ⟨#[]⟩ [] []),(.mk 4 0 ⟨#[]⟩ [] ([(.mk 0 0 ⟨#[]⟩ [] []),(.mk 0 0 ⟨#[]⟩ [] [])]))])) BI Bh O O O O (CL (Bu _)) (Dm _)) Af ?_))))))))
 refine Bj O (fun _=>A0 O O (CS 5 ([(.mk 1 0 ⟨#[]⟩ [] []),(.mk 4 0 ⟨#[]⟩ [] ([(.mk 0 0 ⟨#[]⟩ [] []),(.mk 0 0 ⟨#[]⟩ [] [])]))])) O) Af (Bj O (fun _=>A0 O O (GY (.mk 5 0 ⟨#[]⟩ [] [CP,DT (Bm 0) (Bm 0)]) (.mk 5 0 ⟨#[]⟩ [] ([(.mk 1 0 ⟨#[]⟩ [] []),(.mk 4 0 ⟨#[]⟩ [] ([(.mk 0 0 ⟨#[]⟩ [] []),(.mk 0 0 ⟨#[]⟩ [] [])]))])) (KK O) O) O) Af (BE Al 3 [0] O (Bj O (fun _=>A0 O O (C2 1) O) Af (Bj O (fun _=>A0 O O (GY (Bm 1) (.mk 0 1 ⟨#[]⟩ [] []) (KK O) O) O) Af (Bl Al 2 [] O (Am (⟨O,_,_,⟨_,_,O,O,O⟩,(List.nil_sublist _),?_⟩)))))))
 all_goals exact⟨rfl,rfl⟩
theorem Nu:∀(t:Tm),(Wd t)→Dp Tryz.prog 5 [.agg ((BA t).map .p)] (.p (.bool true)):=by
 intro t h1;refine Ar Tryz.func5 O eH (n:=21) O O (Ao (A6 O (BF O) fun b1=>Ag Al 1 [] O (Ai (Ai (BL [1] 11 (fun y=>∃b:Bool,y= .p (.bool b)∧(b=false→Vr t)) ?_ ?_)))))
 ·refine Ap (Aj O (Bf (i:=0) Be O O AW) (Aj O (BZ (rows:=A1 [t]) BI Bh O O O O (CL (Bu _)) (Dm _)) (DB O O (Bo O O (BK.args (Ro [t] ⟨h1,Af⟩ (by simp[wide])) (aw (Dl O) (aw (we O) (Gy)))) (.inl O)) ?_)));rintro _ ⟨q,rfl,hq⟩;refine Aq Al 2 [] O (A5 7 O (fun g=>?_) (fun g=>?_))
  ·(try simp only[sd,se] at g);exact Ag Al 4 [] O (⟨O,O,AH,(by refine⟨_,rfl,fun h=>?_⟩;first | (exact absurd h Ac) | exact V0 (hq Aa) (hb (by simpa using h))),⟨O,Af⟩⟩)
  (try simp only[sd,se] at g);refine BP O (Bf (i:=0) Be O O AW) (Fa O O O O (Bo O O (XQ (size t) t (Nat.le_refl _) ((hq Aa).ok t Ae).1) (.inl O)) ?_);rintro _ ⟨b,rfl,hb⟩;exact Ag Al 2 [] O (⟨O,O,AH,(by refine⟨_,rfl,fun h=>?_⟩;first | (exact absurd h Ac) | exact V0 (hq Aa) (hb (by simpa using h))),⟨O,Af⟩⟩)
 rintro _ ⟨r,rfl,hr⟩;refine Ak O (fun c=>?_) (fun c=>?_)
 ·(try simp only[sd,se] at c);refine Ao (Aj O (A0 O O (Nq ) O) (Ag Al 1 [] O (Am (⟨O,_,_,⟨_,_,O,O,O⟩,(List.nil_sublist _),?_⟩))))
  all_goals exact⟨rfl,rfl⟩
 (try simp only[sd,se] at c);have hG:=hr (by simpa using c);refine An (Ai (Bt (fun k=>false) EY (BE Al 1 [0] O (A7 O (fun _=>A0 O O (OQ (size t) t (Nat.le_refl _) hG.nd hG.wt hG.vb (by have:=hG.sz;omega)) O) Af (BE Al 1 [0] O (A7 O (fun _=>A0 O O (Sk (size t) t (Nat.le_refl _) hG.nd hG.wt (by have:=hG.sz;omega)) O) Af (A7 O (fun _=>A0 O O (GY (Dh t) (Dh t) (IU t hG.nd hG.wt).1 O) O) Af (A7 O (fun _=>B8 O) Af (Bj O (fun _=>A0 O O (Nq ) O) Af (Bl Al 2 [] O (Am (⟨O,_,_,⟨_,_,O,O,O⟩,(List.nil_sublist _),?_⟩))))))))))))
 all_goals exact⟨rfl,rfl⟩
end Go.Proofs.YtldfmjoncbjldaaGreat
