/- Part of the proofs: an abstract program logic, plain models and contracts of functions. -/
import Derived.Test.YtboammbpdaoojaaGreatPg
import Derived.Test.YtboammbpdaoojaaGreatPd
import Derived.Test.YtboammbpdaoojaaGreatPe
import Derived.Test.YtboammbpdaoojaaGreatPb
set_option linter.unusedVariables false
set_option linter.unusedSimpArgs false
set_option maxRecDepth 100000
namespace Go.Proofs.YtboammbpdaoojaaGreat
open Go.Abs Go.Eu
theorem Sj:∀(t:E3) (nm:ByteArray),(t.branches.length<2000000)→E4 Tryz.prog 97 [.agg ((C4 t).map .p),.p (.str nm)] (.tup [.agg ((C4 ((Z2 nm t.branches).1)).map .p),.p (.bool ((Z2 nm t.branches).2))]):=by
 intro t nm h1;refine A4 Tryz.func97 O oq (n:=28) O O (Aw (BG O (BO O) fun b2=>BG O (BO O) fun b3=>BG O (A7 Yn O) fun b4=>Ar A0 1 [] O (Aw (Aq O (Ax Fi O O) (Aq O (A2 (i:=2) Lx O O (CL _)) (Aq O (EH O O) (Aq O (CW [1] O (.inl ⟨O,O,O⟩) (kO b3 nm t.branches h1) ⟨_,_,O,O,O⟩ Am O (.inl O)) (Ar A0 1 [] O (Au (Aw (Ay A0 3 [] O (BI 13 O (fun g=>?_) (fun g=>?_)))))))))))))
 ·(try simp only[sd,se] at g);have hbn:=dz (by simpa using g);refine Ar A0 7 [] O ?_;refine Av O (fun c=>?_) (fun c=>by cases c);refine As A0 3 [0,0] O (BN (Bc (i:=0) O) (Az (⟨O,_,_,⟨_,_,O,(BE (i:=0) Kf O O O),⟨_,_,O,O,O⟩⟩,(List.nil_sublist _),?_⟩)))
  all_goals exact⟨by show (.tup [.agg [.p (I 0),.p (I 0),.p (I 0),.p (.str ⟨#[]⟩),.p (.lst []),.p (.lst []),.p (I 0),.p (.lst [])],.p (.bool false)]:AV)=_;rw[bF hbn];rfl,rfl⟩
 (try simp only[sd,se] at g);obtain⟨bx,hbx,hbr⟩:=jo (nm:=nm) (l:=t.branches) (by simpa using g);refine BA O (Ax Fi O O) (BA O (A2 (i:=2) Lx O O (CL _)) (BA O (BT O) (BA O (A5 Kg O O An (Ga hbx) (Dc _)) (BA O (Bz JB O O) (BA O (DH oF O (G0 _)) (Ar A0 1 [] O (Av O (fun c=>?_) (fun c=>?_))))))))
 ·(try simp only[sd,se] at c);refine As A0 3 [0,0] O (BN (Bc (i:=0) O) (Az (⟨O,_,_,⟨_,_,O,(BE (i:=0) Kf O O O),⟨_,_,O,O,O⟩⟩,(List.nil_sublist _),?_⟩)))
  all_goals exact⟨by show (.tup [.agg [.p (I 0),.p (I 0),.p (I 0),.p (.str ⟨#[]⟩),.p (.lst []),.p (.lst []),.p (I 0),.p (.lst [])],.p (.bool false)]:AV)=_;rw[bF (by rw[hbr,if_pos (by simpa using c)])];rfl,rfl⟩
 (try simp only[sd,se] at c);refine A1 (Aw (Aq O (Ax Fi O O) (Aq O (A2 (i:=2) Lx O O (CL _)) (Br O (Aq O (A5 Kg O O An (Ga hbx) (Dc _)) (Aq O (Bz JB O O) (Aq O (DL Kf O (Fp _) (Cy _)) (Ar A0 2 [0,1] O (Az (⟨O,_,_,⟨_,_,O,(BE (i:=0) Kf O O (by simp[Cy])),⟨_,_,O,O,O⟩⟩,(List.nil_sublist _),?_⟩))))))))))
 all_goals exact⟨by show (.tup [.agg ((C4 bx.tree).map .p),.p (.bool true)]:AV)=_;rw[bj (by rw[hbr,if_neg (by simpa using c)])],rfl⟩
def rn (ds:List CC) (n:Nat):Prop:=∀(b:Nat) (t:Tm) (c c2:IV) (r:Tm),DJ ds jF n c t= .ok (r,c2)→Bl Tryz.prog 14 [.p (.lst (List.map Bj ds)),.agg ((BK t).map .p),.ptr b 0] [.box b ((Ys c).map .p)] (G5 (.agg ((BK r).map .p)) [.box b ((Ys c2).map .p)])
end Go.Proofs.YtboammbpdaoojaaGreat
namespace Go.Eu
open Go.Abs
section
variable {E:List CC}{σ:Type}{S:Sys σ}{W:σ→Tm→Out (Tm×σ)}{n:Nat}{h m:Tm}{a:List Tm}{s:σ}{d:CC}{x:Fk}
theorem Y2 {a b:ByteArray}(h:¬a.toList=b.toList):a≠b:=fun e=>h (by rw[e])
theorem dD (hc:((CN E m).2.2.2=false∨¬(CN E m).1.name.toList=d.name.toList)∨(d.recs.rules.length:Int)≤(CN E m).2.1):Et E S d h a m s= .ok (none,s):=by
 cases hk:(CN E m).2.2.2 with
 | false=>exact Sf (PW hk)
 | true =>
  refine XY (Mt hk) ?_;rcases hc with (hc | hc) | hc
  ·rw[hk] at hc;cases hc
  ·exact .inl (Y2 hc)
  exact .inr hc
theorem Zd (hc:((CN E m).2.2.2=true∧(CN E m).1.name.toList=d.name.toList)∧(CN E m).2.1<(d.recs.rules.length:Int)):C8 E m=some ((CN E m).1,(CN E m).2.1,(CN E m).2.2.1)∧¬((CN E m).1.name≠d.name∨(CN E m).2.1≥(d.recs.rules.length:Int))∧0≤(CN E m).2.1:=by
 have h1:=Mt hc.1.1;refine⟨h1,fun h=>?_,(GR h1).lo⟩;rcases h with h | h
 ·exact h (G1 hc.1.2)
 omega
end
theorem Ki {d:CC}(h:DG d):0≤d.fixed∧d.fixed+1+d.ctors.length≤CU d∧CU d≤4000001:=by
 have h1:=Ha h.din h.fx;have h2:=h.fx;have h3:=h.din.cl;unfold CU;omega
section
variable {E:List CC}{σ:Type}{S:Sys σ}{W:σ→Tm→Out (Tm×σ)}{n:Nat}{h m:Tm}{a:List Tm}{s:σ}{d:CC}{x:Fk}
theorem WW {f:Gh}{q:Option (Tm×List Tm)×Tm}(hq:q.1.isSome=false∨S.over s=true):N3 S f h a (q,s)= .ok (none,s):=by
 unfold N3;obtain⟨q1,q2⟩:=q;cases q1 with
 | none=>rfl
 | some bv =>
  obtain⟨b,v⟩:=bv;rcases hq with hq | hq
  ·cases hq
  simp only[hq,if_true]
theorem W6 {f:Gh}{q:Option (Tm×List Tm)×Tm}(hq:q.1.isSome=true) (ho:S.over s=false):N3 S f h a (q,s)=HW S h (N0 q) (SU q) (a.drop f.arity.toNat) s:=by
 unfold N3;obtain⟨q1,q2⟩:=q;cases q1 with
 | none=>cases hq
 | some bv=>obtain⟨b,v⟩:=bv;simp only[ho,Bool.false_eq_true,if_false];rfl
theorem Ue (hE:Lz E):∀(k:Nat) (t:E3) (vs:List Tm) (l:Tm) (s s':σ) (q:Option (Tm×List Tm)×Tm),VO t vs→Dm E S W k t vs l s= .ok (q,s')→okB (N0 q)=true∧(∀v∈SU q,okB v=true)∧(SU q).length≤100000000
 | 0,t,vs,l,s,s',q,hl,h=>by rw[Dm] at h;cases h
 | k+1,t,vs,l,s,s',q,hl,h=>by
  have hnone:∀l',okB (N0 (none,l'))=true∧(∀v∈SU (none,l'),okB v=true)∧(SU (none,l')).length≤100000000:=fun l'=>⟨Ho,fun v hv=>by simp[SU] at hv,Nat.zero_le _⟩;by_cases hk:t.kind=1
  ·by_cases hb:t.var<0∨t.var≥(vs.length:Int)∨S.over s=true
   ·rw[Kl hk hb] at h;cases h;exact hnone _
   have hlt:t.var.toNat<vs.length:=by omega
   rw[NA hk hb (List.getElem?_eq_getElem hlt)] at h;obtain⟨⟨r,s1⟩,h1,h2,h3⟩:=LG h;cases hc:C8 E r with
   | none=>rw[Ik hc] at h3;cases h3;exact hnone _
   | some p =>
    obtain⟨d,j,f⟩:=p;cases hbr:Cl (Ev d j).name t.branches with
    | none=>rw[Kq hc hbr] at h3;cases h3;exact hnone _
    | some t'=>rw[Kr hc hbr] at h3;exact Ue hE k t' _ _ _ _ _ (hl.next hE h2 hc hbr) h3
  rw[Jh hk] at h;cases h;obtain⟨kk,b,v,l2⟩:=t;have:=hl.tok;simp only[Ew] at this;exact⟨this.1,hl.ok,by have:=hl.len;show vs.length≤_;omega⟩
end
theorem iw {l:List Tm}(h:∀v∈l,okB v=true):∀v∈l.reverse,okB v=true:=fun v hv=>h v (List.mem_reverse.1 hv)
theorem Sq {E:List CC}{d:CC}{f:Gh}{a:List Tm}(hE:HE E) (hd:d∈E) (hf:f∈d.funs) (ha:∀x∈a,okB x=true):VO f.tree (a.take f.arity.toNat):=by
 have h1:=hE.g.all d hd;have h2:=h1.fu f hf;have h3:=hE.fu d hd f hf;exact⟨(h1.din.fs f hf).tr,h2.2.2,by rw[List.length_take];omega,fun v hv=>ha v (List.mem_of_mem_take hv)⟩
end Go.Eu
namespace Go.Proofs.YtboammbpdaoojaaGreat
open Go.Abs Go.Eu
end Go.Proofs.YtboammbpdaoojaaGreat
namespace Go.Eu
open Go.Abs
theorem K2 {k i:Int}{n:ByteArray}{l:List CX}{ks:List Tm}(h:okB (.mk k i n l ks)=true):(k=5→ks.length=2)∧(k=11→ks.length=3)∧(k=9∨k=10→ks.length=1)∧(k=8→ks.length=3):=by
 have hw:=(CY.1 h).wt;simp only[Wt] at hw;have h1:=hw.1;unfold arity at h1;refine⟨fun e=>?_,fun e=>?_,fun e=>?_,fun e=>?_⟩
 ·rw[if_pos An] at h1;omega
 ·rw[if_neg An,if_pos An] at h1;omega
 ·rw[if_neg An,if_neg An,if_pos An] at h1;omega
 rw[if_neg An,if_pos An] at h1;omega
section
variable {E:List CC}{σ:Type}{S:Sys σ}{n:Nat}{t:Tm}{s:σ}
theorem iu {q:Option Tm}(h:q.isSome=false):YN E S n t (q,s)= .ok (t,s):=by
 cases q with
 | none=>rfl
 | some x=>cases h
theorem jz {q:Option Tm}(h:q.isSome=true):YN E S n t (q,s)=DJ E S n s (q.getD BZ):=by
 cases q with
 | none=>cases h
 | some x=>rfl
end
structure mU (w:Tm):Prop where
 ok:okB w=true
 nd:Nd w
 sz:size w<549755813888
 len:(A9 w).2.length<549755813888
 head:okB (A9 w).1=true
 args:∀x∈(A9 w).2,okB x=true
 asz:BS (A9 w).2+(A9 w).2.length<size w
theorem XV {w:Tm}(h:okB w=true):mU w:=by
 have h1:=Gx h;have h2:=Ie w;have h3:=size_pos (A9 w).1;exact⟨h,(CY.1 h).nd,h1,by omega,(Jk h).1,(Jk h).2,by omega⟩
end Go.Eu
namespace Go.Proofs.YtboammbpdaoojaaGreat
open Go.Abs Go.Eu
end Go.Proofs.YtboammbpdaoojaaGreat
namespace Go.Eu
open Go.Abs
section
variable {E:List CC}{σ:Type}{S:Sys σ}{R:σ→σ→Prop}
structure iX (S:Sys σ) (R:σ→σ→Prop):Prop where
 rf:∀s,R s s
 tr:∀{a b c},R a b→R b c→R a c
 rs:∀{s t e s'},S.res s t e=some s'→R s s'
variable (h:iX S R)
include h
theorem Lp {α:Type}{s:σ}{x:Tm×Int}{k:Tm→σ→Out (α×σ)}{q:α×σ}(hk:∀t s' q,k t s'= .ok q→R s' q.2) (hq:S.put s x k= .ok q):R s q.2:=by
 unfold Sys.put at hq;split at hq
 ·cases hs:S.res s x.1 x.2 with
  | none=>rw[hs] at hq;cases hq
  | some s'=>rw[hs] at hq;exact h.tr (h.rs hs) (hk _ _ _ hq)
 cases hq
theorem QO {W:σ→Tm→Out (Tm×σ)}(hW:∀s t q,W s t= .ok q→R s q.2):∀(k:Nat) (t:E3) (vs:List Tm) (l:Tm) (s:σ) (q:(Option (Tm×List Tm)×Tm)×σ),Dm E S W k t vs l s= .ok q→R s q.2
 | 0,t,vs,l,s,q,hq=>by rw[Dm] at hq;cases hq
 | k+1,t,vs,l,s,q,hq=>by
  by_cases hk:t.kind=1
  ·by_cases hb:t.var<0∨t.var≥(vs.length:Int)∨S.over s=true
   ·rw[Kl hk hb] at hq;cases hq;exact h.rf _
   have hlt:t.var.toNat<vs.length:=by omega
   rw[NA hk hb (List.getElem?_eq_getElem hlt)] at hq;obtain⟨r,h1,h2,h3⟩:=LG hq;have hr:=hW _ _ _ h1;cases hc:C8 E r.1 with
   | none=>rw[Ik hc] at h3;cases h3;exact hr
   | some p =>
    obtain⟨d,j,f⟩:=p;cases hbr:Cl (Ev d j).name t.branches with
    | none=>rw[Kq hc hbr] at h3;cases h3;exact hr
    | some t'=>rw[Kr hc hbr] at h3;exact h.tr hr (QO hW k t' _ _ _ _ h3)
  rw[Jh hk] at hq;cases hq;exact h.rf _
theorem Z9 {d:CC}{g m:Tm}{a:List Tm}{s:σ}{q:Option Tm×σ}(hq:Et E S d g a m s= .ok q):R s q.2:=by
 unfold Et at hq;split at hq
 ·cases hq;exact h.rf _
 split at hq
 ·cases hq;exact h.rf _
 split at hq
 ·cases hq;exact h.rf _
 exact Lp h (fun t s' q e=>by cases e;exact h.rf _) hq
theorem cE {g b:Tm}{vs rest:List Tm}{s:σ}{q:Option Tm×σ}(hq:HW S g b vs rest s= .ok q):R s q.2:=by
 unfold HW at hq;split at hq
 ·cases hq;exact h.rf _
 split at hq
 ·cases hq
 exact Lp h (fun t s' q e=>by cases e;exact h.rf _) hq
theorem Yo {d:CC}{g:Tm}{a:List Tm}{s:σ}{q:Option Tm×σ}(hq:Ek S d g a s= .ok q):R s q.2:=by
 unfold Ek at hq;split at hq
 ·cases hq;exact h.rf _
 exact Lp h (fun t s' q e=>by cases e;exact h.rf _) hq
theorem R9 {W:σ→Tm→Out (Tm×σ)}(hW:∀s t q,W s t= .ok q→R s q.2) {n:Nat}{g:Tm}{a:List Tm}{s:σ}{q:Option Tm×σ}(hq:Dy E S W n g a s= .ok q):R s q.2:=by
 unfold Dy at hq;split at hq
 ·cases hq;exact h.rf _
 split at hq
 ·exact Yo h hq
 split at hq
 ·unfold PJ at hq;split at hq
  ·cases hq;exact h.rf _
  obtain⟨r,h1,h2,h3⟩:=LG hq;exact h.tr (hW _ _ _ h1) (Z9 h h3)
 split at hq
 ·unfold H4 at hq;split at hq
  ·cases hq;exact h.rf _
  obtain⟨r,h1,h2⟩:=NX hq;have hr:=QO h hW _ _ _ _ _ _ h1;split at h2
  ·cases h2;exact hr
  split at h2
  ·cases h2;exact hr
  exact h.tr hr (cE h h2)
 cases hq;exact h.rf _
theorem UD:∀(n:Nat) (s:σ) (t:Tm) (q:Tm×σ),DJ E S n s t= .ok q→R s q.2
 | 0,s,t,q,hq=>by rw[DJ] at hq;cases hq
 | n+1,s,t,q,hq=>by
  have ih:=UD n;rw[DJ] at hq;split at hq
  ·cases hq
  split at hq
  ·cases hq;exact h.rf _
  split at hq
  ·cases hq
  split at hq
  ·split at hq
   ·cases hq;exact h.rf _
   unfold KT at hq;split at hq
   ·cases hq
   exact Lp h (fun t s' q e=>ih _ _ _ e) hq
  split at hq
  ·unfold PE at hq;split at hq
   ·exact Lp h (fun t s' q e=>ih _ _ _ e) hq
   cases hq
  split at hq
  ·split at hq
   ·cases hq
   obtain⟨r,h1,h2,h3⟩:=LG hq;have hr:=ih _ _ _ h1;split at h3
   ·cases h3;exact hr
   unfold JU at h3;split at h3
   ·cases h3
   exact h.tr hr (Lp h (fun t s' q e=>ih _ _ _ e) h3)
  split at hq
  ·obtain⟨r,h1,h2⟩:=NX hq;have hr:=R9 h ih h1;split at h2
   ·cases h2;exact hr
   exact h.tr hr (ih _ _ _ h2)
  cases hq;exact h.rf _
end
theorem Jf:iX Bo (fun a b=>b≤a∧(0≤a→0≤b)):=by
 refine⟨fun s=>⟨Int.le_refl _,fun h=>h⟩,fun h1 h2=>⟨by omega,fun h=>h2.2 (h1.2 h)⟩,fun h=>?_⟩;simp only[Bo] at h;split at h
 ·cases h
 cases h;omega
theorem PZ {E:List CC}{n:Nat}{s s':Int}{t r:Tm}(h:F8 s) (hq:DJ E Bo n s t= .ok (r,s')):F8 s':=by
 have h1:=UD Jf n s t _ hq;have h2:=h.1;have h3:=h.2;exact⟨h1.2 h2,by have:=h1.1;simp only at this;omega⟩
def Kn (n:Int):Except Int Unit:=if n - 1<0 then .error 0 else .ok ()
def IW (n:Int) (x:Tm×Int):Except Int (Tm×Int):=if n - 1<0∨x.2≠0 then .error 0 else .ok (x.1,n - 1)
theorem kp {n:Int}(h:0≤n - 1):Kn n= .ok ():=by rw[Kn,if_neg An]
theorem nt {n:Int}(h:n - 1<0):Kn n= .error 0:=by rw[Kn,if_pos h]
end Go.Eu
namespace Go.Eu
theorem VA {t:Tm}{vs:List Tm}(ht:okB t=true) (hv:∀v∈vs,okB v=true) (hl:vs.length<549755813888):FU t vs 0=CI t vs 0 :=
 Zo (YJ hv hl) (CY.1 ht).wt (CY.1 ht).vp (by have:=Gx ht;omega)
theorem az {n e:Int}{x:Tm×Int}(h:Kn n= .error e):IW n x= .error e:=by
 unfold Kn at h;split at h
 ·rename_i hn;cases h;rw[IW,if_pos (.inl hn)]
 cases h
theorem me {n:Int}{t:Tm}{vs:List Tm}(hn:0≤n) (ht:okB t=true) (hv:∀v∈vs,okB v=true) (hl:vs.length<549755813888) (he:(FU t vs 0).2≠0):IW n (CI t vs 0)= .error 0:=by
 rw[VA ht hv hl] at he;rw[IW,if_pos (.inr he)]
theorem lY {n:Int}{t:Tm}{vs:List Tm}{u:Unit}(hn:Kn n= .ok u) (ht:okB t=true) (hv:∀v∈vs,okB v=true) (hl:vs.length<549755813888) (he:(FU t vs 0).2=0):IW n (CI t vs 0)= .ok ((FU t vs 0).1,n - 1):=by
 rw[VA ht hv hl] at he ⊢;unfold Kn at hn;split at hn
 ·cases hn
 rw[IW,if_neg An]
end Go.Eu
namespace Go.Eu
open Go.Abs
section
variable {α:Type}{n n2 e:Int}{x:Tm×Int}{z t:Tm}{k:Tm→Int→Out α}{u:Unit}
theorem KR (hs:Bo.put n x k≠ .stuck) (h:IW n x= .ok (z,n2)):Bo.put n x k=k z n2:=by
 rw[(UL hs).2];unfold IW at h;split at h
 ·cases h
 rename_i hn;cases h;rw[if_neg hn]
theorem Jv (hs:Bo.put n x k≠ .stuck) (h:IW n x= .error e):(Bo.put n x k).ex= .error e:=by
 rw[(UL hs).2];unfold IW at h;split at h
 ·rename_i hn;cases h;rw[if_pos hn];rfl
 cases h
theorem l7 (h:Kn n= .ok u):IW n (t,0)= .ok (t,n - 1):=by
 unfold Kn at h;split at h
 ·cases h
 rw[IW,if_neg An]
theorem aG (hs:Bo.put n (t,0) k≠ .stuck) (h:Kn n= .ok u):Bo.put n (t,0) k=k t (n - 1):=KR hs (l7 h)
theorem ax (hs:Bo.put n (t,0) k≠ .stuck) (h:Kn n= .error e):(Bo.put n (t,0) k).ex= .error e:=Jv hs (az h)
end
theorem P6 {n n2:Int}{x:Tm×Int}{z:Tm}(h:F8 n) (hp:IW n x= .ok (z,n2)):F8 n2∧z=x.1:=by
 have h1:=h.1;have h2:=h.2;unfold IW at hp;split at hp
 ·cases hp
 cases hp;exact⟨⟨by omega,by omega⟩,rfl⟩
section
variable {E:List CC}{g m:Tm}{a:List Tm}{s e:Int}{d:CC}{u:Unit}
theorem ca (hs:Ek Bo d g a s≠ .stuck) (he:(By d.value g.levels).2=0) (hn:Kn s= .ok u):Ek Bo d g a s= .ok (some (apply (By d.value g.levels).1 a),s - 1):=by
 rw[Qs he] at hs ⊢;exact aG hs hn
theorem bO (hs:Ek Bo d g a s≠ .stuck) (he:(By d.value g.levels).2=0) (hn:Kn s= .error e):(Ek Bo d g a s).ex= .error e:=by
 rw[Qs he] at hs ⊢;exact ax hs hn
theorem ep {c:CC}{j:Int}{f:List Tm}{r:Tm}(hs:Et E Bo d g a m s≠ .stuck) (hc:C8 E m=some (c,j,f)) (hn:¬(c.name≠d.name∨j≥(d.recs.rules.length:Int))) (hr:d.recs.rules[j.toNat]?=some r) (he:(By r g.levels).2=0) (hk:Kn s= .ok u) :
  Et E Bo d g a m s= .ok (some (apply (apply (apply (By r g.levels).1 (a.take (d.fixed+1+d.ctors.length).toNat)) f) (a.drop (CU d+1).toNat)),s - 1):=by
 rw[TD hc hn hr he] at hs ⊢;exact aG hs hk
theorem gu {c:CC}{j:Int}{f:List Tm}{r:Tm}(hs:Et E Bo d g a m s≠ .stuck) (hc:C8 E m=some (c,j,f)) (hn:¬(c.name≠d.name∨j≥(d.recs.rules.length:Int))) (hr:d.recs.rules[j.toNat]?=some r) (he:(By r g.levels).2=0) (hk:Kn s= .error e) :
  (Et E Bo d g a m s).ex= .error e:=by
 rw[TD hc hn hr he] at hs ⊢;exact ax hs hk
end
theorem R6 {E:List CC}{n k:Nat}{s s':Int}{t:E3}{vs:List Tm}{l:Tm}{q:Option (Tm×List Tm)×Tm}(h:F8 s) (hq:Dm E Bo (DJ E Bo n) k t vs l s= .ok (q,s')):F8 s':=by
 have h1:=QO Jf (fun s t q=>UD Jf n s t q) k t vs l s _ hq;have h2:=h.1;have h3:=h.2;exact⟨h1.2 h2,by have:=h1.1;simp only at this;omega⟩
theorem WX {E:List CC}{n:Nat}{s s':Int}{g:Tm}{a:List Tm}{q:Option Tm}(h:F8 s) (hq:Dy E Bo (DJ E Bo n) n g a s= .ok (q,s')):F8 s':=by
 have h1:=R9 Jf (fun s t q=>UD Jf n s t q) hq;have h2:=h.1;have h3:=h.2;exact⟨h1.2 h2,by have:=h1.1;simp only at this;omega⟩
end Go.Eu
namespace Go.Eu
theorem iS {l:List Tm}{x:Tm}(h:l[0]?=some x):l.take 1=[x]:=by
 cases l with
 | nil=>simp at h
 | cons a l=>simp at h;subst h;rfl
theorem ok_one {x:Tm}(h:okB x=true):∀v∈[x],okB v=true:=fun v hv=>by rw[List.mem_singleton.1 hv];exact h
theorem I5 {x:Tm}:[x].length<549755813888:=by simp
end Go.Eu
namespace Go.Proofs.YtboammbpdaoojaaGreat
open Go.Abs Go.Eu
theorem Xf:∀(fid:Nat) (caps:List AV),Bl Tryz.prog 159 [.fn (.func fid) [] caps] [] (hY (fun b=> .agg [.fn (.func 176) [] [.ptr b 0]]) [.fn (.func fid) [] caps]):=by
 intro fid caps;refine A4 Tryz.func159 O l8 (n:=5) O O (Aw (BG O (BO O) fun b1=>BG O (A7 mh O) fun b2=>Bf O (As A0 3 [0,0] O (Az (⟨O,_,_,⟨_,_,O,(BE (i:=0) l6 O O O),O⟩,(CH (is:=[1]) O),?_⟩)))));exact⟨_,O,O⟩
theorem VD:∀(rep:Tm→Int→Except Int Tm) (fid:Nat) (caps:List AV) (T:List BD) (hr:∀(t:Tm) (d:Int),Nd t→Vp t→t.kind=0→0≤d→d<De→Bl Tryz.prog fid ([TV t,.p (I d)]++caps) T (J5 (fun(r:Tm)=>TV r) (fun e=> .p (.iface 223 (I e))) (fun r H'=>H'=T) (rep t d))) (bR:Nat) (s:Unit) (t:Tm) (d:Int),Nd t→Vp t→0≤d→d<De→Bl Tryz.prog 176 [TV t,.p (I d),.ptr bR 0] (.box bR [.fn (.func fid) [] caps]::T) (J5 (fun(r:(Tm×Bool)×Unit)=> .tup [TV r.1.1,.p (.bool r.1.2)]) (fun e=> .p (.iface 223 (I e))) (fun r H'=>H'= .box bR [.fn (.func fid) [] caps]::T) (JQ rep s t d)):=by
 intro rep fid caps T hr bR s t d h1 h2 h3 h4;refine A4 Tryz.func176 O lf (n:=16) O O (Aw (BG O (BO O) fun b3=>BG O (A7 Bw O) fun b5=>Ar A0 1 [] O (Au (Aw (Aq O (Ax Gi O O) ?_)))));obtain⟨tk,ti,tn,tl,ts⟩:=t;refine Ar A0 2 [1] O (Av O (fun c=>?_) (fun c=>?_))
 ·(try simp only[sd,se] at c);refine Aw (Ay A0 3 [2,1] O (ig [_,_,_] O O O (.inr O) (hr (.mk tk ti tn tl ts) d h1 h2 c h3 h4) (DD _) ?_ ?_))
  rotate_left
  ·intro e _ he;exact⟨O,_,List.nil_sublist _,⟨_,Nb c he,O⟩⟩
  rintro z _ hz rfl;refine Ar A0 2 [0,1] O (Az (⟨O,_,_,⟨_,_,O,(BE (i:=0) BQ O O Ag),⟨_,_,O,O,O⟩⟩,(GG [2] [_,_,_] O),?_⟩));exact⟨⟨⟨z,true⟩,()⟩,Lm c hz,O,O⟩
 (try simp only[sd,se] at c);refine A1 (Aw (Aq O (BP (i:=1) BQ O O O) (Aq O (BF O O (P1 (.mk tk ti tn tl ts:Tm) h1) O) (Ar A0 2 [0,1] O (Az (⟨O,_,_,⟨_,_,O,(BE (i:=0) BQ O O Ag),⟨_,_,O,O,O⟩⟩,(GG [2] [_,_,_] O),?_⟩))))));exact⟨⟨⟨.mk tk ti tn tl [],false⟩,()⟩,No c,O,O⟩
theorem Yz:∀(t:Tm) (d:Int) (bf bb:Nat) (fr b:Int),(Nd t)→(Vp t)→(t.kind=0)→(0≤d)→(d<De)→(-4611686018427387904≤b∧b≤4611686018427387904)→(-2305843009213693952≤fr∧fr≤2305843009213693952)→Bl Tryz.prog 177 [.agg ((BK t).map .p),.p (I d),.ptr bf 0,.ptr bb 0] [.box bf [.p (I fr)],.box bb [.p (I b)]] (J5 (fun(r:Tm)=>TV r) (fun e=> .p (.iface 223 (I e))) (fun r H'=>H'=[.box bf [.p (I fr)],.box bb [.p (I b)]]) (Xd b fr t d)):=by
 intro t d bf bb fr b h1 h2 h3 h4 h5 h6 h7;obtain⟨tk,ti,tn,tl,ts⟩:=t;have hi:=h2.1 h3;simp only[De] at h5;refine A4 Tryz.func177 O nJ (n:=32) O O (Aw (BG O (BO O) fun b4=>BG O (A7 Bw O) fun b6=>Bf O (As A0 5 [1] O (Au (As A0 3 [2] O (Av O (fun c=>?_) (fun c=>?_)))))))
 ·(try simp only[sd,se] at c);refine Aw (Aq O (BP (i:=1) BQ O O O) (Aq O (BF O O (P1 (.mk tk ti tn tl ts:Tm) h1) O) (Ar A0 1 [0,1] O (Az (⟨O,_,_,⟨_,_,O,(BE (i:=0) BQ O O Ag),O⟩,(CH (is:=[2,3]) O),?_⟩)))));exact⟨(.mk tk ti tn tl []),Xk c,O,O⟩
 (try simp only[sd,se] at c);refine A1 (Au (Au (BU [3,4,6] 25 (fun y=>y= .p (.bool ((decide ((b:Int)<(0:Int)))&&(decide (((ti:Int) - (d:Int):Int)<((fr:Int) - (b:Int):Int)))))) ?_ ?_)))
 ·refine A3 (Ay A0 3 [3] O (BI 19 O (fun g=>?_) (fun g=>?_)))
  ·(try simp only[sd,se] at g);exact Ar A0 6 [2,3] O (⟨O,O,AJ,AH,⟨O,O,O,Ap⟩⟩)
  (try simp only[sd,se] at g);exact Ar A0 6 [] O (⟨O,O,AJ,AH,⟨O,O,O,Ap⟩⟩)
 rintro _ rfl;refine Av O (fun c1=>?_) (fun c1=>?_)
 ·(try simp only[sd,se] at c1);exact A3 (NM O O O (.inl ⟨O,O,O⟩) (Po 24) (aw (we O) (Eg)) (⟨O,_,List.nil_sublist _,⟨_,gM An An An,O⟩⟩))
 (try simp only[sd,se] at c1);refine A1 (Aw (Ay A0 4 [1,3] O (DX [] O O O (.inl ⟨O,O,O⟩) (VS ((ti:Int)+(b:Int))) O Am (aw (we O) (Eg)) (fun _ _ h=>(congrArg List.length h).trans O) ?_ ?_)))
 rotate_left
 ·intro e _ he;exact⟨O,_,List.nil_sublist _,⟨_,by rw[Ws An An,he],rfl⟩⟩
 rintro z _ hz rfl;refine Ar A0 1 [0,1] O (Az (⟨O,_,_,⟨_,_,O,(BE (i:=0) BQ O O Ag),O⟩,(CH (is:=[2,3]) O),?_⟩));exact⟨z,by rw[Ws An An,hz],rfl,rfl⟩
theorem _root_.Go.AM {α:Prop}(h:α:=by repeat' first | exact trivial | rfl | refine And.intro ?_ ?_):α:=h
theorem V7:∀(t:Tm) (b fr:Int),(Nd t)→(Vp t)→(size t<De)→(-4611686018427387904≤b∧b≤4611686018427387904)→(-2305843009213693952≤fr∧fr≤2305843009213693952)→Bl Tryz.prog 161 [.agg ((BK t).map .p),.p (I b),.p (I fr)] [] (J5 (fun(r:Tm)=>TV r) (fun e=> .p (.iface 223 (I e))) (fun r H'=>H'=[]) (KG b fr t)):=by
 intro t b fr h1 h2 h3 h4 h5;refine A4 Tryz.func161 O ll (n:=11) O O (Aw (BG O (BO O) fun b3=>BG O (BO O) fun b4=>BG O (BO O) fun b5=>BG O (A7 Bw O) fun b6=>Bf O (Au (B6 (fun k=>Nat.beq k 1||Nat.beq k 3) EO (BL O (fun _=>EH O O) Ap (X0 [(2,.read [.box b3 ((BK t).map .p)] (.agg ((BK t).map .p)))] O O O (.inl ⟨O,O,O⟩) (Xf 177 [.ptr b5 0,.ptr b4 0]) (.inl O) Aj fun bn=>⟨AB,Ap,?_⟩))))));refine Bb A0 1 [4] O ?_;refine N8 [0,2,3] O O O (.inl ⟨O,O,O⟩) (NU (JQ (Xd b fr)) (fun _ T=>T=[.box bn [.fn (.func 177) [] [.ptr b5 0,.ptr b4 0]],.box b5 [.p (I fr)],.box b4 [.p (I b)]]) 176 [.ptr bn 0] (fun s t d T hn hp h0 hb hT=>by subst hT;exact VD (Xd b fr) 177 [.ptr b5 0,.ptr b4 0] _ (fun t d g1 g2 g3 g4 g5=>Yz t d b5 b4 fr b g1 g2 g3 g4 g5 h4 h5) bn s t d hn hp h0 hb) _ t 0 () _ (Nat.le_refl _) h1 h2 An An rfl) ⟨_,_,rfl,rfl,⟨_,_,rfl,rfl,⟨_,_,rfl,rfl,rfl⟩⟩⟩ Am (DD _) (fun _ _ h=>(congrArg List.length h).trans rfl) Aj Aj rfl AB ?_ ?_
 rotate_left
 ·intro e he _ _ hτ;exact⟨O,_,List.nil_sublist _,⟨_,OJ he,O⟩⟩
 rintro⟨z,_⟩ _ hz rfl;refine⟨AB,AM,?_⟩;refine B4 A0 1 [1,1] O (Az (⟨O,_,_,⟨_,_,O,(BE (i:=1) BQ O O Ag),O⟩,(List.nil_sublist _),?_⟩));exact⟨z,Qi hz,O,O⟩
theorem Rt:∀(bo be:Nat) (co ce:List AV),EM Tryz.prog 153 [.ptr bo 0,.ptr be 0] (.ret) [.box bo co,.box be ce] (fun H'=>H'=[.box bo co,.box be ce]):=by
 intro bo be co ce;refine HJ (ty2:=0) Tryz.func153 O iO (n:=9) O O O O O O (Aw (Br O (Aq O (Gd Ze O O O) (Bf O ?_))));refine Av O (fun c=>by cases c) (fun c=>?_);exact A1 ⟨.inl O,O,_,(CH (is:=[0,1]) O),O⟩
theorem Sx:∀(bo be:Nat) (e:Int),EM Tryz.prog 153 [.ptr bo 0,.ptr be 0] (.pan (.p (.iface 223 (I e)))) [.box bo [.p (I 0),.p (I 0),.p (.str ⟨#[]⟩),.p (.nils),.p (.nils)],.box be [.p (I 0)]] (fun H'=>H'=[.box bo [.p (I 0),.p (I 0),.p (.str ⟨#[]⟩),.p (.lst []),.p (.lst [])],.box be [.p (I e)]]):=by
 intro bo be e;refine HJ (ty2:=0) Tryz.func153 O iO (n:=9) O O O O O O (Aw (Br O (Aq O (Gd Ze O O O) (CD (Bc (i:=0) O) (Bf O ?_)))));refine Av O (fun c=>?_) (fun c=>by cases c);exact A3 (Ay A0 2 [] O (Aq O (BF O O (SV _) O) (Ay A0 2 [0,0,1,0] O (CD (Bc (i:=0) O) (Bf O ⟨.inl O,O,_,(CH (is:=[0,1]) O),O⟩)))))
theorem Sv:∀(t:Tm) (d:Int) (bd bv:Nat) (dp:Int) (vs:List Tm),Bl Tryz.prog 155 [.agg ((BK t).map .p),.p (I d),.ptr bd 0,.ptr bv 0] [.box bd [.p (I dp)],.box bv [.p (.lst (BC vs))]] (G5 (.p (I (Ig vs dp t.index d))) [.box bd [.p (I dp)],.box bv [.p (.lst (BC vs))]]):=by
 intro t d bd bv dp vs;obtain⟨tk,ti,tn,tl,ts⟩:=t;refine A4 Tryz.func155 O m9 (n:=23) O O (Aw (BG O (BO O) fun b4=>Ar A0 1 [] O (Au (Aw (Ay A0 3 [0] O (Aq O (IY O O) (Aq O (B0 (i:=1) Df O O O) (Aq O (IY O O) (Ar A0 1 [] O (Au (BU [7] 21 (fun y=>y= .p (.bool ((decide ((wr ((wr ((ti:Int) - (d:Int)):Int) - (dp:Int)):Int)≥(0:Int)))&&(decide ((wr ((wr ((ti:Int) - (d:Int)):Int) - (dp:Int)):Int)<((vs.length:Nat):Int)))))) ?_ ?_)))))))))))
 ·refine A3 (Ay A0 3 [] O (BI 16 O (fun g=>?_) (fun g=>?_)))
  ·(try simp only[sd,se] at g);exact Ay A0 2 [2] O (BA O (BM Bg O (BR _)) (Ar A0 2 [] O (⟨O,O,AJ,AH,⟨O,Ap⟩⟩)))
  (try simp only[sd,se] at g);exact Ar A0 5 [] O (⟨O,O,AJ,AH,⟨O,Ap⟩⟩)
 rintro _ rfl;refine Av O (fun c=>?_) (fun c=>?_)
 ·(try simp only[sd,se] at c);refine As A0 2 [] O (Az (⟨O,_,_,⟨_,_,O,O,O⟩,(CH (is:=[1,2]) O),?_⟩))
  all_goals exact⟨pI (dS An An).symm,rfl⟩
 (try simp only[sd,se] at c);refine A1 (As A0 1 [] O (Az (⟨O,_,_,⟨_,_,O,O,O⟩,(CH (is:=[1,2]) O),?_⟩)))
 all_goals exact⟨pI (gw (ti:=ti) An).symm,rfl⟩
theorem Zz:∀(t:Tm) (d:Int) (bv bc bs bd bvs cb:Nat) (dp n:Int) (vs:List Tm) (sz:List Int),(sz.length=vs.length)→Bl Tryz.prog 156 [.agg ((BK t).map .p),.p (I d),.ptr bv 0,.ptr bc 0,.ptr bs 0] [.box bv [.fn (.func 155) [] [.ptr bd 0,.ptr bvs 0]],.box bc [.ptr cb 0],.box bs [.p (.lst (List.map F5 sz))],.box bd [.p (I dp)],.box bvs [.p (.lst (BC vs))],.box cb [.p (I n)]] (J5 (fun(r:(Tm×Bool)×Int)=> .tup [TV r.1.1,.p (.bool r.1.2)]) (fun e=> .p (.iface 223 (I e))) (fun r H'=>H'=[.box bv [.fn (.func 155) [] [.ptr bd 0,.ptr bvs 0]],.box bc [.ptr cb 0],.box bs [.p (.lst (List.map F5 sz))],.box bd [.p (I dp)],.box bvs [.p (.lst (BC vs))],.box cb [.p (I r.2)]]) (Pq vs sz dp n t d)):=by
 intro t d bv bc bs bd bvs cb dp n vs sz h1;obtain⟨tk,ti,tn,tl,ts⟩:=t;refine A4 Tryz.func156 O ma (n:=33) O O (Aw (BG O (BO O) fun b5=>BG O (A7 Bw O) fun b7=>Ar A0 1 [] O (Au (Aw (Ay A0 3 [2,1] O (Aq O (CW [5,6] O (.inr O) (Sv (.mk tk ti tn tl ts:Tm) d bd bvs dp vs) ⟨_,_,O,O,⟨_,_,O,O,O⟩⟩ Am O (.inl O)) (Ar A0 1 [] O (Au (BU [3,4,5,7,9] 20 (fun y=>y= .p (.bool (((tk:Int)==(0:Int))&&(decide ((Ig vs dp (.mk tk ti tn tl ts:Tm).index d:Int)≥(0:Int)))))) ?_ ?_)))))))))
 ·refine A3 (Ay A0 4 [1] O (BI 17 O (fun g=>?_) (fun g=>?_)))
  ·(try simp only[sd,se] at g);exact Ar A0 3 [] O (⟨O,O,AJ,AH,⟨O,O,O,O,O,Ap⟩⟩)
  (try simp only[sd,se] at g);exact Ar A0 3 [] O (⟨O,O,AJ,AH,⟨O,O,O,O,O,Ap⟩⟩)
 rintro _ rfl;refine Av O (fun c=>?_) (fun c=>?_)
 ·(try simp only[sd,se] at c);have hvl:=UF (vs:=vs) (dp:=dp) (ti:=(Tm.mk tk ti tn tl ts).index) (d:=d) c.2;refine B6 (fun k=>Nat.beq k 5) EO (Bb A0 3 [3,4] O ?_);obtain⟨x,hx⟩:=A6 (l:=sz) (i:=(Ig vs dp (.mk tk ti tn tl ts:Tm).index d:Int).toNat) An;refine BL O (fun _=>A5 G8 O O An (LH hx) (O)) Ap (BL O (fun _=>El Df O) Ap (N8 [7] O O O (.inl ⟨O,O,O⟩) (aZ cb n x) ⟨_,_,O,O,O⟩ Am (aw (we O) (aw (we O) (Eg))) (fun _ _ h=>(congrArg List.length h).trans O) Aj Aj O AB ?_ ?_))
  rotate_left
  ·intro e he _ _ hτ;exact⟨O,_,List.nil_sublist _,⟨_,Ni (Pz c hx) he,O⟩⟩
  rintro r _ hz rfl;refine⟨AB,Ap,?_⟩;refine IX O Aj (Au (B6 (fun k=>false) EO (B4 A0 6 [1,0,0] O (BN (Bc (i:=0) O) (Az (⟨O,_,_,⟨_,_,O,(BE (i:=0) BQ O O O),⟨_,_,O,O,O⟩⟩,(CH (is:=[2,3,4,5,6,7]) O),?_⟩))))));exact⟨⟨⟨BZ,decide (tk=0)⟩,r⟩,PN (Pz c hx) hz,O,O⟩
 (try simp only[sd,se] at c);refine A3 (Aq O (B0 (i:=3) mN O O O) (DX [7] O O O (.inl ⟨O,O,O⟩) (aZ cb n 1) ⟨_,_,O,O,O⟩ Am (aw (we O) (aw (we O) (Eg))) (fun _ _ h=>(congrArg List.length h).trans O) ?_ ?_))
 rotate_left
 ·intro e _ he;exact⟨O,_,List.nil_sublist _,⟨_,Ni (Pl (by simp_all [Tm.index])) he,O⟩⟩
 rintro r _ hz rfl;refine Bf O (Au (B6 (fun k=>false) EO (B4 A0 6 [1,0,0] O (BN (Bc (i:=0) O) (Az (⟨O,_,_,⟨_,_,O,(BE (i:=0) BQ O O O),⟨_,_,O,O,O⟩⟩,(CH (is:=[2,3,4,5,6,7]) O),?_⟩))))));exact⟨⟨⟨BZ,decide (tk=0)⟩,r⟩,PN (Pl (by simp_all [Tm.index])) hz,O,O⟩
theorem Zh:∀(t:Tm) (d:Int) (bv bvs bd:Nat) (dp:Int) (vs:List Tm),(Nd t)→(Vp t)→(t.kind=0)→(0≤d)→(d<De)→(Ld vs)→(R1 vs)→(∀v∈vs,size v<De)→(0≤dp∧dp≤65536)→(vs.length<De)→Bl Tryz.prog 160 [.agg ((BK t).map .p),.p (I d),.ptr bv 0,.ptr bvs 0,.ptr bd 0] [.box bv [.fn (.func 155) [] [.ptr bd 0,.ptr bvs 0]],.box bvs [.p (.lst (BC vs))],.box bd [.p (I dp)]] (J5 (fun(r:Tm)=>TV r) (fun e=> .p (.iface 223 (I e))) (fun r H'=>H'=[.box bv [.fn (.func 155) [] [.ptr bd 0,.ptr bvs 0]],.box bvs [.p (.lst (BC vs))],.box bd [.p (I dp)]]) (KA vs dp t d)):=by
 intro t d bv bvs bd dp vs h1 h2 h3 h4 h5 h6 h7 h8 h9 h10;obtain⟨tk,ti,tn,tl,ts⟩:=t;have hti:=h2.1 h3;simp only[De] at h5;have hw:wr (dp+d)=dp+d:=Ee (by unfold Ir;omega);refine A4 Tryz.func160 O mq (n:=37) O O (Aw (BG O (BO O) fun b5=>BG O (A7 Bw O) fun b7=>Bf O (Au (Aw (Ay A0 3 [2,1] O (Aq O (CW [4,3] O (.inr O) (Sv (.mk tk ti tn tl ts:Tm) d bd bvs dp vs) ⟨_,_,O,O,⟨_,_,O,O,O⟩⟩ Am O (.inl O)) (Ar A0 1 [] O (As A0 2 [] O (Av O (fun c=>?_) (fun c=>?_))))))))))
 ·(try simp only[sd,se] at c);have hvl:=UF (vs:=vs) (dp:=dp) (ti:=(Tm.mk tk ti tn tl ts).index) (d:=d) c;refine Au (B6 (fun k=>Nat.beq k 7) EO (Bb A0 2 [3] O ?_));obtain⟨x,hx⟩:=A6 (l:=vs) (i:=(Ig vs dp (.mk tk ti tn tl ts:Tm).index d:Int).toNat) An;refine BL O (fun _=>A5 Bg O O An (Bd hx) (BB _)) Ap (Bb A0 3 [4] O (BL O (fun _=>EX O O) Ap (N8 [] O O O (.inl ⟨O,O,O⟩) (V7 x (wr ((dp:Int)+(d:Int))) 0 (DK h6 hx) (LP h7 hx) (h8 x (List.mem_of_getElem? hx)) (by rw[hw];omega) An) O Am (aw (we O) (aw (we O) (aw (we O) (Eg)))) (fun _ _ h=>(congrArg List.length h).trans O) Aj Aj O AB ?_ ?_)))
  rotate_left
  ·intro e he _ _ hτ;exact⟨O,_,List.nil_sublist _,⟨_,(Pv (i:=ti) c hx).trans he,O⟩⟩
  rintro z _ hz rfl;refine⟨AB,Ap,?_⟩;refine B4 A0 1 [0,1] O (Az (⟨O,_,_,⟨_,_,O,(BE (i:=0) BQ O O Ag),O⟩,(CH (is:=[2,3,4]) O),?_⟩));exact⟨z,(Pv (i:=ti) c hx).trans hz,O,O⟩
 (try simp only[sd,se] at c);refine A1 (Au (Aw (Ay A0 3 [1] O (Aq O (IY O O) (Ar A0 2 [4] O (Av O (fun c1=>?_) (fun c1=>?_)))))))
 ·(try simp only[sd,se] at c1);refine Aw (Aq O (BP (i:=1) BQ O O O) (Aq O (BF O O (P1 (.mk tk ti tn tl ts:Tm) h1) O) (Ar A0 1 [0,1] O (Az (⟨O,_,_,⟨_,_,O,(BE (i:=0) BQ O O Ag),O⟩,(CH (is:=[2,3,4]) O),?_⟩)))));exact⟨(.mk tk ti tn tl []),Vi (by simpa [Tm.index] using c) An,O,O⟩
 (try simp only[sd,se] at c1);refine A1 (Aw (Ay A0 3 [1,3] O (Aq O (BM Bg O (BR _)) (Aq O (IY O O) (DX [] O O O (.inl ⟨O,O,O⟩) (VS (wr ((ti:Int) - ((vs.length:Nat):Int)))) O Am (aw (we O) (Eg)) (fun _ _ h=>(congrArg List.length h).trans O) ?_ ?_)))))
 rotate_left
 ·intro e _ he;exact⟨O,_,List.nil_sublist _,⟨_,by rw[Tl (by simpa [Tm.index] using c) An,he],rfl⟩⟩
 rintro z _ hz rfl;refine Ar A0 1 [0,1] O (Az (⟨O,_,_,⟨_,_,O,(BE (i:=0) BQ O O Ag),O⟩,(CH (is:=[2,3,4]) O),?_⟩));exact⟨z,by rw[Tl (by simpa [Tm.index] using c) An,hz],rfl,rfl⟩
theorem _root_.Go.AF {α:Prop}(h:α:=by simp only[List.length_append,List.length_map,List.length_take,List.length_replicate];omega):α:=h
set_option maxHeartbeats 2000000 in
theorem ZR:∀(t:Tm) (vs:List Tm) (dp:Int),(Nd t)→(Vp t)→(size t<1099511627776)→(Ld vs)→(R1 vs)→(∀v∈vs,size v<De)→(0≤dp∧dp≤65536)→(vs.length<De)→E4 Tryz.prog 137 [.agg ((BK t).map .p),.p (.lst (BC vs)),.p (I dp)] (.tup [.agg ((BK ((FU t vs dp).1)).map .p),.p (I ((FU t vs dp).2))]):=by
 intro t vs dp h1 h2 h3 h4 h5 h6 h7 h8;have h8b:=h8;simp only[De] at h8b;refine E2 Tryz.func137 O k0 (n:=49) O O (Aw (BG O (BO O) fun b3=>BG O (BO O) fun b4=>BG O (BO O) fun b5=>BG O (A7 Bw O) fun b6=>BG O (A7 df O) fun b7=>Bf O (Au (As A0 2 [2] O (Av O (fun c=>?_) (fun c=>?_))))))
 ·(try simp only[sd,se] at c);exact absurd c An
 (try simp only[sd,se] at c);refine A1 (Aw (Aq O (EH O O) (Nu O O O O (Bf O (Aw (Aq O (EH O O) (BG O (A7 lH O) fun b8=>Ar A0 1 [0,0] O (Aw (Aq O (B0 (i:=4) GY O O O) (Aq O (BM Bg O (BR _)) (QW O O (LM G8 eM O O Am O O O An An An (jJ (f:=F5) (((vs.length:Nat):Int).toNat) 0)) fun b20 cp=>BG O (A7 nC O) fun b9=>Ar A0 1 [0,0] O (Au (Aw (Aq O (B0 (i:=6) GY O O O) (Aq O (BM Bg O (BR _)) (Ar A0 1 [] O (A8 ?_)))))))))))))))));refine Be (α:=Nat×Option Nat×Nat) (fun(i,o,cp1)=>⟨49,mk [(3,.ptr b3 0),(4,.ptr b4 0),(5,.ptr b5 0),(6,.ptr b6 0),(7,.ptr b7 0),(8,.ptr b8 0),(9,.ptr b9 0),(21,.p (.lst (BC vs))),(22,.p (I (vs.length:Nat))),(23,.p (I (i:Int)))],[.box b9 [.vs o (List.map F5 (((vs.take i).map fun v=>(size v:Int))++List.replicate (vs.length - i) 0)).length cp1],.vec o 1 (List.map F5 (((vs.take i).map fun v=>(size v:Int))++List.replicate (vs.length - i) 0)) cp1,.box b8 [.fn (.func 155) [] [.ptr b5 0,.ptr b4 0]],.box b7 [.p (I 0)],.box b6 [.p (I 0),.p (I 0),.p (.str ⟨#[]⟩),.p (.nils),.p (.nils)],.box b5 [.p (I dp)],.box b4 [.p (.lst (BC vs))],.box b3 ((BK t).map .p)],[.clo (.func 153) [.ptr b6 0,.ptr b7 0]]⟩) (fun(i,o,cp1)=>vs.length - i) (fun(i,o,cp1)=>i≤vs.length) ⟨0,(some b20),cp⟩ AO ?_ ?_
 ·exact BY ⟨we O,we O,we O,we O,we O,we O,we O,we O,we O,we O,Ap⟩ (leH (is:=[0,1,2,3,4,5,6,7]) O (wl (eG (aw (we (G2 (f:=F5) (List.replicate (((vs.length:Nat):Int).toNat) 0) Ao)) (Eg))) (wl (Fl (f:=F5) (List.replicate (((vs.length:Nat):Int).toNat) 0) Ao) (wl (oe O) (wl (oe O) (wl (oe O) (wl (oe O) (wl (oe O) (wl (oe O) (DO))))))))))
 rintro⟨i,o,cp1⟩ hC
 try simp only at hC
 have hi:=hC;refine As A0 1 [] O (Au (Av O (fun c1=>?_) (fun c1=>?_)))
 ·(try simp only[sd,se] at c1);refine A1 (Au (A8 (Aw (Br O ?_))));obtain⟨x,hx⟩:=A6 (l:=vs) (i:=i) An;refine Aq O (A5 Bg O O An (Bd hx) (BB _)) (Aq O (BJ BQ O (BB _)) (BG O (A7 Bw O) fun b11=>Ar A0 2 [0,1] O (Ks (i:=2) O AY fun b hb=>?_)));subst hb;refine B6 (fun k=>false) EO (Bb A0 3 [1,0] O (BL O (fun _=>BF O O (X4 x (DK h4 hx) (by have:=h6 x (List.mem_of_getElem? hx);simp only[De] at this;omega)) O) Ap (BL O (fun _=>Cn G8 O O An AF) Ap (Hu O O (D5 (i:=2) (j:=i) Df O O O AF O O O O (bU (f:=F5) (((vs.take i).map fun v=>(size v:Int))++List.replicate (vs.length - i) 0) i (size x:Nat))) AB Ap (IX O Aj (A3 (Ar A0 2 [] O ?_)))))));refine⟨⟨i+1,(some b),cp1⟩,AT,by omega,BY ⟨we rfl,we rfl,we rfl,we rfl,we rfl,we rfl,we rfl,we rfl,we rfl,we rfl,trivial⟩ (leH (is:=[1,2,3,4,5,6,7,8]) rfl (wl (eG (aw (we (Sm (f:=F5) (((vs.take i).map fun v=>(size v:Int))++List.replicate (vs.length - i) 0) Ai)) (Eg))) (wl (Fl (f:=F5) ((((vs.take i).map fun v=>(size v:Int))++List.replicate (vs.length - i) 0).set i (size x:Nat)) (jA hx)) (wl (oe rfl) (wl (oe rfl) (wl (oe rfl) (wl (oe rfl) (wl (oe rfl) (wl (oe rfl) (DO))))))))))⟩
 (try simp only[sd,se] at c1);refine Bh (Aw ?_);rw[lk (vs:=vs) (i:=i) An];refine CD (Ec (i:=1) (j:=0) (q:=0) [] O O O (Eh Ap)) (Aq O (CJ mB mI O) (BG O (BO O) fun b35=>BG O (A7 mX O) fun b12=>Ar A0 1 [0,0] O (Aw (Ay A0 3 [8] O ?_))));refine DX [3,0,2,6,7,1] O O O (.inl ⟨O,O,O⟩) (NU (Pq vs (vs.map fun v=>(size v:Int)) dp) (fun n T=>T=[.box b8 [.fn (.func 155) [] [.ptr b5 0,.ptr b4 0]],.box b12 [.ptr b35 0],.box b9 [.p (.lst (List.map F5 (vs.map fun v=>(size v:Int))))],.box b5 [.p (I dp)],.box b4 [.p (.lst (BC vs))],.box b35 [.p (I n)]]) 156 [.ptr b8 0,.ptr b12 0,.ptr b9 0] (fun n t d T hn hp h0 hb hT=>by subst hT;exact Zz t d b8 b12 b9 b5 b4 b35 dp n vs (vs.map fun v=>(size v:Int)) Ao) _ t 0 0 _ (Nat.le_refl _) h1 h2 An AZ rfl) ⟨_,_,rfl,rfl,⟨_,_,rfl,rfl,⟨_,_,rfl,rfl,⟨_,_,rfl,rfl,⟨_,_,rfl,rfl,⟨_,_,rfl,rfl,rfl⟩⟩⟩⟩⟩⟩ Am (DD _) (fun _ _ h=>(congrArg List.length h).trans rfl) ?_ ?_
 rotate_left
 ·intro e _ he;refine⟨_,_,_,O,Lo (is:=[1,0]) _ Am ⟨_,_,O,O,⟨_,_,O,O,O⟩⟩,EM.eq (Sx b6 b7 _) ?_⟩;refine⟨_,[],⟨_,_,O,(BE (i:=0) BQ O O O),⟨_,_,O,(GD (i:=1) Rh O O),O⟩⟩,(List.nil_sublist _),?_⟩;rw[IB (Ow he)];exact⟨O,O⟩
 rintro⟨z,n1⟩ _ hz rfl;refine Bf O (Au (B6 (fun k=>Nat.beq k 1||Nat.beq k 3) EO (BL O (fun _=>EH O O) Ap (X0 [(2,.read [.box b3 ((BK t).map .p)] (.agg ((BK t).map .p)))] O O O (.inl ⟨O,O,O⟩) (Xf 160 [.ptr b8 0,.ptr b4 0,.ptr b5 0]) (.inl O) Aj fun bn=>⟨AB,Ap,?_⟩))));refine Bb A0 1 [9] O ?_;refine N8 [0,4,8,7] O O O (.inl ⟨O,O,O⟩) (NU (JQ (KA vs dp)) (fun _ T=>T=[.box bn [.fn (.func 160) [] [.ptr b8 0,.ptr b4 0,.ptr b5 0]],.box b8 [.fn (.func 155) [] [.ptr b5 0,.ptr b4 0]],.box b4 [.p (.lst (BC vs))],.box b5 [.p (I dp)]]) 176 [.ptr bn 0] (fun s t d T hn hp h0 hb hT=>by subst hT;exact VD (KA vs dp) 160 [.ptr b8 0,.ptr b4 0,.ptr b5 0] [.box b8 [.fn (.func 155) [] [.ptr b5 0,.ptr b4 0]],.box b4 [.p (.lst (BC vs))],.box b5 [.p (I dp)]] (fun t d g1 g2 g3 g4 g5=>Zh t d b8 b4 b5 dp vs g1 g2 g3 g4 g5 h4 h5 h6 h7 h8) bn s t d hn hp h0 hb) _ t 0 () _ (Nat.le_refl _) h1 h2 An AZ rfl) ⟨_,_,rfl,rfl,⟨_,_,rfl,rfl,⟨_,_,rfl,rfl,⟨_,_,rfl,rfl,rfl⟩⟩⟩⟩ Am (DD _) (fun _ _ h=>(congrArg List.length h).trans rfl) Aj Aj rfl AB ?_ ?_
 rotate_left
 ·intro e he _ _ hτ;refine⟨_,_,_,O,Lo (is:=[4,3]) _ Am ⟨_,_,O,O,⟨_,_,O,O,O⟩⟩,EM.eq (Sx b6 b7 _) ?_⟩;refine⟨_,[],⟨_,_,O,(BE (i:=0) BQ (hτ 6 (P4 Aj)) O O),⟨_,_,O,(GD (i:=1) Rh (hτ 7 (P4 Aj)) O),O⟩⟩,(List.nil_sublist _),?_⟩;rw[IB (Ox hz he)];exact⟨O,O⟩
 rintro⟨z1,_⟩ _ hz1 rfl;refine⟨AB,AM,?_⟩;refine B4 A0 1 [6,1] O (Au (Aw (Aq O (BP (i:=6) BQ O O Ag) (Aq O (BF O O (Up _ z1 (Nat.le_refl _) (gf h4 h5 h1 h2 hz1)) O) (Ar A0 1 [] O (Av O (fun c2=>?_) (fun c2=>?_)))))))
 ·(try simp only[sd,se] at c2);refine Aw (Aq O (CJ Gi Bw O) ?_);obtain⟨z1k,z1i,z1n,z1l,z1s⟩:=z1;refine Ar A0 2 [6,0,5,0] O (BN (Bc (i:=6) O) (Az (⟨_,_,_,O,DA (is:=[6,5]) Am ⟨_,_,O,O,⟨_,_,O,O,O⟩⟩,EM.eq (Rt b6 b7 _ _) ?_⟩)));refine⟨_,_,⟨_,_,O,(BE (i:=0) BQ O O O),⟨_,_,O,(GD (i:=1) Rh O O),O⟩⟩,(List.nil_sublist _),?_⟩;rw[On (La hz hz1) An]
  all_goals exact⟨rfl,rfl⟩
 (try simp only[sd,se] at c2);refine A1 (As A0 3 [6,6,1,5,0] O (Az (⟨_,_,_,O,DA (is:=[6,5]) Am ⟨_,_,O,O,⟨_,_,O,O,O⟩⟩,EM.eq (Rt b6 b7 _ _) ?_⟩)));refine⟨_,_,⟨_,_,O,(BE (i:=0) BQ O O Ag),⟨_,_,O,(GD (i:=1) Rh O O),O⟩⟩,(List.nil_sublist _),?_⟩;rw[SP (La hz hz1) An]
 all_goals exact⟨rfl,rfl⟩
theorem Ym:∀(t:Tm) (vs:List Tm),(Nd t)→(Vp t)→(size t<1099511627776)→(Ld vs)→(R1 vs)→(∀v∈vs,size v<De)→(vs.length<De)→E4 Tryz.prog 105 [.agg ((BK t).map .p),.p (.lst (BC vs))] (.tup [.agg ((BK ((FU t vs 0).1)).map .p),.p (I ((FU t vs 0).2))]):=by
 intro t vs h1 h2 h3 h4 h5 h6 h7;refine A4 Tryz.func105 O lq (n:=11) O O (Aw (BG O (BO O) fun b2=>BG O (A7 Bw O) fun b4=>Ar A0 1 [] O (Aw (Ay A0 2 [1] O (Aq O (BF O O (ZR t vs 0 h1 h2 h3 h4 h5 h6 An h7) O) (Ar A0 4 [0,1] O (Az (⟨O,_,_,⟨_,_,O,(BE (i:=0) BQ O O Ag),⟨_,_,O,O,O⟩⟩,(List.nil_sublist _),?_⟩))))))))
 all_goals exact⟨rfl,rfl⟩
theorem Mq:∀(m:Nat) (ds:List CC) (n:Int),(F8 n)→Bl Tryz.prog 104 [.ptr m 0] [.box m [.p (.lst (List.map Bj ds)),.p (I n)]] (J5 (fun(r:Unit)=> .tup []) (fun _=> .p (.iface 122 .unit)) (fun r H'=>H'=[.box m [.p (.lst (List.map Bj ds)),.p (I (n - 1))]]) (Kn n)):=by
 intro m ds n h1;have hn:=h1.1;have hn2:=h1.2;refine A4 Tryz.func104 O mi (n:=16) O O (As A0 8 [0,0,0] O (As A0 5 [0] O (Av O (fun c=>?_) (fun c=>?_))))
 ·(try simp only[sd,se] at c);exact A3 (Aq O (CJ cU Xx O) (Aq O (IU Aj O) (NT O O (LZ O) (⟨O,_,List.nil_sublist _,⟨_,nt An,O⟩⟩))))
 (try simp only[sd,se] at c);refine A1 ⟨O,_,_,O,(CH (is:=[0]) O),?_⟩;exact⟨(),kp An,O,O⟩
theorem J4:∀(m:Nat) (ds:List CC) (n:Int) (t:Tm) (vs:List Tm),(F8 n)→(okB t=true)→(∀v∈vs,okB v=true)→(vs.length<549755813888)→Bl Tryz.prog 74 [.ptr m 0,.agg ((BK t).map .p),.p (.lst (BC vs))] [.box m [.p (.lst (List.map Bj ds)),.p (I n)]] (J5 (fun(r:Tm×Int)=>TV r.1) (fun _=> .p (.iface 122 .unit)) (fun r H'=>H'=[.box m [.p (.lst (List.map Bj ds)),.p (I r.2)]]) (IW n (CI t vs 0))):=by
 intro m ds n t vs h1 h2 h3 h4;have hn:=h1.1;have hto:=CY.1 h2;have hts:=hto.sz;have hvo:=GA h3;refine A4 Tryz.func74 O pE (n:=22) O O (Aw (BG O (BO O) fun b4=>BG O (A7 Bw O) fun b6=>Bf O (Aw (Br O (DX [2] O O O (.inl ⟨O,O,O⟩) (Mq m ds n h1) ⟨_,_,O,O,O⟩ Am (aw (we O) (Eg)) (fun _ _ h=>(congrArg List.length h).trans O) ?_ ?_)))))
 rotate_left
 ·intro e _ he;exact⟨O,_,List.nil_sublist _,⟨_,az he,O⟩⟩
 rintro _ _ hz rfl;refine Bf O (Aw (Ay A0 2 [1] O ?_));refine Aq rfl (BF rfl rfl (Ym t vs hto.nd hto.vp An hvo.1 hvo.2.2 (fun v hv=>by have:=Gx (h3 v hv);simp only[De];omega) AZ) rfl) ?_;refine Ay A0 3 [] O (BG O (A7 Bw O) fun b7=>Ar A0 2 [0,1] O (Au (As A0 2 [] O (Av O (fun c=>?_) (fun c=>?_)))))
 ·(try simp only[sd,se] at c);have hce:=c;exact A3 (Aq O (CJ cU Xx O) (Aq O (IU Aj O) (NT O O (LZ O) (⟨O,_,List.nil_sublist _,⟨_,me An h2 h3 h4 hce,O⟩⟩))))
 (try simp only[sd,se] at c);refine A1 (As A0 2 [0,1,1] O (Az (⟨O,_,_,⟨_,_,O,(BE (i:=1) BQ O O Ag),O⟩,(CH (is:=[3]) O),?_⟩)));exact⟨⟨(FU t vs 0).1,n - 1⟩,lY hz h2 h3 h4 c,O,O⟩
theorem Jc:∀(l:List Tm),(l.length<549755813888)→Bl Tryz.prog 95 [.p (.lst (BC l))] [] (fo (fun v=>v) 5 (BC l)):=by
 intro l h1;refine A4 Tryz.func95 O pe (n:=8) O O (As A0 1 [] O (Au (Aw (Br O (DW O O (L6 Bg O O) ?_)))));rintro _ ⟨q,rfl,hq⟩;refine Bf O (Av O (fun c=>?_) (fun c=>?_))
 ·(try simp only[sd,se] at c);refine As A0 1 [] O (BN (Fo (t:=2) (sz:=5) O) (Az (⟨O,_,_,⟨_,_,O,O,O⟩,(CH (is:=[0]) O),?_⟩)));rw[show l=[] from List.length_eq_zero_iff.1 (by rw[←BR,hq c];rfl)]
  all_goals exact⟨_,_,rfl,rfl⟩
 (try simp only[sd,se] at c);refine A1 (Aw (QW O O (Ka Bg) fun b5 cp=>Br O (Ih O O (Cs (i:=0) (rows':=BC l) Bg Bg Bw O O O O O O (Bu _) (by simp only[BR,List.length_nil];omega) (Nl [] l)) fun o cp1=>Ar A0 1 [] O (Az (⟨O,_,_,⟨_,_,O,O,O⟩,(CH (is:=[0]) O),?_⟩)))))
 all_goals exact⟨_,_,rfl,rfl⟩
theorem PO:∀(m:Nat) (ds:List CC) (n:Int) (t:Tm) (vs:List Tm),(F8 n)→(okB t=true)→(∀v∈vs,okB v=true)→(vs.length<549755813888)→Bl Tryz.prog 62 [.ptr m 0,.agg ((BK t).map .p),.p (.lst (BC vs))] [.box m [.p (.lst (List.map Bj ds)),.p (I n)]] (J5 (fun(r:Tm×Int)=>TV r.1) (fun _=> .p (.iface 122 .unit)) (fun r H'=>H'=[.box m [.p (.lst (List.map Bj ds)),.p (I r.2)]]) (IW n (CI t vs.reverse 0))):=by
 intro m ds n t vs h1 h2 h3 h4;refine A4 Tryz.func62 O qO (n:=16) O O (Aw (BG O (BO O) fun b4=>BG O (A7 Bw O) fun b6=>Bf O (Aw (Br O (OE O O O (.inl ⟨O,O,O⟩) (Jc vs h4) (.inl O) fun o cp=>Ar A0 1 [] O (Aw (Br O (Aq O (CW [0] O (.inl ⟨O,O,O⟩) (dq vs o cp AZ) ⟨_,_,O,O,O⟩ Am O (.inl O)) (Bf O (Aw (Ay A0 3 [2] O (CD (Ct (t:=9) (x:= .vs o (BC vs.reverse).length cp) (C5 vs (l':=vs.reverse) Ao)) (CD (Ct (t:=7) (x:= .vs o (BC vs.reverse).length cp) (C5 vs (l':=vs.reverse) Ao)) (CD (Ct (t:=10) (x:= .vs o (BC vs.reverse).length cp) (C5 vs (l':=vs.reverse) Ao)) (CD (Ct (t:=14) (x:= .vs o (BC vs.reverse).length cp) (C5 vs (l':=vs.reverse) Ao)) ?_)))))))))))))));refine CD (Cw (i:=0) [9,7,10,14] O (Eh ⟨O,O,O,O,Ap⟩)) (DX [2] O O O (.inl ⟨O,O,O⟩) (J4 m ds n t vs.reverse h1 h2 (iw h3) (by rw[List.length_reverse];exact h4)) ⟨_,_,O,O,O⟩ Am (aw (we O) (aw (we O) (aw (we O) (Eg)))) (fun _ _ h=>(congrArg List.length h).trans O) ?_ ?_)
 rotate_left
 ·intro e _ he;exact⟨O,_,List.nil_sublist _,⟨_,he,O⟩⟩
 rintro⟨z,n2⟩ _ hz rfl;refine Ar A0 1 [0,1] O (Az (⟨O,_,_,⟨_,_,O,(BE (i:=0) BQ O O Ag),O⟩,(CH (is:=[2]) O),?_⟩));exact⟨⟨z,n2⟩,hz,O,O⟩
theorem UR:∀(m:Nat) (ds:List CC) (s:Int) (x:Fk) (g:Tm) (a:List Tm) (d:CC),(F8 s)→(ds[x.decl.toNat]?=some d)→(0≤x.decl)→(DG d)→(okB g=true)→(a.length<549755813888)→(Ek Bo d g a s≠ .stuck)→Bl Tryz.prog 106 [.ptr m 0,.agg ((Db x).map .p),.agg ((BK g).map .p),.p (.lst (BC a))] [.box m [.p (.lst (List.map Bj ds)),.p (I s)]] (J5 (fun(r:Option Tm×Int)=> .tup [TV (r.1.getD BZ),.p (.bool r.1.isSome)]) (fun _=> .p (.iface 122 .unit)) (fun r H'=>H'=[.box m [.p (.lst (List.map Bj ds)),.p (I r.2)]]) ((Ek Bo d g a s).ex)):=by
 intro m ds s x g a d h1 h2 h3 h4 h5 h6 h7;obtain⟨gk,gi,gn,gl,gs⟩:=g;have hgo:=CY.1 h5;have hgl:=hgo.nd;simp only[Nd,De] at hgl;refine A4 Tryz.func106 O nY (n:=35) O O (Aw (BG O (BO O) fun b5=>BG O (BO O) fun b6=>BG O (A7 Bw O) fun b8=>Ar A0 1 [] O (Au (B6 (fun k=>Nat.beq k 15) EO (Bb A0 5 [3] O (Cc (j:=2) O O O (fun H i hi=>A2 (i:=i) Df O hi (EJ _)) AB Ap (BL O (fun _=>A5 Ic O O An (Ed h2) (Cr _)) Ap (BL O (fun _=>Bz C3 O O) Ap (BL O (fun _=>DL BQ O (FP _) (BB _)) Ap (Bb A0 2 [1] O (BL O (fun _=>BF O O (Lj d.value gl (CY.1 h4.vl).nd (CY.1 h4.vl).vp (by have:=Gx h4.vl;omega) hgl.2.1 hgl.2.2.1) O) Ap (Bb A0 3 [] O (J7 [] O O (A7 Bw O) Aj fun b10=>⟨AB,Ap,?_⟩)))))))))))));refine B4 A0 2 [0,1] O (Au (As A0 2 [] O (Av O (fun c=>?_) (fun c=>?_))))
 ·(try simp only[sd,se] at c);have hce:=c;refine As A0 3 [1,0] O (BN (Bc (i:=1) O) (Az (⟨O,_,_,⟨_,_,O,(BE (i:=1) BQ O O O),⟨_,_,O,O,O⟩⟩,(CH (is:=[4]) O),?_⟩)));exact⟨⟨none,s⟩,C6 (Rz hce),O,O⟩
 (try simp only[sd,se] at c);have hce:=c;refine A1 (Aw (Br O (DX [4] O O O (.inl ⟨O,O,O⟩) (Mq m ds s h1) ⟨_,_,O,O,O⟩ Am (aw (we O) (Eg)) (fun _ _ h=>(congrArg List.length h).trans O) ?_ ?_)))
 rotate_left
 ·intro e _ he;exact⟨O,_,List.nil_sublist _,⟨_,bO h7 hce he,O⟩⟩
 rintro _ _ hz rfl;refine Bf O (Aw (Ay A0 2 [0] O (Aq O (BF O O (Dz ((By d.value gl).1) a AZ) O) (Ar A0 2 [1,1] O (Az (⟨O,_,_,⟨_,_,O,(BE (i:=1) BQ O O Ag),⟨_,_,O,O,O⟩⟩,(CH (is:=[4]) O),?_⟩))))));exact⟨⟨some (apply (By d.value gl).1 a),s - 1⟩,C6 (ca h7 hce hz),O,O⟩
theorem _root_.Go.AQ {α:Prop}(h:α:=by simp only[De,List.length_drop];omega):α:=h
theorem UP:∀(m:Nat) (ds:List CC) (s:Int) (d:CC) (g:Tm) (a:List Tm) (mm:Tm),(F8 s)→(Lz ds)→(DG d)→(okB g=true)→(a.length<549755813888)→(okB mm=true)→(CU d<a.length)→(Et ds Bo d g a mm s≠ .stuck)→Bl Tryz.prog 110 [.ptr m 0,.agg ((Bj d).map .p),.agg ((BK g).map .p),.p (.lst (BC a)),.agg ((BK mm).map .p)] [.box m [.p (.lst (List.map Bj ds)),.p (I s)]] (J5 (fun(r:Option Tm×Int)=> .tup [TV (r.1.getD BZ),.p (.bool r.1.isSome)]) (fun _=> .p (.iface 122 .unit)) (fun r H'=>H'=[.box m [.p (.lst (List.map Bj ds)),.p (I r.2)]]) ((Et ds Bo d g a mm s).ex)):=by
 intro m ds s d g a mm h1 h2 h3 h4 h5 h6 h7 h8;obtain⟨gk,gi,gn,gl,gs⟩:=g;have hgo:=CY.1 h4;have hgl:=hgo.nd;simp only[Nd,De] at hgl;have hnr:=Ki h3;have hcl:=h3.din.cl;have hrl:=h3.din.rl;have hfx:=h3.fx;have hir:=Ha h3.din h3.fx;refine A4 Tryz.func110 O mr (n:=82) O O (Aw (BG O (BO O) fun b6=>BG O (BO O) fun b7=>BG O (BO O) fun b9=>BG O (A7 Bw O) fun b10=>Ar A0 1 [] O (Aw (Ay A0 2 [1] O (Aq O (CW [4] O (.inl ⟨O,O,O⟩) (Pj m ds s mm h2 h6) ⟨_,_,O,O,O⟩ Am O (.inl O)) (Ay A0 5 [] O (BG O (A7 Ml O) fun b12=>Ar A0 4 [0,1] O (Au (Au (BU [0,3,6,7,10,13,14] 42 (fun y=>y= .p (.bool (((!((CN ds mm).2.2.2))||(!((((CN ds mm).1).name).toList==d.name.toList)))||(decide (((CN ds mm).2.1:Int)≥((d.recs.rules.length:Nat):Int)))))) ?_ ?_))))))))))
 ·refine A3 (Ay A0 3 [] O (BI 28 O (fun g1=>?_) (fun g1=>?_)))
  ·(try simp only[sd,se] at g1);exact Ar A0 14 [] O (⟨O,O,AJ,AH,⟨O,O,O,O,O,O,O,Ap⟩⟩)
  (try simp only[sd,se] at g1);refine BA O (Ax C3 O O) (BA O (A2 (i:=0) MR O O (DV _)) (BA O (Ax C3 O O) (BA O (A2 (i:=4) MR O O (DV _)) (BA O (Jg O O) (Ay A0 2 [] O (BI 35 O (fun g2=>?_) (fun g2=>?_)))))))
  ·(try simp only[sd,se] at g2);exact Ar A0 7 [] O (⟨O,O,AJ,AH,⟨O,O,O,O,O,O,O,Ap⟩⟩)
  (try simp only[sd,se] at g2);exact Ay A0 3 [] O (BA O (A2 (i:=4) GY O O (Ch _)) (BA O (BM Bg O (BR _)) (Ar A0 2 [] O (⟨O,O,AJ,AH,⟨O,O,O,O,O,O,O,Ap⟩⟩))))
 rintro _ rfl;refine Av O (fun c=>?_) (fun c=>?_)
 ·(try simp only[sd,se] at c);have hib:=dD (S:=Bo) (h:=(.mk gk gi gn gl gs:Tm)) (a:=a) (s:=s) c;refine As A0 3 [1,0] O (BN (Bc (i:=1) O) (Az (⟨O,_,_,⟨_,_,O,(BE (i:=1) BQ O O O),⟨_,_,O,O,O⟩⟩,(CH (is:=[5]) O),?_⟩)));exact⟨⟨none,s⟩,C6 hib,O,O⟩
 (try simp only[sd,se] at c);obtain⟨hg1,hg2,hg3⟩:=Zd c;have hg4:=c.2;have hfl:=LK h2 hg1;refine A1 (Au (B6 (fun k=>Nat.beq k 12) EO (Bb A0 2 [] O (Cc (j:=4) O O O (fun H i hi=>A2 (i:=i) GY O hi (Ch _)) AB Ap (BL O (fun _=>BT O) Ap ?_)))));obtain⟨x,hx⟩:=A6 (l:=d.recs.rules) (i:=((CN ds mm).2.1:Int).toNat) An;have hro:=h3.ru _ (List.mem_of_getElem? hx);refine BL O (fun _=>A5 Bg O O An (Bd hx) (BB _)) Ap (Bb A0 3 [3] O (BL O (fun _=>BF O O (Lj x gl (CY.1 hro).nd (CY.1 hro).vp (by have:=Gx hro;omega) hgl.2.1 hgl.2.2.1) O) Ap (Bb A0 3 [] O (J7 [] O O (A7 Bw O) Aj fun b16=>⟨AB,Ap,?_⟩))));refine B4 A0 2 [0,1] O (Au (As A0 2 [] O (Av O (fun c1=>?_) (fun c1=>?_))))
 ·(try simp only[sd,se] at c1);have hce:=c1;refine As A0 3 [2,0] O (BN (Bc (i:=2) O) (Az (⟨O,_,_,⟨_,_,O,(BE (i:=2) BQ O O O),⟨_,_,O,O,O⟩⟩,(CH (is:=[6]) O),?_⟩)));exact⟨⟨none,s⟩,C6 (VQ (h:=(.mk gk gi gn gl gs:Tm)) hg1 hg2 hx hce),O,O⟩
 (try simp only[sd,se] at c1);have hce:=c1;refine A1 (Aw (Br O (DX [6] O O O (.inl ⟨O,O,O⟩) (Mq m ds s h1) ⟨_,_,O,O,O⟩ Am (aw (we O) (Eg)) (fun _ _ h=>(congrArg List.length h).trans O) ?_ ?_)))
 rotate_left
 ·intro e _ he;exact⟨O,_,List.nil_sublist _,⟨_,gu (g:=(.mk gk gi gn gl gs:Tm)) h8 hg1 hg2 hx hce he,O⟩⟩
 rintro _ _ hz rfl;refine Bf O (Au (B6 (fun k=>false) EO (Bb A0 3 [0] O (Cc (j:=5) O O O (fun H i hi=>A2 (i:=i) Df O hi (DR _)) AB Ap (Bb A0 2 [] O (Cc (j:=5) O O O (fun H i hi=>A2 (i:=i) IH O hi (CF _)) AB Ap (BL O (fun _=>BM Hh O (List.length_map _)) Ap (BL O (fun _=>NL O O An An) Ap (BL O (fun _=>Co (lo:=0) (hi:=(((d.fixed:Int)+(1:Int):Int)+((d.ctors.length:Nat):Int):Int).toNat) Bg O (CB (Bu _)) O ⟨_,pI An⟩ (Nat.zero_le _) AP (SA a ((((d.fixed:Int)+(1:Int):Int)+((d.ctors.length:Nat):Int):Int).toNat))) Ap (BL O (fun _=>BF O O (Dz ((By x gl).1) (a.take ((((d.fixed:Int)+(1:Int):Int)+((d.ctors.length:Nat):Int):Int).toNat)) (by simp only[De,List.length_take];omega)) O) Ap ?_))))))))));refine B4 A0 1 [0,1] O (Aw (Ay A0 2 [0] O (Aq O (BF O O (Dz (apply ((By x gl).1) (a.take ((((d.fixed:Int)+(1:Int):Int)+((d.ctors.length:Nat):Int):Int).toNat))) ((CN ds mm).2.2.1) AZ) O) (Ar A0 1 [0,1] O (Au (B6 (fun k=>false) EO (Bb A0 3 [0,5] O (BL O (fun _=>BF O O (Nh d h3.din h3.fx) O) Ap (BL O (fun _=>NL O O An An) Ap (BL O (fun _=>Co (lo:=((CU d:Int)+(1:Int):Int).toNat) Bg O (CB (Bu _)) ⟨_,pI An⟩ O AP (Nat.le_refl _) (MA a (((CU d:Int)+(1:Int):Int).toNat))) Ap (BL O (fun _=>BF O O (Dz (apply (apply ((By x gl).1) (a.take ((((d.fixed:Int)+(1:Int):Int)+((d.ctors.length:Nat):Int):Int).toNat))) ((CN ds mm).2.2.1)) (a.drop (((CU d:Int)+(1:Int):Int).toNat)) AQ) O) Ap ?_)))))))))));refine B4 A0 2 [2,1] O (Az (⟨O,_,_,⟨_,_,O,(BE (i:=2) BQ O O Ag),⟨_,_,O,O,O⟩⟩,(CH (is:=[6]) O),?_⟩));exact⟨⟨some _,s - 1⟩,C6 (ep (g:=(.mk gk gi gn gl gs:Tm)) h8 hg1 hg2 hx hce hz),O,O⟩
def l5 (ds:List CC) (n:Nat):Prop:=∀(m:Nat) (t:Tm) (s:Int),F8 s→DJ ds Bo n s t≠ .stuck→Bl Tryz.prog 39 [.ptr m 0,.agg ((BK t).map .p)] [.box m [.p (.lst (List.map Bj ds)),.p (I s)]] (J5 (fun(r:Tm×Int)=>TV r.1) (fun _=> .p (.iface 122 .unit)) (fun r H'=>H'=[.box m [.p (.lst (List.map Bj ds)),.p (I r.2)]]) ((DJ ds Bo n s t).ex))
theorem _root_.Go.AN {α:Prop}(h:α:=by first | omega | (simp_all;done) | (simp_all;omega)):α:=h
theorem _root_.Go.AG {α:Prop}(h:α:=by first | (simp only[List.length_map,BR];omega) | (simp_all;done) | (simp_all;omega)):α:=h
theorem PX:∀(n k m:Nat) (ds:List CC) (t:E3) (vs:List Tm) (s:Int),(l5 ds n)→(Lz ds)→(F8 s)→(VO t vs)→(Dm ds Bo (DJ ds Bo n) k t vs BZ s≠ .stuck)→Bl Tryz.prog 61 [.ptr m 0,.agg ((C4 t).map .p),.p (.lst (BC vs))] [.box m [.p (.lst (List.map Bj ds)),.p (I s)]] (J5 (fun(r:(Option (Tm×List Tm)×Tm)×Int)=> .tup [TV (N0 r.1),.p (.lst (BC (SU r.1))),.p (.bool r.1.1.isSome),TV r.1.2]) (fun _=> .p (.iface 122 .unit)) (fun r H'=>H'=[.box m [.p (.lst (List.map Bj ds)),.p (I r.2)]]) ((Dm ds Bo (DJ ds Bo n) k t vs BZ s).ex)):=by
 intro n k m ds t vs s hW h2 h3 h4 hns;have h4l:=h4.len;generalize hX:Dm ds Bo (DJ ds Bo n) k t vs BZ s=X at hns ⊢;refine A4 Tryz.func61 O qM (n:=76) O O (Aw (BG O (BO O) fun b4=>BG O (A7 Bw O) fun b6=>Ay A0 2 [] O (BG O (A7 Bw O) fun b9=>Bf O (Aw (Br O (OE O O O (.inl ⟨O,O,O⟩) (Jc vs An) (.inl O) fun o cp=>Ar A0 1 [] O (Aw (BG O (A7 Bw O) fun b11=>Bf O (Au (A8 ?_))))))))));refine Be (α:=Nat×E3×List Tm×Tm×Int×Option Nat×Nat) (fun(k2,w,us,l,d,o1,cp1)=>⟨76,mk [(0,.ptr m 0),(4,.ptr b4 0),(6,.ptr b6 0),(9,.ptr b9 0),(10,.vs o1 (BC us).length cp1),(11,.ptr b11 0)],[.box b11 ((BK l).map .p),.vec o1 5 (BC us) cp1,.box b9 [.p (I 0),.p (I 0),.p (.str ⟨#[]⟩),.p (.nils),.p (.nils)],.box b6 [.p (I 0),.p (I 0),.p (.str ⟨#[]⟩),.p (.nils),.p (.nils)],.box b4 ((C4 w).map .p),.box m [.p (.lst (List.map Bj ds)),.p (I d)]],[]⟩) (fun(k2,w,us,l,d,o1,cp1)=>k2) (fun(k2,w,us,l,d,o1,cp1)=>Dm ds Bo (DJ ds Bo n) k2 w us l d=X∧VO w us∧F8 d) ⟨k,t,vs,BZ,s,o,cp⟩ (⟨hX,h4,h3⟩) ?_ ?_
 ·exact BY ⟨we O,we O,we O,we O,we O,we O,Ap⟩ (leH (is:=[0,1,2,3,4,5]) O (wl (on (O)) (wl (oe O) (wl (oe O) (wl (oe O) (wl (oe O) (wl (oe O) (DO))))))))
 rintro⟨k2,w,us,l,d,o1,cp1⟩ hC
 try simp only at hC
 obtain⟨hC,hL,hJ⟩:=hC;obtain⟨k1,rfl⟩:=ZI hC hns;refine Au (Aw (Aq O (Ax Fi O O) (Aq O (A2 (i:=4) Df O O (Gq _)) (Ar A0 1 [] O (Av O (fun c=>?_) (fun c=>?_))))))
 ·(try simp only[sd,se] at c);have hk1:=c;refine A1 (A8 (Au (Au (BU [0,4,6,9,10,11] 31 (fun y=>y= .p (.bool ((decide ((w.var:Int)<(0:Int)))||(decide ((w.var:Int)≥((us.length:Nat):Int)))))) ?_ ?_))))
  ·refine A3 (Aq O (Ax Fi O O) (Aq O (A2 (i:=4) Df O O (DZ _)) (Ay A0 2 [] O (BI 25 O (fun g=>?_) (fun g=>?_)))))
   ·(try simp only[sd,se] at g);exact Ar A0 6 [] O (⟨O,O,AJ,AH,⟨O,O,O,O,O,O,Ap⟩⟩)
   (try simp only[sd,se] at g);exact BA O (Ax Fi O O) (BA O (A2 (i:=4) Df O O (DZ _)) (BA O (BT O) (BA O (Ns Bg O (BR _)) (Ar A0 2 [] O (⟨O,O,AJ,AH,⟨O,O,O,O,O,O,Ap⟩⟩)))))
  rintro _ rfl;refine Av O (fun c1=>?_) (fun c1=>?_)
  ·(try simp only[sd,se] at c1);rw[Kl hk1 (by simpa [Bo] using c1)] at hC;refine Au (B6 (fun k=>false) EO (B4 A0 6 [0,3,0,2,1] O (BN (Bc (i:=3) O) (BN (Fh 7) (Az (⟨O,_,_,⟨_,_,O,(BE (i:=3) BQ O O O),⟨_,_,O,O,⟨_,_,O,O,⟨_,_,O,(BE (i:=2) BQ O O Ag),O⟩⟩⟩⟩,(CH (is:=[5]) O),?_⟩))))));exact⟨⟨(none,l),d⟩,C6 hC.symm,O,O⟩
  (try simp only[sd,se] at c1);have hcb:=c1;refine A1 (Aw (Ay A0 3 [] O (Aq O (A2 (i:=4) Df O O (DZ _)) (M4 (i:=1) O AY fun b hb=>?_))));subst hb;refine Aq O (Cn Bg O O An AG) ?_;obtain⟨y,hy⟩:=A6 (l:=us) (i:=(w.var:Int).toNat) AN;refine Aq O (Eb (i:=1) BQ O O (Bd hy)) ?_;rw[NA hk1 (by simpa [Bo] using hcb) hy] at hC;have hn0:=hns;rw[←hC] at hn0;have hn1:=Tz hn0;refine DX [5] O O O (.inl ⟨O,O,O⟩) (hW m y d hJ hn1) ⟨_,_,O,O,O⟩ Am (aw (we O) (aw (we O) (Eg))) (fun _ _ h=>(congrArg List.length h).trans O) ?_ ?_
  rotate_left
  ·intro e _ he;exact⟨O,_,List.nil_sublist _,⟨_,by rw[←hC];exact Tb hn0 he,rfl⟩⟩
  rintro⟨z,n2⟩ _ hz rfl;obtain⟨hr2,hr3⟩:=TM hn0 hz;rw[hr3] at hC;have hJ2:=PZ hJ (He hz);refine Ar A0 1 [0,1] O (Aw (Ay A0 2 [0] O (Aq O (CW [5] O (.inl ⟨O,O,O⟩) (Pj m ds n2 z h2 hr2) ⟨_,_,O,O,O⟩ Am O (.inl O)) (Ay A0 5 [] O (BG O (A7 Ml O) fun b12=>Ar A0 4 [0,1] O (Au (As A0 2 [] O (Av O (fun c2=>?_) (fun c2=>?_)))))))))
  ·(try simp only[sd,se] at c2);rw[Ik (PW c2)] at hC;refine Au (B6 (fun k=>false) EO (B4 A0 6 [1,4,0,3,1] O (BN (Bc (i:=4) O) (BN (Fh 7) (Az (⟨O,_,_,⟨_,_,O,(BE (i:=4) BQ O O O),⟨_,_,O,O,⟨_,_,O,O,⟨_,_,O,(BE (i:=3) BQ O O Ag),O⟩⟩⟩⟩,(CH (is:=[6]) O),?_⟩))))));exact⟨⟨(none,z),n2⟩,C6 hC.symm,O,O⟩
  (try simp only[sd,se] at c2);have hcs:=Mt c2;have hcf:=GR hcs;have hlo:=hcf.lo;have hhi:=hcf.hi;have hfl:=LK h2 hcs;refine A1 (Au (B6 (fun k=>Nat.beq k 11) EO (Bb A0 2 [5] O (Cc (j:=0) O O O (fun H i hi=>A2 (i:=i) IH O hi (CF _)) AB Ap (BL O (fun _=>BT O) Ap ?_)))));obtain⟨x,hx⟩:=A6 (l:=((CN ds z).1).ctors) (i:=((CN ds z).2.1:Int).toNat) An;refine BL O (fun _=>A5 Hh O O An (EZ hx) (D7 _)) Ap (BL O (fun _=>Bz I2 O O) Ap (BL O (fun _=>DH MR O (Fm _)) Ap (BL O (fun _=>BF O O (Sj w x.name hL.tin.bl) O) Ap (Bb A0 3 [] O (J7 [] O O (A7 Yn O) Aj fun b16=>⟨AB,Ap,?_⟩)))));refine B4 A0 2 [0,1] O (Au (As A0 2 [] O (Av O (fun c3=>?_) (fun c3=>?_))))
  ·(try simp only[sd,se] at c3);rw[Kq hcs (by rw[Ev,CR hx];exact Vf c3)] at hC;refine Au (B6 (fun k=>false) EO (B4 A0 6 [2,5,0,4,1] O (BN (Bc (i:=5) O) (BN (Fh 7) (Az (⟨O,_,_,⟨_,_,O,(BE (i:=5) BQ O O O),⟨_,_,O,O,⟨_,_,O,O,⟨_,_,O,(BE (i:=4) BQ O O Ag),O⟩⟩⟩⟩,(CH (is:=[7]) O),?_⟩))))));exact⟨⟨(none,z),n2⟩,C6 hC.symm,O,O⟩
  (try simp only[sd,se] at c3);have hbs:=US c3;rw[Kr hcs (by rw[Ev,CR hx];exact hbs)] at hC;refine A1 (As A0 2 [0,6,1] O (A3 (Ay A0 2 [] O (Ih O O (Cs (i:=3) (rows':=BC ((CN ds z).2.2.1)) Bg Bg Bw O O O O O O (Bu _) (by have:=hL.len;simp only[BR,List.length_append];omega) (Nl us ((CN ds z).2.2.1))) fun o2 cp2=>Ar A0 1 [] O (⟨⟨k1,(Z2 x.name w.branches).1,us++(CN ds z).2.2.1,z,n2,o2,cp2⟩,AT,⟨hC,hL.next h2 hr2 hcs hbs,hJ2⟩,BY ⟨we O,we O,we O,we O,we O,we O,Ap⟩ (leH (is:=[2,3,4,5,6,7]) O (wl (oe O) (wl (oe O) (wl (oe O) (wl (oe O) (wl (oe O) (wl (oe O) (DO))))))))⟩)))))
 (try simp only[sd,se] at c);have hk1:=c;rw[Jh hk1] at hC;refine Bh (Aw (Aq O (Ax Fi O O) (Aq O (Bv (i:=4) BQ O O (FC _) (BB _)) (Ar A0 6 [3,1,2,0] O (BN (Cw (i:=1) [10,74,7] O (Eh ⟨O,O,O,Ap⟩)) (BN (Bc (i:=1) O) (Az (⟨O,_,_,⟨_,_,O,(BE (i:=2) BQ O O Ag),⟨_,_,O,O,⟨_,_,O,O,⟨_,_,O,(BE (i:=1) BQ O O O),O⟩⟩⟩⟩,(CH (is:=[4]) O),?_⟩))))))));exact⟨⟨(some (w.body,us),BZ),d⟩,C6 hC.symm,O,O⟩
theorem ji:∀(n m:Nat) (ds:List CC) (s:Int) (x:Fk) (g:Tm) (a:List Tm) (d:CC),(l5 ds n)→(Lz ds)→(F8 s)→(ds[x.decl.toNat]?=some d)→(0≤x.decl)→(DG d)→(okB g=true)→(a.length<549755813888)→(∀y∈a,okB y=true)→(PJ ds Bo (DJ ds Bo n) d g a s≠ .stuck)→Bl Tryz.prog 107 [.ptr m 0,.agg ((Db x).map .p),.agg ((BK g).map .p),.p (.lst (BC a))] [.box m [.p (.lst (List.map Bj ds)),.p (I s)]] (J5 (fun(r:Option Tm×Int)=> .tup [TV (r.1.getD BZ),.p (.bool r.1.isSome)]) (fun _=> .p (.iface 122 .unit)) (fun r H'=>H'=[.box m [.p (.lst (List.map Bj ds)),.p (I r.2)]]) ((PJ ds Bo (DJ ds Bo n) d g a s).ex)):=by
 intro n m ds s x g a d hW h2 h3 h4 h5 h6 h7 h8 h9 hns;have hnr:=Ki h6;generalize hC:PJ ds Bo (DJ ds Bo n) d g a s=X at hns ⊢;refine A4 Tryz.func107 O m8 (n:=40) O O (Aw (BG O (BO O) fun b5=>BG O (BO O) fun b6=>BG O (A7 Bw O) fun b8=>Ar A0 1 [] O (Au (B6 (fun k=>Nat.beq k 8) EO (Bb A0 5 [3] O (Cc (j:=2) O O O (fun H i hi=>A2 (i:=i) Df O hi (EJ _)) AB Ap (BL O (fun _=>A5 Ic O O An (Ed h4) (Cr _)) Ap (BL O (fun _=>BJ Gg O (Cr _)) Ap (J7 [] O O (A7 Ml O) Aj fun b10=>⟨AB,Ap,?_⟩)))))))));refine B4 A0 1 [0,1] O (Aw (Aq O (BP (i:=0) Gg O O Ad) (Aq O (BF O O (Nh d h6.din h6.fx) O) (Ar A0 1 [] O (Au (Aw (Br O (Aq O (BM Bg O (BR _)) (Ar A0 2 [] O (Av O (fun c=>?_) (fun c=>?_)))))))))))
 ·(try simp only[sd,se] at c);rw[Xo An] at hC;refine As A0 3 [1,0] O (BN (Bc (i:=1) O) (Az (⟨O,_,_,⟨_,_,O,(BE (i:=1) BQ O O O),⟨_,_,O,O,O⟩⟩,(CH (is:=[4]) O),?_⟩)));exact⟨⟨none,s⟩,C6 hC.symm,O,O⟩
 (try simp only[sd,se] at c);refine A1 (Au (B6 (fun k=>Nat.beq k 9||Nat.beq k 10) EO (Bb A0 7 [0,2] O ?_)));obtain⟨x1,hx1⟩:=A6 (l:=a) (i:=(CU d:Int).toNat) An;rw[cm An hx1] at hC;have hn0:=hns;rw[←hC] at hn0;have hn1:=Tz hn0;refine BL O (fun _=>A5 Bg O O An (Bd hx1) (BB _)) Ap (BL O (fun _=>BJ BQ O (BB _)) Ap (N8 [4] O O O (.inl ⟨O,O,O⟩) (hW m x1 s h3 hn1) ⟨_,_,O,O,O⟩ Am (aw (we O) (aw (we O) (Eg))) (fun _ _ h=>(congrArg List.length h).trans O) Aj Aj O AB ?_ ?_))
 rotate_left
 ·intro e he _ _ hτ;exact⟨O,_,List.nil_sublist _,⟨_,by rw[←hC];exact Tb hn0 he,rfl⟩⟩
 rintro⟨z,n2⟩ _ hz rfl;refine⟨AB,Ap,?_⟩;obtain⟨hr2,hr3⟩:=TM hn0 hz;rw[hr3] at hC;simp only at hC;have hJ2:=PZ h3 (He hz);refine N8 [4] O O O (.inl ⟨O,O,O⟩) (UP m ds n2 d g a z hJ2 h2 h6 h7 h8 hr2 An (by rw[hC];exact hns)) ⟨_,_,O,O,O⟩ Am (aw (we O) (aw (we O) (aw (we O) (aw (we O) (aw (we O) (Eg)))))) (fun _ _ h=>(congrArg List.length h).trans O) Aj Aj O AB ?_ ?_
 rotate_left
 ·intro e he _ _ hτ;exact⟨O,_,List.nil_sublist _,⟨_,by rw[←hC];exact he,rfl⟩⟩
 rintro⟨q,n21⟩ _ hz1 rfl;refine⟨AB,Ap,?_⟩;have hfin:=hz1;refine B4 A0 4 [1,1] O (Az (⟨O,_,_,⟨_,_,O,(BE (i:=1) BQ O O Ag),⟨_,_,O,O,O⟩⟩,(CH (is:=[4]) O),?_⟩));exact⟨⟨q,n21⟩,by rw[←hC];exact hfin,rfl,rfl⟩
theorem X9:∀(m:Nat) (ds:List CC) (n:Int) (g p q:Tm),(F8 n)→(g.kind=9∨g.kind=10)→(p.kids[(1+g.kind - 9).toNat]?=some q)→Bl Tryz.prog 75 [.ptr m 0,.agg ((BK g).map .p),.agg ((BK p).map .p)] [.box m [.p (.lst (List.map Bj ds)),.p (I n)]] (J5 (fun(r:Tm×Int)=>TV r.1) (fun _=> .p (.iface 122 .unit)) (fun r H'=>H'=[.box m [.p (.lst (List.map Bj ds)),.p (I r.2)]]) (IW n (q,0))):=by
 intro m ds n g p q h1 h2 h3;obtain⟨gk,gi,gn,gl,gs⟩:=g;obtain⟨pk,pi,pn,pl,ps⟩:=p;simp only[Tm.kind,Tm.kids] at h2 h3;refine A4 Tryz.func75 O ou (n:=17) O O (Aw (BG O (BO O) fun b4=>BG O (BO O) fun b5=>BG O (A7 Bw O) fun b6=>Bf O (Aw (Br O (DX [3] O O O (.inl ⟨O,O,O⟩) (Mq m ds n h1) ⟨_,_,O,O,O⟩ Am (aw (we O) (Eg)) (fun _ _ h=>(congrArg List.length h).trans O) ?_ ?_)))))
 rotate_left
 ·intro e _ he;exact⟨O,_,List.nil_sublist _,⟨_,az he,O⟩⟩
 rintro _ _ hz rfl;refine Bf O (Aw (Ay A0 6 [1,2] O (Aq O (A5 Bg O O An (Bd h3) (BB _)) (Ar A0 2 [0,1] O (Az (⟨O,_,_,⟨_,_,O,(BE (i:=0) BQ O O Ag),O⟩,(CH (is:=[3]) O),?_⟩))))));exact⟨⟨q,n - 1⟩,l7 hz,O,O⟩
theorem _root_.Go.AW {α:Prop}(h:α:=by first | rfl | simp[BB]):α:=h
theorem aX:∀(n m:Nat) (ds:List CC) (s:Int) (x:Fk) (g:Tm) (a:List Tm) (d:CC) (f:Gh),(l5 ds n)→(HE ds)→(F8 s)→(ds[x.decl.toNat]?=some d)→(0≤x.decl)→(d.funs[x.item.toNat]?=some f)→(0≤x.item)→(okB g=true)→(a.length<549755813888)→(∀y∈a,okB y=true)→(H4 ds Bo (DJ ds Bo n) n f g a s≠ .stuck)→Bl Tryz.prog 108 [.ptr m 0,.agg ((Db x).map .p),.agg ((BK g).map .p),.p (.lst (BC a))] [.box m [.p (.lst (List.map Bj ds)),.p (I s)]] (J5 (fun(r:Option Tm×Int)=> .tup [TV (r.1.getD BZ),.p (.bool r.1.isSome)]) (fun _=> .p (.iface 122 .unit)) (fun r H'=>H'=[.box m [.p (.lst (List.map Bj ds)),.p (I r.2)]]) ((H4 ds Bo (DJ ds Bo n) n f g a s).ex)):=by
 intro n m ds s x g a d f hW h2 h3 h4 h5 h6 h7 h8 h9 h10 hns;obtain⟨gk,gi,gn,gl,gs⟩:=g;have hgo:=CY.1 h8;have hgl:=hgo.nd;simp only[Nd,De] at hgl;have hdm:=List.mem_of_getElem? h4;have hfm:=List.mem_of_getElem? h6;have hfa:=(h2.g.all _ hdm).fu _ hfm;generalize hC:H4 ds Bo (DJ ds Bo n) n f (.mk gk gi gn gl gs:Tm) a s=X at hns ⊢;refine A4 Tryz.func108 O lF (n:=70) O O (Aw (BG O (BO O) fun b5=>BG O (BO O) fun b6=>BG O (A7 Bw O) fun b8=>Ar A0 1 [] O (Au (B6 (fun k=>Nat.beq k 13) EO (Bb A0 5 [3] O (Cc (j:=2) O O O (fun H i hi=>A2 (i:=i) Df O hi (EJ _)) AB Ap (BL O (fun _=>A5 Ic O O An (Ed h4) (Cr _)) Ap (BL O (fun _=>Bz C3 O O) Ap (BL O (fun _=>DH HI O (CA _)) Ap (BL O (fun _=>Ax GU O O) Ap (Cc (j:=2) O O O (fun H i hi=>A2 (i:=i) Df O hi (Gs _)) AB Ap (BL O (fun _=>A5 Gp O O An (ET h6) (Da _)) Ap (BL O (fun _=>BJ gV O (Da _)) Ap (J7 [] O O (A7 ao O) Aj fun b10=>⟨AB,Ap,?_⟩))))))))))))));refine B4 A0 1 [0,1] O (Au (Aw (Br O (Aq O (BM Bg O (BR _)) (Aq O (Ax G4 O O) (Aq O (A2 (i:=0) Df O O (CT _)) (Ar A0 1 [] O (Av O (fun c=>?_) (fun c=>?_)))))))))
 ·(try simp only[sd,se] at c);rw[SN An] at hC;refine As A0 3 [1,0] O (BN (Bc (i:=1) O) (Az (⟨O,_,_,⟨_,_,O,(BE (i:=1) BQ O O O),⟨_,_,O,O,O⟩⟩,(CH (is:=[4]) O),?_⟩)));exact⟨⟨none,s⟩,C6 hC.symm,O,O⟩
 (try simp only[sd,se] at c);have hl0:¬(a.length:Int)<f.arity:=by omega
 refine A1 (Au ?_);rw[Ud hl0] at hC;have hn0:=hns;rw[←hC] at hn0;have hn1:=Iw hn0;obtain⟨e,he⟩ | ⟨⟨q,n2⟩,hz⟩:=FK ((Dm ds Bo (DJ ds Bo n) n f.tree (a.take ((f.arity:Int).toNat)) BZ s).ex)
 ·refine IJ ((fun _=> .p (.iface 122 .unit)) e) 7 [.val (.ptr m 0),.val (.ptr b10 (0+7)),.val (.agg ((C4 f.tree).map .p)),.val (.p (.lst (BC a))),.val (.ptr b10 (0+6)),.val (.p (I f.arity)),.val (.p (.lst (BC (a.take ((f.arity:Int).toNat))))),.val (.p .any),.val (.p .any),.val (.p .any),.val (.p .any),.val (.p .any),.val (.p .any),.new [.p (I 0),.p (I 0),.p (.str ⟨#[]⟩),.p (.nils),.p (.nils)],.new [.p (I 0),.p (I 0),.p (.str ⟨#[]⟩),.p (.nils),.p (.nils)],.val (.p .any),.val (.p .any),.val (.p .any),.val (.p .any)] EO O Aj O Ap (fun _ _=>by exact⟨rfl,_,List.nil_sublist _,⟨_,by rw[←hC];exact KH hn0 he,rfl⟩⟩) ?_;refine B1 O O (fun Bs=>BT O) (B1 O O (fun Bs=>Ax G4 O O) (B1 O O (fun Bs=>Bv (i:=Bs.length+0) Kf O (CM O) (EL _) (Cy _)) (B1 O O (fun Bs=>BT O) (B1 O O (fun Bs=>Ax G4 O O) (B1 O O (fun Bs=>A2 (i:=Bs.length+0) Df O (CM O) (CT _)) (B1 O O (fun Bs=>Co (lo:=0) (hi:=(f.arity:Int).toNat) Bg O (CB (Bu _)) O ⟨_,pI An⟩ (Nat.zero_le _) AP (SA a ((f.arity:Int).toNat))) (KL (mkp:=(fun _=> .p (.iface 122 .unit))) (e:=e) [4] he O O (.inl ⟨O,O,O⟩) (PX n n m ds f.tree (a.take ((f.arity:Int).toNat)) s hW h2.g h3 (Sq h2 hdm hfm h10) hn1) ⟨_,_,O,O,O⟩ Am (aw (we O) (aw (we O) (aw (we O) (Eg)))) (C0 O O Aj (C0 O O Aj (C0 O O Aj (C0 O O Aj (C0 O O Aj ?_))))))))))));exact TU O O (fun Bs=>A7 Bw O) fun _=>TU O O (fun Bs=>A7 Bw O) fun _=>C0 O O Aj (C0 O O Aj (C0 O O Aj (C0 O O Aj KP)))
 rw[Lc hz] at hC;have hlo:=Ue h2.g _ _ _ _ _ _ _ (Sq h2 hdm hfm h10) (He hz);have hJ2:=R6 h3 (He hz);refine ID [.box b10 ((FR f).map .p),.box b8 [.p (I 0),.p (I 0),.p (.str ⟨#[]⟩),.p (.nils),.p (.nils)],.box b6 [.p (I gk),.p (I gi),.p (.str gn),.p (.lst (List.map B5 gl)),.p (.lst (BC gs))],.box b5 ((Db x).map .p),.box m [.p (.lst (List.map Bj ds)),.p (I n2)]] 7 [.val (.ptr m 0),.val (.ptr b10 (0+7)),.val (.agg ((C4 f.tree).map .p)),.val (.p (.lst (BC a))),.val (.ptr b10 (0+6)),.val (.p (I f.arity)),.val (.p (.lst (BC (a.take ((f.arity:Int).toNat))))),.val (.tup [.agg ((BK (N0 q)).map .p),.p (.lst (BC (SU q))),.p (.bool q.1.isSome),.agg ((BK q.2).map .p)]),.val (.tup [.agg ((BK (N0 q)).map .p),.p (.lst (BC (SU q))),.p (.bool q.1.isSome),.agg ((BK q.2).map .p)]),.val (.agg ((BK (N0 q)).map .p)),.val (.p (.lst (BC (SU q)))),.val (.p (.bool q.1.isSome)),.val (.agg ((BK q.2).map .p)),.new [.p (I 0),.p (I 0),.p (.str ⟨#[]⟩),.p (.nils),.p (.nils)],.new [.p (I 0),.p (I 0),.p (.str ⟨#[]⟩),.p (.nils),.p (.nils)]] [.p .any,.p (.lst (BC (SU q))),.p (.bool q.1.isSome),.p .any] [10,11,12] EO O Aj Aj Aj O ?_ ?_
 ·exact Ap
 refine Bn O O (fun Bs=>BT O) (Bn O O (fun Bs=>Ax G4 O O) (F4 O O O (fun Bs=>Bv (i:=Bs.length+0) Kf O (CM O) (EL _) (Cy _)) (fun Bs=>Bv (i:=Bs.length+0) Kf O (CM O) (EL _) (Cy _)) (Bn O O (fun Bs=>BT O) (Bn O O (fun Bs=>Ax G4 O O) (F4 O O O (fun Bs=>A2 (i:=Bs.length+0) Df O (CM O) (CT _)) (fun Bs=>A2 (i:=Bs.length+0) Df O (CM O) (CT _)) (Bn O O (fun Bs=>Co (lo:=0) (hi:=(f.arity:Int).toNat) Bg O (CB (Bu _)) O ⟨_,pI An⟩ (Nat.zero_le _) AP (SA a ((f.arity:Int).toNat))) ?_))))));refine Jy O (fun Bs=>Gw [4] O (.inl ⟨O,O,O⟩) (J0 hz (PX n n m ds f.tree (a.take ((f.arity:Int).toNat)) s hW h2.g h3 (Sq h2 hdm hfm h10) hn1)) ⟨_,_,O,O,O⟩ Am O (aw (we O) (aw (we O) (aw (we O) (Eg))))) (Bn O O (fun Bs=>BT O) (Bn O O (fun Bs=>D3 O O) (Bn O O (fun Bs=>D3 O O) (Bn O O (fun Bs=>D3 O O) (Bn O O (fun Bs=>D3 O O) (Tw O O (fun Bs=>A7 Bw O) fun b11=>Tw O O (fun Bs=>A7 Bw O) fun b14=>Ju ?_))))));refine D8 [.box b11 ((BK (N0 q)).map .p),.box b14 [.p (I 0),.p (I 0),.p (.str ⟨#[]⟩),.p (.nils),.p (.nils)],.box b10 ((FR f).map .p),.box b8 [.p (I 0),.p (I 0),.p (.str ⟨#[]⟩),.p (.nils),.p (.nils)],.box b6 [.p (I gk),.p (I gi),.p (.str gn),.p (.lst (List.map B5 gl)),.p (.lst (BC gs))],.box b5 ((Db x).map .p),.box m [.p (.lst (List.map Bj ds)),.p (I n2)]] O (CZ (i:=0) BQ O O O Ag AW (FT _)) (D8 [.box b11 ((BK (N0 q)).map .p),.box b14 [.p (I 0),.p (I 0),.p (.str ⟨#[]⟩),.p (.nils),.p (.nils)],.box b10 ((FR f).map .p),.box b8 [.p (I 0),.p (I 0),.p (.str ⟨#[]⟩),.p (.nils),.p (.nils)],.box b6 [.p (I gk),.p (I gi),.p (.str gn),.p (.lst (List.map B5 gl)),.p (.lst (BC gs))],.box b5 ((Db x).map .p),.box m [.p (.lst (List.map Bj ds)),.p (I n2)]] O (EU O) ?_)
 refine D8 [.box b11 ((BK (N0 q)).map .p),.box b14 [.p (I 0),.p (I 0),.p (.str ⟨#[]⟩),.p (.nils),.p (.nils)],.box b10 ((FR f).map .p),.box b8 [.p (I 0),.p (I 0),.p (.str ⟨#[]⟩),.p (.nils),.p (.nils)],.box b6 [.p (I gk),.p (I gi),.p (.str gn),.p (.lst (List.map B5 gl)),.p (.lst (BC gs))],.box b5 ((Db x).map .p),.box m [.p (.lst (List.map Bj ds)),.p (I n2)]] O (EU O) (D8 [.box b11 ((BK (N0 q)).map .p),.box b14 ((BK q.2).map .p),.box b10 ((FR f).map .p),.box b8 [.p (I 0),.p (I 0),.p (.str ⟨#[]⟩),.p (.nils),.p (.nils)],.box b6 [.p (I gk),.p (I gi),.p (.str gn),.p (.lst (List.map B5 gl)),.p (.lst (BC gs))],.box b5 ((Db x).map .p),.box m [.p (.lst (List.map Bj ds)),.p (I n2)]] O (CZ (i:=1) BQ O O O Ag AW (FT _)) (J1 (Au (As A0 2 [] O (Av O (fun c1=>?_) (fun c1=>?_))))))
 ·(try simp only[sd,se] at c1);rw[WW (.inl (by simpa using c1))] at hC;refine As A0 3 [3,0] O (BN (Bc (i:=3) O) (Az (⟨O,_,_,⟨_,_,O,(BE (i:=3) BQ O O O),⟨_,_,O,O,O⟩⟩,(CH (is:=[6]) O),?_⟩)));exact⟨⟨none,n2⟩,C6 hC.symm,O,O⟩
 (try simp only[sd,se] at c1);rw[W6 (by simpa using c1) rfl] at hC;refine A1 (Aw (Ay A0 3 [0,4] O (Aq O (BF O O (Lj (N0 q) gl (CY.1 hlo.1).nd (CY.1 hlo.1).vp (by have:=Gx hlo.1;omega) hgl.2.1 hgl.2.2.1) O) (Ar A0 5 [0,1] O (Au (As A0 2 [] O (Av O (fun c2=>?_) (fun c2=>?_))))))))
 ·(try simp only[sd,se] at c2);rw[Pp (h:=(.mk gk gi gn gl gs:Tm)) c2] at hC;refine As A0 3 [3,0] O (BN (Bc (i:=3) O) (Az (⟨O,_,_,⟨_,_,O,(BE (i:=3) BQ O O O),⟨_,_,O,O,O⟩⟩,(CH (is:=[6]) O),?_⟩)));exact⟨⟨none,n2⟩,C6 hC.symm,O,O⟩
 (try simp only[sd,se] at c2);obtain⟨hb1,hb2,hb3,hb4⟩:=YG (by rw[hC];exact hns) c2;rw[hb4] at hC;have hn3:=hns;rw[←hC] at hn3;refine A1 (Au ?_);obtain⟨e,he⟩ | ⟨⟨z,n21⟩,hz1⟩:=FK (IW n2 (CI ((By (N0 q) gl).1) (SU q).reverse 0))
 ·refine IJ ((fun _=> .p (.iface 122 .unit)) e) 3 [.val (.ptr m 0),.val (.agg ((BK ((By (N0 q) gl).1)).map .p)),.val (.p (.lst (BC (SU q)))),.val (.p .any),.val (.p (.lst (BC a))),.val (.ptr b10 (0+6)),.val (.p (I f.arity)),.val (.p (.lst (BC (a.drop ((f.arity:Int).toNat))))),.val (.p .any),.val (.p .any),.val (.p .any)] EO O Aj O Ap (fun _ _=>by exact⟨rfl,_,List.nil_sublist _,⟨_,by rw[←hC];exact Jv hn3 he,rfl⟩⟩) ?_;exact B1 O O (fun Bs=>BT O) (B1 O O (fun Bs=>BP (i:=Bs.length+0) BQ O (CM O) Ag) (B1 O O (fun Bs=>BT O) (KL (mkp:=(fun _=> .p (.iface 122 .unit))) (e:=e) [6] he O O (.inl ⟨O,O,O⟩) (PO m ds n2 ((By (N0 q) gl).1) (SU q) hJ2 hb1 hb2 An) ⟨_,_,O,O,O⟩ Am (aw (we O) (aw (we O) (aw (we O) (Eg)))) (B1 O O (fun Bs=>BT O) (B1 O O (fun Bs=>Ax G4 O O) (B1 O O (fun Bs=>A2 (i:=Bs.length+2) Df O (CM O) (CT _)) (B1 O O (fun Bs=>Co (lo:=(f.arity:Int).toNat) Bg O (CB (Bu _)) ⟨_,pI An⟩ O AP (Nat.le_refl _) (MA a ((f.arity:Int).toNat))) (C0 O O Aj (C0 O O Aj (C0 O O Aj KP))))))))))
 rw[KR hn3 hz1] at hC;refine ID [.box b11 ((BK ((By (N0 q) gl).1)).map .p),.box b14 ((BK q.2).map .p),.box b10 ((FR f).map .p),.box b8 [.p (I 0),.p (I 0),.p (.str ⟨#[]⟩),.p (.nils),.p (.nils)],.box b6 [.p (I gk),.p (I gi),.p (.str gn),.p (.lst (List.map B5 gl)),.p (.lst (BC gs))],.box b5 ((Db x).map .p),.box m [.p (.lst (List.map Bj ds)),.p (I n21)]] 3 [.val (.ptr m 0),.val (.agg ((BK ((By (N0 q) gl).1)).map .p)),.val (.p (.lst (BC (SU q)))),.val (.agg ((BK z).map .p)),.val (.p (.lst (BC a))),.val (.ptr b10 (0+6)),.val (.p (I f.arity)),.val (.p (.lst (BC (a.drop ((f.arity:Int).toNat))))),.val (.agg ((BK (apply z (a.drop ((f.arity:Int).toNat)))).map .p))] [.p .any,.p (.bool true)] [] EO O Aj Aj Aj O ?_ ?_
 ·exact Ap
 refine Bn O O (fun Bs=>BT O) (F4 O O O (fun Bs=>BP (i:=Bs.length+0) BQ O (CM O) Ag) (fun Bs=>BP (i:=Bs.length+0) BQ O (CM O) Ag) (Bn O O (fun Bs=>BT O) (Jy O (fun Bs=>Gw [6] O (.inl ⟨O,O,O⟩) (J0 hz1 (PO m ds n2 ((By (N0 q) gl).1) (SU q) hJ2 hb1 hb2 An)) ⟨_,_,O,O,O⟩ Am O (aw (we O) (aw (we O) (aw (we O) (Eg))))) (Bn O O (fun Bs=>BT O) (Bn O O (fun Bs=>Ax G4 O O) (F4 O O O (fun Bs=>A2 (i:=Bs.length+2) Df O (CM O) (CT _)) (fun Bs=>A2 (i:=Bs.length+2) Df O (CM O) (CT _)) (Bn O O (fun Bs=>Co (lo:=(f.arity:Int).toNat) Bg O (CB (Bu _)) ⟨_,pI An⟩ O AP (Nat.le_refl _) (MA a ((f.arity:Int).toNat))) ?_)))))));refine Bn O O (fun Bs=>BF O O (Dz z (a.drop ((f.arity:Int).toNat)) AQ) O) (Ju (D8 [.box b11 ((BK ((By (N0 q) gl).1)).map .p),.box b14 ((BK q.2).map .p),.box b10 ((FR f).map .p),.box b8 ((BK (apply z (a.drop ((f.arity:Int).toNat)))).map .p),.box b6 [.p (I gk),.p (I gi),.p (.str gn),.p (.lst (List.map B5 gl)),.p (.lst (BC gs))],.box b5 ((Db x).map .p),.box m [.p (.lst (List.map Bj ds)),.p (I n21)]] O (CZ (i:=3) BQ O O O Ag AW (FT _)) ?_));refine D8 [.box b11 ((BK ((By (N0 q) gl).1)).map .p),.box b14 ((BK q.2).map .p),.box b10 ((FR f).map .p),.box b8 ((BK (apply z (a.drop ((f.arity:Int).toNat)))).map .p),.box b6 [.p (I gk),.p (I gi),.p (.str gn),.p (.lst (List.map B5 gl)),.p (.lst (BC gs))],.box b5 ((Db x).map .p),.box m [.p (.lst (List.map Bj ds)),.p (I n21)]] O (EU O) (J1 (Az (⟨O,_,_,⟨_,_,O,(BE (i:=3) BQ O O Ag),⟨_,_,O,O,O⟩⟩,(CH (is:=[6]) O),?_⟩)));exact⟨⟨some _,_⟩,C6 hC.symm,O,O⟩
set_option maxHeartbeats 4000000 in
theorem dB:∀(n m:Nat) (ds:List CC) (s:Int) (g:Tm) (a:List Tm),(l5 ds n)→(HE ds)→(F8 s)→(okB g=true)→(a.length<549755813888)→(∀y∈a,okB y=true)→(Dy ds Bo (DJ ds Bo n) n g a s≠ .stuck)→Bl Tryz.prog 76 [.ptr m 0,.agg ((BK g).map .p),.p (.lst (BC a))] [.box m [.p (.lst (List.map Bj ds)),.p (I s)]] (J5 (fun(r:Option Tm×Int)=> .tup [TV (r.1.getD BZ),.p (.bool r.1.isSome)]) (fun _=> .p (.iface 122 .unit)) (fun r H'=>H'=[.box m [.p (.lst (List.map Bj ds)),.p (I r.2)]]) ((Dy ds Bo (DJ ds Bo n) n g a s).ex)):=by
 intro n m ds s g a hW h2 h3 h4 h5 h6 hns;obtain⟨gk,gi,gn,gl,gs⟩:=g;have hgo:=CY.1 h4;have hgl:=hgo.nd;simp only[Nd,De] at hgl;generalize hC:Dy ds Bo (DJ ds Bo n) n (.mk gk gi gn gl gs:Tm) a s=X at hns ⊢;refine A4 Tryz.func76 O oH (n:=40) O O (Aw (BG O (BO O) fun b4=>BG O (A7 Bw O) fun b6=>Ar A0 1 [] O (Aw (Ay A0 2 [1] O (Aq O (CW [2] O (.inl ⟨O,O,O⟩) (OA m ds s (.mk gk gi gn gl gs:Tm) h2.g.env) ⟨_,_,O,O,O⟩ Am O (.inl O)) (Ay A0 3 [] O (BG O (A7 IZ O) fun b8=>Ar A0 2 [0,1] O (Au (As A0 2 [] O (Av O (fun c=>?_) (fun c=>?_)))))))))))
 ·(try simp only[sd,se] at c);rw[QL c] at hC;refine As A0 3 [1,0] O (BN (Bc (i:=1) O) (Az (⟨O,_,_,⟨_,_,O,(BE (i:=1) BQ O O O),⟨_,_,O,O,O⟩⟩,(CH (is:=[3]) O),?_⟩)));exact⟨⟨none,s⟩,C6 hC.symm,O,O⟩
 (try simp only[sd,se] at c);have hu:=c;obtain⟨ix,dd,e1,e2,e3,e4⟩:=NI hu;have hde:=e2.decl;have hdg:=h2.g.all _ e3;have hel:=h2.g.env.len;have hil:=(List.getElem?_eq_some_iff.1 e1).1;have hfx:=hdg.fx;have hnr:=Ki hdg;have hcl:=hdg.din.cl;have hfl:=hdg.din.fl;have hki:=e2.kind;have hkp:(Bq ds (Tm.mk gk gi gn gl gs).name).1.kind=0∨(Bq ds (Tm.mk gk gi gn gl gs).name).1.kind=1∨(Bq ds (Tm.mk gk gi gn gl gs).name).1.kind=2∨(Bq ds (Tm.mk gk gi gn gl gs).name).1.kind=3∨(Bq ds (Tm.mk gk gi gn gl gs).name).1.kind=4∨(Bq ds (Tm.mk gk gi gn gl gs).name).1.kind=5∨(Bq ds (Tm.mk gk gi gn gl gs).name).1.kind=6:=by omega
 refine A1 (Au ?_);rcases hkp with hkk | hkk | hkk | hkk | hkk | hkk | hkk
 ·refine A3 (Ay A0 6 [] O (Aq O (D1 I8 JD QI O) (Aq O (Ax GU O O) (Aq O (A2 (i:=0) Df O O (Dj _)) (Aq O (Ej (j:=0) I8 JD O O (hkk) O Am) (Ar A0 1 [] O (Au (Aw (Br O (Aq O (GX Aj (.inl ⟨O,O⟩) O) (Bf O ?_)))))))))));refine Av O (fun c1=>?_) (fun c1=>by cases c1);refine Aw ?_;rw[K1 hu An An An] at hC;refine Ar A0 3 [1,0] O (BN (Bc (i:=1) O) (Az (⟨O,_,_,⟨_,_,O,(BE (i:=1) BQ O O O),⟨_,_,O,O,O⟩⟩,(CH (is:=[3]) O),?_⟩)));exact⟨⟨none,s⟩,C6 hC.symm,O,O⟩
 ·refine A3 (Ay A0 6 [] O (Aq O (D1 I8 JD QI O) (Aq O (Ax GU O O) (Aq O (A2 (i:=0) Df O O (Dj _)) (Aq O (Ej (j:=1) I8 JD O O (hkk) O Am) (Ar A0 1 [] O (Au (Aw (Br O (Aq O (GX Aj (.inr ⟨⟨_,_,_,O⟩,O⟩) O) (Bf O ?_)))))))))));refine Av O (fun c1=>by cases c1) (fun c1=>?_);refine A1 (Aw (Ay A0 4 [0,2] O ?_));rw[SE hu e4 hkk] at hC;refine DX [3] O O O (.inr O) (UR m ds s ((Bq ds (.mk gk gi gn gl gs:Tm).name).1) (.mk gk gi gn gl gs:Tm) a dd h3 e4 An hdg h4 h5 (by rw[hC];exact hns)) ⟨_,_,O,O,O⟩ Am (aw (we O) (aw (we O) (aw (we O) (aw (we O) (Eg))))) (fun _ _ h=>(congrArg List.length h).trans O) ?_ ?_
  rotate_left
  ·intro e _ he;exact⟨O,_,List.nil_sublist _,⟨_,by rw[←hC];exact he,rfl⟩⟩
  rintro⟨q,n2⟩ _ hz rfl;have hfin:=hz;refine Ar A0 4 [1,1] O (Az (⟨O,_,_,⟨_,_,O,(BE (i:=1) BQ O O Ag),⟨_,_,O,O,O⟩⟩,(CH (is:=[3]) O),?_⟩));exact⟨⟨q,n2⟩,by rw[←hC];exact hfin,rfl,rfl⟩
 ·refine A3 (Ay A0 6 [] O (Aq O (D1 I8 JD QI O) (Aq O (Ax GU O O) (Aq O (A2 (i:=0) Df O O (Dj _)) (Aq O (Ej (j:=2) I8 JD O O (hkk) O Am) (Ar A0 1 [] O (Au (Aw (Br O (Aq O (GX Aj (.inl ⟨O,O⟩) O) (Bf O ?_)))))))))));refine Av O (fun c1=>?_) (fun c1=>by cases c1);refine Aw ?_;rw[K1 hu An An An] at hC;refine Ar A0 3 [1,0] O (BN (Bc (i:=1) O) (Az (⟨O,_,_,⟨_,_,O,(BE (i:=1) BQ O O O),⟨_,_,O,O,O⟩⟩,(CH (is:=[3]) O),?_⟩)));exact⟨⟨none,s⟩,C6 hC.symm,O,O⟩
 ·refine A3 (Ay A0 6 [] O (Aq O (D1 I8 JD QI O) (Aq O (Ax GU O O) (Aq O (A2 (i:=0) Df O O (Dj _)) (Aq O (Ej (j:=3) I8 JD O O (hkk) O Am) (Ar A0 1 [] O (Au (Aw (Br O (Aq O (GX Aj (.inl ⟨O,O⟩) O) (Bf O ?_)))))))))));refine Av O (fun c1=>?_) (fun c1=>by cases c1);refine Aw ?_;rw[K1 hu An An An] at hC;refine Ar A0 3 [1,0] O (BN (Bc (i:=1) O) (Az (⟨O,_,_,⟨_,_,O,(BE (i:=1) BQ O O O),⟨_,_,O,O,O⟩⟩,(CH (is:=[3]) O),?_⟩)));exact⟨⟨none,s⟩,C6 hC.symm,O,O⟩
 ·refine A3 (Ay A0 6 [] O (Aq O (D1 I8 JD QI O) (Aq O (Ax GU O O) (Aq O (A2 (i:=0) Df O O (Dj _)) (Aq O (Ej (j:=4) I8 JD O O (hkk) O Am) (Ar A0 1 [] O (Au (Aw (Br O (Aq O (GX Aj (.inl ⟨O,O⟩) O) (Bf O ?_)))))))))));refine Av O (fun c1=>?_) (fun c1=>by cases c1);refine Aw ?_;rw[K1 hu An An An] at hC;refine Ar A0 3 [1,0] O (BN (Bc (i:=1) O) (Az (⟨O,_,_,⟨_,_,O,(BE (i:=1) BQ O O O),⟨_,_,O,O,O⟩⟩,(CH (is:=[3]) O),?_⟩)));exact⟨⟨none,s⟩,C6 hC.symm,O,O⟩
 ·refine A3 (Ay A0 6 [] O (Aq O (D1 I8 JD QI O) (Aq O (Ax GU O O) (Aq O (A2 (i:=0) Df O O (Dj _)) (Aq O (Ej (j:=5) I8 JD O O (hkk) O Am) (Ar A0 1 [] O (Au (Aw (Br O (Aq O (GX Aj (.inr ⟨⟨_,_,_,O⟩,O⟩) O) (Bf O ?_)))))))))));refine Av O (fun c1=>by cases c1) (fun c1=>?_);refine A1 (Aw (Ay A0 4 [0,2] O ?_));rw[Si hu e4 hkk] at hC;refine DX [3] O O O (.inr O) (ji n m ds s ((Bq ds (.mk gk gi gn gl gs:Tm).name).1) (.mk gk gi gn gl gs:Tm) a dd hW h2.g h3 e4 An hdg h4 h5 h6 (by rw[hC];exact hns)) ⟨_,_,O,O,O⟩ Am (aw (we O) (aw (we O) (aw (we O) (aw (we O) (Eg))))) (fun _ _ h=>(congrArg List.length h).trans O) ?_ ?_
  rotate_left
  ·intro e _ he;exact⟨O,_,List.nil_sublist _,⟨_,by rw[←hC];exact he,rfl⟩⟩
  rintro⟨q,n2⟩ _ hz rfl;have hfin:=hz;refine Ar A0 4 [1,1] O (Az (⟨O,_,_,⟨_,_,O,(BE (i:=1) BQ O O Ag),⟨_,_,O,O,O⟩⟩,(CH (is:=[3]) O),?_⟩));exact⟨⟨q,n2⟩,by rw[←hC];exact hfin,rfl,rfl⟩
 refine A3 (Ay A0 6 [] O (Aq O (D1 I8 JD QI O) (Aq O (Ax GU O O) (Aq O (A2 (i:=0) Df O O (Dj _)) (Aq O (Ej (j:=6) I8 JD O O (hkk) O Am) (Ar A0 1 [] O (Au (Aw (Br O (Aq O (GX Aj (.inr ⟨⟨_,_,_,O⟩,O⟩) O) (Bf O ?_)))))))))));refine Av O (fun c1=>by cases c1) (fun c1=>?_);refine A1 (Aw (Ay A0 4 [0,2] O ?_));obtain⟨fk,ff,f1,f2⟩:=e2.func hkk;have hff:dd.funs[(Bq ds (Tm.mk gk gi gn gl gs).name).1.item.toNat]?=some ff:=by rw[f2];simpa using f1
 rw[Sg hu e4 hkk hff] at hC;refine DX [3] O O O (.inr O) (aX n m ds s ((Bq ds (.mk gk gi gn gl gs:Tm).name).1) (.mk gk gi gn gl gs:Tm) a dd ff hW h2 h3 e4 An hff An h4 h5 h6 (by rw[hC];exact hns)) ⟨_,_,O,O,O⟩ Am (aw (we O) (aw (we O) (aw (we O) (aw (we O) (Eg))))) (fun _ _ h=>(congrArg List.length h).trans O) ?_ ?_
 rotate_left
 ·intro e _ he;exact⟨O,_,List.nil_sublist _,⟨_,by rw[←hC];exact he,rfl⟩⟩
 rintro⟨q,n2⟩ _ hz rfl;have hfin:=hz;refine Ar A0 4 [1,1] O (Az (⟨O,_,_,⟨_,_,O,(BE (i:=1) BQ O O Ag),⟨_,_,O,O,O⟩⟩,(CH (is:=[3]) O),?_⟩));exact⟨⟨q,n2⟩,by rw[←hC];exact hfin,rfl,rfl⟩
theorem qY (t:Tm):∀c∈BK t,c≠ .nils:=by obtain⟨k,i,n,l,s⟩:=t;simp[BK]
theorem ED (l:List Tm):∀r∈BC l,∀c∈r,c≠ .nils:=by
 intro r hr;rw[D9] at hr;obtain⟨t,_,rfl⟩:=List.mem_map.1 hr;exact qY t
set_option maxHeartbeats 4000000 in
theorem Na:∀(ds:List CC) (hE:HE ds) (n:Nat),l5 ds n:=by
 intro ds hE n
 induction n using Nat.strongRecOn with
 | ind n ih =>
  intro m t s h1 hns;generalize hX:DJ ds Bo n s t=X at hns ⊢;refine A4 Tryz.func39 O oJ (n:=95) O O (Aw (BG O (BO O) fun b3=>BG O (A7 Bw O) fun b4=>Bf O (A8 (Be (α:=Nat×Tm×Int) (fun(k2,w,d)=>⟨95,mk [(0,.ptr m 0),(3,.ptr b3 0),(4,.ptr b4 0)],[.box b4 [.p (I 0),.p (I 0),.p (.str ⟨#[]⟩),.p (.nils),.p (.nils)],.box b3 ((BK w).map .p),.box m [.p (.lst (List.map Bj ds)),.p (I d)]],[]⟩) (fun(k2,w,d)=>k2) (fun(k2,w,d)=>DJ ds Bo k2 d w=X∧F8 d∧k2≤n) ⟨n,t,s⟩ (⟨hX,h1,Nat.le_refl _⟩) ?_ ?_))))
  ·exact BY ⟨we O,we O,we O,Ap⟩ (leH (is:=[0,1,2]) O (wl (oe O) (wl (oe O) (wl (oe O) (DO)))))
  rintro⟨k2,w,d⟩ hC
  try simp only at hC
  obtain⟨hC,hJ,hmn⟩:=hC;obtain⟨k,rfl⟩:=iB hC hns;have hwo:=jl hC hns;have hsp:=XV hwo;have hsl:=hsp.len;have hss:=hsp.sz;have hsa:=hsp.asz;refine A8 (Aw (Aq O (BP (i:=1) BQ O O Ag) (Aq O (BF O O (Km w hsp.nd AZ) O) (Ay A0 3 [] O (BG O (A7 Bw O) fun b5=>Ar A0 2 [0,1] O (Au (Aw (Br O (Aq O (BM Bg O (BR _)) (Ar A0 1 [] O (Av O (fun c=>?_) (fun c=>?_))))))))))))
  ·(try simp only[sd,se] at c);exact A3 (Aq O (CJ cU Xx O) (Aq O (IU Aj O) (NT O O (LZ O) (⟨O,_,List.nil_sublist _,⟨_,gD (hC.symm.trans (YB hwo O (by simp only[Bo];exact decide_eq_true An))),O⟩⟩))))
  (try simp only[sd,se] at c);have hmany:Bo.many (A9 w).2.length=false:=by simp only[Bo];exact decide_eq_false An
  refine A1 (Aw (Aq O (Ax Gi O O) ?_));generalize hz:(A9 w).1=z;obtain⟨zk,zi,zn,zl,zs⟩:=z;have hzo:okB (.mk zk zi zn zl zs)=true:=hz▸hsp.head;have hzq:=hz;have hzl:=K2 hzo;have hzn:=(CY.1 hzo).nd;refine Ar A0 1 [0] O (A8 (As A0 2 [] O (Av O (fun c1=>?_) (fun c1=>?_))))
  ·(try simp only[sd,se] at c1);have hk:=(congrArg Tm.kind hzq).trans c1;refine Au (Aw (Br O (Aq O (BM Bg O (BR _)) (Ar A0 1 [] O (Av O (fun c2=>?_) (fun c2=>?_))))))
   ·(try simp only[sd,se] at c2);rw[YT hwo rfl hmany hk An] at hC;refine As A0 2 [2,1,1] O (Az (⟨O,_,_,⟨_,_,O,(BE (i:=1) BQ O O Ag),O⟩,(CH (is:=[3]) O),?_⟩));exact⟨⟨_,_⟩,C6 hC.symm,O,O⟩
   (try simp only[sd,se] at c2);refine A1 ?_;obtain⟨x,hx⟩:=A6 (l:=zs) (i:=1) An;obtain⟨x1,hx1⟩:=A6 (l:=(A9 w).2) (i:=0) An;have hxo:=HS hzo (i:=1) hx;have hx1o:=hsp.args _ (List.mem_of_getElem? hx1);rw[W5 hwo rfl hmany hk An (by rw[hzq];exact hx),iS hx1] at hC;have hn3:=hns;rw[←hC] at hn3;obtain⟨e,he⟩ | ⟨⟨z1,n2⟩,hz⟩:=FK (IW d (CI x [x1] 0))
   ·refine IJ ((fun _=> .p (.iface 122 .unit)) e) 9 [.val (.ptr m 0),.val (.ptr b5 (0+4)),.val (.p (.lst (BC zs))),.val (.ref (BK x)),.val (.agg ((BK x).map .p)),.val (.p (.lst (BC ((A9 w).2)))),.val (.ref (BK x1)),.val (.agg ((BK x1).map .p)),.val (.p (.lst (BC [x1]))),.val (.p .any),.val (.p (.lst (BC ((A9 w).2)))),.val (.p (.lst (BC (((A9 w).2).drop 1)))),.val (.p .any),.val (.p .any)] EO O Aj O Ap (fun _ _=>by exact⟨rfl,_,List.nil_sublist _,⟨_,by rw[←hC];exact Jv hn3 he,rfl⟩⟩) ?_;refine B1 O O (fun Bs=>BT O) (B1 O O (fun Bs=>Ax Gi O O) (B1 O O (fun Bs=>B0 (i:=Bs.length+0) GY O (CM O) O) (B1 O O (fun Bs=>A5 Bg O O An (Bd hx) (BB _)) (B1 O O (fun Bs=>BJ BQ O (BB _)) (B1 O O (fun Bs=>BT O) (B1 O O (fun Bs=>A5 Bg O O An (Bd hx1) (BB _)) (B1 O O (fun Bs=>BJ BQ O (BB _)) (B1 O O (fun Bs=>Bi (rows:=BC [x1]) Bg Bw O O O O (CB (Bu _)) (ED _)) (KL (mkp:=(fun _=> .p (.iface 122 .unit))) (e:=e) [3] he O O (.inl ⟨O,O,O⟩) (J4 m ds d x [x1] hJ hxo (ok_one hx1o) I5) ⟨_,_,O,O,O⟩ Am (aw (we O) (aw (we O) (aw (we O) (Eg)))) (B1 O O (fun Bs=>BT O) ?_))))))))));exact B1 O O (fun Bs=>Co (lo:=1) Bg O (CB (Bu _)) ⟨_,O⟩ O AP (Nat.le_refl _) (MA ((A9 w).2) 1)) (C0 O O Aj (C0 O O Aj KP))
   rw[KR hn3 hz] at hC;have hJ3:=(P6 hJ hz).1;refine ID [.box b5 [.p (I zk),.p (I zi),.p (.str zn),.p (.lst (List.map B5 zl)),.p (.lst (BC zs))],.box b4 [.p (I 0),.p (I 0),.p (.str ⟨#[]⟩),.p (.nils),.p (.nils)],.box b3 ((BK w).map .p),.box m [.p (.lst (List.map Bj ds)),.p (I n2)]] 9 [.val (.ptr m 0),.val (.ptr b5 (0+4)),.val (.p (.lst (BC zs))),.val (.ref (BK x)),.val (.agg ((BK x).map .p)),.val (.p (.lst (BC ((A9 w).2)))),.val (.ref (BK x1)),.val (.agg ((BK x1).map .p)),.val (.p (.lst (BC [x1]))),.val (.agg ((BK z1).map .p)),.val (.p (.lst (BC ((A9 w).2)))),.val (.p (.lst (BC (((A9 w).2).drop 1)))),.val (.agg ((BK (apply z1 (((A9 w).2).drop 1))).map .p))] [.p .any] [] EO O Aj Aj Aj O ?_ ?_
   ·exact Ap
   refine Bn O O (fun Bs=>BT O) (Bn O O (fun Bs=>Ax Gi O O) (F4 O O O (fun Bs=>B0 (i:=Bs.length+0) GY O (CM O) O) (fun Bs=>B0 (i:=Bs.length+0) GY O (CM O) O) (Bn O O (fun Bs=>A5 Bg O O An (Bd hx) (BB _)) (Bn O O (fun Bs=>BJ BQ O (BB _)) (Bn O O (fun Bs=>BT O) (Bn O O (fun Bs=>A5 Bg O O An (Bd hx1) (BB _)) (Bn O O (fun Bs=>BJ BQ O (BB _)) (Bn O O (fun Bs=>Bi (rows:=BC [x1]) Bg Bw O O O O (CB (Bu _)) (ED _)) (Jy O (fun Bs=>Gw [3] O (.inl ⟨O,O,O⟩) (J0 hz (J4 m ds d x [x1] hJ hxo (ok_one hx1o) I5)) ⟨_,_,O,O,O⟩ Am O (aw (we O) (aw (we O) (aw (we O) (Eg))))) (Bn O O (fun Bs=>BT O) ?_))))))))));refine Bn O O (fun Bs=>Co (lo:=1) Bg O (CB (Bu _)) ⟨_,O⟩ O AP (Nat.le_refl _) (MA ((A9 w).2) 1)) (Bn O O (fun Bs=>BF O O (Dz z1 (((A9 w).2).drop 1) AQ) O) (Ju (D8 [.box b5 [.p (I zk),.p (I zi),.p (.str zn),.p (.lst (List.map B5 zl)),.p (.lst (BC zs))],.box b4 [.p (I 0),.p (I 0),.p (.str ⟨#[]⟩),.p (.nils),.p (.nils)],.box b3 ((BK (apply z1 (((A9 w).2).drop 1))).map .p),.box m [.p (.lst (List.map Bj ds)),.p (I n2)]] O (CZ (i:=2) BQ O O O Ag AW (FT _)) (J1 ?_))));refine⟨⟨k,(apply z1 (((A9 w).2).drop 1)),n2⟩,AT,⟨hC,by assumption,by omega⟩,BY ⟨we rfl,we rfl,we rfl,trivial⟩ (leH (is:=[1,2,3]) rfl (wl (oe rfl) (wl (oe rfl) (wl (oe rfl) (DO)))))⟩
  (try simp only[sd,se] at c1);refine As A0 2 [] O (Av O (fun c2=>?_) (fun c2=>?_))
  ·(try simp only[sd,se] at c2);have hk:=(congrArg Tm.kind hzq).trans c2;obtain⟨x,hx⟩:=A6 (l:=zs) (i:=2) An;obtain⟨x1,hx1⟩:=A6 (l:=zs) (i:=1) An;have hxo:=HS hzo (i:=2) hx;have hx1o:=HS hzo (i:=1) hx1;rw[XO hwo rfl hmany hk (by rw[hzq];exact hx1) (by rw[hzq];exact hx)] at hC;have hn3:=hns;rw[←hC] at hn3;obtain⟨e,he⟩ | ⟨⟨z1,n2⟩,hz⟩:=FK (IW d (CI x [x1] 0))
   ·refine IJ ((fun _=> .p (.iface 122 .unit)) e) 10 [.val (.ptr m 0),.val (.ptr b5 (0+4)),.val (.p (.lst (BC zs))),.val (.ref (BK x)),.val (.agg ((BK x).map .p)),.val (.ptr b5 (0+4)),.val (.p (.lst (BC zs))),.val (.ref (BK x1)),.val (.agg ((BK x1).map .p)),.val (.p (.lst (BC [x1]))),.val (.p .any),.val (.p (.lst (BC ((A9 w).2)))),.val (.p .any),.val (.p .any)] EO O Aj O Ap (fun _ _=>by exact⟨rfl,_,List.nil_sublist _,⟨_,by rw[←hC];exact Jv hn3 he,rfl⟩⟩) ?_;refine B1 O O (fun Bs=>BT O) (B1 O O (fun Bs=>Ax Gi O O) (B1 O O (fun Bs=>B0 (i:=Bs.length+0) GY O (CM O) O) (B1 O O (fun Bs=>A5 Bg O O An (Bd hx) (BB _)) (B1 O O (fun Bs=>BJ BQ O (BB _)) (B1 O O (fun Bs=>Ax Gi O O) (B1 O O (fun Bs=>B0 (i:=Bs.length+0) GY O (CM O) O) (B1 O O (fun Bs=>A5 Bg O O An (Bd hx1) (BB _)) (B1 O O (fun Bs=>BJ BQ O (BB _)) (B1 O O (fun Bs=>Bi (rows:=BC [x1]) Bg Bw O O O O (CB (Bu _)) (ED _)) (KL (mkp:=(fun _=> .p (.iface 122 .unit))) (e:=e) [3] he O O (.inl ⟨O,O,O⟩) (J4 m ds d x [x1] hJ hxo (ok_one hx1o) I5) ⟨_,_,O,O,O⟩ Am (aw (we O) (aw (we O) (aw (we O) (Eg)))) ?_))))))))));exact B1 O O (fun Bs=>BT O) (C0 O O Aj (C0 O O Aj KP))
   rw[KR hn3 hz] at hC;have hJ3:=(P6 hJ hz).1;refine ID [.box b5 [.p (I zk),.p (I zi),.p (.str zn),.p (.lst (List.map B5 zl)),.p (.lst (BC zs))],.box b4 [.p (I 0),.p (I 0),.p (.str ⟨#[]⟩),.p (.nils),.p (.nils)],.box b3 ((BK w).map .p),.box m [.p (.lst (List.map Bj ds)),.p (I n2)]] 10 [.val (.ptr m 0),.val (.ptr b5 (0+4)),.val (.p (.lst (BC zs))),.val (.ref (BK x)),.val (.agg ((BK x).map .p)),.val (.ptr b5 (0+4)),.val (.p (.lst (BC zs))),.val (.ref (BK x1)),.val (.agg ((BK x1).map .p)),.val (.p (.lst (BC [x1]))),.val (.agg ((BK z1).map .p)),.val (.p (.lst (BC ((A9 w).2)))),.val (.agg ((BK (apply z1 ((A9 w).2))).map .p))] [.p .any] [] EO O Aj Aj Aj O ?_ ?_
   ·exact Ap
   refine Bn O O (fun Bs=>BT O) (Bn O O (fun Bs=>Ax Gi O O) (F4 O O O (fun Bs=>B0 (i:=Bs.length+0) GY O (CM O) O) (fun Bs=>B0 (i:=Bs.length+0) GY O (CM O) O) (Bn O O (fun Bs=>A5 Bg O O An (Bd hx) (BB _)) (Bn O O (fun Bs=>BJ BQ O (BB _)) (Bn O O (fun Bs=>Ax Gi O O) (F4 O O O (fun Bs=>B0 (i:=Bs.length+0) GY O (CM O) O) (fun Bs=>B0 (i:=Bs.length+0) GY O (CM O) O) (Bn O O (fun Bs=>A5 Bg O O An (Bd hx1) (BB _)) (Bn O O (fun Bs=>BJ BQ O (BB _)) (Bn O O (fun Bs=>Bi (rows:=BC [x1]) Bg Bw O O O O (CB (Bu _)) (ED _)) ?_)))))))));refine Jy O (fun Bs=>Gw [3] O (.inl ⟨O,O,O⟩) (J0 hz (J4 m ds d x [x1] hJ hxo (ok_one hx1o) I5)) ⟨_,_,O,O,O⟩ Am O (aw (we O) (aw (we O) (aw (we O) (Eg))))) (Bn O O (fun Bs=>BT O) (Bn O O (fun Bs=>BF O O (Dz z1 ((A9 w).2) AQ) O) (Ju (D8 [.box b5 [.p (I zk),.p (I zi),.p (.str zn),.p (.lst (List.map B5 zl)),.p (.lst (BC zs))],.box b4 [.p (I 0),.p (I 0),.p (.str ⟨#[]⟩),.p (.nils),.p (.nils)],.box b3 ((BK (apply z1 ((A9 w).2))).map .p),.box m [.p (.lst (List.map Bj ds)),.p (I n2)]] O (CZ (i:=2) BQ O O O Ag AW (FT _)) (J1 ?_)))));refine⟨⟨k,(apply z1 ((A9 w).2)),n2⟩,AT,⟨hC,by assumption,by omega⟩,BY ⟨we rfl,we rfl,we rfl,trivial⟩ (leH (is:=[1,2,3]) rfl (wl (oe rfl) (wl (oe rfl) (wl (oe rfl) (DO)))))⟩
  (try simp only[sd,se] at c2);refine Au (As A0 2 [] O (BU [0,3,4,5,6,21] 57 (fun y=>y= .p (.bool (decide (zk=9∨zk=10)))) ?_ ?_))
  ·refine Av O (fun c3=>?_) (fun c3=>?_)
   ·(try simp only[sd,se] at c3);exact A1 (⟨O,O,(List.Sublist.refl _),(by refine pB (Bool.eq_iff_iff.2 ?_);simp only[beq_iff_eq,decide_eq_true_eq];omega),⟨O,O,O,O,O,O,Ap⟩⟩)
   (try simp only[sd,se] at c3);exact A3 (Ar A0 2 [] O (⟨O,O,(List.Sublist.refl _),(by refine pB (Bool.eq_iff_iff.2 ?_);simp only[beq_iff_eq,decide_eq_true_eq];omega),⟨O,O,O,O,O,O,Ap⟩⟩))
  rintro _ rfl;refine Av O (fun c3=>?_) (fun c3=>?_)
  ·(try simp only[sd,se] at c3);have hk9:zk=9∨zk=10:=by simpa using c3
   refine Aw (Ay A0 3 [0] O ?_);obtain⟨x,hx⟩:=A6 (l:=zs) (i:=0) An;rw[T5 hwo rfl hmany (by rw[hzq];exact hk9) (by rw[hzq];exact hx)] at hC;have hn0:=hns;rw[←hC] at hn0;have hn1:=Tz hn0;refine Aq O (A5 Bg O O An (Bd hx) (BB _)) (Aq O (BJ BQ O (BB _)) (DX [3] O O O (.inl ⟨O,O,O⟩) (ih k An m x d hJ hn1) ⟨_,_,O,O,O⟩ Am (aw (we O) (aw (we O) (Eg))) (fun _ _ h=>(congrArg List.length h).trans O) ?_ ?_))
   rotate_left
   ·intro e _ he;exact⟨O,_,List.nil_sublist _,⟨_,by rw[←hC];exact Tb hn0 he,rfl⟩⟩
   rintro⟨pr,n2⟩ _ hz rfl;obtain⟨hr2,hr3⟩:=TM hn0 hz;rw[hr3] at hC;have hJ2:=PZ hJ (He hz);refine BG O (A7 Bw O) fun b7=>Ar A0 1 [0,1] O (Au (Aw (Aq O (Ax Gi O O) ?_)));obtain⟨prk,pri,prn,prl,prs⟩:=pr;have hprl:=K2 hr2;refine Ar A0 2 [0] O (Av O (fun c4=>?_) (fun c4=>?_))
   ·(try simp only[sd,se] at c4);rw[Va (r:=(Tm.mk prk pri prn prl prs,n2)) c4,hzq] at hC;refine Aw (Ay A0 3 [1,0] O (Aq O (Bi (rows:=BC [(.mk prk pri prn prl prs:Tm)]) Bg Bw O O O O (CB (Bu _)) (ED _)) (Ay A0 2 [] O (Aq O (Es O O (Dz (.mk zk 0 ⟨#[]⟩ [] [(.mk prk pri prn prl prs:Tm)]:Tm) ((A9 w).2) AQ) (aw (C7 O) (aw (we O) (Eg)))) (Ar A0 1 [2,1] O (Az (⟨O,_,_,⟨_,_,O,(BE (i:=2) BQ O O Ag),O⟩,(CH (is:=[4]) O),?_⟩)))))));exact⟨⟨_,_⟩,C6 hC.symm,O,O⟩
   (try simp only[sd,se] at c4);have hp8:=c4;refine A1 (A3 (Ay A0 3 [1,0] O ?_));obtain⟨cq,hcq⟩:=A6 (l:=prs) (i:=(1+zk - 9).toNat) (by have:=hprl.2.2.2 hp8;omega);have hcqo:=HS hr2 (i:=(1+zk - 9).toNat) hcq;rw[U1 (r:=(Tm.mk prk pri prn prl prs,n2)) (h:=(A9 w).1) hp8 (by rw[hzq];exact hcq)] at hC;have hn3:=hns;rw[←hC] at hn3;refine DX [4] O O O (.inl ⟨O,O,O⟩) (X9 m ds n2 (.mk zk zi zn zl zs:Tm) (.mk prk pri prn prl prs:Tm) cq hJ2 hk9 hcq) ⟨_,_,O,O,O⟩ Am (aw (we O) (aw (we O) (aw (we O) (Eg)))) (fun _ _ h=>(congrArg List.length h).trans O) ?_ ?_
   rotate_left
   ·intro e _ he;exact⟨O,_,List.nil_sublist _,⟨_,by rw[←hC];exact Jv hn3 he,rfl⟩⟩
   rintro⟨z1,n21⟩ _ hz1 rfl;rw[KR hn3 hz1] at hC;have hJ3:=(P6 hJ2 hz1).1;refine Br O (Aq O (BF O O (Dz z1 ((A9 w).2) AQ) O) (Ar A0 1 [3,1] O ?_));refine⟨⟨k,(apply z1 ((A9 w).2)),n21⟩,AT,⟨hC,by assumption,by omega⟩,BY ⟨we rfl,we rfl,we rfl,trivial⟩ (leH (is:=[2,3,4]) rfl (wl (oe rfl) (wl (oe rfl) (wl (oe rfl) (DO)))))⟩
  (try simp only[sd,se] at c3);refine As A0 2 [] O (Av O (fun c4=>?_) (fun c4=>?_))
  ·(try simp only[sd,se] at c4);have hk:=(congrArg Tm.kind hzq).trans c4;refine Aw (Ay A0 3 [0] O ?_);rw[Vg hwo rfl hmany hk,hzq] at hC;have hn0:=hns;rw[←hC] at hn0;have hn1:=Iw hn0;refine DX [3] O O O (.inl ⟨O,O,O⟩) (dB k m ds d (.mk zk zi zn zl zs:Tm) ((A9 w).2) (ih k An) hE hJ hzo An hsp.args hn1) ⟨_,_,O,O,O⟩ Am (aw (we O) (aw (we O) (aw (we O) (Eg)))) (fun _ _ h=>(congrArg List.length h).trans O) ?_ ?_
   rotate_left
   ·intro e _ he;exact⟨O,_,List.nil_sublist _,⟨_,by rw[←hC];exact KH hn0 he,rfl⟩⟩
   rintro⟨q,n2⟩ _ hz rfl;rw[Lc hz] at hC;have hJ2:=WX hJ (He hz);refine Ay A0 3 [] O (BG O (A7 Bw O) fun b8=>Ar A0 2 [0,1] O (Au (As A0 2 [] O (Av O (fun c5=>?_) (fun c5=>?_)))))
   ·(try simp only[sd,se] at c5);rw[iu (by simpa using c5)] at hC;refine As A0 2 [3,2,1] O (Az (⟨O,_,_,⟨_,_,O,(BE (i:=2) BQ O O Ag),O⟩,(CH (is:=[4]) O),?_⟩));exact⟨⟨_,_⟩,C6 hC.symm,O,O⟩
   (try simp only[sd,se] at c5);rw[jz (by simpa using c5)] at hC;refine A1 (A3 (Ar A0 2 [0,3,1] O ?_));refine⟨⟨k,(q.getD BZ),n2⟩,AT,⟨hC,by assumption,by omega⟩,BY ⟨we rfl,we rfl,we rfl,trivial⟩ (leH (is:=[2,3,4]) rfl (wl (oe rfl) (wl (oe rfl) (wl (oe rfl) (DO)))))⟩
  (try simp only[sd,se] at c4);rw[dA hwo rfl hmany (by rw[hzq];assumption) (by rw[hzq];assumption) (by rw[hzq];show ¬zk=9;omega) (by rw[hzq];show ¬zk=10;omega) (by rw[hzq];assumption)] at hC;refine As A0 2 [2,1,1] O (Az (⟨O,_,_,⟨_,_,O,(BE (i:=1) BQ O O Ag),O⟩,(CH (is:=[3]) O),?_⟩));exact⟨⟨_,_⟩,C6 hC.symm,O,O⟩
theorem eh:∀(be:Nat) (ce:List AV),EM Tryz.prog 71 [.ptr be 0] (.ret) [.box be ce] (fun H'=>H'=[.box be ce]):=by
 intro be ce;refine HJ (ty2:=0) Tryz.func71 O mV (n:=14) O O O O O O (Aw (Br O (Aq O (Gd Ze O O O) (Bf O ?_))));refine Av O (fun c=>by cases c) (fun c=>?_);exact A1 ⟨.inl O,O,_,(CH (is:=[0]) O),O⟩
theorem fe:∀(be:Nat),EM Tryz.prog 71 [.ptr be 0] (.pan (.p (.iface 122 (.unit)))) [.box be [.p (I 0)]] (fun H'=>H'=[.box be [.p (I 11)]]):=by
 intro be;refine HJ (ty2:=0) Tryz.func71 O mV (n:=14) O O O O O O (Aw (Br O (Aq O (Gd Ze O O O) (Bf O ?_))));refine Av O (fun c=>?_) (fun c=>by cases c);refine As A0 1 [0,0] O (Aw (Br O (Aq O (Us Aj O) (Ay A0 3 [] O (BG O (A7 Xx O) fun b2=>Aq O (Q6 nS O O) (Ar A0 1 [] O (As A0 2 [] O ?_)))))));refine Av O (fun c1=>by cases c1) (fun c1=>?_);exact A1 ⟨.inl O,O,_,(CH (is:=[1]) O),O⟩
theorem UI:∀{α:Type}(x:Except Int α) (a:α) (hx:x= .ok a) (cn:α→Int) (G:α→List BD) (fid:Nat) (caps:List AV) (T:List BD) (ds:List CC) (hf:∀m,Bl Tryz.prog fid ([.ptr m 0]++caps) (.box m [.p (.lst (List.map Bj ds)),.p (I 20000)]::T) (J5 (fun _=> .tup []) (fun _=> .p (.iface 122 .unit)) (fun a H'=>H'= .box m [.p (.lst (List.map Bj ds)),.p (I (cn a))]::G a) x)),Bl Tryz.prog 37 [.p (.lst (List.map Bj ds)),.fn (.func fid) [] caps] T (G5 (.p (I 0)) (G a)):=by
 intro α x a hx cn G fid caps T ds hf;refine E2 Tryz.func37 O lD (n:=11) O O (Aw (BG O (A7 df O) fun b4=>Bf O (Aw (Aq O (EH O O) (Nu O O O O (Bf O (Aw (Ay A0 3 [] O (BG O (BO O) fun b9=>K7 (List.Perm.swap _ _ _) (Hd [_] O O O (.inr O) (hf b9) (DD _) ?_ ?_))))))))))
 rotate_left
 ·rintro v T2 ⟨e2,h1,_⟩;rw[hx] at h1;cases h1
 rintro v T2 ⟨a2,h1,rfl,rfl⟩;rw[hx] at h1;cases h1;refine Bf O (As A0 1 [0,0] O (Az ⟨_,[_],_,O,List.Perm.refl _,EM.eq (eh b4 _) ?_⟩));refine⟨_,_,⟨_,_,O,(GD (i:=0) Rh O O),O⟩,(GG [] [_,_] O),?_⟩
 all_goals exact⟨rfl,rfl⟩
theorem P5:∀{α:Type}(x:Except Int α) (e:Int) (hx:x= .error e) (cn:α→Int) (G:α→List BD) (fid:Nat) (caps:List AV) (T:List BD) (ds:List CC) (hf:∀m,Bl Tryz.prog fid ([.ptr m 0]++caps) (.box m [.p (.lst (List.map Bj ds)),.p (I 20000)]::T) (J5 (fun _=> .tup []) (fun _=> .p (.iface 122 .unit)) (fun a H'=>H'= .box m [.p (.lst (List.map Bj ds)),.p (I (cn a))]::G a) x)),Bl Tryz.prog 37 [.p (.lst (List.map Bj ds)),.fn (.func fid) [] caps] T (G5 (.p (I 11)) []):=by
 intro α x e hx cn G fid caps T ds hf;refine E2 Tryz.func37 O lD (n:=11) O O (Aw (BG O (A7 df O) fun b4=>Bf O (Aw (Aq O (EH O O) (Nu O O O O (Bf O (Aw (Ay A0 3 [] O (BG O (BO O) fun b9=>K7 (List.Perm.swap _ _ _) (Hd [_] O O O (.inr O) (hf b9) (DD _) ?_ ?_))))))))))
 ·rintro v T2 ⟨a2,h1,_⟩;rw[hx] at h1;cases h1
 rintro v T2 ⟨e2,h1,rfl⟩;refine⟨_,_,_,O,Lo (is:=[0]) _ Am ⟨_,_,O,O,O⟩,EM.eq (fe b4) ?_⟩;refine⟨_,[],⟨_,_,O,(GD (i:=0) Rh O O),O⟩,(List.nil_sublist _),?_⟩;exact⟨O,O⟩
end Go.Proofs.YtboammbpdaoojaaGreat
namespace Go.Eu
open Go.Abs
structure Lt (c:IV):Prop where
 ov:c.over=false
 lm:c.limit=1000
 s0:0≤c.steps
 s1:c.steps≤1000
 n0:0≤c.nodes
 n1:c.nodes≤2000
section
variable {E:List CC}
structure qK (c c':IV) (z z':Nat):Prop where
 lt:Lt c'
 st:c.steps≤c'.steps
 nd:c.nodes≤c'.nodes
 sz:(z':Int)≤z+(c'.nodes - c.nodes)
def SW (n:Nat) (W:IV→Tm→Out (Tm×IV)) (V:Int→Tm→Out (Tm×Int)):Prop:=∀c t r c',Lt c→W c t= .ok (r,c')→c'.over=false→(size t:Int)≤30000+c.nodes →
 qK c c' (size t) (size r)∧∀l:Int,1000 - c.steps≤l→V l t= .ok (r,l - (c'.steps - c.steps))
variable {n:Nat}{W:IV→Tm→Out (Tm×IV)}{V:Int→Tm→Out (Tm×Int)}
structure ql (c c':IV) (z:Nat) (q:Option Tm):Prop where
 lt:Lt c'
 st:c.steps≤c'.steps
 nd:c.nodes≤c'.nodes
 sz:∀x,q=some x→(size x:Int)≤z+(c'.nodes - c.nodes)
end
section
variable {E:List CC}{n:Nat}
end
section
variable {E:List CC}
def qa {α:Type}(c:IV) (o:Int→Out (α×Int)) (q:α):Prop:=∀l:Int,1000 - c.steps≤l→∃l',o l= .ok (q,l')
end
section
variable {E:List CC}
end
end Go.Eu
