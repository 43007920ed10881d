/- Part of the proofs: an abstract program logic, plain models and contracts of functions. -/
import Derived.Test.YtldfmjoncbjldaaGreatPj
import Derived.Test.YtldfmjoncbjldaaGreatPe
import Derived.Test.YtldfmjoncbjldaaGreatPd
import Derived.Test.YtldfmjoncbjldaaGreatPf
import Derived.Test.YtldfmjoncbjldaaGreatPb
set_option linter.unusedVariables false
set_option linter.unusedSimpArgs false
set_option maxRecDepth 1000000
namespace Go.Eu
open Go.Abs
def sL (t:Tm):Bool:=decide (FF t > 2000)||decide (FU t > 95)
def iY (W:Dm→Tm→Out (Tm×Dm)):List Tm→Dm→Out (List Tm×Dm)
 | [],c=> .ok ([],c)
 | x::xs,c=>(W c x).bind fun r=>(iY W xs r.2).bind fun q=> .ok (r.1::q.1,q.2)
def Rg (E:List B8):Nat→Dm→Tm→Out (Tm×Dm)
 | 0,_,_=> .stuck
 | n+1,c,t=>(FM E DI FN c t).chk fun w=>if w.2.over=true then .ok w else
  (iY (Rg E n) (Ay w.1).1.kids w.2).bind fun ks=>(iY (Rg E n) (Ay w.1).2 ks.2).bind fun zs =>
   if okB (R6 (Ay w.1).1 ks.1 zs.1)=true then .ok (R6 (Ay w.1).1 ks.1 zs.1,zs.2.sized (R6 (Ay w.1).1 ks.1 zs.1)) else .stuck
def nc (W:Dm→Tm→Out (Tm×Dm)) (l:List Tm) (d:Dm) (K:List Tm) (D:Dm) (ys:List Tm):Prop:=∃rest,iY W l d= .ok (rest,D)∧K=ys++rest
section
variable {W:Dm→Tm→Out (Tm×Dm)}{l:List Tm}{d D:Dm}{K ys:List Tm}{x:Tm}
theorem nc.next (h:nc W (x::l) d K D ys):∃r d1,W d x= .ok (r,d1)∧nc W l d1 K D (ys++[r]):=by
 obtain⟨rest,h1,h2⟩:=h;rw[iY] at h1;obtain⟨⟨r,d1⟩,g1,g2⟩:=D8 h1;obtain⟨⟨q,d2⟩,g3,g4⟩:=D8 g2;cases g4;exact⟨r,d1,g1,q,g3,by rw[h2];simp⟩
theorem nc.done (h:nc W [] d K D ys):ys=K∧d=D:=by
 obtain⟨rest,h1,h2⟩:=h;cases h1;exact⟨by simpa using h2.symm,rfl⟩
theorem nc.at {i:Nat}(h:nc W (l.drop i) d K D ys) (hx:l[i]?=some x):∃r d1,W d x= .ok (r,d1)∧nc W (l.drop (i+1)) d1 K D (ys++[r]):=by
 rw[Cd hx] at h;exact h.next
end
section
variable {E:List B8}
theorem ld {n:Nat}{c c2:Dm}{t r:Tm}(h:Rg E (n+1) c t= .ok (r,c2)):∃w d,FM E DI FN c t= .ok (w,d)∧okB w=true ∧
  ((d.over=true∧r=w∧c2=d)∨(d.over=false∧∃ks e zs f,iY (Rg E n) (Ay w).1.kids d= .ok (ks,e)∧iY (Rg E n) (Ay w).2 e= .ok (zs,f)∧okB (R6 (Ay w).1 ks zs)=true∧r=R6 (Ay w).1 ks zs∧c2=f.sized r)):=by
 rw[Rg] at h;obtain⟨⟨w,d⟩,h1,h2,h3⟩:=HK h;refine⟨w,d,h1,h2,?_⟩;simp only at h3;cases hv:d.over with
 | true=>rw[hv,if_pos rfl] at h3;cases h3;exact .inl ⟨rfl,rfl,rfl⟩
 | false =>
  rw[hv,if_neg Av] at h3;obtain⟨⟨ks,e⟩,g1,g2⟩:=D8 h3;obtain⟨⟨zs,f⟩,g3,g4⟩:=D8 g2;simp only at g3 g4;split at g4
  ·rename_i ho;cases g4;exact .inr ⟨O,ks,e,zs,f,g1,g3,ho,O,O⟩
  cases g4
abbrev cS (c:Dm):Nat:=c.steps.toNat
structure oQ (n:Nat) (c:Dm) (z:Nat):Prop where
 j:kC c
 ub:cS c≤10000000
 n1:1≤n
 fu:c.over=false→z+(1000 - cS c)*4500+1≤n
 pm:c.over=false→z+(1000 - cS c)*4500≤5000000
structure eM (c c':Dm) (z z':Nat):Prop where
 j:kC c'
 ub:cS c'≤10000000
 le:cS c≤cS c'
 sz:z'≤z+(cS c' - cS c)*4500
 ov:c'.over=false→c.over=false
theorem RD {c:Dm}{t:Tm}:(c.sized t).steps=c.steps∧(c.sized t).limit=c.limit∧((c.sized t).over=false→c.over=false∧sL t=false∧c.sized t=c):=by
 refine⟨O,O,fun h=>?_⟩;have h1:(c.over||sL t)=false:=h;rw[Bool.or_eq_false_iff] at h1;refine⟨h1.1,h1.2,?_⟩;show (⟨c.steps,c.nodes,c.forms,c.limit,c.over||sL t⟩:Dm)=c;rw[h1.1,h1.2];obtain⟨a,b,d,e,f⟩:=c;cases h1.1;rfl
theorem W8 {n:Nat}(ih:∀c t,okB t=true→oQ n c (size t)→∃r c',Rg E n c t= .ok (r,c')∧okB r=true∧eM c c' (size t) (size r)) :
  ∀(l:List Tm) (c:Dm) (z:Nat),(∀x∈l,okB x=true∧size x≤z)→oQ n c z→∃ys c',iY (Rg E n) l c= .ok (ys,c')∧ys.length=l.length∧(∀y∈ys,okB y=true)∧eM c c' (BB l) (BB ys)
 | [],c,z,hl,hp=>⟨[],c,rfl,rfl,fun y hy=>(by cases hy),⟨hp.j,hp.ub,Nat.le_refl _,by omega,id⟩⟩
 | x::l,c,z,hl,hp=>by
  have hx:=hl x Av;obtain⟨r,c1,h1,h2,h3⟩:=ih c x hx.1 ⟨hp.j,hp.ub,hp.n1,fun h=>by have:=hp.fu h;omega,fun h=>by have:=hp.pm h;omega⟩;have hle:=h3.le;obtain⟨ys,c2,g1,g2,g3,g4⟩:=W8 ih l c1 z (fun y hy=>hl y (by simp[hy])) ⟨h3.j,h3.ub,hp.n1,fun h=>by have:=hp.fu (h3.ov h);omega,fun h=>by have:=hp.pm (h3.ov h);omega⟩;refine⟨r::ys,c2,?_,by simp[g2],fun y hy=>?_,⟨g4.j,g4.ub,Nat.le_trans h3.le g4.le,?_,fun h=>h3.ov (g4.ov h)⟩⟩
  ·rw[iY,h1];simp only[Out.bind];rw[g1]
  ·rcases List.mem_cons.1 hy with e | e
   ·rw[e];exact h2
   exact g3 y e
  have a:=h3.sz;have b:=g4.sz;have d:=g4.le;simp only[BB];omega
theorem nx {w:Tm}(ho:okB w=true) {ks zs:List Tm}(hl:ks.length=(Ay w).1.kids.length) (hk:∀x∈ks,okB x=true) (hz:∀x∈zs,okB x=true) (hs:1+BB ks+BB zs+zs.length<549755813888):okB (R6 (Ay w).1 ks zs)=true:=by
 have h1:=J1 (DB ho).1;refine OU (Jv ?_ fun x hx=>J1 (hz x hx)) ?_
 ·generalize (Ay w).1=g at h1 hl;obtain⟨k,i,nm,lv,gs⟩:=g;simp only[Tm.kids] at hl;simp only[Tm.kind,Tm.index,Tm.name,Tm.levels];rw[Lx,Bool.and_eq_true] at h1 ⊢;rw[hl];exact⟨h1.1,KO.2 fun x hx=>J1 (hk x hx)⟩
 show size (apply _ _)<_;rw[Cm,size];exact hs
theorem lH (hE:G2 E):∀(n:Nat) (c:Dm) (t:Tm),okB t=true→oQ n c (size t)→∃r c',Rg E n c t= .ok (r,c')∧okB r=true∧eM c c' (size t) (size r)
 | 0,c,t,ho,hp=>by have:=hp.n1;omega
 | n+1,c,t,ho,hp=>by
  obtain⟨⟨w,d⟩,h1,h2⟩:=ju (jO dx hE FN c t ⟨hp.j,ho,fun h=>(by have:=hp.pm h;show size t+(1000 - cS c)*4500≤90100000;omega),fun h=>(by have:=hp.pm h;rw[Yy];show size t+(1000 - cS c)*4501+100≤1000000000000;omega),by rw[Yy];omega⟩) (ri FN c t);have w1:okB w=true:=h2.ok;have w2:cS c≤cS d:=h2.le;have w3:size w≤size t+(cS d - cS c)*4500:=h2.sz;have hub:cS d≤10000000:=by
   cases hv:c.over with
   | true=>rw[show d=c from h2.st hv];exact hp.ub
   | false =>
    have a:cS d≤1000+1+size t+(1000 - cS c)*4500:=h2.ub hv;have b:=hp.pm hv;omega
  have hov:d.over=false→c.over=false:=fun h=>Fa h1 h;cases hv:d.over with
  | true=>exact⟨w,d,by rw[Rg,h1];simp only[Out.chk,Out.bind];rw[if_pos w1,if_pos hv],w1,⟨h2.j,hub,w2,w3,fun h=>by rw[hv] at h;cases h⟩⟩
  | false =>
   have hc:=hov hv;have hst:cS d≤1000:=by
    have:d.steps≤1000:=h2.j.2.2 hv;show d.steps.toNat≤1000;omega
   have f1:=hp.fu hc;have f2:=hp.pm hc;have hz1:=ER w;have ih:∀c t,okB t=true→oQ n c (size t)→∃r c',Rg E n c t= .ok (r,c')∧okB r=true∧eM c c' (size t) (size r):=lH hE n;have hkz:∀x∈(Ay w).1.kids,okB x=true∧size x≤size w - 1:=fun x hx=>⟨LO w1 hx,by have:=FC hx;omega⟩;have haz:∀x∈(Ay w).2,okB x=true∧size x≤size w - 1:=fun x hx=>⟨(DB w1).2 x hx,by have:=D2 hx;omega⟩;have hn1:1≤n∧size w - 1+(1000 - cS d)*4500+1≤n∧size w - 1+(1000 - cS d)*4500≤5000000:=by
    have:=size_pos w;omega
   obtain⟨ks,e,k1,k2,k3,k4⟩:=W8 ih (Ay w).1.kids d (size w - 1) hkz ⟨h2.j,hub,hn1.1,fun _=>hn1.2.1,fun _=>hn1.2.2⟩;have ke:=k4.le;obtain⟨zs,f,a1,a2,a3,a4⟩:=W8 ih (Ay w).2 e (size w - 1) haz ⟨k4.j,k4.ub,hn1.1,fun h=>by omega,fun h=>by omega⟩;have ks1:=k4.sz;have as1:=a4.sz;have ae:=a4.le;have au:=a4.ub;have hsz:1+BB ks+BB zs+zs.length≤size t+(cS f - cS c)*4500:=by
    have hg:size (Ay w).1=1+BB (Ay w).1.kids:=by
     generalize (Ay w).1=g;obtain⟨k,i,nm,lv,gs⟩:=g;rfl
    rw[a2];have e1:(cS f - cS c)=(cS f - cS e)+(cS e - cS d)+(cS d - cS c):=by omega
    rw[e1,Nat.add_mul,Nat.add_mul];omega
   have hrb:okB (R6 (Ay w).1 ks zs)=true:=nx w1 k2 k3 a3 (by
    have:(cS f - cS c)*4500≤10000000*4500:=Nat.mul_le_mul_right _ Au;omega)
   refine⟨R6 (Ay w).1 ks zs,f.sized (R6 (Ay w).1 ks zs),?_,hrb,?_⟩
   ·rw[Rg,h1];simp only[Out.chk,Out.bind];rw[if_pos w1,if_neg (by simp[hv]),k1];simp only;rw[a1];simp only;rw[if_pos hrb]
   obtain⟨s1,s2,s3⟩:=RD (c:=f) (t:=R6 (Ay w).1 ks zs);have j:=a4.j;refine⟨⟨s2.trans j.1,by rw[s1];exact j.2.1,fun h=>by rw[s1];exact j.2.2 (s3 h).1⟩,a4.ub,(by show cS c≤cS f;omega),?_,fun h=>hov (k4.ov (a4.ov (s3 h).1))⟩;rw[show cS (f.sized (R6 (Ay w).1 ks zs))=cS f by rw[cS,s1]];show size (apply _ _)≤_;rw[Cm,size];exact hsz
theorem kV (hE:G2 E) {n:Nat}{c d:Dm}{t w:Tm}(hL:Lt c) (hw:okB w=true) (h:FM E DI n c t= .ok (w,d)) (hv:d.over=false) (hz:(size t:Int)≤30000+c.nodes):Wh E t w∧aV c d (size t) (size w):=by
 obtain⟨h1,h2⟩:=dT hE.g n c t w d hL h hv hz;exact⟨⟨hw,n,1000 - c.steps,_,h2 _ (Int.le_refl _)⟩,h1⟩
theorem TZ {n:Nat}(ih:∀c t r c',Rg E n c t= .ok (r,c')→c'.over=false→c.over=false):∀(l:List Tm) (c:Dm) (ys:List Tm) (c':Dm),iY (Rg E n) l c= .ok (ys,c')→c'.over=false→c.over=false
 | [],c,ys,c',h,hv=>by cases h;exact hv
 | x::l,c,ys,c',h,hv=>by
  rw[iY] at h;obtain⟨⟨r,c1⟩,h1,h2⟩:=D8 h;obtain⟨⟨q,c2⟩,h3,h4⟩:=D8 h2;cases h4;exact ih _ _ _ _ h1 (TZ ih l c1 q _ h3 hv)
theorem e9:∀(n:Nat) (c:Dm) (t r:Tm) (c':Dm),Rg E n c t= .ok (r,c')→c'.over=false→c.over=false
 | 0,c,t,r,c',h,_=>by cases h
 | n+1,c,t,r,c',h,hv=>by
  obtain⟨w,d,h1,h2,h3⟩:=ld h;refine Fa h1 ?_;rcases h3 with ⟨a,b,e⟩ | ⟨a,_⟩
  ·rw[←e];exact hv
  exact a
theorem Ql {n:Nat}(ih:∀c t r c',Lt c→Rg E n c t= .ok (r,c')→c'.over=false→(size t:Int)≤30000+c.nodes→N3 E n t r∧Lt c'∧c.nodes≤c'.nodes) :
  ∀(l:List Tm) (c:Dm) (ys:List Tm) (c':Dm),Lt c→iY (Rg E n) l c= .ok (ys,c')→c'.over=false→(∀x∈l,(size x:Int)≤30000+c.nodes)→E3 (N3 E n) l ys∧Lt c'∧c.nodes≤c'.nodes
 | [],c,ys,c',hL,h,hv,hz=>by cases h;exact⟨trivial,hL,Int.le_refl _⟩
 | x::l,c,ys,c',hL,h,hv,hz=>by
  rw[iY] at h;obtain⟨⟨r,c1⟩,h1,h2⟩:=D8 h;obtain⟨⟨q,c2⟩,h3,h4⟩:=D8 h2;cases h4;obtain⟨g1,g2,g3⟩:=ih c x r c1 hL h1 (TZ (e9 n) l c1 q _ h3 hv) (hz x Av);simp only at h3;obtain⟨g4,g5,g6⟩:=Ql ih l c1 q _ g2 h3 hv (fun y hy=>by have:=hz y (by simp[hy]);omega);exact⟨⟨g1,g4⟩,g5,Int.le_trans g3 g6⟩
theorem aI (hE:G2 E):∀(n:Nat) (c:Dm) (t r:Tm) (c':Dm),Lt c→Rg E n c t= .ok (r,c')→c'.over=false→(size t:Int)≤30000+c.nodes→N3 E n t r∧Lt c'∧c.nodes≤c'.nodes
 | 0,c,t,r,c',hL,h,_,_=>by cases h
 | n+1,c,t,r,c',hL,h,hv,hz=>by
  obtain⟨w,d,h1,h2,h3⟩:=ld h;rcases h3 with ⟨a,b,e⟩ | ⟨a,ks,e,zs,f,k1,a1,ho,rfl,rfl⟩
  ·rw[←e] at a;rw[hv] at a;cases a
  obtain⟨s1,s2,s3⟩:=RD (c:=f) (t:=R6 (Ay w).1 ks zs);obtain⟨fv,_,fe⟩:=s3 hv;rw[fe];obtain⟨hw,hp⟩:=kV hE hL h2 h1 a hz;have hsz:(size w:Int)≤30000+d.nodes:=by have:=hp.sz;omega
  have ih:∀c t r c',Lt c→Rg E n c t= .ok (r,c')→c'.over=false→(size t:Int)≤30000+c.nodes→N3 E n t r∧Lt c'∧c.nodes≤c'.nodes:=aI hE n;have ev:=TZ (e9 n) _ _ _ _ a1 fv;obtain⟨g1,g2,g3⟩:=Ql ih _ _ _ _ hp.lt k1 ev (fun x hx=>by have:=FC hx;omega);obtain⟨g4,g5,g6⟩:=Ql ih _ _ _ _ g2 a1 fv (fun x hx=>by have:=D2 hx;omega);exact⟨⟨w,ks,zs,hw,O,g1,g4⟩,g5,by have:=hp.nd;omega⟩
theorem ZE (hE:G2 E) (g:Tm) (x:IK) (hu:Gy E g=some x) (k5:x.kind=5):0≤Bv (CR E x.decl):=by
 rw[Di] at hu;cases hb:U1 E g with
 | false=>rw[hb] at hu;cases hu
 | true =>
  rw[hb,if_pos rfl] at hu;cases hu;obtain⟨i,d,e1,e2,hd,e4⟩:=KF hb;rw[show CR E (BY E g.name).1.decl=d from CO e4];have h1:=KI (hE.g.all _ hd);omega
abbrev sb:Nat:=5000001
theorem tA (hE:G2 E) {t:Tm}(ho:okB t=true) (hz:size t≤10000):∃r c,Rg E sb Gz t= .ok (r,c)∧okB r=true:=by
 obtain⟨r,c,h1,h2,_⟩:=lH hE sb Gz t ho ⟨⟨rfl,by decide,fun _=>by decide⟩,by decide,by decide,fun _=>by show size t+(1000 - 0)*4500+1≤5000001;omega,fun _=>by show size t+(1000 - 0)*4500≤5000000;omega⟩;exact⟨r,c,h1,h2⟩
theorem pH (hE:G2 E) {t r:Tm}{c:Dm}(ho:okB t=true) (hz:size t≤60) (h:Rg E sb Gz t= .ok (r,c)) (hv:c.over=false) (hr:okB r=true) (hrz:size r≤60) :
  Gv (KX E) 61 r=true∧(Gv (KX E) 61 t=MN t r):=by
 obtain⟨h1,_,_⟩:=aI hE sb Gz t r c lS h hv (by show (size t:Int)≤30000+0;omega);have h2:Gv (KX E) 61 r=true:=cN hE sb 61 r (lI (ZE hE) _ _ _ h1 hr) hr Au;refine⟨h2,?_⟩;cases ht:Gv (KX E) 61 t with
 | true =>
  have h3:=kF (ZE hE) 61 t (l7 61 t Au ht) ho Au;exact(FP (h3.det h1)).symm
 | false =>
  refine(FL fun e=>?_).symm;rw[e,h2] at ht;cases ht
end
end Go.Eu
namespace Go.Proofs.YtldfmjoncbjldaaGreat
open Go.Abs Go.Eu
def yS (ds:List B8) (n:Nat):Prop:=∀(b:Nat) (t:Tm) (c c2:Dm) (r:Tm),Rg ds n c t= .ok (r,c2)→BL Tryz.prog 35 [.p (.lst (List.map B0 ds)),.agg ((BD t).map .p),.ptr b 0] [.box b ((HQ c).map .p)] (Gh (.agg ((BD r).map .p)) [.box b ((HQ c2).map .p)])
set_option maxHeartbeats 1000000 in
theorem oL:∀(ds:List B8) (hE:G2 ds) (n:Nat),yS ds n:=by
 intro ds hE n
 induction n with
 | zero=>intro b t c c2 r h;cases h
 | succ k ih =>
  intro b t c c2 r h1;obtain⟨w,d,hw1,hwo,hw3⟩:=ld h1;have hsp:=Q7 hwo;have hsl:=hsp.len;have hss:=hsp.sz;refine DJ Tryz.func35 (CG [0] O O fun b4=>Bp [0] O (Az Ba O) fun b6=>A2 [3,1] O (Bi [2] O (.inl ⟨O,O,O⟩) (ZQ ds hE FN b t c d w hw1) ⟨_,_,O,O,O⟩ As O (.inl O)) ?_);refine BC [5,1,1,2] rfl ?_ ?_<;>intro c1
  ·rcases hw3 with ⟨_,rfl,rfl⟩ | ⟨e0,_⟩
   rotate_left
   ·rw[e0] at c1;cases c1
   refine A9 [2,1,0,1] O (Bg [0] [2] O O ⟨O,O⟩)
  rcases hw3 with ⟨e0,_⟩ | ⟨e0,KS,e,ZS,f,k1,a1,ho,rfl,rfl⟩
  ·rw[e0] at c1;cases c1
  refine CQ [1,1] O (LG _ w (Nat.le_refl _) Ak) (Bp [3] O (Az Ba O) fun b7=>?_);generalize hz:(Ay w).1=z;obtain⟨zk,zi,zn,zl,zs⟩:=z;have hzo:okB (.mk zk zi zn zl zs)=true:=hz▸hsp.head;have hzl:=KK hzo;have hzq:=(Bu.1 hzo).nd;simp only[Nd,DZ] at hzq;have hzs:=hzq.2.2.2.1;rw[hz] at k1 ho;simp only[Tm.kids] at k1;refine CK [4,0,1] O (A5 (DK (t:=9) (sz:=5) O) (BP (GG (α:=Nat×List Tm×Dm×Option Nat×Nat) [0] [0,2,6,7,8] [0,1,2,4] (fun(i,ys,g,o,cp)=>[(9,.vs o (A6 ys).length cp),(10,.p (I (i:Int)))]) (fun(i,ys,g,o,cp)=>[(0,.vec o 5 (A6 ys) cp),(3,.box b ((HQ g).map .p))]) (fun(i,ys,g,o,cp)=>zs.length - i) (fun(i,ys,g,o,cp)=>i≤zs.length∧(ys.length=i∧nc (Rg ds k) (List.drop i zs) g KS e ys)) ⟨0,[],d,none,0⟩ O O O (⟨by omega,rfl,KS,k1,rfl⟩) ?_)));rintro⟨i,ys,g,o,cp⟩ hC
  try simp only at hC
  obtain⟨hi,hC⟩:=hC;obtain⟨hyl,hC⟩:=hC;refine B9 [3,1] O O (A8 _) ?_;refine BC [1] rfl ?_ ?_<;>intro c3
  ·refine D6 [5,1] zs i O O O (IH _) (fun x hx=>?_);obtain⟨q,q1,hq1,hq2⟩:=hC.at hx;refine A2 [2] O (Bi [3] O (.inl ⟨O,O,O⟩) (ih b x g q1 q hq1) ⟨_,_,O,O,O⟩ As O (.inl O)) ?_;obtain⟨qk,qi,qn,ql,qs⟩:=q;exact A2 [0] O (BH BT Ba O O O O O) (DT [0] O (ET O O (Bh (i:=0) (rows':=A6 [(.mk qk qi qn ql qs:Tm)]) BT BT Ba O O O O O O (Bd _) AD (Hl ys [(.mk qk qi qn ql qs:Tm)])) fun o1 cp1=>BW (FR [4] 0 ⟨i+1,ys++[.mk qk qi qn ql qs],q1,o1,cp1⟩ O (⟨by omega,⟨by simp[hyl],hq2⟩⟩))))
  rw[List.drop_eq_nil_of_le Au] at hC;obtain⟨rfl,rfl⟩:=hC.done;refine DH [0] O (DT [0] O (BJ (CM (i:=0) [9] O (DA ⟨O,Aw⟩)) (BW (Bp [10,0,0,0,0] O (Az Ba O) fun b11=>?_))));refine CK [3,0,0] O (A5 (DK (t:=12) (sz:=5) O) (BP (GG (α:=Nat×List Tm×Dm×Option Nat×Nat) [0] [0,2,6,8,11] [0,1,3,4] (fun(i,us,g2,o1,cp1)=>[(12,.vs o1 (A6 us).length cp1),(13,.p (I (i:Int)))]) (fun(i,us,g2,o1,cp1)=>[(0,.vec o1 5 (A6 us) cp1),(3,.box b ((HQ g2).map .p))]) (fun(i,us,g2,o1,cp1)=>(Ay w).2.length - i) (fun(i,us,g2,o1,cp1)=>i≤(Ay w).2.length∧(us.length=i∧nc (Rg ds k) (List.drop i (Ay w).2) g2 ZS f us)) ⟨0,[],g,none,0⟩ O O O (⟨by omega,rfl,ZS,a1,rfl⟩) ?_)));rintro⟨i,us,g2,o1,cp1⟩ hC1
  try simp only at hC1
  obtain⟨hi,hC⟩:=hC1;obtain⟨hyl,hC⟩:=hC;refine B9 [2] O O (A8 _) ?_;refine BC [1] rfl ?_ ?_<;>intro c4
  ·refine D6 [4] ((Ay w).2) i O O O (IH _) (fun x hx=>?_);obtain⟨p,p1,hq1,hq2⟩:=hC.at hx;refine A2 [2] O (Bi [3] O (.inl ⟨O,O,O⟩) (ih b x g2 p1 p hq1) ⟨_,_,O,O,O⟩ As O (.inl O)) ?_;obtain⟨pk,pi,pn,pl,ps⟩:=p;exact A2 [0] O (BH BT Ba O O O O O) (DT [0] O (ET O O (Bh (i:=0) (rows':=A6 [(.mk pk pi pn pl ps:Tm)]) BT BT Ba O O O O O O (Bd _) AD (Hl us [(.mk pk pi pn pl ps:Tm)])) fun o2 cp2=>BW (FR [4] 0 ⟨i+1,us++[.mk pk pi pn pl ps],p1,o2,cp2⟩ O (⟨by omega,⟨by simp[hyl],hq2⟩⟩))))
  rw[List.drop_eq_nil_of_le Au] at hC;obtain⟨rfl,rfl⟩:=hC.done;refine DH [0] O (DT [2,1] O (BJ (CM (i:=0) [12,73] O (DA ⟨O,O,Aw⟩)) (BW (CQ [0] O (Ef (.mk zk zi zn zl ys:Tm) us Ak) ?_))));refine A2 [1] O (Bi [2] O (.inl ⟨O,O,O⟩) (qH b g2 (apply (.mk zk zi zn zl ys:Tm) us) (Bu.1 ho).nd) ⟨_,_,O,O,O⟩ As O (.inl O)) (A9 [1,1,1] O (Bg [1] [2] O O ⟨O,O⟩))
end Go.Proofs.YtldfmjoncbjldaaGreat
namespace Go.Eu
open Go.Abs
section
variable {E:List B8}{st:Tm→Bool}{n:Nat}{t x:Tm}
theorem qS {q:Option Tm}{c:Dm}(e:Dg E DI FN Gz t= .ok (q,c)):KX E t=(q.isSome||c.over):=by unfold KX;rw[e]
theorem jU (h:st t=true):Gv st (n+1) t=false:=by rw[Gv,h];rfl
theorem bT (hx:x∈(Ay t).1.kids++(Ay t).2) (h:Gv st n x=false):Gv st (n+1) t=false:=by
 rw[Gv,Bool.and_eq_false_iff];right;rw[List.all_eq_false];exact⟨x,hx,by simp[h]⟩
theorem ey (h:st t=false) (hk:∀x∈(Ay t).1.kids,Gv st n x=true) (ha:∀x∈(Ay t).2,Gv st n x=true):Gv st (n+1) t=true:=by
 rw[Gv,h,Bool.not_false,Bool.true_and,List.all_eq_true];intro x hx;rcases List.mem_append.1 hx with g | g
 ·exact hk x g
 exact ha x g
theorem qO (ho:okB t=true) (hx:x∈(Ay t).1.kids++(Ay t).2):okB x=true∧size x+1≤size t:=by
 rcases List.mem_append.1 hx with g | g
 ·exact⟨LO ho g,FC g⟩
 exact⟨(DB ho).2 x g,D2 g⟩
theorem bw {p:Tm→Prop}{l:List Tm}{i:Nat}(h:∀j,j<i→∀x,l[j]?=some x→p x) (hi:l.length≤i):∀x∈l,p x:=fun x hx=>by
 obtain⟨j,hj⟩:=List.mem_iff_getElem?.1 hx;exact h j (by have:=(List.getElem?_eq_some_iff.1 hj).1;omega) x hj
end
end Go.Eu
namespace Go.Proofs.YtldfmjoncbjldaaGreat
open Go.Abs Go.Eu
theorem gP:∀(n:Nat) (ds:List B8) (t:Tm),(G2 ds)→(okB t=true)→(size t≤n)→(n≤10000)→En Tryz.prog 16 [.p (.lst (List.map B0 ds)),.agg ((BD t).map .p)] (.p (.bool (Gv (KX ds) n t))):=by
 intro n
 induction n with
 | zero=>intro ds t h1 h2 h3;have:=size_pos t;omega
 | succ n ih =>
  intro ds t h1 h2 h3 h4;have hsp:=Q7 h2;have hsl:=hsp.len;obtain⟨q,c2,hr1,hr2⟩:=eJ h1 h2 Au;have hst:=qS hr1;refine DJ Tryz.func16 (CG [0] O O fun b3=>DT [1] O (PR O O O (.inl ⟨O,O,O⟩) WB (Ds _) fun bc=>BW (A2 [4,1] O (Bi [0] O (.inl ⟨O,O,O⟩) (m7 ds h1 FN bc t Gz c2 q hr1) ⟨_,_,O,O,O⟩ As O (.inl O)) ?_)));refine Bp [3] O (Az Ba O) fun b6=>CJ [2,0,1] 3 [0,3] 26 (q.isSome||c2.over) O O ?_ ?_
  ·refine Bc [2] 21 rfl rfl ?_ ?_<;>intro g
   ·exact CT [5] O
   exact CT [5,1] O
  refine BC [0] rfl ?_ ?_<;>intro c
  ·refine A9 [1] O (Bg [] [] O O ⟨by refine pB ?_;rw[jU (by rw[hst];simpa using c)],rfl⟩)
  have hst0:KX ds t=false:=by rw[hst];simpa using c
  refine CQ [1,2] O (LG _ t (Nat.le_refl _) Ak) (Bp [3] O (Az Ba O) fun b8=>?_);generalize hz:(Ay t).1=z;obtain⟨zk,zi,zn,zl,zs⟩:=z;have hzo:okB (.mk zk zi zn zl zs)=true:=hz▸hsp.head;have hzq:=(Bu.1 hzo).nd;simp only[Nd,DZ] at hzq;have hzs:=hzq.2.2.2.1;have hks:(Ay t).1.kids=zs:=by rw[hz];rfl
  refine GG (α:=Nat) [3,0,1] [0,8,9] [0] (fun i=>[(10,.p (I (i:Int)))]) (fun _=>[]) (fun i=>zs.length - i) (fun i=>i≤zs.length∧(∀j,j<i→∀x,zs[j]?=some x→Gv (KX ds) n x=true)) 0 O O O (⟨by omega,fun j h=>by omega⟩) ?_;rintro i hC
  try simp only at hC
  obtain⟨hi,hC⟩:=hC;refine B9 [3,0] O O (A8 _) ?_;refine BC [1] rfl ?_ ?_<;>intro c1
  ·refine D6 [4,0] zs i O O O (IH _) (fun x hx=>?_);refine CQ [1] O (ih ds x h1 (LO h2 (hks▸List.mem_of_getElem? hx)) (by have:=FC (hks.symm▸List.mem_of_getElem? hx);omega) Au) ?_;refine BC [1] rfl ?_ ?_<;>intro c3
   ·have hn1:=c3;refine A9 [1] O (Bg [] [] O O ⟨by refine pB ?_;rw[bT (x:=x) (by rw[hks];exact List.mem_append_left _ (List.mem_of_getElem? hx)) (by simpa using hn1)],rfl⟩)
   have hn1:=c3;exact FR [3] 0 (i+1) O (⟨by omega,Cg (p:=fun _ y=>Gv (KX ds) n y=true) hC hx (by simpa using hn1)⟩)
  have hk1:=bw hC Au;refine DH [0] O ?_;refine GG (α:=Nat) [1] [0,9] [] (fun i=>[(11,.p (I (i:Int)))]) (fun _=>[]) (fun i=>(Ay t).2.length - i) (fun i=>i≤(Ay t).2.length∧(∀j,j<i→∀x,(Ay t).2[j]?=some x→Gv (KX ds) n x=true)) 0 O O O (⟨by omega,fun j h=>by omega⟩) ?_;rintro i hC1
  try simp only at hC1
  obtain⟨hi,hC⟩:=hC1;refine B9 [2] O O (A8 _) ?_;refine BC [1] rfl ?_ ?_<;>intro c3
  ·refine D6 [3] ((Ay t).2) i O O O (IH _) (fun x hx=>?_);refine CQ [1] O (ih ds x h1 ((DB h2).2 _ (List.mem_of_getElem? hx)) (by have:=D2 (List.mem_of_getElem? hx);omega) Au) ?_;refine BC [1] rfl ?_ ?_<;>intro c4
   ·have hn2:=c4;refine A9 [1] O (Bg [] [] O O ⟨by refine pB ?_;rw[bT (x:=x) (List.mem_append_right _ (List.mem_of_getElem? hx)) (by simpa using hn2)];try rfl,rfl⟩)
   have hn2:=c4;exact FR [3] 0 (i+1) O (⟨by omega,Cg (p:=fun _ y=>Gv (KX ds) n y=true) hC hx (by simpa using hn2)⟩)
  have ha1:=bw hC Au;refine DH [0] O ?_;refine A9 [1] O (Bg [] [] O O ⟨by refine pB ?_;rw[ey hst0 (hks▸hk1) ha1];try rfl,rfl⟩)
theorem VL:∀(n:Nat) (ds:List B8) (t:Tm),(G2 ds)→(okB t=true)→(size t≤n)→(n≤10000)→En Tryz.prog 15 [.p (.lst (List.map B0 ds)),.agg ((BD t).map .p)] (.p (.bool (Gv (Md ds) n t))):=by
 intro n
 induction n with
 | zero=>intro ds t h1 h2 h3;have:=size_pos t;omega
 | succ n ih =>
  intro ds t h1 h2 h3 h4;have hsp:=Q7 h2;have hsl:=hsp.len;have hss:=hsp.sz;refine DJ Tryz.func15 (CG [0] O O fun b3=>CQ [3,0] O (qN ds FN t h1 (dO h1 h2 Au).ns (bE h1 h2 Au)) (Bp [4] O (Az Ba O) fun b5=>CJ [3,0,1] 2 [0,3] 23 (((Pq (Dg ds CE FN 20000 t)).2.1)||(((Pq (Dg ds CE FN 20000 t)).2.2:Int) !=(0:Int))) O O ?_ ?_))
  ·refine Bc [2] 20 rfl rfl ?_ ?_<;>intro g
   ·exact CT [3] O
   exact CT [3] O
  refine BC [0] rfl ?_ ?_<;>intro c
  ·have hst1:=c;refine A9 [1] O (Bg [] [] O O ⟨by refine pB ?_;rw[jU (by simpa [Md] using hst1)];try rfl,rfl⟩)
  have hst0:Md ds t=false:=by simpa [Md] using c
  refine CQ [1,1] O (O4 t hsp.nd Ak) (Bp [3] O (Az Ba O) fun b8=>?_);generalize hz:(Ay t).1=z;obtain⟨zk,zi,zn,zl,zs⟩:=z;have hzo:okB (.mk zk zi zn zl zs)=true:=hz▸hsp.head;have hzq:=(Bu.1 hzo).nd;simp only[Nd,DZ] at hzq;have hzs:=hzq.2.2.2.1;have hks:(Ay t).1.kids=zs:=by rw[hz];rfl
  have hfl:[zs,(Ay t).2].flatten.length<9007199254740992:=by simp only[List.flatten_cons,List.flatten_nil,List.length_append,List.length_nil];omega
  refine A2 [5,0,1,0] O (BH ly xL O O O O O) (DT [0] O ?_);refine NP rfl rfl rfl (.inl ⟨rfl,rfl,rfl⟩) (pM [zs,(Ay t).2] Av (fun l hl=>by have h9:=ER t;have h8:=Qr zs;have h7:=Qr (Ay t).2;rw[hz] at h9;simp only[size] at h9;simp only[List.mem_cons,List.not_mem_nil,or_false] at hl;rcases hl with rfl | rfl<;>omega)) (.inl rfl) fun o cp=>?_;refine BJ (CM (i:=0) [33] O (DA ⟨O,Aw⟩)) (BW (B9 [0] O O (A8 _) ?_));refine GG (α:=Nat) [1] [0,33,34] [] (fun i=>[(35,.p (I (i:Int)))]) (fun _=>[]) (fun i=>[zs,(Ay t).2].flatten.length - i) (fun i=>i≤[zs,(Ay t).2].flatten.length∧(∀j,j<i→∀x,[zs,(Ay t).2].flatten[j]?=some x→Gv (Md ds) n x=true)) 0 O O O (⟨by omega,fun j h=>by omega⟩) ?_;rintro i hC
  try simp only at hC
  obtain⟨hi,hC⟩:=hC;refine BC [1] rfl ?_ ?_<;>intro c1
  ·obtain⟨x,hx⟩:=A1 (l:=[zs,(Ay t).2].flatten) (i:=i) Au;have hxm:x∈(Ay t).1.kids++(Ay t).2:=by rw[hks];simpa using List.mem_of_getElem? hx
   obtain⟨hxo,hxz⟩:=qO h2 hxm;refine A2 [0] O (A0 BT O O Au (BO hx) (A7 _)) (Bp [1] O (Az Ba O) fun b11=>CQ [3,0,1,0] O (ih ds x h1 hxo Au Au) ?_);refine BC [1] rfl ?_ ?_<;>intro c2
   ·have hn1:=c2;refine A9 [1] O (Bg [] [] O O ⟨by refine pB ?_;rw[bT hxm (by simpa using hn1)];try rfl,rfl⟩)
   have hn1:=c2;exact FR [2] 1 (i+1) O (⟨by omega,Cg (p:=fun _ y=>Gv (Md ds) n y=true) hC hx (by simpa using hn1)⟩)
  have hk1:=bw hC Au;refine DH [0] O ?_;refine A9 [1] O (Bg [] [] O O ⟨by refine pB ?_;rw[ey hst0 (fun x hx=>hk1 x (by rw[hks] at hx;simp[hx])) (fun x hx=>hk1 x (by simp[hx]))],rfl⟩)
end Go.Proofs.YtldfmjoncbjldaaGreat
namespace Go.Eu
open Go.Abs
mutual
theorem rV:∀(t:Tm),Nd t→Wd t
 | .mk k i n ls ks,h=>by
  simp only[Nd,DZ] at h;refine⟨by simp only[wide];omega,by simp only[wide];omega,fun l hl=>?_,by simp only[wide];omega,kc ks h.2.2.2.2.1,h.2.2.2.2.2⟩;have:=h.2.2.1 l hl;exact⟨by have:=this.vars;simp only[DZ] at this;simp only[wide];omega,this.c,this.v⟩
theorem kc:∀(ts:List Tm),Mt ts→nY ts
 | [],_=>trivial
 | t::ts,h=>⟨rV t h.1,kc ts h.2⟩
end
theorem Yb:G2 []:=⟨⟨⟨by decide,fun d hd=>(by cases hd)⟩,fun d hd=>(by cases hd)⟩,fun d hd=>(by cases hd),fun d hd=>(by cases hd),fun d hd=>(by cases hd)⟩
theorem lF:∃k,FN=k+9:=⟨999999999991,by rw[Yy]⟩
theorem kf:Gv (Md []) 9 u4=false:=by
 obtain⟨k,hk⟩:=lF;unfold Md;rw[hk];rfl
theorem m9:Gv (Md []) 9 vX=true:=by
 obtain⟨k,hk⟩:=lF;unfold Md;rw[hk];rfl
def xM:Tm:= .mk 5 0 ⟨#[]⟩ [] [cA,GI (Cs 4) (Cs 0)]
def xN:Tm:= .mk 5 0 ⟨#[]⟩ [] [cA,GI (Cs 0) (Cs 0)]
def xP:Tm:= .mk 8 0 ⟨#[]⟩ [] [cA,.mk 9 0 ⟨#[]⟩ [] [Cs 1],.mk 10 0 ⟨#[]⟩ [] [Cs 1]]
theorem Wf (i:Int):Ki (Cs i)=Cs i:=XH rfl
theorem dG:Ki cA=cA:=XH rfl
theorem dm (a b:Tm):Ki (GI a b)=GI (Ki a) (Ki b):=by
 unfold GI;rw[IY,Na Av Av];rfl
theorem rn (k:Int) (h:k≠5) (h8:k≠8) (a:Tm):Ki (.mk k 0 ⟨#[]⟩ [] [a])= .mk k 0 ⟨#[]⟩ [] [Ki a]:=by
 rw[IY,Na Av Av];rfl
theorem gK:Ki xM=Cs 3:=by
 unfold xM;rw[IY];simp only[List.map_cons,List.map_nil,dG,dm,Wf];rw[R1 rfl rfl (x:=Cs 4) rfl rfl];rfl
theorem iz:Ki xN= .mk 5 0 ⟨#[]⟩ [] [GN,GI (Cs 0) (Cs 0)]:=by
 unfold xN;rw[IY];simp only[List.map_cons,List.map_nil,dG,dm,Wf];rw[Lq rfl (fun _ x hx=>by injection hx with hx;rw[←hx];rfl)]
theorem gJ:Ki xP=Cs 1:=by
 unfold xP;rw[IY];simp only[List.map_cons,List.map_nil,dG,rn 9 As As,rn 10 As As,Wf];rw[SF rfl (by simp[Pk,Tm.kind,Tm.kids,FP]) (x:=Cs 1) rfl]
theorem UX {t:Tm}(h:Uf t=true):Nd t:=(NW t h).1
mutual
def wz:Tm→Bool
 | .mk k i _ _ ks=>(decide (k≠0)||(decide (0≤i)&&decide (i≤65535)))&&qo ks
def qo:List Tm→Bool
 | []=>true
 | t::ts=>wz t&&qo ts
end
mutual
theorem mI:∀t,wz t=true→Vb t
 | .mk k i n l ks,h=>by
  simp only[wz,Bool.and_eq_true,Bool.or_eq_true,decide_eq_true_eq] at h;exact⟨fun e=>by rcases h.1 with q | q;exact absurd e q;exact q,eQ ks h.2⟩
theorem eQ:∀ts,qo ts=true→oP ts
 | [],_=>trivial
 | t::ts,h=>by
  simp only[qo,Bool.and_eq_true] at h;exact⟨mI t h.1,eQ ts h.2⟩
end
end Go.Eu
namespace Go.Proofs.YtldfmjoncbjldaaGreat
open Go.Abs Go.Eu
theorem E6:∀(k:Int) (l:List Tm),En Tryz.prog 24 [.p (I k),.p (.lst (A6 l))] (.agg ((BD (.mk k 0 ⟨#[]⟩ [] l)).map .p)):=by
 intro k l;refine DJ Tryz.func24 (Bp [0] O (Az Ba O) fun b4=>CK [4,0,0] O (A5 (BE (i:=0) O) (BP (A9 [0] O (Bg [0] [] O O ⟨O,O⟩)))))
theorem GS:∀(i:Int),En Tryz.prog 25 [.p (I i)] (.agg ((BD (.mk 0 i ⟨#[]⟩ [] [])).map .p)):=by
 intro i;refine DJ Tryz.func25 (Bp [0] O (Az Ba O) fun b2=>CK [3,0,0] O (A5 (BE (i:=0) O) (BP (A9 [0] O (Bg [0] [] O O ⟨O,O⟩)))))
theorem Nf:∀(n:Nat) (ds:List B8) (t:Tm) (b:Bool),(G2 ds)→(okB t=true)→(size t≤n)→(n≤10000)→(Gv (Md ds) n t=b)→En Tryz.prog 15 [.p (.lst (List.map B0 ds)),.agg ((BD t).map .p)] (.p (.bool b)):=fun n ds t b h1 h2 h3 h4 h5=>h5▸VL n ds t h1 h2 h3 h4
theorem vL (t:Tm) (h:t=u4):En Tryz.prog 12 [.p (.lst []),TV t] (.tup [TV (GI (Cs 5) (Cs 3)),.p (I 0)]):=by
 obtain⟨s,e⟩:=ki;rw[h];exact eH 20 _ _ _ e
theorem uq (t:Tm) (h:t=yC):En Tryz.prog 12 [.p (.lst []),TV t] (.tup [TV (.mk 9 0 ⟨#[]⟩ [] [Cs 2]),.p (I 0)]):=by
 obtain⟨s,e⟩:=kj;rw[h];exact eH 20 _ _ _ e
theorem wO (t:Tm) (h:t=u4):En Tryz.prog 15 [.p (.lst []),TV t] (.p (.bool false)):=by
 subst h;exact Nf 9 [] u4 false Yb O As As kf
theorem vA (t:Tm) (h:t=vX):En Tryz.prog 15 [.p (.lst []),TV t] (.p (.bool true)):=by
 subst h;exact Nf 9 [] vX true Yb O As As m9
theorem j4 (t r:Tm) (h1:Uf t=true) (h2:wz t=true) (h3:size t≤1000000) (h4:Ki t=r):En Tryz.prog 18 [TV t] (TV r):=by
 obtain⟨a,b,c,_⟩:=NW t h1;have:=kQ _ t (Nat.le_refl _) a b (mI t h2) h3
 rwa [h4] at this
theorem vS (t:Tm) (h:t=xM):En Tryz.prog 18 [TV t] (TV (Cs 3)):=by subst h;exact j4 _ _ rfl rfl As gK
theorem vw (t:Tm) (h:t=xN):En Tryz.prog 18 [TV t] (TV (.mk 5 0 ⟨#[]⟩ [] [GN,GI (Cs 0) (Cs 0)])):=by subst h;exact j4 _ _ rfl rfl As iz
theorem u6 (t:Tm) (h:t=xP):En Tryz.prog 18 [TV t] (TV (Cs 1)):=by subst h;exact j4 _ _ rfl rfl As gJ
theorem PJ (a b:Tm) (h1:Nd a) (h2:a=b):En Tryz.prog 14 [TV a,TV b] (.p (.bool true)):=by
 have:=Xe (size a) a b (Nat.le_refl _) h1
 rwa [FP h2] at this
set_option maxHeartbeats 4000000 in
theorem aA:En Tryz.prog 11 [] (.p (.bool true)):=by
 refine DJ Tryz.func11 (DT [0] O (rT (M:=⟨117,mk [],[],[]⟩) (HB Aw (List.Sublist.refl _)) (BW (DT [1] O ?_))));refine rT (M:=⟨117,mk [],[],[]⟩) (HB Aw (List.Sublist.refl _)) (BW (Bp [1] O (Az Ba O) fun b1=>?_));refine CK [1,0,0] O (Mk (M:=⟨117,mk [(1,.ptr b1 0)],[.box b1 [.p (I 3),.p (I 0),.p (.str ⟨#[65]⟩),.p (.nils),.p (.nils)]],[]⟩) (HB ⟨O,Aw⟩ (List.Sublist.refl _)) (Rx [.val (.agg [.p (I 3),.p (I 0),.p (.str ⟨#[65]⟩),.p (.nils),.p (.nils)]),.val (.agg [.p (I 0),.p (I 0),.p (.str ⟨#[]⟩),.p (.lst (List.map B4 [])),.p (.lst (A6 []))]),.val (.p (.lst (A6 ([(.mk 3 0 ⟨#[65]⟩ [] []:Tm),(.mk 0 0 ⟨#[]⟩ [] []:Tm)])))),.val (.agg ((BD (.mk 5 0 ⟨#[]⟩ [] ([(.mk 3 0 ⟨#[65]⟩ [] []:Tm),(.mk 0 0 ⟨#[]⟩ [] []:Tm)]))).map .p)),.new [.p (I 0),.p (I 0),.p (.str ⟨#[]⟩),.p (.nils),.p (.nils)]] Oq O Ap Ap (C3 O (fun Bs=>Cy (i:=Bs.length+0) CN O (EB O) O) (C3 O (fun Bs=>BF O O (GS 0) O) (C3 O (fun Bs=>BH BT Ba O O O O O) ?_)))));refine C3 O (fun Bs=>BF O O (E6 5 ([(.mk 3 0 ⟨#[65]⟩ [] []:Tm),(.mk 0 0 ⟨#[]⟩ [] []:Tm)])) O) (NL O (fun Bs=>Az Ba O) fun b2=>KQ ?_)
 change AL _ _ _ 5 ⟨117,_,[.box b2 [.p (I 0),.p (I 0),.p (.str ⟨#[]⟩),.p (.nils),.p (.nils)],.box b1 [.p (I 3),.p (I 0),.p (.str ⟨#[65]⟩),.p (.nils),.p (.nils)]],[]⟩ _
 refine BW (CK [1,0,1] O ?_);refine Mk (M:=⟨117,mk [(1,.ptr b1 0),(2,.ptr b2 0)],[.box b2 ((BD (.mk 5 0 ⟨#[]⟩ [] ([(.mk 3 0 ⟨#[65]⟩ [] []:Tm),(.mk 0 0 ⟨#[]⟩ [] []:Tm)]))).map .p),.box b1 [.p (I 3),.p (I 0),.p (.str ⟨#[65]⟩),.p (.nils),.p (.nils)]],[]⟩) (HB ⟨O,O,Aw⟩ (List.Sublist.refl _)) (BP (E2 [0] [11] O ?_));refine A3 O (fun _=>BF O O (GS 5) O) Aw (Bb [1,0] O (A3 O (fun _=>BF O O (GS 3) O) Aw (A3 O (fun _=>By (rows:=A6 ([(.mk 5 0 ⟨#[]⟩ [] ([(.mk 3 0 ⟨#[65]⟩ [] []:Tm),(.mk 0 0 ⟨#[]⟩ [] []:Tm)])),(.mk 0 3 ⟨#[]⟩ [] [])])) BT Ba O O O O (CX (Bd _)) (Gg _)) Aw (A3 O (fun _=>BF O O (E6 4 ([(.mk 5 0 ⟨#[]⟩ [] ([(.mk 3 0 ⟨#[65]⟩ [] []:Tm),(.mk 0 0 ⟨#[]⟩ [] []:Tm)])),(.mk 0 3 ⟨#[]⟩ [] [])])) O) Aw (A3 O (fun _=>By (rows:=A6 ([(.mk 0 5 ⟨#[]⟩ [] []),(.mk 4 0 ⟨#[]⟩ [] ([(.mk 5 0 ⟨#[]⟩ [] ([(.mk 3 0 ⟨#[65]⟩ [] []:Tm),(.mk 0 0 ⟨#[]⟩ [] []:Tm)])),(.mk 0 3 ⟨#[]⟩ [] [])]))])) BT Ba O O O O (CX (Bd _)) (Gg _)) Aw ?_)))));refine A3 O (fun _=>BF O O (E6 4 ([(.mk 0 5 ⟨#[]⟩ [] []),(.mk 4 0 ⟨#[]⟩ [] ([(.mk 5 0 ⟨#[]⟩ [] ([(.mk 3 0 ⟨#[65]⟩ [] []:Tm),(.mk 0 0 ⟨#[]⟩ [] []:Tm)])),(.mk 0 3 ⟨#[]⟩ [] [])]))])) O) Aw (A3 O (fun _=>Ia O O (vL (.mk 4 0 ⟨#[]⟩ [] ([(.mk 0 5 ⟨#[]⟩ [] []),(.mk 4 0 ⟨#[]⟩ [] ([(.mk 5 0 ⟨#[]⟩ [] ([(.mk 3 0 ⟨#[65]⟩ [] []:Tm),(.mk 0 0 ⟨#[]⟩ [] []:Tm)])),(.mk 0 3 ⟨#[]⟩ [] [])]))])) O) (aw (FY O) (aw (we O) (HW)))) Aw (Bb [3] O (Gf [] O O (Az Ba O) Ap fun b3=>⟨AB,Aw,?_⟩)));refine Dj [2,0,1] O (CK [0] O ?_);refine Mk (M:=⟨117,mk [(1,.ptr b1 0),(2,.ptr b2 0),(3,.ptr b3 0),(4,.p (I 0))],[.box b3 ((BD (GI (Cs 5) (Cs 3))).map .p),.box b2 ((BD (.mk 5 0 ⟨#[]⟩ [] ([(.mk 3 0 ⟨#[65]⟩ [] []:Tm),(.mk 0 0 ⟨#[]⟩ [] []:Tm)]))).map .p),.box b1 [.p (I 3),.p (I 0),.p (.str ⟨#[65]⟩),.p (.nils),.p (.nils)]],[]⟩) (HB ⟨O,O,O,O,Aw⟩ (List.Sublist.refl _)) (BP (E2 [0] [10] O ?_))
 refine Bb [1,1] O (A3 O (fun _=>BF O O (GS 2) O) Aw (A3 O (fun _=>By (rows:=A6 ([(.mk 5 0 ⟨#[]⟩ [] ([(.mk 3 0 ⟨#[65]⟩ [] []:Tm),(.mk 0 0 ⟨#[]⟩ [] []:Tm)])),(.mk 0 2 ⟨#[]⟩ [] [])])) BT Ba O O O O (CX (Bd _)) (Gg _)) Aw (A3 O (fun _=>BF O O (E6 4 ([(.mk 5 0 ⟨#[]⟩ [] ([(.mk 3 0 ⟨#[65]⟩ [] []:Tm),(.mk 0 0 ⟨#[]⟩ [] []:Tm)])),(.mk 0 2 ⟨#[]⟩ [] [])])) O) Aw (A3 O (fun _=>By (rows:=A6 ([(.mk 4 0 ⟨#[]⟩ [] ([(.mk 5 0 ⟨#[]⟩ [] ([(.mk 3 0 ⟨#[65]⟩ [] []:Tm),(.mk 0 0 ⟨#[]⟩ [] []:Tm)])),(.mk 0 2 ⟨#[]⟩ [] [])]))])) BT Ba O O O O (CX (Bd _)) (Gg _)) Aw (A3 O (fun _=>BF O O (E6 9 ([(.mk 4 0 ⟨#[]⟩ [] ([(.mk 5 0 ⟨#[]⟩ [] ([(.mk 3 0 ⟨#[65]⟩ [] []:Tm),(.mk 0 0 ⟨#[]⟩ [] []:Tm)])),(.mk 0 2 ⟨#[]⟩ [] [])]))])) O) Aw ?_)))));refine A3 O (fun _=>Ia O O (uq (.mk 9 0 ⟨#[]⟩ [] ([(.mk 4 0 ⟨#[]⟩ [] ([(.mk 5 0 ⟨#[]⟩ [] ([(.mk 3 0 ⟨#[65]⟩ [] []:Tm),(.mk 0 0 ⟨#[]⟩ [] []:Tm)])),(.mk 0 2 ⟨#[]⟩ [] [])]))])) O) (aw (FY O) (aw (we O) (HW)))) Aw (Bb [3] O (Gf [] O O (Az Ba O) Ap fun b5=>⟨AB,Aw,?_⟩));refine Dj [2,0,1] O (CK [0] O ?_);refine Mk (M:=⟨117,mk [(1,.ptr b1 0),(2,.ptr b2 0),(3,.ptr b3 0),(4,.p (I 0)),(5,.ptr b5 0),(6,.p (I 0))],[.box b5 ((BD (.mk 9 0 ⟨#[]⟩ [] [Cs 2])).map .p),.box b3 ((BD (GI (Cs 5) (Cs 3))).map .p),.box b2 ((BD (.mk 5 0 ⟨#[]⟩ [] ([(.mk 3 0 ⟨#[65]⟩ [] []:Tm),(.mk 0 0 ⟨#[]⟩ [] []:Tm)]))).map .p),.box b1 [.p (I 3),.p (I 0),.p (.str ⟨#[65]⟩),.p (.nils),.p (.nils)]],[]⟩) (HB ⟨O,O,O,O,O,O,Aw⟩ (List.Sublist.refl _)) ?_;refine Rx [.val (.agg [.p (I 3),.p (I 0),.p (.str ⟨#[65]⟩),.p (.nils),.p (.nils)]),.val (.agg ((BD (.mk 0 4 ⟨#[]⟩ [] [])).map .p)),.val (.agg ((BD (.mk 0 0 ⟨#[]⟩ [] [])).map .p)),.val (.p (.lst (A6 ([(.mk 0 4 ⟨#[]⟩ [] []),(.mk 0 0 ⟨#[]⟩ [] [])])))),.val (.agg [.p (I 4),.p (I 0),.p (.str ⟨#[]⟩),.p (.lst (List.map B4 [])),.p (.lst (A6 ([(.mk 0 4 ⟨#[]⟩ [] []),(.mk 0 0 ⟨#[]⟩ [] [])])))]),.val (.p (.lst (A6 ([(.mk 3 0 ⟨#[65]⟩ [] []:Tm),(.mk 4 0 ⟨#[]⟩ [] ([(.mk 0 4 ⟨#[]⟩ [] []),(.mk 0 0 ⟨#[]⟩ [] [])]):Tm)])))),.val (.agg ((BD (.mk 5 0 ⟨#[]⟩ [] ([(.mk 3 0 ⟨#[65]⟩ [] []:Tm),(.mk 4 0 ⟨#[]⟩ [] ([(.mk 0 4 ⟨#[]⟩ [] []),(.mk 0 0 ⟨#[]⟩ [] [])]):Tm)]))).map .p)),.val (.agg ((BD (Cs 3)).map .p)),.new [.p (I 0),.p (I 0),.p (.str ⟨#[]⟩),.p (.nils),.p (.nils)]] Oq O Ap Ap (C3 O (fun Bs=>Cy (i:=Bs.length+3) CN O (EB O) O) ?_)
 refine C3 O (fun Bs=>BF O O (GS 4) O) (C3 O (fun Bs=>BF O O (GS 0) O) (C3 O (fun Bs=>By (rows:=A6 ([(.mk 0 4 ⟨#[]⟩ [] []),(.mk 0 0 ⟨#[]⟩ [] [])])) BT Ba O O O O (CX (Bd _)) (Gg _)) (C3 O (fun Bs=>BF O O (E6 4 ([(.mk 0 4 ⟨#[]⟩ [] []),(.mk 0 0 ⟨#[]⟩ [] [])])) O) (C3 O (fun Bs=>BH BT Ba O O O O O) (C3 O (fun Bs=>BF O O (E6 5 ([(.mk 3 0 ⟨#[65]⟩ [] []:Tm),(.mk 4 0 ⟨#[]⟩ [] ([(.mk 0 4 ⟨#[]⟩ [] []),(.mk 0 0 ⟨#[]⟩ [] [])]):Tm)])) O) (C3 O (fun Bs=>BF O O (vS (.mk 5 0 ⟨#[]⟩ [] ([(.mk 3 0 ⟨#[65]⟩ [] []:Tm),(.mk 4 0 ⟨#[]⟩ [] ([(.mk 0 4 ⟨#[]⟩ [] []),(.mk 0 0 ⟨#[]⟩ [] [])]):Tm)])) O) O) (NL O (fun Bs=>Az Ba O) fun b7=>KQ ?_)))))))
 change AL _ _ _ 9 ⟨117,_,[.box b7 [.p (I 0),.p (I 0),.p (.str ⟨#[]⟩),.p (.nils),.p (.nils)],.box b5 ((BD (.mk 9 0 ⟨#[]⟩ [] [Cs 2])).map .p),.box b3 ((BD (GI (Cs 5) (Cs 3))).map .p),.box b2 ((BD (.mk 5 0 ⟨#[]⟩ [] ([(.mk 3 0 ⟨#[65]⟩ [] []:Tm),(.mk 0 0 ⟨#[]⟩ [] []:Tm)]))).map .p),.box b1 [.p (I 3),.p (I 0),.p (.str ⟨#[65]⟩),.p (.nils),.p (.nils)]],[]⟩ _
 refine BW (CK [1,0,1] O ?_);refine Mk (M:=⟨117,mk [(1,.ptr b1 0),(2,.ptr b2 0),(3,.ptr b3 0),(4,.p (I 0)),(5,.ptr b5 0),(6,.p (I 0)),(7,.ptr b7 0)],[.box b7 ((BD (Cs 3)).map .p),.box b5 ((BD (.mk 9 0 ⟨#[]⟩ [] [Cs 2])).map .p),.box b3 ((BD (GI (Cs 5) (Cs 3))).map .p),.box b2 ((BD (.mk 5 0 ⟨#[]⟩ [] ([(.mk 3 0 ⟨#[65]⟩ [] []:Tm),(.mk 0 0 ⟨#[]⟩ [] []:Tm)]))).map .p),.box b1 [.p (I 3),.p (I 0),.p (.str ⟨#[65]⟩),.p (.nils),.p (.nils)]],[]⟩) (HB ⟨O,O,O,O,O,O,O,Aw⟩ (List.Sublist.refl _)) ?_;refine Rx [.val (.agg [.p (I 3),.p (I 0),.p (.str ⟨#[65]⟩),.p (.nils),.p (.nils)]),.val (.agg ((BD (.mk 0 0 ⟨#[]⟩ [] [])).map .p)),.val (.agg ((BD (.mk 0 0 ⟨#[]⟩ [] [])).map .p)),.val (.p (.lst (A6 ([(.mk 0 0 ⟨#[]⟩ [] []),(.mk 0 0 ⟨#[]⟩ [] [])])))),.val (.agg [.p (I 4),.p (I 0),.p (.str ⟨#[]⟩),.p (.lst (List.map B4 [])),.p (.lst (A6 ([(.mk 0 0 ⟨#[]⟩ [] []),(.mk 0 0 ⟨#[]⟩ [] [])])))]),.val (.p (.lst (A6 ([(.mk 3 0 ⟨#[65]⟩ [] []:Tm),(.mk 4 0 ⟨#[]⟩ [] ([(.mk 0 0 ⟨#[]⟩ [] []),(.mk 0 0 ⟨#[]⟩ [] [])]):Tm)])))),.val (.agg ((BD (.mk 5 0 ⟨#[]⟩ [] ([(.mk 3 0 ⟨#[65]⟩ [] []:Tm),(.mk 4 0 ⟨#[]⟩ [] ([(.mk 0 0 ⟨#[]⟩ [] []),(.mk 0 0 ⟨#[]⟩ [] [])]):Tm)]))).map .p)),.val (.agg ((BD (.mk 5 0 ⟨#[]⟩ [] [GN,GI (Cs 0) (Cs 0)])).map .p)),.new [.p (I 0),.p (I 0),.p (.str ⟨#[]⟩),.p (.nils),.p (.nils)]] Oq O Ap Ap ?_;refine C3 O (fun Bs=>Cy (i:=Bs.length+4) CN O (EB O) O) (C3 O (fun Bs=>BF O O (GS 0) O) (C3 O (fun Bs=>BF O O (GS 0) O) (C3 O (fun Bs=>By (rows:=A6 ([(.mk 0 0 ⟨#[]⟩ [] []),(.mk 0 0 ⟨#[]⟩ [] [])])) BT Ba O O O O (CX (Bd _)) (Gg _)) (C3 O (fun Bs=>BF O O (E6 4 ([(.mk 0 0 ⟨#[]⟩ [] []),(.mk 0 0 ⟨#[]⟩ [] [])])) O) (C3 O (fun Bs=>BH BT Ba O O O O O) (C3 O (fun Bs=>BF O O (E6 5 ([(.mk 3 0 ⟨#[65]⟩ [] []:Tm),(.mk 4 0 ⟨#[]⟩ [] ([(.mk 0 0 ⟨#[]⟩ [] []),(.mk 0 0 ⟨#[]⟩ [] [])]):Tm)])) O) (C3 O (fun Bs=>BF O O (vw (.mk 5 0 ⟨#[]⟩ [] ([(.mk 3 0 ⟨#[65]⟩ [] []:Tm),(.mk 4 0 ⟨#[]⟩ [] ([(.mk 0 0 ⟨#[]⟩ [] []),(.mk 0 0 ⟨#[]⟩ [] [])]):Tm)])) O) O) (NL O (fun Bs=>Az Ba O) fun b8=>KQ ?_))))))))
 change AL _ _ _ 9 ⟨117,_,[.box b8 [.p (I 0),.p (I 0),.p (.str ⟨#[]⟩),.p (.nils),.p (.nils)],.box b7 ((BD (Cs 3)).map .p),.box b5 ((BD (.mk 9 0 ⟨#[]⟩ [] [Cs 2])).map .p),.box b3 ((BD (GI (Cs 5) (Cs 3))).map .p),.box b2 ((BD (.mk 5 0 ⟨#[]⟩ [] ([(.mk 3 0 ⟨#[65]⟩ [] []:Tm),(.mk 0 0 ⟨#[]⟩ [] []:Tm)]))).map .p),.box b1 [.p (I 3),.p (I 0),.p (.str ⟨#[65]⟩),.p (.nils),.p (.nils)]],[]⟩ _
 refine BW (CK [1,0,1] O ?_);refine Mk (M:=⟨117,mk [(1,.ptr b1 0),(2,.ptr b2 0),(3,.ptr b3 0),(4,.p (I 0)),(5,.ptr b5 0),(6,.p (I 0)),(7,.ptr b7 0),(8,.ptr b8 0)],[.box b8 ((BD (.mk 5 0 ⟨#[]⟩ [] [GN,GI (Cs 0) (Cs 0)])).map .p),.box b7 ((BD (Cs 3)).map .p),.box b5 ((BD (.mk 9 0 ⟨#[]⟩ [] [Cs 2])).map .p),.box b3 ((BD (GI (Cs 5) (Cs 3))).map .p),.box b2 ((BD (.mk 5 0 ⟨#[]⟩ [] ([(.mk 3 0 ⟨#[65]⟩ [] []:Tm),(.mk 0 0 ⟨#[]⟩ [] []:Tm)]))).map .p),.box b1 [.p (I 3),.p (I 0),.p (.str ⟨#[65]⟩),.p (.nils),.p (.nils)]],[]⟩) (HB ⟨O,O,O,O,O,O,O,O,Aw⟩ (List.Sublist.refl _)) ?_;refine Rx [.val (.agg [.p (I 3),.p (I 0),.p (.str ⟨#[65]⟩),.p (.nils),.p (.nils)]),.val (.agg ((BD (.mk 0 1 ⟨#[]⟩ [] [])).map .p)),.val (.p (.lst (A6 ([(.mk 0 1 ⟨#[]⟩ [] [])])))),.val (.agg [.p (I 9),.p (I 0),.p (.str ⟨#[]⟩),.p (.lst (List.map B4 [])),.p (.lst (A6 ([(.mk 0 1 ⟨#[]⟩ [] [])])))]),.val (.agg ((BD (.mk 0 1 ⟨#[]⟩ [] [])).map .p)),.val (.p (.lst (A6 ([(.mk 0 1 ⟨#[]⟩ [] [])])))),.val (.agg [.p (I 10),.p (I 0),.p (.str ⟨#[]⟩),.p (.lst (List.map B4 [])),.p (.lst (A6 ([(.mk 0 1 ⟨#[]⟩ [] [])])))]),.val (.p (.lst (A6 ([(.mk 3 0 ⟨#[65]⟩ [] []:Tm),(.mk 9 0 ⟨#[]⟩ [] ([(.mk 0 1 ⟨#[]⟩ [] [])]):Tm),(.mk 10 0 ⟨#[]⟩ [] ([(.mk 0 1 ⟨#[]⟩ [] [])]):Tm)])))),.val (.agg ((BD (.mk 8 0 ⟨#[]⟩ [] ([(.mk 3 0 ⟨#[65]⟩ [] []:Tm),(.mk 9 0 ⟨#[]⟩ [] ([(.mk 0 1 ⟨#[]⟩ [] [])]):Tm),(.mk 10 0 ⟨#[]⟩ [] ([(.mk 0 1 ⟨#[]⟩ [] [])]):Tm)]))).map .p)),.val (.agg ((BD (Cs 1)).map .p)),.new [.p (I 0),.p (I 0),.p (.str ⟨#[]⟩),.p (.nils),.p (.nils)]] Oq O Ap Ap ?_;refine C3 O (fun Bs=>Cy (i:=Bs.length+5) CN O (EB O) O) (C3 O (fun Bs=>BF O O (GS 1) O) (C3 O (fun Bs=>By (rows:=A6 ([(.mk 0 1 ⟨#[]⟩ [] [])])) BT Ba O O O O (CX (Bd _)) (Gg _)) (C3 O (fun Bs=>BF O O (E6 9 ([(.mk 0 1 ⟨#[]⟩ [] [])])) O) (C3 O (fun Bs=>BF O O (GS 1) O) (C3 O (fun Bs=>By (rows:=A6 ([(.mk 0 1 ⟨#[]⟩ [] [])])) BT Ba O O O O (CX (Bd _)) (Gg _)) (C3 O (fun Bs=>BF O O (E6 10 ([(.mk 0 1 ⟨#[]⟩ [] [])])) O) (C3 O (fun Bs=>BH BT Ba O O O O O) (C3 O (fun Bs=>BF O O (E6 8 ([(.mk 3 0 ⟨#[65]⟩ [] []:Tm),(.mk 9 0 ⟨#[]⟩ [] ([(.mk 0 1 ⟨#[]⟩ [] [])]):Tm),(.mk 10 0 ⟨#[]⟩ [] ([(.mk 0 1 ⟨#[]⟩ [] [])]):Tm)])) O) ?_))))))))
 refine C3 O (fun Bs=>BF O O (u6 (.mk 8 0 ⟨#[]⟩ [] ([(.mk 3 0 ⟨#[65]⟩ [] []:Tm),(.mk 9 0 ⟨#[]⟩ [] ([(.mk 0 1 ⟨#[]⟩ [] [])]):Tm),(.mk 10 0 ⟨#[]⟩ [] ([(.mk 0 1 ⟨#[]⟩ [] [])]):Tm)])) O) O) (NL O (fun Bs=>Az Ba O) fun b9=>KQ ?_)
 change AL _ _ _ 11 ⟨117,_,[.box b9 [.p (I 0),.p (I 0),.p (.str ⟨#[]⟩),.p (.nils),.p (.nils)],.box b8 ((BD (.mk 5 0 ⟨#[]⟩ [] [GN,GI (Cs 0) (Cs 0)])).map .p),.box b7 ((BD (Cs 3)).map .p),.box b5 ((BD (.mk 9 0 ⟨#[]⟩ [] [Cs 2])).map .p),.box b3 ((BD (GI (Cs 5) (Cs 3))).map .p),.box b2 ((BD (.mk 5 0 ⟨#[]⟩ [] ([(.mk 3 0 ⟨#[65]⟩ [] []:Tm),(.mk 0 0 ⟨#[]⟩ [] []:Tm)]))).map .p),.box b1 [.p (I 3),.p (I 0),.p (.str ⟨#[65]⟩),.p (.nils),.p (.nils)]],[]⟩ _
 refine BW (CK [1,0,1] O ?_);refine Mk (M:=⟨117,mk [(2,.ptr b2 0),(3,.ptr b3 0),(4,.p (I 0)),(5,.ptr b5 0),(6,.p (I 0)),(7,.ptr b7 0),(8,.ptr b8 0),(9,.ptr b9 0)],[.box b9 ((BD (Cs 1)).map .p),.box b8 ((BD (.mk 5 0 ⟨#[]⟩ [] [GN,GI (Cs 0) (Cs 0)])).map .p),.box b7 ((BD (Cs 3)).map .p),.box b5 ((BD (.mk 9 0 ⟨#[]⟩ [] [Cs 2])).map .p),.box b3 ((BD (GI (Cs 5) (Cs 3))).map .p),.box b2 ((BD (.mk 5 0 ⟨#[]⟩ [] ([(.mk 3 0 ⟨#[65]⟩ [] []:Tm),(.mk 0 0 ⟨#[]⟩ [] []:Tm)]))).map .p),.box b1 [.p (I 3),.p (I 0),.p (.str ⟨#[65]⟩),.p (.nils),.p (.nils)]],[]⟩) (HB ⟨O,O,O,O,O,O,O,O,Aw⟩ (List.Sublist.refl _)) (BP (E2 [0] [] O ?_));refine Bb [7] O (Bx O (fun _=>BF O O (GS 5) O) Aw (Bb [1,5] O (Bx O (fun _=>BF O O (GS 3) O) Aw (Bx O (fun _=>By (rows:=A6 ([(.mk 5 0 ⟨#[]⟩ [] ([(.mk 3 0 ⟨#[65]⟩ [] []:Tm),(.mk 0 0 ⟨#[]⟩ [] []:Tm)])),(.mk 0 3 ⟨#[]⟩ [] [])])) BT Ba O O O O (CX (Bd _)) (Gg _)) Aw (Bx O (fun _=>BF O O (E6 4 ([(.mk 5 0 ⟨#[]⟩ [] ([(.mk 3 0 ⟨#[65]⟩ [] []:Tm),(.mk 0 0 ⟨#[]⟩ [] []:Tm)])),(.mk 0 3 ⟨#[]⟩ [] [])])) O) Aw (Bx O (fun _=>By (rows:=A6 ([(.mk 0 5 ⟨#[]⟩ [] []),(.mk 4 0 ⟨#[]⟩ [] ([(.mk 5 0 ⟨#[]⟩ [] ([(.mk 3 0 ⟨#[65]⟩ [] []:Tm),(.mk 0 0 ⟨#[]⟩ [] []:Tm)])),(.mk 0 3 ⟨#[]⟩ [] [])]))])) BT Ba O O O O (CX (Bd _)) (Gg _)) Aw ?_))))));refine Bx O (fun _=>BF O O (E6 4 ([(.mk 0 5 ⟨#[]⟩ [] []),(.mk 4 0 ⟨#[]⟩ [] ([(.mk 5 0 ⟨#[]⟩ [] ([(.mk 3 0 ⟨#[65]⟩ [] []:Tm),(.mk 0 0 ⟨#[]⟩ [] []:Tm)])),(.mk 0 3 ⟨#[]⟩ [] [])]))])) O) Aw (Bx O (fun _=>Ia O O (wO (.mk 4 0 ⟨#[]⟩ [] ([(.mk 0 5 ⟨#[]⟩ [] []),(.mk 4 0 ⟨#[]⟩ [] ([(.mk 5 0 ⟨#[]⟩ [] ([(.mk 3 0 ⟨#[65]⟩ [] []:Tm),(.mk 0 0 ⟨#[]⟩ [] []:Tm)])),(.mk 0 3 ⟨#[]⟩ [] [])]))])) O) (aw (FY O) (aw (we O) (HW)))) Aw (Bb [3,5] O (Bx O (fun _=>Ia O O (vA (.mk 5 0 ⟨#[]⟩ [] ([(.mk 3 0 ⟨#[65]⟩ [] []:Tm),(.mk 0 0 ⟨#[]⟩ [] []:Tm)])) O) (aw (FY O) (aw (we O) (HW)))) Aw ?_)));refine Dj [2] O (IC [0] O O (fun c=>by cases c) (fun c=>?_))
 refine CK [0] O (Mk (M:=⟨117,mk [(3,.ptr b3 0),(5,.ptr b5 0),(7,.ptr b7 0),(8,.ptr b8 0),(9,.ptr b9 0)],[.box b9 ((BD (Cs 1)).map .p),.box b8 ((BD (.mk 5 0 ⟨#[]⟩ [] [GN,GI (Cs 0) (Cs 0)])).map .p),.box b7 ((BD (Cs 3)).map .p),.box b5 ((BD (.mk 9 0 ⟨#[]⟩ [] [Cs 2])).map .p),.box b3 ((BD (GI (Cs 5) (Cs 3))).map .p),.box b2 ((BD (.mk 5 0 ⟨#[]⟩ [] ([(.mk 3 0 ⟨#[65]⟩ [] []:Tm),(.mk 0 0 ⟨#[]⟩ [] []:Tm)]))).map .p),.box b1 [.p (I 3),.p (I 0),.p (.str ⟨#[65]⟩),.p (.nils),.p (.nils)]],[]⟩) (HB ⟨O,O,O,O,O,Aw⟩ (List.Sublist.refl _)) (BP (E2 [0] [] O ?_)));refine Bb [1,4] O (A3 O (fun _=>BF O O (GS 5) O) Aw (A3 O (fun _=>BF O O (GS 3) O) Aw (A3 O (fun _=>By (rows:=A6 ([(.mk 0 5 ⟨#[]⟩ [] []),(.mk 0 3 ⟨#[]⟩ [] [])])) BT Ba O O O O (CX (Bd _)) (Gg _)) Aw (A3 O (fun _=>BF O O (E6 4 ([(.mk 0 5 ⟨#[]⟩ [] []),(.mk 0 3 ⟨#[]⟩ [] [])])) O) Aw (A3 O (fun _=>BF O O (PJ (GI (Cs 5) (Cs 3)) (.mk 4 0 ⟨#[]⟩ [] ([(.mk 0 5 ⟨#[]⟩ [] []),(.mk 0 3 ⟨#[]⟩ [] [])])) (UX O) O) O) Aw (Bb [2,3] O (Bx O (fun _=>BF O O (GS 2) O) Aw (Bx O (fun _=>By (rows:=A6 ([(.mk 0 2 ⟨#[]⟩ [] [])])) BT Ba O O O O (CX (Bd _)) (Gg _)) Aw (Bx O (fun _=>BF O O (E6 9 ([(.mk 0 2 ⟨#[]⟩ [] [])])) O) Aw ?_)))))))));refine Bx O (fun _=>BF O O (PJ (.mk 9 0 ⟨#[]⟩ [] [Cs 2]) (.mk 9 0 ⟨#[]⟩ [] ([(.mk 0 2 ⟨#[]⟩ [] [])])) (UX O) O) O) Aw (Bb [3,2] O (Bx O (fun _=>BF O O (GS 3) O) Aw (Bx O (fun _=>BF O O (PJ (Cs 3) (.mk 0 3 ⟨#[]⟩ [] []) (UX O) O) O) Aw (Bb [3,1] O (Bx O (fun _=>Ia O O (E6 1 []) (aw (we O) (aw (FY O) (HW)))) Aw (Bx O (fun _=>BF O O (GS 0) O) Aw (Bx O (fun _=>BF O O (GS 0) O) Aw (Bx O (fun _=>By (rows:=A6 ([(.mk 0 0 ⟨#[]⟩ [] []),(.mk 0 0 ⟨#[]⟩ [] [])])) BT Ba O O O O (CX (Bd _)) (Gg _)) Aw (Bx O (fun _=>BF O O (E6 4 ([(.mk 0 0 ⟨#[]⟩ [] []),(.mk 0 0 ⟨#[]⟩ [] [])])) O) Aw ?_)))))))))
 refine Bx O (fun _=>By (rows:=A6 ([(.mk 1 0 ⟨#[]⟩ [] []),(.mk 4 0 ⟨#[]⟩ [] ([(.mk 0 0 ⟨#[]⟩ [] []),(.mk 0 0 ⟨#[]⟩ [] [])]))])) BT Ba O O O O (CX (Bd _)) (Gg _)) Aw (Bx O (fun _=>BF O O (E6 5 ([(.mk 1 0 ⟨#[]⟩ [] []),(.mk 4 0 ⟨#[]⟩ [] ([(.mk 0 0 ⟨#[]⟩ [] []),(.mk 0 0 ⟨#[]⟩ [] [])]))])) O) Aw (Bx O (fun _=>BF O O (PJ (.mk 5 0 ⟨#[]⟩ [] [GN,GI (Cs 0) (Cs 0)]) (.mk 5 0 ⟨#[]⟩ [] ([(.mk 1 0 ⟨#[]⟩ [] []),(.mk 4 0 ⟨#[]⟩ [] ([(.mk 0 0 ⟨#[]⟩ [] []),(.mk 0 0 ⟨#[]⟩ [] [])]))])) (UX O) O) O) Aw (Bb [3,0] O (Bx O (fun _=>BF O O (GS 1) O) Aw (Bx O (fun _=>BF O O (PJ (Cs 1) (.mk 0 1 ⟨#[]⟩ [] []) (UX O) O) O) Aw (Dj [2] O (A9 [0] O (Bg [] [] O O ⟨O,O⟩))))))))
theorem ky:∀(ds:List B8) (t r:Tm) (c:Dm),(G2 ds)→(Rg ds sb Gz t= .ok (r,c))→En Tryz.prog 13 [.p (.lst (List.map B0 ds)),.agg ((BD t).map .p)] (.tup [.agg ((BD r).map .p),.p (.bool (!c.over))]):=by
 intro ds t r c h1 h2;refine DJ Tryz.func13 (CG [0] O O fun b3=>Bp [0] O (Az Ba O) fun b4=>DT [1] O (PR O O O (.inl ⟨O,O,O⟩) WB (Ds _) fun bc=>BW (A2 [4,2] O (Bi [0] O (.inl ⟨O,O,O⟩) (oL ds h1 sb bc t Gz c r h2) ⟨_,_,O,O,O⟩ As O (.inl O)) ?_)));refine Bp [0] O (Az Ba O) fun b7=>E2 [1,0,1] [] O (Dj [8,0,1,2,1] O (A9 [0] O (Bg [2] [] O O ⟨O,O⟩)))
set_option maxHeartbeats 1000000 in
theorem br:∀(ds:List B8) (t:Tm),(IQ ds)→(Wd t)→En Tryz.prog 4 [.p (.lst (List.map B0 ds)),.agg ((BD t).map .p)] (.p (.bool true)):=by
 intro ds t h1 h2;refine DJ Tryz.func4 (CG [0] O O fun b3=>A2 [3,0] O (By (rows:=A6 [t]) BT Ba O O O O (CX (Bd _)) (Gg _)) (DT [0] O (EF O O (B7 O O (Yc ds [t] h1 ⟨h2,Aw⟩ (by simp[wide])) (.inl O)) ?_)));rintro _ ⟨q,rfl,hq⟩;refine BW (BC [1] rfl ?_ ?_)<;>intro c
 ·refine CQ [0] O (aA ) (A9 [1] O (Bg [] [] O O ⟨O,O⟩))
 have hs:=hq (by simpa using c);have ho:=hs.ok t Av;have hsz:size t≤60:=by have:=hs.sz;simp only[BB] at this;omega
 obtain⟨r,c,hr1,hr2⟩:=tA hs.env ho Au;refine CQ [2,0] O (ky ds t r c hs.env hr1) (Bp [3] O (Az Ba O) fun b5=>Fl [2,0,1] 4 [0,3] 40 (fun y=>y= .p (.bool false)) O O ?_ ?_)
 ·refine E2 [0] [5] O (Bb [2] O (Db 20 O (fun g=>?_) (fun g=>?_)))
  ·(try simp only[sd,se] at g);have hv:c.over=false:=by simpa using g
   refine Bb [2,0] O (Bx O (fun _=>By (rows:=A6 [r]) BT Ba O O O O (CX (Bd _)) (Gg _)) Aw (di [] O O O O (B7 O O (Yc ds [r] h1 ⟨rV _ (Bu.1 hr2).nd,Aw⟩ (by simp[wide])) (.inl O)) Ap (⟨_,false,O,fun h=>absurd h As⟩) AB ?_));rintro _ ⟨q1,rfl,hq1⟩;refine⟨Aw,?_⟩;refine Bb [2] O (Db 26 O (fun g1=>?_) (fun g1=>?_))
   ·(try simp only[sd,se] at g1);have hs2:=hq1 (by simpa using g1);have hrz:size r≤60:=by have:=hs2.sz;simp only[BB] at this;omega
    have hnl:=pH hs.env ho hsz hr1 hv hr2 hrz;exact Bb [2,0] O (Bx O (fun _=>BF O O (Nf 61 ds r true hs.env hr2 Au As ((O0 61 r).trans hnl.1)) O) Aw (Bb [4,1] O (Bx O (fun _=>BF O O (Nf 61 ds t (MN t r) hs.env ho Au As ((O0 61 t).trans hnl.2)) O) Aw (Bb [2,1,0] O (Bx O (fun _=>BF O O (Xe _ t r (Nat.le_refl _) (Bu.1 ho).nd) O) Aw (Bx O (fun _=>UW wv O O) Aw (CY tab 2 [] O (Cu (CT [0] O)))))))))
   (try simp only[sd,se] at g1);exact CY tab 14 [] O (Cu (CT [0] O))
  (try simp only[sd,se] at g);exact Bb [3] O (Zq O O O O Aw (CY tab 16 [] O (Cu (CT [0] O))))
 rintro _ rfl;refine IC [0] O O (fun c1=>by cases c1) (fun c1=>?_);refine CJ [0] 6 [] 4 (Gv (Md ds) 61 t==Gv (KX ds) 61 t) O O ?_ ?_
 ·refine E2 [0] [] O (Bb [2,1] O (A3 O (fun _=>BF O O (VL 61 ds t hs.env ho Au As) O) Aw (Bb [2,1] O (A3 O (fun _=>BF O O (gP 61 ds t hs.env ho Au As) O) Aw (A3 O (fun _=>T5 wv O O) Aw (A3 O (fun _=>Bj O) Aw (Db 48 O (fun g=>?_) (fun g=>?_))))))))
  ·(try simp only[sd,se] at g);exact Bx O (fun _=>BF O O (aA ) O) Aw (CY tab 2 [] O (Cu (CT [0] O)))
  (try simp only[sd,se] at g);exact CY tab 3 [] O (Cu (CT [0] O))
 refine A9 [0] O (Bg [] [] O O ⟨by refine pB ?_;simp[O0],rfl⟩)
end Go.Proofs.YtldfmjoncbjldaaGreat
