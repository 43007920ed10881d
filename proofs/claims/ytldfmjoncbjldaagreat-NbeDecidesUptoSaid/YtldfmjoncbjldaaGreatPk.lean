/- Part of the proofs: an abstract program logic, plain models and contracts of functions. -/
import Derived.Test.YtldfmjoncbjldaaGreatPj
import Derived.Test.YtldfmjoncbjldaaGreatPe
import Derived.Test.YtldfmjoncbjldaaGreatPd
import Derived.Test.YtldfmjoncbjldaaGreatPf
import Derived.Test.YtldfmjoncbjldaaGreatPb
set_option linter.unusedVariables false
set_option linter.unusedSimpArgs false
set_option maxRecDepth 1000000
namespace Go.Eu
open Go.Abs
def ta (t:Tm):Bool:=decide (FG t > 2000)||decide (FU t > 95)
def hP (W:Dn→Tm→Out (Tm×Dn)):List Tm→Dn→Out (List Tm×Dn)
 | [],c=> .ok ([],c)
 | x::xs,c=>(W c x).bind fun r=>(hP W xs r.2).bind fun q=> .ok (r.1::q.1,q.2)
def Rr (E:List B8):Nat→Dn→Tm→Out (Tm×Dn)
 | 0,_,_=> .stuck
 | n+1,c,t=>(FM E DK FN c t).chk fun w=>if w.2.over=true then .ok w else
  (hP (Rr E n) (Ay w.1).1.kids w.2).bind fun ks=>(hP (Rr E n) (Ay w.1).2 ks.2).bind fun zs =>
   if okB (R0 (Ay w.1).1 ks.1 zs.1)=true then .ok (R0 (Ay w.1).1 ks.1 zs.1,zs.2.sized (R0 (Ay w.1).1 ks.1 zs.1)) else .stuck
def nZ (W:Dn→Tm→Out (Tm×Dn)) (l:List Tm) (d:Dn) (K:List Tm) (D:Dn) (ys:List Tm):Prop:=∃rest,hP W l d= .ok (rest,D)∧K=ys++rest
section
variable {W:Dn→Tm→Out (Tm×Dn)}{l:List Tm}{d D:Dn}{K ys:List Tm}{x:Tm}
theorem nZ.next (h:nZ W (x::l) d K D ys):∃r d1,W d x= .ok (r,d1)∧nZ W l d1 K D (ys++[r]):=by
 obtain⟨rest,h1,h2⟩:=h;rw[hP] at h1;obtain⟨⟨r,d1⟩,g1,g2⟩:=D9 h1;obtain⟨⟨q,d2⟩,g3,g4⟩:=D9 g2;cases g4;exact⟨r,d1,g1,q,g3,by rw[h2];simp⟩
theorem nZ.done (h:nZ W [] d K D ys):ys=K∧d=D:=by
 obtain⟨rest,h1,h2⟩:=h;cases h1;exact⟨by simpa using h2.symm,rfl⟩
theorem nZ.at {i:Nat}(h:nZ W (l.drop i) d K D ys) (hx:l[i]?=some x):∃r d1,W d x= .ok (r,d1)∧nZ W (l.drop (i+1)) d1 K D (ys++[r]):=by
 rw[Cd hx] at h;exact h.next
end
section
variable {E:List B8}
theorem jL {n:Nat}{c c2:Dn}{t r:Tm}(h:Rr E (n+1) c t= .ok (r,c2)):∃w d,FM E DK FN c t= .ok (w,d)∧okB w=true ∧
  ((d.over=true∧r=w∧c2=d)∨(d.over=false∧∃ks e zs f,hP (Rr E n) (Ay w).1.kids d= .ok (ks,e)∧hP (Rr E n) (Ay w).2 e= .ok (zs,f)∧okB (R0 (Ay w).1 ks zs)=true∧r=R0 (Ay w).1 ks zs∧c2=f.sized r)):=by
 rw[Rr] at h;obtain⟨⟨w,d⟩,h1,h2,h3⟩:=HA h;refine⟨w,d,h1,h2,?_⟩;simp only at h3;cases hv:d.over with
 | true=>rw[hv,if_pos rfl] at h3;cases h3;exact .inl ⟨rfl,rfl,rfl⟩
 | false =>
  rw[hv,if_neg Av] at h3;obtain⟨⟨ks,e⟩,g1,g2⟩:=D9 h3;obtain⟨⟨zs,f⟩,g3,g4⟩:=D9 g2;simp only at g3 g4;split at g4
  ·rename_i ho;cases g4;exact .inr ⟨O,ks,e,zs,f,g1,g3,ho,O,O⟩
  cases g4
abbrev cS (c:Dn):Nat:=c.steps.toNat
structure oN (n:Nat) (c:Dn) (z:Nat):Prop where
 j:lx c
 ub:cS c≤10000000
 n1:1≤n
 fu:c.over=false→z+(1000 - cS c)*4500+1≤n
 pm:c.over=false→z+(1000 - cS c)*4500≤5000000
structure dy (c c':Dn) (z z':Nat):Prop where
 j:lx c'
 ub:cS c'≤10000000
 le:cS c≤cS c'
 sz:z'≤z+(cS c' - cS c)*4500
 ov:c'.over=false→c.over=false
theorem RY {c:Dn}{t:Tm}:(c.sized t).steps=c.steps∧(c.sized t).limit=c.limit∧((c.sized t).over=false→c.over=false∧ta t=false∧c.sized t=c):=by
 refine⟨O,O,fun h=>?_⟩;have h1:(c.over||ta t)=false:=h;rw[Bool.or_eq_false_iff] at h1;refine⟨h1.1,h1.2,?_⟩;show (⟨c.steps,c.nodes,c.forms,c.limit,c.over||ta t⟩:Dn)=c;rw[h1.1,h1.2];obtain⟨a,b,d,e,f⟩:=c;cases h1.1;rfl
theorem XQ {n:Nat}(ih:∀c t,okB t=true→oN n c (size t)→∃r c',Rr E n c t= .ok (r,c')∧okB r=true∧dy c c' (size t) (size r)) :
  ∀(l:List Tm) (c:Dn) (z:Nat),(∀x∈l,okB x=true∧size x≤z)→oN n c z→∃ys c',hP (Rr E n) l c= .ok (ys,c')∧ys.length=l.length∧(∀y∈ys,okB y=true)∧dy c c' (BB l) (BB ys)
 | [],c,z,hl,hp=>⟨[],c,rfl,rfl,fun y hy=>(by cases hy),⟨hp.j,hp.ub,Nat.le_refl _,by omega,id⟩⟩
 | x::l,c,z,hl,hp=>by
  have hx:=hl x Av;obtain⟨r,c1,h1,h2,h3⟩:=ih c x hx.1 ⟨hp.j,hp.ub,hp.n1,fun h=>by have:=hp.fu h;omega,fun h=>by have:=hp.pm h;omega⟩;have hle:=h3.le;obtain⟨ys,c2,g1,g2,g3,g4⟩:=XQ ih l c1 z (fun y hy=>hl y (by simp[hy])) ⟨h3.j,h3.ub,hp.n1,fun h=>by have:=hp.fu (h3.ov h);omega,fun h=>by have:=hp.pm (h3.ov h);omega⟩;refine⟨r::ys,c2,?_,by simp[g2],fun y hy=>?_,⟨g4.j,g4.ub,Nat.le_trans h3.le g4.le,?_,fun h=>h3.ov (g4.ov h)⟩⟩
  ·rw[hP,h1];simp only[Out.bind];rw[g1]
  ·rcases List.mem_cons.1 hy with e | e
   ·rw[e];exact h2
   exact g3 y e
  have a:=h3.sz;have b:=g4.sz;have d:=g4.le;simp only[BB];omega
theorem qc {w:Tm}(ho:okB w=true) {ks zs:List Tm}(hl:ks.length=(Ay w).1.kids.length) (hk:∀x∈ks,okB x=true) (hz:∀x∈zs,okB x=true) (hs:1+BB ks+BB zs+zs.length<549755813888):okB (R0 (Ay w).1 ks zs)=true:=by
 have h1:=KQ (DB ho).1;refine OO (Jt ?_ fun x hx=>KQ (hz x hx)) ?_
 ·generalize (Ay w).1=g at h1 hl;obtain⟨k,i,nm,lv,gs⟩:=g;simp only[Tm.kids] at hl;simp only[Tm.kind,Tm.index,Tm.name,Tm.levels];rw[Lg,Bool.and_eq_true] at h1 ⊢;rw[hl];exact⟨h1.1,J5.2 fun x hx=>KQ (hk x hx)⟩
 show size (apply _ _)<_;rw[Cm,size];exact hs
theorem mJ (hE:G2 E):∀(n:Nat) (c:Dn) (t:Tm),okB t=true→oN n c (size t)→∃r c',Rr E n c t= .ok (r,c')∧okB r=true∧dy c c' (size t) (size r)
 | 0,c,t,ho,hp=>by have:=hp.n1;omega
 | n+1,c,t,ho,hp=>by
  obtain⟨⟨w,d⟩,h1,h2⟩:=mf (mr e6 hE FN c t ⟨hp.j,ho,fun h=>(by have:=hp.pm h;show size t+(1000 - cS c)*4500≤90100000;omega),fun h=>(by have:=hp.pm h;rw[Ye];show size t+(1000 - cS c)*4501+100≤1000000000000;omega),by rw[Ye];omega⟩) (rL FN c t);have w1:okB w=true:=h2.ok;have w2:cS c≤cS d:=h2.le;have w3:size w≤size t+(cS d - cS c)*4500:=h2.sz;have hub:cS d≤10000000:=by
   cases hv:c.over with
   | true=>rw[show d=c from h2.st hv];exact hp.ub
   | false =>
    have a:cS d≤1000+1+size t+(1000 - cS c)*4500:=h2.ub hv;have b:=hp.pm hv;omega
  have hov:d.over=false→c.over=false:=fun h=>Fi h1 h;cases hv:d.over with
  | true=>exact⟨w,d,by rw[Rr,h1];simp only[Out.chk,Out.bind];rw[if_pos w1,if_pos hv],w1,⟨h2.j,hub,w2,w3,fun h=>by rw[hv] at h;cases h⟩⟩
  | false =>
   have hc:=hov hv;have hst:cS d≤1000:=by
    have:d.steps≤1000:=h2.j.2.2 hv;show d.steps.toNat≤1000;omega
   have f1:=hp.fu hc;have f2:=hp.pm hc;have hz1:=EL w;have ih:∀c t,okB t=true→oN n c (size t)→∃r c',Rr E n c t= .ok (r,c')∧okB r=true∧dy c c' (size t) (size r):=mJ hE n;have hkz:∀x∈(Ay w).1.kids,okB x=true∧size x≤size w - 1:=fun x hx=>⟨LJ w1 hx,by have:=FH hx;omega⟩;have haz:∀x∈(Ay w).2,okB x=true∧size x≤size w - 1:=fun x hx=>⟨(DB w1).2 x hx,by have:=D1 hx;omega⟩;have hn1:1≤n∧size w - 1+(1000 - cS d)*4500+1≤n∧size w - 1+(1000 - cS d)*4500≤5000000:=by
    have:=size_pos w;omega
   obtain⟨ks,e,k1,k2,k3,k4⟩:=XQ ih (Ay w).1.kids d (size w - 1) hkz ⟨h2.j,hub,hn1.1,fun _=>hn1.2.1,fun _=>hn1.2.2⟩;have ke:=k4.le;obtain⟨zs,f,a1,a2,a3,a4⟩:=XQ ih (Ay w).2 e (size w - 1) haz ⟨k4.j,k4.ub,hn1.1,fun h=>by omega,fun h=>by omega⟩;have ks1:=k4.sz;have as1:=a4.sz;have ae:=a4.le;have au:=a4.ub;have hsz:1+BB ks+BB zs+zs.length≤size t+(cS f - cS c)*4500:=by
    have hg:size (Ay w).1=1+BB (Ay w).1.kids:=by
     generalize (Ay w).1=g;obtain⟨k,i,nm,lv,gs⟩:=g;rfl
    rw[a2];have e1:(cS f - cS c)=(cS f - cS e)+(cS e - cS d)+(cS d - cS c):=by omega
    rw[e1,Nat.add_mul,Nat.add_mul];omega
   have hrb:okB (R0 (Ay w).1 ks zs)=true:=qc w1 k2 k3 a3 (by
    have:(cS f - cS c)*4500≤10000000*4500:=Nat.mul_le_mul_right _ Au;omega)
   refine⟨R0 (Ay w).1 ks zs,f.sized (R0 (Ay w).1 ks zs),?_,hrb,?_⟩
   ·rw[Rr,h1];simp only[Out.chk,Out.bind];rw[if_pos w1,if_neg (by simp[hv]),k1];simp only;rw[a1];simp only;rw[if_pos hrb]
   obtain⟨s1,s2,s3⟩:=RY (c:=f) (t:=R0 (Ay w).1 ks zs);have j:=a4.j;refine⟨⟨s2.trans j.1,by rw[s1];exact j.2.1,fun h=>by rw[s1];exact j.2.2 (s3 h).1⟩,a4.ub,(by show cS c≤cS f;omega),?_,fun h=>hov (k4.ov (a4.ov (s3 h).1))⟩;rw[show cS (f.sized (R0 (Ay w).1 ks zs))=cS f by rw[cS,s1]];show size (apply _ _)≤_;rw[Cm,size];exact hsz
theorem kR (hE:G2 E) {n:Nat}{c d:Dn}{t w:Tm}(hL:Lt c) (hw:okB w=true) (h:FM E DK n c t= .ok (w,d)) (hv:d.over=false) (hz:(size t:Int)≤30000+c.nodes):Wh E t w∧cZ c d (size t) (size w):=by
 obtain⟨h1,h2⟩:=dZ hE.g n c t w d hL h hv hz;exact⟨⟨hw,n,1000 - c.steps,_,h2 _ (Int.le_refl _)⟩,h1⟩
theorem Td {n:Nat}(ih:∀c t r c',Rr E n c t= .ok (r,c')→c'.over=false→c.over=false):∀(l:List Tm) (c:Dn) (ys:List Tm) (c':Dn),hP (Rr E n) l c= .ok (ys,c')→c'.over=false→c.over=false
 | [],c,ys,c',h,hv=>by cases h;exact hv
 | x::l,c,ys,c',h,hv=>by
  rw[hP] at h;obtain⟨⟨r,c1⟩,h1,h2⟩:=D9 h;obtain⟨⟨q,c2⟩,h3,h4⟩:=D9 h2;cases h4;exact ih _ _ _ _ h1 (Td ih l c1 q _ h3 hv)
theorem eH:∀(n:Nat) (c:Dn) (t r:Tm) (c':Dn),Rr E n c t= .ok (r,c')→c'.over=false→c.over=false
 | 0,c,t,r,c',h,_=>by cases h
 | n+1,c,t,r,c',h,hv=>by
  obtain⟨w,d,h1,h2,h3⟩:=jL h;refine Fi h1 ?_;rcases h3 with ⟨a,b,e⟩ | ⟨a,_⟩
  ·rw[←e];exact hv
  exact a
theorem QD {n:Nat}(ih:∀c t r c',Lt c→Rr E n c t= .ok (r,c')→c'.over=false→(size t:Int)≤30000+c.nodes→N2 E n t r∧Lt c'∧c.nodes≤c'.nodes) :
  ∀(l:List Tm) (c:Dn) (ys:List Tm) (c':Dn),Lt c→hP (Rr E n) l c= .ok (ys,c')→c'.over=false→(∀x∈l,(size x:Int)≤30000+c.nodes)→E4 (N2 E n) l ys∧Lt c'∧c.nodes≤c'.nodes
 | [],c,ys,c',hL,h,hv,hz=>by cases h;exact⟨trivial,hL,Int.le_refl _⟩
 | x::l,c,ys,c',hL,h,hv,hz=>by
  rw[hP] at h;obtain⟨⟨r,c1⟩,h1,h2⟩:=D9 h;obtain⟨⟨q,c2⟩,h3,h4⟩:=D9 h2;cases h4;obtain⟨g1,g2,g3⟩:=ih c x r c1 hL h1 (Td (eH n) l c1 q _ h3 hv) (hz x Av);simp only at h3;obtain⟨g4,g5,g6⟩:=QD ih l c1 q _ g2 h3 hv (fun y hy=>by have:=hz y (by simp[hy]);omega);exact⟨⟨g1,g4⟩,g5,Int.le_trans g3 g6⟩
theorem ZY (hE:G2 E):∀(n:Nat) (c:Dn) (t r:Tm) (c':Dn),Lt c→Rr E n c t= .ok (r,c')→c'.over=false→(size t:Int)≤30000+c.nodes→N2 E n t r∧Lt c'∧c.nodes≤c'.nodes
 | 0,c,t,r,c',hL,h,_,_=>by cases h
 | n+1,c,t,r,c',hL,h,hv,hz=>by
  obtain⟨w,d,h1,h2,h3⟩:=jL h;rcases h3 with ⟨a,b,e⟩ | ⟨a,ks,e,zs,f,k1,a1,ho,rfl,rfl⟩
  ·rw[←e] at a;rw[hv] at a;cases a
  obtain⟨s1,s2,s3⟩:=RY (c:=f) (t:=R0 (Ay w).1 ks zs);obtain⟨fv,_,fe⟩:=s3 hv;rw[fe];obtain⟨hw,hp⟩:=kR hE hL h2 h1 a hz;have hsz:(size w:Int)≤30000+d.nodes:=by have:=hp.sz;omega
  have ih:∀c t r c',Lt c→Rr E n c t= .ok (r,c')→c'.over=false→(size t:Int)≤30000+c.nodes→N2 E n t r∧Lt c'∧c.nodes≤c'.nodes:=ZY hE n;have ev:=Td (eH n) _ _ _ _ a1 fv;obtain⟨g1,g2,g3⟩:=QD ih _ _ _ _ hp.lt k1 ev (fun x hx=>by have:=FH hx;omega);obtain⟨g4,g5,g6⟩:=QD ih _ _ _ _ g2 a1 fv (fun x hx=>by have:=D1 hx;omega);exact⟨⟨w,ks,zs,hw,O,g1,g4⟩,g5,by have:=hp.nd;omega⟩
theorem Zq (hE:G2 E) (g:Tm) (x:IJ) (hu:Gx E g=some x) (k5:x.kind=5):0≤Bv (CR E x.decl):=by
 rw[Df] at hu;cases hb:Up E g with
 | false=>rw[hb] at hu;cases hu
 | true =>
  rw[hb,if_pos rfl] at hu;cases hu;obtain⟨i,d,e1,e2,hd,e4⟩:=KI hb;rw[show CR E (BY E g.name).1.decl=d from CO e4];have h1:=KK (hE.g.all _ hd);omega
abbrev tY:Nat:=5000001
theorem sb (hE:G2 E) {t:Tm}(ho:okB t=true) (hz:size t≤10000):∃r c,Rr E tY G0 t= .ok (r,c)∧okB r=true:=by
 obtain⟨r,c,h1,h2,_⟩:=mJ hE tY G0 t ho ⟨⟨rfl,by decide,fun _=>by decide⟩,by decide,by decide,fun _=>by show size t+(1000 - 0)*4500+1≤5000001;omega,fun _=>by show size t+(1000 - 0)*4500≤5000000;omega⟩;exact⟨r,c,h1,h2⟩
theorem qN (hE:G2 E) {t r:Tm}{c:Dn}(ho:okB t=true) (hz:size t≤60) (h:Rr E tY G0 t= .ok (r,c)) (hv:c.over=false) (hr:okB r=true) (hrz:size r≤60) :
  Gu (KV E) 61 r=true∧(Gu (KV E) 61 t=ML t r):=by
 obtain⟨h1,_,_⟩:=ZY hE tY G0 t r c jT h hv (by show (size t:Int)≤30000+0;omega);have h2:Gu (KV E) 61 r=true:=dG hE tY 61 r (lj (Zq hE) _ _ _ h1 hr) hr Au;refine⟨h2,?_⟩;cases ht:Gu (KV E) 61 t with
 | true =>
  have h3:=kM (Zq hE) 61 t (mE 61 t Au ht) ho Au;exact(FP (h3.det h1)).symm
 | false =>
  refine(FL fun e=>?_).symm;rw[e,h2] at ht;cases ht
end
end Go.Eu
namespace Go.Proofs.YtldfmjoncbjldaaGreat
open Go.Abs Go.Eu
def yR (ds:List B8) (n:Nat):Prop:=∀(b:Nat) (t:Tm) (c c2:Dn) (r:Tm),Rr ds n c t= .ok (r,c2)→BL Tryz.prog 35 [.p (.lst (List.map B1 ds)),.agg ((BD t).map .p),.ptr b 0] [.box b ((HX c).map .p)] (Gm (.agg ((BD r).map .p)) [.box b ((HX c2).map .p)])
set_option maxHeartbeats 1000000 in
theorem qw : ∀ (ds : List B8) (hE : G2 ds) (n : Nat), yR ds n := by
 intro ds hE n
 induction n with
 | zero => intro b t c c2 r h; cases h
 | succ k ih =>
  intro b t c c2 r h1
  obtain ⟨w, d, hw1, hwo, hw3⟩ := jL h1
  have hsp := Q8 hwo
  have hsl := hsp.len
  have hss := hsp.sz
  refine DI Tryz.func35 ?_
  refine CG [0] O O fun b4 => ?_
  refine Bp [0] O (Az Ba O) fun b6 => ?_
  refine A2 [3, 1] O (Bj [2] O (.inl ⟨O, O, O⟩) (Yo ds hE FN b t c d w hw1) ⟨_, _, O, O, O⟩ As O (.inl O)) ?_
  refine BC [5, 1, 1, 2] rfl ?_ ?_ <;> intro c1
  ·rcases hw3 with ⟨_, rfl, rfl⟩ | ⟨e0, _⟩
   rotate_left
   ·rw [e0] at c1; cases c1
   refine A9 [2, 1, 0, 1] O (Bg [0] [2] O O ⟨O, O⟩)
  rcases hw3 with ⟨e0, _⟩ | ⟨e0, KS, e, ZS, f, k1, a1, ho, rfl, rfl⟩
  ·rw [e0] at c1; cases c1
  refine CQ [1, 1] O (LG _ w (Nat.le_refl _) Ak) ?_
  refine Bp [3] O (Az Ba O) fun b7 => ?_
  generalize hz : (Ay w).1 = z
  obtain ⟨zk, zi, zn, zl, zs⟩ := z
  have hzo : okB (.mk zk zi zn zl zs) = true := hz ▸ hsp.head
  have hzl := J6 hzo
  have hzq := (Bu.1 hzo).nd
  simp only [Nd, Db] at hzq
  have hzs := hzq.2.2.2.1
  rw [hz] at k1 ho
  simp only [Tm.kids] at k1
  refine CK [4, 0, 1] O ?_
  refine A5 (DH (t := 9) (sz := 5) O) ?_
  refine BP (GG (α := Nat × List Tm × Dn × Option Nat × Nat) [0] [0, 2, 6, 7, 8] [0, 1, 2, 4] (fun (i, ys, g, o, cp) => [(9, .vs o (A6 ys).length cp), (10, .p (I (i : Int)))]) (fun (i, ys, g, o, cp) => [(0, .vec o 5 (A6 ys) cp), (3, .box b ((HX g).map .p))]) (fun (i, ys, g, o, cp) => zs.length - i) (fun (i, ys, g, o, cp) => i ≤ zs.length ∧ (ys.length = i ∧ nZ (Rr ds k) (List.drop i zs) g KS e ys)) ⟨0, [], d, none, 0⟩ O O O (⟨by omega, rfl, KS, k1, rfl⟩) ?_)
  rintro ⟨i, ys, g, o, cp⟩ hC
  try simp only at hC
  obtain ⟨hi, hC⟩ := hC
  obtain ⟨hyl, hC⟩ := hC
  refine CA [3, 1] O O (A8 _) ?_
  refine BC [1] rfl ?_ ?_ <;> intro c3
  ·refine D7 [5, 1] zs i O O O (IH _) (fun x hx => ?_)
   obtain ⟨q, q1, hq1, hq2⟩ := hC.at hx
   refine A2 [2] O (Bj [3] O (.inl ⟨O, O, O⟩) (ih b x g q1 q hq1) ⟨_, _, O, O, O⟩ As O (.inl O)) ?_
   obtain ⟨qk, qi, qn, ql, qs⟩ := q
   refine A2 [0] O (BJ BS Ba O O O O O) ?_
   refine DS [0] O ?_
   refine ET O O (Bi (i := 0) (rows' := A6 [(.mk qk qi qn ql qs : Tm)]) BS BS Ba O O O O O O (Bd _) AD (Hj ys [(.mk qk qi qn ql qs : Tm)])) fun o1 cp1 => ?_
   exact BW (FR [4] 0 ⟨i + 1, ys ++ [.mk qk qi qn ql qs], q1, o1, cp1⟩ O (⟨by omega, ⟨by simp [hyl], hq2⟩⟩))
  rw [List.drop_eq_nil_of_le Au] at hC
  obtain ⟨rfl, rfl⟩ := hC.done
  refine DF [0] O ?_
  refine DS [0] O ?_
  refine BH (CL (i := 0) [9] O (DA ⟨O, Aw⟩)) ?_
  refine BW (Bp [10, 0, 0, 0, 0] O (Az Ba O) fun b11 => ?_)
  refine CK [3, 0, 0] O ?_
  refine A5 (DH (t := 12) (sz := 5) O) ?_
  refine BP (GG (α := Nat × List Tm × Dn × Option Nat × Nat) [0] [0, 2, 6, 8, 11] [0, 1, 3, 4] (fun (i, us, g2, o1, cp1) => [(12, .vs o1 (A6 us).length cp1), (13, .p (I (i : Int)))]) (fun (i, us, g2, o1, cp1) => [(0, .vec o1 5 (A6 us) cp1), (3, .box b ((HX g2).map .p))]) (fun (i, us, g2, o1, cp1) => (Ay w).2.length - i) (fun (i, us, g2, o1, cp1) => i ≤ (Ay w).2.length ∧ (us.length = i ∧ nZ (Rr ds k) (List.drop i (Ay w).2) g2 ZS f us)) ⟨0, [], g, none, 0⟩ O O O (⟨by omega, rfl, ZS, a1, rfl⟩) ?_)
  rintro ⟨i, us, g2, o1, cp1⟩ hC1
  try simp only at hC1
  obtain ⟨hi, hC⟩ := hC1
  obtain ⟨hyl, hC⟩ := hC
  refine CA [2] O O (A8 _) ?_
  refine BC [1] rfl ?_ ?_ <;> intro c4
  ·refine D7 [4] ((Ay w).2) i O O O (IH _) (fun x hx => ?_)
   obtain ⟨p, p1, hq1, hq2⟩ := hC.at hx
   refine A2 [2] O (Bj [3] O (.inl ⟨O, O, O⟩) (ih b x g2 p1 p hq1) ⟨_, _, O, O, O⟩ As O (.inl O)) ?_
   obtain ⟨pk, pi, pn, pl, ps⟩ := p
   refine A2 [0] O (BJ BS Ba O O O O O) ?_
   refine DS [0] O ?_
   refine ET O O (Bi (i := 0) (rows' := A6 [(.mk pk pi pn pl ps : Tm)]) BS BS Ba O O O O O O (Bd _) AD (Hj us [(.mk pk pi pn pl ps : Tm)])) fun o2 cp2 => ?_
   exact BW (FR [4] 0 ⟨i + 1, us ++ [.mk pk pi pn pl ps], p1, o2, cp2⟩ O (⟨by omega, ⟨by simp [hyl], hq2⟩⟩))
  rw [List.drop_eq_nil_of_le Au] at hC
  obtain ⟨rfl, rfl⟩ := hC.done
  refine DF [0] O ?_
  refine DS [2, 1] O ?_
  refine BH (CL (i := 0) [12, 73] O (DA ⟨O, O, Aw⟩)) ?_
  refine BW (CQ [0] O (Ee (.mk zk zi zn zl ys : Tm) us Ak) ?_)
  refine A2 [1] O (Bj [2] O (.inl ⟨O, O, O⟩) (ni b g2 (apply (.mk zk zi zn zl ys : Tm) us) (Bu.1 ho).nd) ⟨_, _, O, O, O⟩ As O (.inl O)) ?_
  refine A9 [1, 1, 1] O (Bg [1] [2] O O ⟨O, O⟩)
end Go.Proofs.YtldfmjoncbjldaaGreat
namespace Go.Eu
open Go.Abs
section
variable {E:List B8}{st:Tm→Bool}{n:Nat}{t x:Tm}
theorem nu {q:Option Tm}{c:Dn}(e:Di E DK FN G0 t= .ok (q,c)):KV E t=(q.isSome||c.over):=by unfold KV;rw[e]
theorem mY (h:st t=true):Gu st (n+1) t=false:=by rw[Gu,h];rfl
theorem bz (hx:x∈(Ay t).1.kids++(Ay t).2) (h:Gu st n x=false):Gu st (n+1) t=false:=by
 rw[Gu,Bool.and_eq_false_iff];right;rw[List.all_eq_false];exact⟨x,hx,by simp[h]⟩
theorem eE (h:st t=false) (hk:∀x∈(Ay t).1.kids,Gu st n x=true) (ha:∀x∈(Ay t).2,Gu st n x=true):Gu st (n+1) t=true:=by
 rw[Gu,h,Bool.not_false,Bool.true_and,List.all_eq_true];intro x hx;rcases List.mem_append.1 hx with g | g
 ·exact hk x g
 exact ha x g
theorem oL (ho:okB t=true) (hx:x∈(Ay t).1.kids++(Ay t).2):okB x=true∧size x+1≤size t:=by
 rcases List.mem_append.1 hx with g | g
 ·exact⟨LJ ho g,FH g⟩
 exact⟨(DB ho).2 x g,D1 g⟩
theorem br {p:Tm→Prop}{l:List Tm}{i:Nat}(h:∀j,j<i→∀x,l[j]?=some x→p x) (hi:l.length≤i):∀x∈l,p x:=fun x hx=>by
 obtain⟨j,hj⟩:=List.mem_iff_getElem?.1 hx;exact h j (by have:=(List.getElem?_eq_some_iff.1 hj).1;omega) x hj
end
end Go.Eu
namespace Go.Proofs.YtldfmjoncbjldaaGreat
open Go.Abs Go.Eu
theorem gj : ∀ (n : Nat) (ds : List B8) (t : Tm), (G2 ds) → (okB t = true) → (size t ≤ n) → (n ≤ 10000) → En Tryz.prog 16 [.p (.lst (List.map B1 ds)), .agg ((BD t).map .p)] (.p (.bool (Gu (KV ds) n t))) := by
 intro n
 induction n with
 | zero => intro ds t h1 h2 h3; have := size_pos t; omega
 | succ n ih =>
  intro ds t h1 h2 h3 h4
  have hsp := Q8 h2
  have hsl := hsp.len
  obtain ⟨q, c2, hr1, hr2⟩ := ed h1 h2 Au
  have hst := nu hr1
  refine DI Tryz.func16 ?_
  refine CG [0] O O fun b3 => ?_
  refine DS [1] O ?_
  refine PY O O O (.inl ⟨O, O, O⟩) Vv (Dt _) fun bc => ?_
  refine BW (A2 [4, 1] O (Bj [0] O (.inl ⟨O, O, O⟩) (jM ds h1 FN bc t G0 c2 q hr1) ⟨_, _, O, O, O⟩ As O (.inl O)) ?_)
  refine Bp [3] O (Az Ba O) fun b6 => ?_
  refine CI [2, 0, 1] 3 [0, 3] 26 (q.isSome || c2.over) O O ?_ ?_
  ·refine Bc [2] 21 rfl rfl ?_ ?_ <;> intro g
   ·exact CT [5] O
   exact CT [5, 1] O
  refine BC [0] rfl ?_ ?_ <;> intro c
  ·refine A9 [1] O (Bg [] [] O O ⟨by refine pB ?_; rw [mY (by rw [hst]; simpa using c)], rfl⟩)
  have hst0 : KV ds t = false := by rw [hst]; simpa using c
  refine CQ [1, 2] O (LG _ t (Nat.le_refl _) Ak) ?_
  refine Bp [3] O (Az Ba O) fun b8 => ?_
  generalize hz : (Ay t).1 = z
  obtain ⟨zk, zi, zn, zl, zs⟩ := z
  have hzo : okB (.mk zk zi zn zl zs) = true := hz ▸ hsp.head
  have hzq := (Bu.1 hzo).nd
  simp only [Nd, Db] at hzq
  have hzs := hzq.2.2.2.1
  have hks : (Ay t).1.kids = zs := by rw [hz]; rfl
  refine GG (α := Nat) [3, 0, 1] [0, 8, 9] [0] (fun i => [(10, .p (I (i : Int)))]) (fun _ => []) (fun i => zs.length - i) (fun i => i ≤ zs.length ∧ (∀ j, j < i → ∀ x, zs[j]? = some x → Gu (KV ds) n x = true)) 0 O O O (⟨by omega, fun j h => by omega⟩) ?_
  rintro i hC
  try simp only at hC
  obtain ⟨hi, hC⟩ := hC
  refine CA [3, 0] O O (A8 _) ?_
  refine BC [1] rfl ?_ ?_ <;> intro c1
  ·refine D7 [4, 0] zs i O O O (IH _) (fun x hx => ?_)
   refine CQ [1] O (ih ds x h1 (LJ h2 (hks ▸ List.mem_of_getElem? hx)) (by have := FH (hks.symm ▸ List.mem_of_getElem? hx); omega) Au) ?_
   refine BC [1] rfl ?_ ?_ <;> intro c3
   ·have hn1 := c3
    refine A9 [1] O (Bg [] [] O O ⟨by refine pB ?_; rw [bz (x := x) (by rw [hks]; exact List.mem_append_left _ (List.mem_of_getElem? hx)) (by simpa using hn1)], rfl⟩)
   have hn1 := c3
   exact FR [3] 0 (i + 1) O (⟨by omega, Cg (p := fun _ y => Gu (KV ds) n y = true) hC hx (by simpa using hn1)⟩)
  have hk1 := br hC Au
  refine DF [0] O ?_
  refine GG (α := Nat) [1] [0, 9] [] (fun i => [(11, .p (I (i : Int)))]) (fun _ => []) (fun i => (Ay t).2.length - i) (fun i => i ≤ (Ay t).2.length ∧ (∀ j, j < i → ∀ x, (Ay t).2[j]? = some x → Gu (KV ds) n x = true)) 0 O O O (⟨by omega, fun j h => by omega⟩) ?_
  rintro i hC1
  try simp only at hC1
  obtain ⟨hi, hC⟩ := hC1
  refine CA [2] O O (A8 _) ?_
  refine BC [1] rfl ?_ ?_ <;> intro c3
  ·refine D7 [3] ((Ay t).2) i O O O (IH _) (fun x hx => ?_)
   refine CQ [1] O (ih ds x h1 ((DB h2).2 _ (List.mem_of_getElem? hx)) (by have := D1 (List.mem_of_getElem? hx); omega) Au) ?_
   refine BC [1] rfl ?_ ?_ <;> intro c4
   ·have hn2 := c4
    refine A9 [1] O (Bg [] [] O O ⟨by refine pB ?_; rw [bz (x := x) (List.mem_append_right _ (List.mem_of_getElem? hx)) (by simpa using hn2)]; try rfl, rfl⟩)
   have hn2 := c4
   exact FR [3] 0 (i + 1) O (⟨by omega, Cg (p := fun _ y => Gu (KV ds) n y = true) hC hx (by simpa using hn2)⟩)
  have ha1 := br hC Au
  refine DF [0] O ?_
  refine A9 [1] O (Bg [] [] O O ⟨by refine pB ?_; rw [eE hst0 (hks ▸ hk1) ha1]; try rfl, rfl⟩)
theorem WO : ∀ (n : Nat) (ds : List B8) (t : Tm), (G2 ds) → (okB t = true) → (size t ≤ n) → (n ≤ 10000) → En Tryz.prog 15 [.p (.lst (List.map B1 ds)), .agg ((BD t).map .p)] (.p (.bool (Gu (Mc ds) n t))) := by
 intro n
 induction n with
 | zero => intro ds t h1 h2 h3; have := size_pos t; omega
 | succ n ih =>
  intro ds t h1 h2 h3 h4
  have hsp := Q8 h2
  have hsl := hsp.len
  have hss := hsp.sz
  refine DI Tryz.func15 ?_
  refine CG [0] O O fun b3 => ?_
  refine CQ [3, 0] O (qF ds FN t h1 (ei h1 h2 Au).ns (bD h1 h2 Au)) ?_
  refine Bp [4] O (Az Ba O) fun b5 => ?_
  refine CI [3, 0, 1] 2 [0, 3] 23 (((Ox (Di ds CE FN 20000 t)).2.1) || (((Ox (Di ds CE FN 20000 t)).2.2 : Int) != (0 : Int))) O O ?_ ?_
  ·refine Bc [2] 20 rfl rfl ?_ ?_ <;> intro g
   ·exact CT [3] O
   exact CT [3] O
  refine BC [0] rfl ?_ ?_ <;> intro c
  ·have hst1 := c
   refine A9 [1] O (Bg [] [] O O ⟨by refine pB ?_; rw [mY (by simpa [Mc] using hst1)]; try rfl, rfl⟩)
  have hst0 : Mc ds t = false := by simpa [Mc] using c
  refine CQ [1, 1] O (O5 t hsp.nd Ak) ?_
  refine Bp [3] O (Az Ba O) fun b8 => ?_
  generalize hz : (Ay t).1 = z
  obtain ⟨zk, zi, zn, zl, zs⟩ := z
  have hzo : okB (.mk zk zi zn zl zs) = true := hz ▸ hsp.head
  have hzq := (Bu.1 hzo).nd
  simp only [Nd, Db] at hzq
  have hzs := hzq.2.2.2.1
  have hks : (Ay t).1.kids = zs := by rw [hz]; rfl
  have hfl : [zs, (Ay t).2].flatten.length < 9007199254740992 := by simp only [List.flatten_cons, List.flatten_nil, List.length_append, List.length_nil]; omega
  refine A2 [5, 0, 1, 0] O (BJ l9 xe O O O O O) ?_
  refine DS [0] O ?_
  refine Mj rfl rfl rfl (.inl ⟨rfl, rfl, rfl⟩) (oF [zs, (Ay t).2] Av (fun l hl => by have h9 := EL t; have h8 := QO zs; have h7 := QO (Ay t).2; rw [hz] at h9; simp only [size] at h9; simp only [List.mem_cons, List.not_mem_nil, or_false] at hl; rcases hl with rfl | rfl <;> omega)) (.inl rfl) fun o cp => ?_
  refine BH (CL (i := 0) [33] O (DA ⟨O, Aw⟩)) ?_
  refine BW (CA [0] O O (A8 _) ?_)
  refine GG (α := Nat) [1] [0, 33, 34] [] (fun i => [(35, .p (I (i : Int)))]) (fun _ => []) (fun i => [zs, (Ay t).2].flatten.length - i) (fun i => i ≤ [zs, (Ay t).2].flatten.length ∧ (∀ j, j < i → ∀ x, [zs, (Ay t).2].flatten[j]? = some x → Gu (Mc ds) n x = true)) 0 O O O (⟨by omega, fun j h => by omega⟩) ?_
  rintro i hC
  try simp only at hC
  obtain ⟨hi, hC⟩ := hC
  refine BC [1] rfl ?_ ?_ <;> intro c1
  ·obtain ⟨x, hx⟩ := A1 (l := [zs, (Ay t).2].flatten) (i := i) Au
   have hxm : x ∈ (Ay t).1.kids ++ (Ay t).2 := by rw [hks]; simpa using List.mem_of_getElem? hx
   obtain ⟨hxo, hxz⟩ := oL h2 hxm
   refine A2 [0] O (A0 BS O O Au (BO hx) (A7 _)) ?_
   refine Bp [1] O (Az Ba O) fun b11 => ?_
   refine CQ [3, 0, 1, 0] O (ih ds x h1 hxo Au Au) ?_
   refine BC [1] rfl ?_ ?_ <;> intro c2
   ·have hn1 := c2
    refine A9 [1] O (Bg [] [] O O ⟨by refine pB ?_; rw [bz hxm (by simpa using hn1)]; try rfl, rfl⟩)
   have hn1 := c2
   exact FR [2] 1 (i + 1) O (⟨by omega, Cg (p := fun _ y => Gu (Mc ds) n y = true) hC hx (by simpa using hn1)⟩)
  have hk1 := br hC Au
  refine DF [0] O ?_
  refine A9 [1] O (Bg [] [] O O ⟨by refine pB ?_; rw [eE hst0 (fun x hx => hk1 x (by rw [hks] at hx; simp [hx])) (fun x hx => hk1 x (by simp [hx]))], rfl⟩)
end Go.Proofs.YtldfmjoncbjldaaGreat
namespace Go.Eu
open Go.Abs
mutual
theorem sA:∀(t:Tm),Nd t→Wd t
 | .mk k i n ls ks,h=>by
  simp only[Nd,Db] at h;refine⟨by simp only[wide];omega,by simp only[wide];omega,fun l hl=>?_,by simp only[wide];omega,m9 ks h.2.2.2.2.1,h.2.2.2.2.2⟩;have:=h.2.2.1 l hl;exact⟨by have:=this.vars;simp only[Db] at this;simp only[wide];omega,this.c,this.v⟩
theorem m9:∀(ts:List Tm),M6 ts→nc ts
 | [],_=>trivial
 | t::ts,h=>⟨sA t h.1,m9 ts h.2⟩
end
theorem ZP:G2 []:=⟨⟨⟨by decide,fun d hd=>(by cases hd)⟩,fun d hd=>(by cases hd)⟩,fun d hd=>(by cases hd),fun d hd=>(by cases hd),fun d hd=>(by cases hd)⟩
theorem lp:∃k,FN=k+9:=⟨999999999991,by rw[Ye]⟩
theorem lb:Gu (Mc []) 9 vo=false:=by
 obtain⟨k,hk⟩:=lp;unfold Mc;rw[hk];rfl
theorem kY:Gu (Mc []) 9 vW=true:=by
 obtain⟨k,hk⟩:=lp;unfold Mc;rw[hk];rfl
def xo:Tm:= .mk 5 0 ⟨#[]⟩ [] [cA,GJ (Cs 4) (Cs 0)]
def xH:Tm:= .mk 5 0 ⟨#[]⟩ [] [cA,GJ (Cs 0) (Cs 0)]
def x4:Tm:= .mk 8 0 ⟨#[]⟩ [] [cA,.mk 9 0 ⟨#[]⟩ [] [Cs 1],.mk 10 0 ⟨#[]⟩ [] [Cs 1]]
theorem X0 (i:Int):KZ (Cs i)=Cs i:=Xi rfl
theorem bj:KZ cA=cA:=Xi rfl
theorem eJ (a b:Tm):KZ (GJ a b)=GJ (KZ a) (KZ b):=by
 unfold GJ;rw[IL,Ni Av Av];rfl
theorem rZ (k:Int) (h:k≠5) (h8:k≠8) (a:Tm):KZ (.mk k 0 ⟨#[]⟩ [] [a])= .mk k 0 ⟨#[]⟩ [] [KZ a]:=by
 rw[IL,Ni Av Av];rfl
theorem ik:KZ xo=Cs 3:=by
 unfold xo;rw[IL];simp only[List.map_cons,List.map_nil,bj,eJ,X0];rw[SC rfl rfl (x:=Cs 4) rfl rfl];rfl
theorem gC:KZ xH= .mk 5 0 ⟨#[]⟩ [] [GN,GJ (Cs 0) (Cs 0)]:=by
 unfold xH;rw[IL];simp only[List.map_cons,List.map_nil,bj,eJ,X0];rw[Ln rfl (fun _ x hx=>by injection hx with hx;rw[←hx];rfl)]
theorem gS:KZ x4=Cs 1:=by
 unfold x4;rw[IL];simp only[List.map_cons,List.map_nil,bj,rZ 9 As As,rZ 10 As As,X0];rw[SE rfl (by simp[Pl,Tm.kind,Tm.kids,FP]) (x:=Cs 1) rfl]
theorem Ua {t:Tm}(h:Uk t=true):Nd t:=(Nx t h).1
mutual
def w5:Tm→Bool
 | .mk k i _ _ ks=>(decide (k≠0)||(decide (0≤i)&&decide (i≤65535)))&&oE ks
def oE:List Tm→Bool
 | []=>true
 | t::ts=>w5 t&&oE ts
end
mutual
theorem kF:∀t,w5 t=true→Vb t
 | .mk k i n l ks,h=>by
  simp only[w5,Bool.and_eq_true,Bool.or_eq_true,decide_eq_true_eq] at h;exact⟨fun e=>by rcases h.1 with q | q;exact absurd e q;exact q,fW ks h.2⟩
theorem fW:∀ts,oE ts=true→qx ts
 | [],_=>trivial
 | t::ts,h=>by
  simp only[oE,Bool.and_eq_true] at h;exact⟨kF t h.1,fW ts h.2⟩
end
end Go.Eu
namespace Go.Proofs.YtldfmjoncbjldaaGreat
open Go.Abs Go.Eu
theorem E9 : ∀ (k : Int) (l : List Tm), En Tryz.prog 24 [.p (I k), .p (.lst (A6 l))] (.agg ((BD (.mk k 0 ⟨#[]⟩ [] l)).map .p)) := by
 intro k l
 refine DI Tryz.func24 ?_
 refine Bp [0] O (Az Ba O) fun b4 => ?_
 refine CK [4, 0, 0] O ?_
 refine A5 (BE (i := 0) O) ?_
 refine BP (A9 [0] O (Bg [0] [] O O ⟨O, O⟩))
theorem Gc : ∀ (i : Int), En Tryz.prog 25 [.p (I i)] (.agg ((BD (.mk 0 i ⟨#[]⟩ [] [])).map .p)) := by
 intro i
 refine DI Tryz.func25 ?_
 refine Bp [0] O (Az Ba O) fun b2 => ?_
 refine CK [3, 0, 0] O ?_
 refine A5 (BE (i := 0) O) ?_
 refine BP (A9 [0] O (Bg [0] [] O O ⟨O, O⟩))
theorem Nr:∀(n:Nat) (ds:List B8) (t:Tm) (b:Bool),(G2 ds)→(okB t=true)→(size t≤n)→(n≤10000)→(Gu (Mc ds) n t=b)→En Tryz.prog 15 [.p (.lst (List.map B1 ds)),.agg ((BD t).map .p)] (.p (.bool b)):=fun n ds t b h1 h2 h3 h4 h5=>h5▸WO n ds t h1 h2 h3 h4
theorem vF (t:Tm) (h:t=vo):En Tryz.prog 12 [.p (.lst []),TV t] (.tup [TV (GJ (Cs 5) (Cs 3)),.p (I 0)]):=by
 obtain⟨s,e⟩:=lQ;rw[h];exact dw 20 _ _ _ e
theorem vT (t:Tm) (h:t=yK):En Tryz.prog 12 [.p (.lst []),TV t] (.tup [TV (.mk 9 0 ⟨#[]⟩ [] [Cs 2]),.p (I 0)]):=by
 obtain⟨s,e⟩:=mI;rw[h];exact dw 20 _ _ _ e
theorem vU (t:Tm) (h:t=vo):En Tryz.prog 15 [.p (.lst []),TV t] (.p (.bool false)):=by
 subst h;exact Nr 9 [] vo false ZP O As As lb
theorem wV (t:Tm) (h:t=vW):En Tryz.prog 15 [.p (.lst []),TV t] (.p (.bool true)):=by
 subst h;exact Nr 9 [] vW true ZP O As As kY
theorem ll (t r:Tm) (h1:Uk t=true) (h2:w5 t=true) (h3:size t≤1000000) (h4:KZ t=r):En Tryz.prog 18 [TV t] (TV r):=by
 obtain⟨a,b,c,_⟩:=Nx t h1;have:=lL _ t (Nat.le_refl _) a b (kF t h2) h3
 rwa [h4] at this
theorem wI (t:Tm) (h:t=xo):En Tryz.prog 18 [TV t] (TV (Cs 3)):=by subst h;exact ll _ _ rfl rfl As ik
theorem vj (t:Tm) (h:t=xH):En Tryz.prog 18 [TV t] (TV (.mk 5 0 ⟨#[]⟩ [] [GN,GJ (Cs 0) (Cs 0)])):=by subst h;exact ll _ _ rfl rfl As gC
theorem vP (t:Tm) (h:t=x4):En Tryz.prog 18 [TV t] (TV (Cs 1)):=by subst h;exact ll _ _ rfl rfl As gS
theorem Pm (a b:Tm) (h1:Nd a) (h2:a=b):En Tryz.prog 14 [TV a,TV b] (.p (.bool true)):=by
 have:=XS (size a) a b (Nat.le_refl _) h1
 rwa [FP h2] at this
set_option maxHeartbeats 4000000 in
theorem Zm:En Tryz.prog 11 [] (.p (.bool true)):=by
 refine DI Tryz.func11 (DS [0] O (rK (M:=⟨117,mk [],[],[]⟩) (G5 Aw (List.Sublist.refl _)) (BW (DS [1] O ?_))));refine rK (M:=⟨117,mk [],[],[]⟩) (G5 Aw (List.Sublist.refl _)) (BW (Bp [1] O (Az Ba O) fun b1=>?_));refine CK [1,0,0] O (NI (M:=⟨117,mk [(1,.ptr b1 0)],[.box b1 [.p (I 3),.p (I 0),.p (.str ⟨#[65]⟩),.p (.nils),.p (.nils)]],[]⟩) (G5 ⟨O,Aw⟩ (List.Sublist.refl _)) (Rz [.val (.agg [.p (I 3),.p (I 0),.p (.str ⟨#[65]⟩),.p (.nils),.p (.nils)]),.val (.agg [.p (I 0),.p (I 0),.p (.str ⟨#[]⟩),.p (.lst (List.map B4 [])),.p (.lst (A6 []))]),.val (.p (.lst (A6 ([(.mk 3 0 ⟨#[65]⟩ [] []:Tm),(.mk 0 0 ⟨#[]⟩ [] []:Tm)])))),.val (.agg ((BD (.mk 5 0 ⟨#[]⟩ [] ([(.mk 3 0 ⟨#[65]⟩ [] []:Tm),(.mk 0 0 ⟨#[]⟩ [] []:Tm)]))).map .p)),.new [.p (I 0),.p (I 0),.p (.str ⟨#[]⟩),.p (.nils),.p (.nils)]] Ot O Ap Ap (C3 O (fun Bs=>Cy (i:=Bs.length+0) CN O (EB O) O) (C3 O (fun Bs=>BF O O (Gc 0) O) (C3 O (fun Bs=>BJ BS Ba O O O O O) ?_)))));refine C3 O (fun Bs=>BF O O (E9 5 ([(.mk 3 0 ⟨#[65]⟩ [] []:Tm),(.mk 0 0 ⟨#[]⟩ [] []:Tm)])) O) (M4 O (fun Bs=>Az Ba O) fun b2=>KL ?_)
 change AL _ _ _ 5 ⟨117,_,[.box b2 [.p (I 0),.p (I 0),.p (.str ⟨#[]⟩),.p (.nils),.p (.nils)],.box b1 [.p (I 3),.p (I 0),.p (.str ⟨#[65]⟩),.p (.nils),.p (.nils)]],[]⟩ _
 refine BW (CK [1,0,1] O ?_);refine NI (M:=⟨117,mk [(1,.ptr b1 0),(2,.ptr b2 0)],[.box b2 ((BD (.mk 5 0 ⟨#[]⟩ [] ([(.mk 3 0 ⟨#[65]⟩ [] []:Tm),(.mk 0 0 ⟨#[]⟩ [] []:Tm)]))).map .p),.box b1 [.p (I 3),.p (I 0),.p (.str ⟨#[65]⟩),.p (.nils),.p (.nils)]],[]⟩) (G5 ⟨O,O,Aw⟩ (List.Sublist.refl _)) (BP (E2 [0] [11] O ?_));refine A3 O (fun _=>BF O O (Gc 5) O) Aw (Bb [1,0] O (A3 O (fun _=>BF O O (Gc 3) O) Aw (A3 O (fun _=>By (rows:=A6 ([(.mk 5 0 ⟨#[]⟩ [] ([(.mk 3 0 ⟨#[65]⟩ [] []:Tm),(.mk 0 0 ⟨#[]⟩ [] []:Tm)])),(.mk 0 3 ⟨#[]⟩ [] [])])) BS Ba O O O O (CW (Bd _)) (Gl _)) Aw (A3 O (fun _=>BF O O (E9 4 ([(.mk 5 0 ⟨#[]⟩ [] ([(.mk 3 0 ⟨#[65]⟩ [] []:Tm),(.mk 0 0 ⟨#[]⟩ [] []:Tm)])),(.mk 0 3 ⟨#[]⟩ [] [])])) O) Aw (A3 O (fun _=>By (rows:=A6 ([(.mk 0 5 ⟨#[]⟩ [] []),(.mk 4 0 ⟨#[]⟩ [] ([(.mk 5 0 ⟨#[]⟩ [] ([(.mk 3 0 ⟨#[65]⟩ [] []:Tm),(.mk 0 0 ⟨#[]⟩ [] []:Tm)])),(.mk 0 3 ⟨#[]⟩ [] [])]))])) BS Ba O O O O (CW (Bd _)) (Gl _)) Aw ?_)))));refine A3 O (fun _=>BF O O (E9 4 ([(.mk 0 5 ⟨#[]⟩ [] []),(.mk 4 0 ⟨#[]⟩ [] ([(.mk 5 0 ⟨#[]⟩ [] ([(.mk 3 0 ⟨#[65]⟩ [] []:Tm),(.mk 0 0 ⟨#[]⟩ [] []:Tm)])),(.mk 0 3 ⟨#[]⟩ [] [])]))])) O) Aw (A3 O (fun _=>IW O O (vF (.mk 4 0 ⟨#[]⟩ [] ([(.mk 0 5 ⟨#[]⟩ [] []),(.mk 4 0 ⟨#[]⟩ [] ([(.mk 5 0 ⟨#[]⟩ [] ([(.mk 3 0 ⟨#[65]⟩ [] []:Tm),(.mk 0 0 ⟨#[]⟩ [] []:Tm)])),(.mk 0 3 ⟨#[]⟩ [] [])]))])) O) (aw (FW O) (aw (we O) (HT)))) Aw (Bb [3] O (Ge [] O O (Az Ba O) Ap fun b3=>⟨AB,Aw,?_⟩)));refine Dj [2,0,1] O (CK [0] O ?_);refine NI (M:=⟨117,mk [(1,.ptr b1 0),(2,.ptr b2 0),(3,.ptr b3 0),(4,.p (I 0))],[.box b3 ((BD (GJ (Cs 5) (Cs 3))).map .p),.box b2 ((BD (.mk 5 0 ⟨#[]⟩ [] ([(.mk 3 0 ⟨#[65]⟩ [] []:Tm),(.mk 0 0 ⟨#[]⟩ [] []:Tm)]))).map .p),.box b1 [.p (I 3),.p (I 0),.p (.str ⟨#[65]⟩),.p (.nils),.p (.nils)]],[]⟩) (G5 ⟨O,O,O,O,Aw⟩ (List.Sublist.refl _)) (BP (E2 [0] [10] O ?_))
 refine Bb [1,1] O (A3 O (fun _=>BF O O (Gc 2) O) Aw (A3 O (fun _=>By (rows:=A6 ([(.mk 5 0 ⟨#[]⟩ [] ([(.mk 3 0 ⟨#[65]⟩ [] []:Tm),(.mk 0 0 ⟨#[]⟩ [] []:Tm)])),(.mk 0 2 ⟨#[]⟩ [] [])])) BS Ba O O O O (CW (Bd _)) (Gl _)) Aw (A3 O (fun _=>BF O O (E9 4 ([(.mk 5 0 ⟨#[]⟩ [] ([(.mk 3 0 ⟨#[65]⟩ [] []:Tm),(.mk 0 0 ⟨#[]⟩ [] []:Tm)])),(.mk 0 2 ⟨#[]⟩ [] [])])) O) Aw (A3 O (fun _=>By (rows:=A6 ([(.mk 4 0 ⟨#[]⟩ [] ([(.mk 5 0 ⟨#[]⟩ [] ([(.mk 3 0 ⟨#[65]⟩ [] []:Tm),(.mk 0 0 ⟨#[]⟩ [] []:Tm)])),(.mk 0 2 ⟨#[]⟩ [] [])]))])) BS Ba O O O O (CW (Bd _)) (Gl _)) Aw (A3 O (fun _=>BF O O (E9 9 ([(.mk 4 0 ⟨#[]⟩ [] ([(.mk 5 0 ⟨#[]⟩ [] ([(.mk 3 0 ⟨#[65]⟩ [] []:Tm),(.mk 0 0 ⟨#[]⟩ [] []:Tm)])),(.mk 0 2 ⟨#[]⟩ [] [])]))])) O) Aw ?_)))));refine A3 O (fun _=>IW O O (vT (.mk 9 0 ⟨#[]⟩ [] ([(.mk 4 0 ⟨#[]⟩ [] ([(.mk 5 0 ⟨#[]⟩ [] ([(.mk 3 0 ⟨#[65]⟩ [] []:Tm),(.mk 0 0 ⟨#[]⟩ [] []:Tm)])),(.mk 0 2 ⟨#[]⟩ [] [])]))])) O) (aw (FW O) (aw (we O) (HT)))) Aw (Bb [3] O (Ge [] O O (Az Ba O) Ap fun b5=>⟨AB,Aw,?_⟩));refine Dj [2,0,1] O (CK [0] O ?_);refine NI (M:=⟨117,mk [(1,.ptr b1 0),(2,.ptr b2 0),(3,.ptr b3 0),(4,.p (I 0)),(5,.ptr b5 0),(6,.p (I 0))],[.box b5 ((BD (.mk 9 0 ⟨#[]⟩ [] [Cs 2])).map .p),.box b3 ((BD (GJ (Cs 5) (Cs 3))).map .p),.box b2 ((BD (.mk 5 0 ⟨#[]⟩ [] ([(.mk 3 0 ⟨#[65]⟩ [] []:Tm),(.mk 0 0 ⟨#[]⟩ [] []:Tm)]))).map .p),.box b1 [.p (I 3),.p (I 0),.p (.str ⟨#[65]⟩),.p (.nils),.p (.nils)]],[]⟩) (G5 ⟨O,O,O,O,O,O,Aw⟩ (List.Sublist.refl _)) ?_;refine Rz [.val (.agg [.p (I 3),.p (I 0),.p (.str ⟨#[65]⟩),.p (.nils),.p (.nils)]),.val (.agg ((BD (.mk 0 4 ⟨#[]⟩ [] [])).map .p)),.val (.agg ((BD (.mk 0 0 ⟨#[]⟩ [] [])).map .p)),.val (.p (.lst (A6 ([(.mk 0 4 ⟨#[]⟩ [] []),(.mk 0 0 ⟨#[]⟩ [] [])])))),.val (.agg [.p (I 4),.p (I 0),.p (.str ⟨#[]⟩),.p (.lst (List.map B4 [])),.p (.lst (A6 ([(.mk 0 4 ⟨#[]⟩ [] []),(.mk 0 0 ⟨#[]⟩ [] [])])))]),.val (.p (.lst (A6 ([(.mk 3 0 ⟨#[65]⟩ [] []:Tm),(.mk 4 0 ⟨#[]⟩ [] ([(.mk 0 4 ⟨#[]⟩ [] []),(.mk 0 0 ⟨#[]⟩ [] [])]):Tm)])))),.val (.agg ((BD (.mk 5 0 ⟨#[]⟩ [] ([(.mk 3 0 ⟨#[65]⟩ [] []:Tm),(.mk 4 0 ⟨#[]⟩ [] ([(.mk 0 4 ⟨#[]⟩ [] []),(.mk 0 0 ⟨#[]⟩ [] [])]):Tm)]))).map .p)),.val (.agg ((BD (Cs 3)).map .p)),.new [.p (I 0),.p (I 0),.p (.str ⟨#[]⟩),.p (.nils),.p (.nils)]] Ot O Ap Ap (C3 O (fun Bs=>Cy (i:=Bs.length+3) CN O (EB O) O) ?_)
 refine C3 O (fun Bs=>BF O O (Gc 4) O) (C3 O (fun Bs=>BF O O (Gc 0) O) (C3 O (fun Bs=>By (rows:=A6 ([(.mk 0 4 ⟨#[]⟩ [] []),(.mk 0 0 ⟨#[]⟩ [] [])])) BS Ba O O O O (CW (Bd _)) (Gl _)) (C3 O (fun Bs=>BF O O (E9 4 ([(.mk 0 4 ⟨#[]⟩ [] []),(.mk 0 0 ⟨#[]⟩ [] [])])) O) (C3 O (fun Bs=>BJ BS Ba O O O O O) (C3 O (fun Bs=>BF O O (E9 5 ([(.mk 3 0 ⟨#[65]⟩ [] []:Tm),(.mk 4 0 ⟨#[]⟩ [] ([(.mk 0 4 ⟨#[]⟩ [] []),(.mk 0 0 ⟨#[]⟩ [] [])]):Tm)])) O) (C3 O (fun Bs=>BF O O (wI (.mk 5 0 ⟨#[]⟩ [] ([(.mk 3 0 ⟨#[65]⟩ [] []:Tm),(.mk 4 0 ⟨#[]⟩ [] ([(.mk 0 4 ⟨#[]⟩ [] []),(.mk 0 0 ⟨#[]⟩ [] [])]):Tm)])) O) O) (M4 O (fun Bs=>Az Ba O) fun b7=>KL ?_)))))))
 change AL _ _ _ 9 ⟨117,_,[.box b7 [.p (I 0),.p (I 0),.p (.str ⟨#[]⟩),.p (.nils),.p (.nils)],.box b5 ((BD (.mk 9 0 ⟨#[]⟩ [] [Cs 2])).map .p),.box b3 ((BD (GJ (Cs 5) (Cs 3))).map .p),.box b2 ((BD (.mk 5 0 ⟨#[]⟩ [] ([(.mk 3 0 ⟨#[65]⟩ [] []:Tm),(.mk 0 0 ⟨#[]⟩ [] []:Tm)]))).map .p),.box b1 [.p (I 3),.p (I 0),.p (.str ⟨#[65]⟩),.p (.nils),.p (.nils)]],[]⟩ _
 refine BW (CK [1,0,1] O ?_);refine NI (M:=⟨117,mk [(1,.ptr b1 0),(2,.ptr b2 0),(3,.ptr b3 0),(4,.p (I 0)),(5,.ptr b5 0),(6,.p (I 0)),(7,.ptr b7 0)],[.box b7 ((BD (Cs 3)).map .p),.box b5 ((BD (.mk 9 0 ⟨#[]⟩ [] [Cs 2])).map .p),.box b3 ((BD (GJ (Cs 5) (Cs 3))).map .p),.box b2 ((BD (.mk 5 0 ⟨#[]⟩ [] ([(.mk 3 0 ⟨#[65]⟩ [] []:Tm),(.mk 0 0 ⟨#[]⟩ [] []:Tm)]))).map .p),.box b1 [.p (I 3),.p (I 0),.p (.str ⟨#[65]⟩),.p (.nils),.p (.nils)]],[]⟩) (G5 ⟨O,O,O,O,O,O,O,Aw⟩ (List.Sublist.refl _)) ?_;refine Rz [.val (.agg [.p (I 3),.p (I 0),.p (.str ⟨#[65]⟩),.p (.nils),.p (.nils)]),.val (.agg ((BD (.mk 0 0 ⟨#[]⟩ [] [])).map .p)),.val (.agg ((BD (.mk 0 0 ⟨#[]⟩ [] [])).map .p)),.val (.p (.lst (A6 ([(.mk 0 0 ⟨#[]⟩ [] []),(.mk 0 0 ⟨#[]⟩ [] [])])))),.val (.agg [.p (I 4),.p (I 0),.p (.str ⟨#[]⟩),.p (.lst (List.map B4 [])),.p (.lst (A6 ([(.mk 0 0 ⟨#[]⟩ [] []),(.mk 0 0 ⟨#[]⟩ [] [])])))]),.val (.p (.lst (A6 ([(.mk 3 0 ⟨#[65]⟩ [] []:Tm),(.mk 4 0 ⟨#[]⟩ [] ([(.mk 0 0 ⟨#[]⟩ [] []),(.mk 0 0 ⟨#[]⟩ [] [])]):Tm)])))),.val (.agg ((BD (.mk 5 0 ⟨#[]⟩ [] ([(.mk 3 0 ⟨#[65]⟩ [] []:Tm),(.mk 4 0 ⟨#[]⟩ [] ([(.mk 0 0 ⟨#[]⟩ [] []),(.mk 0 0 ⟨#[]⟩ [] [])]):Tm)]))).map .p)),.val (.agg ((BD (.mk 5 0 ⟨#[]⟩ [] [GN,GJ (Cs 0) (Cs 0)])).map .p)),.new [.p (I 0),.p (I 0),.p (.str ⟨#[]⟩),.p (.nils),.p (.nils)]] Ot O Ap Ap ?_;refine C3 O (fun Bs=>Cy (i:=Bs.length+4) CN O (EB O) O) (C3 O (fun Bs=>BF O O (Gc 0) O) (C3 O (fun Bs=>BF O O (Gc 0) O) (C3 O (fun Bs=>By (rows:=A6 ([(.mk 0 0 ⟨#[]⟩ [] []),(.mk 0 0 ⟨#[]⟩ [] [])])) BS Ba O O O O (CW (Bd _)) (Gl _)) (C3 O (fun Bs=>BF O O (E9 4 ([(.mk 0 0 ⟨#[]⟩ [] []),(.mk 0 0 ⟨#[]⟩ [] [])])) O) (C3 O (fun Bs=>BJ BS Ba O O O O O) (C3 O (fun Bs=>BF O O (E9 5 ([(.mk 3 0 ⟨#[65]⟩ [] []:Tm),(.mk 4 0 ⟨#[]⟩ [] ([(.mk 0 0 ⟨#[]⟩ [] []),(.mk 0 0 ⟨#[]⟩ [] [])]):Tm)])) O) (C3 O (fun Bs=>BF O O (vj (.mk 5 0 ⟨#[]⟩ [] ([(.mk 3 0 ⟨#[65]⟩ [] []:Tm),(.mk 4 0 ⟨#[]⟩ [] ([(.mk 0 0 ⟨#[]⟩ [] []),(.mk 0 0 ⟨#[]⟩ [] [])]):Tm)])) O) O) (M4 O (fun Bs=>Az Ba O) fun b8=>KL ?_))))))))
 change AL _ _ _ 9 ⟨117,_,[.box b8 [.p (I 0),.p (I 0),.p (.str ⟨#[]⟩),.p (.nils),.p (.nils)],.box b7 ((BD (Cs 3)).map .p),.box b5 ((BD (.mk 9 0 ⟨#[]⟩ [] [Cs 2])).map .p),.box b3 ((BD (GJ (Cs 5) (Cs 3))).map .p),.box b2 ((BD (.mk 5 0 ⟨#[]⟩ [] ([(.mk 3 0 ⟨#[65]⟩ [] []:Tm),(.mk 0 0 ⟨#[]⟩ [] []:Tm)]))).map .p),.box b1 [.p (I 3),.p (I 0),.p (.str ⟨#[65]⟩),.p (.nils),.p (.nils)]],[]⟩ _
 refine BW (CK [1,0,1] O ?_);refine NI (M:=⟨117,mk [(1,.ptr b1 0),(2,.ptr b2 0),(3,.ptr b3 0),(4,.p (I 0)),(5,.ptr b5 0),(6,.p (I 0)),(7,.ptr b7 0),(8,.ptr b8 0)],[.box b8 ((BD (.mk 5 0 ⟨#[]⟩ [] [GN,GJ (Cs 0) (Cs 0)])).map .p),.box b7 ((BD (Cs 3)).map .p),.box b5 ((BD (.mk 9 0 ⟨#[]⟩ [] [Cs 2])).map .p),.box b3 ((BD (GJ (Cs 5) (Cs 3))).map .p),.box b2 ((BD (.mk 5 0 ⟨#[]⟩ [] ([(.mk 3 0 ⟨#[65]⟩ [] []:Tm),(.mk 0 0 ⟨#[]⟩ [] []:Tm)]))).map .p),.box b1 [.p (I 3),.p (I 0),.p (.str ⟨#[65]⟩),.p (.nils),.p (.nils)]],[]⟩) (G5 ⟨O,O,O,O,O,O,O,O,Aw⟩ (List.Sublist.refl _)) ?_;refine Rz [.val (.agg [.p (I 3),.p (I 0),.p (.str ⟨#[65]⟩),.p (.nils),.p (.nils)]),.val (.agg ((BD (.mk 0 1 ⟨#[]⟩ [] [])).map .p)),.val (.p (.lst (A6 ([(.mk 0 1 ⟨#[]⟩ [] [])])))),.val (.agg [.p (I 9),.p (I 0),.p (.str ⟨#[]⟩),.p (.lst (List.map B4 [])),.p (.lst (A6 ([(.mk 0 1 ⟨#[]⟩ [] [])])))]),.val (.agg ((BD (.mk 0 1 ⟨#[]⟩ [] [])).map .p)),.val (.p (.lst (A6 ([(.mk 0 1 ⟨#[]⟩ [] [])])))),.val (.agg [.p (I 10),.p (I 0),.p (.str ⟨#[]⟩),.p (.lst (List.map B4 [])),.p (.lst (A6 ([(.mk 0 1 ⟨#[]⟩ [] [])])))]),.val (.p (.lst (A6 ([(.mk 3 0 ⟨#[65]⟩ [] []:Tm),(.mk 9 0 ⟨#[]⟩ [] ([(.mk 0 1 ⟨#[]⟩ [] [])]):Tm),(.mk 10 0 ⟨#[]⟩ [] ([(.mk 0 1 ⟨#[]⟩ [] [])]):Tm)])))),.val (.agg ((BD (.mk 8 0 ⟨#[]⟩ [] ([(.mk 3 0 ⟨#[65]⟩ [] []:Tm),(.mk 9 0 ⟨#[]⟩ [] ([(.mk 0 1 ⟨#[]⟩ [] [])]):Tm),(.mk 10 0 ⟨#[]⟩ [] ([(.mk 0 1 ⟨#[]⟩ [] [])]):Tm)]))).map .p)),.val (.agg ((BD (Cs 1)).map .p)),.new [.p (I 0),.p (I 0),.p (.str ⟨#[]⟩),.p (.nils),.p (.nils)]] Ot O Ap Ap ?_;refine C3 O (fun Bs=>Cy (i:=Bs.length+5) CN O (EB O) O) (C3 O (fun Bs=>BF O O (Gc 1) O) (C3 O (fun Bs=>By (rows:=A6 ([(.mk 0 1 ⟨#[]⟩ [] [])])) BS Ba O O O O (CW (Bd _)) (Gl _)) (C3 O (fun Bs=>BF O O (E9 9 ([(.mk 0 1 ⟨#[]⟩ [] [])])) O) (C3 O (fun Bs=>BF O O (Gc 1) O) (C3 O (fun Bs=>By (rows:=A6 ([(.mk 0 1 ⟨#[]⟩ [] [])])) BS Ba O O O O (CW (Bd _)) (Gl _)) (C3 O (fun Bs=>BF O O (E9 10 ([(.mk 0 1 ⟨#[]⟩ [] [])])) O) (C3 O (fun Bs=>BJ BS Ba O O O O O) (C3 O (fun Bs=>BF O O (E9 8 ([(.mk 3 0 ⟨#[65]⟩ [] []:Tm),(.mk 9 0 ⟨#[]⟩ [] ([(.mk 0 1 ⟨#[]⟩ [] [])]):Tm),(.mk 10 0 ⟨#[]⟩ [] ([(.mk 0 1 ⟨#[]⟩ [] [])]):Tm)])) O) ?_))))))))
 refine C3 O (fun Bs=>BF O O (vP (.mk 8 0 ⟨#[]⟩ [] ([(.mk 3 0 ⟨#[65]⟩ [] []:Tm),(.mk 9 0 ⟨#[]⟩ [] ([(.mk 0 1 ⟨#[]⟩ [] [])]):Tm),(.mk 10 0 ⟨#[]⟩ [] ([(.mk 0 1 ⟨#[]⟩ [] [])]):Tm)])) O) O) (M4 O (fun Bs=>Az Ba O) fun b9=>KL ?_)
 change AL _ _ _ 11 ⟨117,_,[.box b9 [.p (I 0),.p (I 0),.p (.str ⟨#[]⟩),.p (.nils),.p (.nils)],.box b8 ((BD (.mk 5 0 ⟨#[]⟩ [] [GN,GJ (Cs 0) (Cs 0)])).map .p),.box b7 ((BD (Cs 3)).map .p),.box b5 ((BD (.mk 9 0 ⟨#[]⟩ [] [Cs 2])).map .p),.box b3 ((BD (GJ (Cs 5) (Cs 3))).map .p),.box b2 ((BD (.mk 5 0 ⟨#[]⟩ [] ([(.mk 3 0 ⟨#[65]⟩ [] []:Tm),(.mk 0 0 ⟨#[]⟩ [] []:Tm)]))).map .p),.box b1 [.p (I 3),.p (I 0),.p (.str ⟨#[65]⟩),.p (.nils),.p (.nils)]],[]⟩ _
 refine BW (CK [1,0,1] O ?_);refine NI (M:=⟨117,mk [(2,.ptr b2 0),(3,.ptr b3 0),(4,.p (I 0)),(5,.ptr b5 0),(6,.p (I 0)),(7,.ptr b7 0),(8,.ptr b8 0),(9,.ptr b9 0)],[.box b9 ((BD (Cs 1)).map .p),.box b8 ((BD (.mk 5 0 ⟨#[]⟩ [] [GN,GJ (Cs 0) (Cs 0)])).map .p),.box b7 ((BD (Cs 3)).map .p),.box b5 ((BD (.mk 9 0 ⟨#[]⟩ [] [Cs 2])).map .p),.box b3 ((BD (GJ (Cs 5) (Cs 3))).map .p),.box b2 ((BD (.mk 5 0 ⟨#[]⟩ [] ([(.mk 3 0 ⟨#[65]⟩ [] []:Tm),(.mk 0 0 ⟨#[]⟩ [] []:Tm)]))).map .p),.box b1 [.p (I 3),.p (I 0),.p (.str ⟨#[65]⟩),.p (.nils),.p (.nils)]],[]⟩) (G5 ⟨O,O,O,O,O,O,O,O,Aw⟩ (List.Sublist.refl _)) (BP (E2 [0] [] O ?_));refine Bb [7] O (Bx O (fun _=>BF O O (Gc 5) O) Aw (Bb [1,5] O (Bx O (fun _=>BF O O (Gc 3) O) Aw (Bx O (fun _=>By (rows:=A6 ([(.mk 5 0 ⟨#[]⟩ [] ([(.mk 3 0 ⟨#[65]⟩ [] []:Tm),(.mk 0 0 ⟨#[]⟩ [] []:Tm)])),(.mk 0 3 ⟨#[]⟩ [] [])])) BS Ba O O O O (CW (Bd _)) (Gl _)) Aw (Bx O (fun _=>BF O O (E9 4 ([(.mk 5 0 ⟨#[]⟩ [] ([(.mk 3 0 ⟨#[65]⟩ [] []:Tm),(.mk 0 0 ⟨#[]⟩ [] []:Tm)])),(.mk 0 3 ⟨#[]⟩ [] [])])) O) Aw (Bx O (fun _=>By (rows:=A6 ([(.mk 0 5 ⟨#[]⟩ [] []),(.mk 4 0 ⟨#[]⟩ [] ([(.mk 5 0 ⟨#[]⟩ [] ([(.mk 3 0 ⟨#[65]⟩ [] []:Tm),(.mk 0 0 ⟨#[]⟩ [] []:Tm)])),(.mk 0 3 ⟨#[]⟩ [] [])]))])) BS Ba O O O O (CW (Bd _)) (Gl _)) Aw ?_))))));refine Bx O (fun _=>BF O O (E9 4 ([(.mk 0 5 ⟨#[]⟩ [] []),(.mk 4 0 ⟨#[]⟩ [] ([(.mk 5 0 ⟨#[]⟩ [] ([(.mk 3 0 ⟨#[65]⟩ [] []:Tm),(.mk 0 0 ⟨#[]⟩ [] []:Tm)])),(.mk 0 3 ⟨#[]⟩ [] [])]))])) O) Aw (Bx O (fun _=>IW O O (vU (.mk 4 0 ⟨#[]⟩ [] ([(.mk 0 5 ⟨#[]⟩ [] []),(.mk 4 0 ⟨#[]⟩ [] ([(.mk 5 0 ⟨#[]⟩ [] ([(.mk 3 0 ⟨#[65]⟩ [] []:Tm),(.mk 0 0 ⟨#[]⟩ [] []:Tm)])),(.mk 0 3 ⟨#[]⟩ [] [])]))])) O) (aw (FW O) (aw (we O) (HT)))) Aw (Bb [3,5] O (Bx O (fun _=>IW O O (wV (.mk 5 0 ⟨#[]⟩ [] ([(.mk 3 0 ⟨#[65]⟩ [] []:Tm),(.mk 0 0 ⟨#[]⟩ [] []:Tm)])) O) (aw (FW O) (aw (we O) (HT)))) Aw ?_)));refine Dj [2] O (ID [0] O O (fun c=>by cases c) (fun c=>?_))
 refine CK [0] O (NI (M:=⟨117,mk [(3,.ptr b3 0),(5,.ptr b5 0),(7,.ptr b7 0),(8,.ptr b8 0),(9,.ptr b9 0)],[.box b9 ((BD (Cs 1)).map .p),.box b8 ((BD (.mk 5 0 ⟨#[]⟩ [] [GN,GJ (Cs 0) (Cs 0)])).map .p),.box b7 ((BD (Cs 3)).map .p),.box b5 ((BD (.mk 9 0 ⟨#[]⟩ [] [Cs 2])).map .p),.box b3 ((BD (GJ (Cs 5) (Cs 3))).map .p),.box b2 ((BD (.mk 5 0 ⟨#[]⟩ [] ([(.mk 3 0 ⟨#[65]⟩ [] []:Tm),(.mk 0 0 ⟨#[]⟩ [] []:Tm)]))).map .p),.box b1 [.p (I 3),.p (I 0),.p (.str ⟨#[65]⟩),.p (.nils),.p (.nils)]],[]⟩) (G5 ⟨O,O,O,O,O,Aw⟩ (List.Sublist.refl _)) (BP (E2 [0] [] O ?_)));refine Bb [1,4] O (A3 O (fun _=>BF O O (Gc 5) O) Aw (A3 O (fun _=>BF O O (Gc 3) O) Aw (A3 O (fun _=>By (rows:=A6 ([(.mk 0 5 ⟨#[]⟩ [] []),(.mk 0 3 ⟨#[]⟩ [] [])])) BS Ba O O O O (CW (Bd _)) (Gl _)) Aw (A3 O (fun _=>BF O O (E9 4 ([(.mk 0 5 ⟨#[]⟩ [] []),(.mk 0 3 ⟨#[]⟩ [] [])])) O) Aw (A3 O (fun _=>BF O O (Pm (GJ (Cs 5) (Cs 3)) (.mk 4 0 ⟨#[]⟩ [] ([(.mk 0 5 ⟨#[]⟩ [] []),(.mk 0 3 ⟨#[]⟩ [] [])])) (Ua O) O) O) Aw (Bb [2,3] O (Bx O (fun _=>BF O O (Gc 2) O) Aw (Bx O (fun _=>By (rows:=A6 ([(.mk 0 2 ⟨#[]⟩ [] [])])) BS Ba O O O O (CW (Bd _)) (Gl _)) Aw (Bx O (fun _=>BF O O (E9 9 ([(.mk 0 2 ⟨#[]⟩ [] [])])) O) Aw ?_)))))))));refine Bx O (fun _=>BF O O (Pm (.mk 9 0 ⟨#[]⟩ [] [Cs 2]) (.mk 9 0 ⟨#[]⟩ [] ([(.mk 0 2 ⟨#[]⟩ [] [])])) (Ua O) O) O) Aw (Bb [3,2] O (Bx O (fun _=>BF O O (Gc 3) O) Aw (Bx O (fun _=>BF O O (Pm (Cs 3) (.mk 0 3 ⟨#[]⟩ [] []) (Ua O) O) O) Aw (Bb [3,1] O (Bx O (fun _=>IW O O (E9 1 []) (aw (we O) (aw (FW O) (HT)))) Aw (Bx O (fun _=>BF O O (Gc 0) O) Aw (Bx O (fun _=>BF O O (Gc 0) O) Aw (Bx O (fun _=>By (rows:=A6 ([(.mk 0 0 ⟨#[]⟩ [] []),(.mk 0 0 ⟨#[]⟩ [] [])])) BS Ba O O O O (CW (Bd _)) (Gl _)) Aw (Bx O (fun _=>BF O O (E9 4 ([(.mk 0 0 ⟨#[]⟩ [] []),(.mk 0 0 ⟨#[]⟩ [] [])])) O) Aw ?_)))))))))
 refine Bx O (fun _=>By (rows:=A6 ([(.mk 1 0 ⟨#[]⟩ [] []),(.mk 4 0 ⟨#[]⟩ [] ([(.mk 0 0 ⟨#[]⟩ [] []),(.mk 0 0 ⟨#[]⟩ [] [])]))])) BS Ba O O O O (CW (Bd _)) (Gl _)) Aw (Bx O (fun _=>BF O O (E9 5 ([(.mk 1 0 ⟨#[]⟩ [] []),(.mk 4 0 ⟨#[]⟩ [] ([(.mk 0 0 ⟨#[]⟩ [] []),(.mk 0 0 ⟨#[]⟩ [] [])]))])) O) Aw (Bx O (fun _=>BF O O (Pm (.mk 5 0 ⟨#[]⟩ [] [GN,GJ (Cs 0) (Cs 0)]) (.mk 5 0 ⟨#[]⟩ [] ([(.mk 1 0 ⟨#[]⟩ [] []),(.mk 4 0 ⟨#[]⟩ [] ([(.mk 0 0 ⟨#[]⟩ [] []),(.mk 0 0 ⟨#[]⟩ [] [])]))])) (Ua O) O) O) Aw (Bb [3,0] O (Bx O (fun _=>BF O O (Gc 1) O) Aw (Bx O (fun _=>BF O O (Pm (Cs 1) (.mk 0 1 ⟨#[]⟩ [] []) (Ua O) O) O) Aw (Dj [2] O (A9 [0] O (Bg [] [] O O ⟨O,O⟩))))))))
theorem jg : ∀ (ds : List B8) (t r : Tm) (c : Dn), (G2 ds) → (Rr ds tY G0 t = .ok (r, c)) → En Tryz.prog 13 [.p (.lst (List.map B1 ds)), .agg ((BD t).map .p)] (.tup [.agg ((BD r).map .p), .p (.bool (!c.over))]) := by
 intro ds t r c h1 h2
 refine DI Tryz.func13 ?_
 refine CG [0] O O fun b3 => ?_
 refine Bp [0] O (Az Ba O) fun b4 => ?_
 refine DS [1] O ?_
 refine PY O O O (.inl ⟨O, O, O⟩) Vv (Dt _) fun bc => ?_
 refine BW (A2 [4, 2] O (Bj [0] O (.inl ⟨O, O, O⟩) (qw ds h1 tY bc t G0 c r h2) ⟨_, _, O, O, O⟩ As O (.inl O)) ?_)
 refine Bp [0] O (Az Ba O) fun b7 => ?_
 refine E2 [1, 0, 1] [] O ?_
 refine Dj [8, 0, 1, 2, 1] O (A9 [0] O (Bg [2] [] O O ⟨O, O⟩))
set_option maxHeartbeats 1000000 in
theorem bT : ∀ (ds : List B8) (t : Tm), (IT ds) → (Wd t) → En Tryz.prog 4 [.p (.lst (List.map B1 ds)), .agg ((BD t).map .p)] (.p (.bool true)) := by
 intro ds t h1 h2
 refine DI Tryz.func4 ?_
 refine CG [0] O O fun b3 => ?_
 refine A2 [3, 0] O (By (rows := A6 [t]) BS Ba O O O O (CW (Bd _)) (Gl _)) ?_
 refine DS [0] O ?_
 refine EF O O (B7 O O (Yx ds [t] h1 ⟨h2, Aw⟩ (by simp [wide])) (.inl O)) ?_
 rintro _ ⟨q, rfl, hq⟩
 refine BW (BC [1] rfl ?_ ?_) <;> intro c
 ·refine CQ [0] O (Zm ) ?_
  refine A9 [1] O (Bg [] [] O O ⟨O, O⟩)
 have hs := hq (by simpa using c)
 have ho := hs.ok t Av
 have hsz : size t ≤ 60 := by have := hs.sz; simp only [BB] at this; omega
 obtain ⟨r, c, hr1, hr2⟩ := sb hs.env ho Au
 refine CQ [2, 0] O (jg ds t r c hs.env hr1) ?_
 refine Bp [3] O (Az Ba O) fun b5 => ?_
 refine Fo [2, 0, 1] 4 [0, 3] 40 (fun y => y = .p (.bool false)) O O ?_ ?_
 ·refine E2 [0] [5] O ?_
  refine Bb [2] O ?_
  refine Da 20 O (fun g => ?_) (fun g => ?_)
  ·(try simp only [sd, se] at g)
   have hv : c.over = false := by simpa using g
   refine Bb [2, 0] O ?_
   refine Bx O (fun _ => By (rows := A6 [r]) BS Ba O O O O (CW (Bd _)) (Gl _)) Aw ?_
   refine fI [] O O O O (B7 O O (Yx ds [r] h1 ⟨sA _ (Bu.1 hr2).nd, Aw⟩ (by simp [wide])) (.inl O)) Ap (⟨_, false, O, fun h => absurd h As⟩) AB ?_
   rintro _ ⟨q1, rfl, hq1⟩
   refine ⟨Aw, ?_⟩
   refine Bb [2] O ?_
   refine Da 26 O (fun g1 => ?_) (fun g1 => ?_)
   ·(try simp only [sd, se] at g1)
    have hs2 := hq1 (by simpa using g1)
    have hrz : size r ≤ 60 := by have := hs2.sz; simp only [BB] at this; omega
    have hnl := qN hs.env ho hsz hr1 hv hr2 hrz
    refine Bb [2, 0] O ?_
    refine Bx O (fun _ => BF O O (Nr 61 ds r true hs.env hr2 Au As ((PZ 61 r).trans hnl.1)) O) Aw ?_
    refine Bb [4, 1] O ?_
    refine Bx O (fun _ => BF O O (Nr 61 ds t (ML t r) hs.env ho Au As ((PZ 61 t).trans hnl.2)) O) Aw ?_
    refine Bb [2, 1, 0] O ?_
    refine Bx O (fun _ => BF O O (XS _ t r (Nat.le_refl _) (Bu.1 ho).nd) O) Aw ?_
    refine Bx O (fun _ => Tq wz O O) Aw ?_
    refine CY tab 2 [] O ?_
    exact Cu (CT [0] O)
   (try simp only [sd, se] at g1)
   refine CY tab 14 [] O ?_
   exact Cu (CT [0] O)
  (try simp only [sd, se] at g)
  refine Bb [3] O ?_
  refine YY O O O O Aw ?_
  refine CY tab 16 [] O ?_
  exact Cu (CT [0] O)
 rintro _ rfl
 refine ID [0] O O (fun c1 => by cases c1) (fun c1 => ?_)
 refine CI [0] 6 [] 4 (Gu (Mc ds) 61 t == Gu (KV ds) 61 t) O O ?_ ?_
 ·refine E2 [0] [] O ?_
  refine Bb [2, 1] O ?_
  refine A3 O (fun _ => BF O O (WO 61 ds t hs.env ho Au As) O) Aw ?_
  refine Bb [2, 1] O ?_
  refine A3 O (fun _ => BF O O (gj 61 ds t hs.env ho Au As) O) Aw ?_
  refine A3 O (fun _ => Tp wz O O) Aw ?_
  refine A3 O (fun _ => Bh O) Aw ?_
  refine Da 48 O (fun g => ?_) (fun g => ?_)
  ·(try simp only [sd, se] at g)
   refine Bx O (fun _ => BF O O (Zm ) O) Aw ?_
   refine CY tab 2 [] O ?_
   exact Cu (CT [0] O)
  (try simp only [sd, se] at g)
  refine CY tab 3 [] O ?_
  exact Cu (CT [0] O)
 refine A9 [0] O (Bg [] [] O O ⟨by refine pB ?_; simp [PZ], rfl⟩)
end Go.Proofs.YtldfmjoncbjldaaGreat
