/- Part of the proofs: an abstract program logic, plain models and contracts of functions. -/
import Derived.Test.YtboammbpdaoojaaGreatPh
import Derived.Test.YtboammbpdaoojaaGreatPd
import Derived.Test.YtboammbpdaoojaaGreatPb
import Derived.Test.YtboammbpdaoojaaGreatPg
set_option linter.unusedVariables false
set_option linter.unusedSimpArgs false
set_option maxRecDepth 100000
namespace Go.Eu
open Go.Abs
section
variable {E:List B5}
structure Exit (E:List B5) (n:Nat) (l:Int) (a:Tm) (l':Int):Prop where
 many:Bp.many (A8 a).2.length=false
 lam:(A8 a).1.kind=5→(A8 a).2.length=0
 lt:(A8 a).1.kind≠11
 proj:(A8 a).1.kind=9∨(A8 a).1.kind=10→∃p,(A8 a).1=Hn (A8 a).1.kind p∧okB p=true∧p.kind≠8∧DK E Bp n l p= .ok (p,l')∧a=apply (A8 a).1 (A8 a).2
 con:(A8 a).1.kind=3→ED E Bp (DK E Bp n) n (A8 a).1 (A8 a).2 l= .ok (none,l')
 oth:(A8 a).1.kind≠9→(A8 a).1.kind≠10→(A8 a).1.kind≠3→l'=l
end
def Ov {α:Type}:Out α→Int
 | .ok _=>0
 | _=>11
def Me {α:Type}(z:α):Out (α×Int)→α
 | .ok (a,_)=>a
 | _=>z
section
variable {α:Type}{o:Out (α×Int)}{a:α×Int}{z:α}{e:Int}
theorem pe (h:o.ex= .ok a):Ov o=0:=by rw[IV h];rfl
theorem pZ (h:o.ex= .error e):Ov o=11:=by cases o<;>first | rfl | cases h
theorem oK (h:o.ex= .ok a):Me z o=a.1:=by rw[IV h];rfl
theorem pH (h:o.ex= .error e):Me z o=z:=by cases o<;>first | rfl | cases h
end
theorem LY:Gl 20000:=⟨by omega,by omega⟩
end Go.Eu
namespace Go.Proofs.YtboammbpdaoojaaGreat
open Go.Abs Go.Eu
theorem iH:∀(ds:List B5) (N m bt bo:Nat) (t:Tm) (s:Int),(Gi ds)→(Gl s)→(DK ds Bp N s t≠ .stuck)→Bn Tryz.prog 38 [.ptr m 0,.ptr bt 0,.ptr bo 0] [.box m [.p (.lst (List.map Bi ds)),.p (I s)],.box bt ((BP t).map .p),.box bo [.p (I 0),.p (I 0),.p (.str ⟨#[]⟩),.p (.nils),.p (.nils)]] (Lm (fun(r:Tm×Int)=> .tup []) (fun _=> .p (.iface 122 .unit)) (fun r H'=>H'=[.box m [.p (.lst (List.map Bi ds)),.p (I r.2)],.box bt ((BP t).map .p),.box bo ((BP r.1).map .p)]) ((DK ds Bp N s t).ex)):=by
 intro ds N m bt bo t s h1 h2 h3;refine A5 Tryz.func38 O uy (n:=7) O O (A3 (Ax Ay 2 [1] O (Dm [0] O O O (.inl ⟨O,O,O⟩) (Oi ds h1 N m t s h2 h3) ⟨_,_,O,O,O⟩ Am (aw (we O) (aw (we O) (E0))) (fun _ _ h=>(congrArg List.length h).trans O) ?_ ?_)))
 rotate_left
 ·intro e _ he;exact⟨O,_,List.nil_sublist _,⟨_,he,O⟩⟩
 rintro⟨z,n2⟩ _ hz rfl;refine Ar Ay 1 [2,1] O ⟨O,_,_,O,(B8 (is:=[0,1,2]) O),?_⟩;exact⟨⟨z,n2⟩,hz,O,O⟩
theorem RI:∀(ds:List B5) (N:Nat) (t:Tm),(Gi ds)→(DK ds Bp N 20000 t≠ .stuck)→ET Tryz.prog 12 [.p (.lst (List.map Bi ds)),.agg ((BP t).map .p)] (.tup [.agg ((BP (Me Bh (DK ds Bp N 20000 t))).map .p),.p (I (Ov (DK ds Bp N 20000 t)))]):=by
 intro ds N t h1 h2;refine A5 Tryz.func12 O uf (n:=16) O O (Aw (BF O (BN O) fun b3=>BF O (A7 Bx O) fun b4=>Ar Ay 1 [] O (Aw (BF O (A7 Bx O) fun b6=>Bg O (As ?_)))));obtain⟨e,he⟩ | ⟨⟨z,n2⟩,ha⟩:=Fy ((DK ds Bp N 20000 t).ex)
 ·refine A3 (Ax Ay 2 [] O (Vo [2,0] O O O (.inl ⟨O,O,O⟩) (Sj _ _ he (fun r=>r.2) (fun r=>[.box b3 ((BP t).map .p),.box b6 ((BP r.1).map .p)]) 38 [.ptr b3 0,.ptr b6 0] [.box b3 ((BP t).map .p),.box b6 [.p (I 0),.p (I 0),.p (.str ⟨#[]⟩),.p (.nils),.p (.nils)]] ds (fun m=>iH ds N m b3 b6 t 20000 h1 LY h2)) ⟨_,_,O,O,⟨_,_,O,O,O⟩⟩ Am (DQ _) (Ar Ay 1 [] O (As (Au Ay 2 [] O ?_)))));refine Av O (fun c=>?_) (fun c=>by cases c);refine Au Ay 4 [0,0] O (BH (BW (i:=0) O) (A1 (⟨O,_,_,⟨_,_,O,(BA (i:=0) BZ O O O),⟨_,_,O,O,O⟩⟩,(List.nil_sublist _),?_⟩)))
  all_goals exact⟨by show (.tup [.agg [.p (I 0),.p (I 0),.p (.str ⟨#[]⟩),.p (.lst []),.p (.lst [])],.p (I 11)]:AV)=_;rw[pH he,pZ he];rfl,rfl⟩
 refine A3 (Ax Ay 2 [] O (Aq O (CE [2,0] O (.inl ⟨O,O,O⟩) (Vr _ _ ha (fun r=>r.2) (fun r=>[.box b3 ((BP t).map .p),.box b6 ((BP r.1).map .p)]) 38 [.ptr b3 0,.ptr b6 0] [.box b3 ((BP t).map .p),.box b6 [.p (I 0),.p (I 0),.p (.str ⟨#[]⟩),.p (.nils),.p (.nils)]] ds (fun m=>iH ds N m b3 b6 t 20000 h1 LY h2)) ⟨_,_,O,O,⟨_,_,O,O,O⟩⟩ Am O (.inl O)) (Ar Ay 1 [] O (As (Au Ay 2 [] O ?_)))));refine Av O (fun c=>by cases c) (fun c=>?_);refine A2 (Au Ay 3 [0,1,1] O (A1 (⟨O,_,_,⟨_,_,O,(BA (i:=1) BZ O O Ag),⟨_,_,O,O,O⟩⟩,(List.nil_sublist _),?_⟩)))
 all_goals exact⟨by show (.tup [.agg ((BP z).map .p),.p (I 0)]:AV)=_;rw[oK ha,pe ha],rfl⟩
end Go.Proofs.YtboammbpdaoojaaGreat
namespace Go.Eu
open Go.Abs
def FJ (p:Int×List Int):List PV:=[I p.1,.lst (p.2.map G0)]
theorem kP (p:Int×List Int):EM 2 (FJ p):=⟨rfl,by simp[FJ]⟩
theorem UQ (l:List (Int×List Int)):∀r∈l.map FJ,EM 2 r:=HO kP l
theorem Xc {t x z:Tm}{ps:List Int}{p:Int}(h:HR t ps x=some z) (hp:ps[0]?=some p):p.toNat<(A8 t).2.length:=by
 cases ps with
 | nil=>simp at hp
 | cons q qs =>
  simp at hp;subst hp;rw[HR] at h;rcases Nat.lt_or_ge q.toNat (A8 t).2.length with hl | hl
  ·exact hl
  rw[List.getElem?_eq_none hl] at h;cases h
theorem ct {t x z y:Tm}{ps:List Int}{p:Int}(h:HR t ps x=some z) (hp:ps[0]?=some p) (hy:(A8 t).2[p.toNat]?=some y):∃w,HR y (ps.drop 1) x=some w∧apply (A8 t).1 ((A8 t).2.set p.toNat w)=z:=by
 cases ps with
 | nil=>simp at hp
 | cons q qs =>
  simp at hp;subst hp;rw[HR,hy] at h;simp only[Option.map_eq_some_iff] at h;obtain⟨w,h1,h2⟩:=h;exact⟨w,h1,h2⟩
theorem iC {t x z:Tm}{ps:List Int}(h:HR t ps x=some z) (hp:ps.length=0):x=z:=by
 cases ps with
 | nil=>rw[HR] at h;cases h;rfl
 | cons q qs=>simp at hp
theorem dC {t x z:Tm}{ps:List Int}(h:HR t ps x=some z) (hp:ps.length≠0):0<(A8 t).2.length:=by
 cases ps with
 | nil=>simp at hp
 | cons q qs=>have:=Xc (p:=q) h rfl;omega
end Go.Eu
namespace Go.Proofs.YtboammbpdaoojaaGreat
open Go.Abs Go.Eu
theorem jC:∀(l:List Int),(l.length<549755813888)→Bn Tryz.prog 143 [.p (.lst (List.map G0 l))] [] (eD (fun v=>v) 1 (List.map G0 l)):=by
 intro l h1;refine A5 Tryz.func143 O tU (n:=8) O O (Au Ay 1 [] O (As (Aw (Br O (Du O O (NM Hr O O) ?_)))));rintro _ ⟨q,rfl,hq⟩;refine Bg O (Av O (fun c=>?_) (fun c=>?_))
 ·refine Au Ay 1 [] O (BH (EN (t:=2) (sz:=1) O) (A1 (⟨O,_,_,⟨_,_,O,O,O⟩,(B8 (is:=[0]) O),?_⟩)));rw[show l=[] by simpa using hq c]
  all_goals exact⟨_,_,rfl,rfl⟩
 refine A2 (Aw (Sa O O (Ly Hr) fun b5 cp=>Br O (FP O O (CR (i:=0) (rows':=List.map G0 l) Hr Hr ki O O O O O O (QE _) (by simp only[List.length_map,List.length_nil];omega) (GP (f:=G0) [] l)) fun o cp1=>Ar Ay 1 [] O (A1 (⟨O,_,_,⟨_,_,O,O,O⟩,(B8 (is:=[0]) O),?_⟩)))))
 all_goals exact⟨_,_,rfl,rfl⟩
theorem _root_.Go.AT {α:Prop}(h:α:=by simp only[DY,List.length_set];omega):α:=h
theorem lD:∀(n:Nat) (ps:List Int) (t x z:Tm),(ps.length≤n)→(okB t=true)→(∀p∈ps,0≤p)→(ps.length<1000000)→(HR t ps x=some z)→ET Tryz.prog 142 [.agg ((BP t).map .p),.p (.lst (List.map G0 ps)),.agg ((BP x).map .p)] (.agg ((BP z).map .p)):=by
 intro n
 induction n using Nat.strongRecOn with
 | ind n ih =>
  intro ps t x z h0 h1 h3 h4 h5;have hsp:=YI h1;have hsl:=hsp.len;have hss:=hsp.sz;refine A5 Tryz.func142 O sY (n:=39) O O (Aw (BF O (BN O) fun b3=>BF O (BN O) fun b5=>BF O (A7 Bx O) fun b6=>Bg O (As (Aw (Br O (Aq O (BJ Hr O (List.length_map _)) (Ar Ay 1 [] O (Av O (fun c=>?_) (fun c=>?_)))))))))
  ·simp only[sd,se] at c;refine Au Ay 2 [1,0,1] O (A1 (⟨O,_,_,⟨_,_,O,(BA (i:=0) BZ O O Ag),O⟩,(List.nil_sublist _),?_⟩))
   all_goals exact⟨by show (.agg ((BP x).map .p):AV)=_;rw[iC h5 An],rfl⟩
  simp only[sd,se] at c;refine A2 (Aw (Aq O (BU (i:=2) BZ O O Ag) (Aq O (BC O O (Ma t hsp.nd Ab) O) (Ax Ay 3 [] O (BF O (A7 Bx O) fun b7=>Ar Ay 2 [0,1] O (Aw (Br O (Nx O O O (.inl ⟨O,O,O⟩) (KW ((A8 t).2) hsp.len) (.inl O) fun o cp=>Ar Ay 1 [] O (As (MU (i:=0) O (by have hxl:=dC h5 An;rw[BQ];omega) fun b hb=>?_))))))))));subst hb;refine Bt (fun k=>false) Dn (BR Ay 2 [] O ?_);obtain⟨x1,hx1⟩:=A6 (l:=ps) (i:=0) An;have hx0:=h3 _ (List.mem_of_getElem? hx1);have hxl:=Xc h5 hx1;refine BG O (fun _=>A4 Hr O O An (MS hx1) (O)) Ap (BR Ay 3 [] O (BG O (fun _=>A4 Hr O O An (MS hx1) (O)) Ap (BG O (fun _=>FB DM O) Ap (BG O (fun _=>C0 Bf O O An AZ) Ap ?_))));obtain⟨y,hy⟩:=A6 (l:=((A8 t).2)) (i:=(x1:Int).toNat) (by first | omega | assumption);refine CV (j:=0) O O O (fun H i hi=>Ei (i:=i) BZ O hi (Bd hy)) AB Ap (BG O (fun _=>Ba O) Ap (BG O (fun _=>CZ (lo:=1) Hr O (CG (QE _)) ⟨_,O⟩ O AR (Nat.le_refl _) (pM (f:=G0) ps 1)) Ap (BR Ay 1 [3] O ?_)));obtain⟨z1,e1,e2⟩:=ct h5 hx1 hy;refine BG rfl (fun _=>BC rfl rfl (ih (n - 1) An (ps.drop 1) y x z1 (by simp only[List.length_drop];omega) (hsp.args _ (List.mem_of_getElem? hy)) (fun p hp=>h3 p (List.mem_of_mem_drop hp)) (by simp only[List.length_drop];omega) e1) rfl) trivial (BG O (fun _=>C0 Bf O O An AZ) Ap (GX O O (EH (i:=0) (j:=((x1:Int).toNat)) BZ O O O AZ O (Ko _) (BD _) (FX _) (U9 ((A8 t).2) ((x1:Int).toNat) z1)) AB Ap (Je O Aj (Aw (Ax Ay 2 [1] O (B4 (DA (t:=20) (x:= .vs (some b) (BE ((((A8 t).2)).set ((x1:Int).toNat) z1)).length cp) (DI ((A8 t).2) (l':=(((A8 t).2)).set ((x1:Int).toNat) z1) Ao)) ?_))))));refine B4 (DA (t:=9) (x:= .vs (some b) (BE ((((A8 t).2)).set ((x1:Int).toNat) z1)).length cp) (DI ((A8 t).2) (l':=(((A8 t).2)).set ((x1:Int).toNat) z1) Ao)) (B4 (DA (t:=21) (x:= .vs (some b) (BE ((((A8 t).2)).set ((x1:Int).toNat) z1)).length cp) (DI ((A8 t).2) (l':=(((A8 t).2)).set ((x1:Int).toNat) z1) Ao)) (B4 (DA (t:=25) (x:= .vs (some b) (BE ((((A8 t).2)).set ((x1:Int).toNat) z1)).length cp) (DI ((A8 t).2) (l':=(((A8 t).2)).set ((x1:Int).toNat) z1) Ao)) (B4 (DA (t:=37) (x:= .vs (some b) (BE ((((A8 t).2)).set ((x1:Int).toNat) z1)).length cp) (DI ((A8 t).2) (l':=(((A8 t).2)).set ((x1:Int).toNat) z1) Ao)) (B4 (Ck (i:=0) [20,9,21,25,37] O (D5 ⟨O,O,O,O,O,Ap⟩)) ?_))))
  refine Aq O (BC O O (EK ((A8 t).1) ((((A8 t).2)).set ((x1:Int).toNat) z1) AT) O) (Ar Ay 1 [1,1] O (A1 (⟨O,_,_,⟨_,_,O,(BA (i:=1) BZ O O Ag),O⟩,(List.nil_sublist _),?_⟩)))
  all_goals exact⟨by show (.agg ((BP (apply ((A8 t).1) ((((A8 t).2)).set ((x1:Int).toNat) z1))).map .p):AV)=_;rw[e2],rfl⟩
end Go.Proofs.YtboammbpdaoojaaGreat
namespace Go.Eu
open Go.Abs
def VR (n:Nat):List (Int×List Int):=(List.range n).map fun i:Nat=>((i:Int),[])
theorem Xo (n:Nat):VR (n+1)=VR n++[((n:Int),[])]:=by simp[VR,List.range_succ]
theorem RB (n:Nat):(VR n).length=n:=by simp[VR]
theorem PL (a:Int×List Int) (fx:Int):Ed a fx 0=[]:=rfl
theorem O9 (a:Int×List Int) (fx:Int) (n:Nat):Ed a fx (n+1)=Ed a fx n++[(a.1,a.2++[fx+(n:Int)])]:=by simp[Ed,List.range_succ]
theorem S0 {α:Type}{l:List α}{i:Nat}{x:α}(h:l[i]?=some x):l.take (i+1)=l.take i++[x]:=by rw[List.take_add_one,h];rfl
theorem W6 {α:Type}{l:List α}{i:Nat}(h:l.length≤i):l.take i=l:=List.take_of_length_le h
theorem LD {w:ES}(h:EW w):okB w.body=true:=by
 obtain⟨k,b,v,l⟩:=w;simp only[EW] at h;exact h.1
structure kL (a us:List Tm) (pl:List (Int×List Int)) (w:ES):Prop where
 ok:Yr a us pl
 nn:∀p∈pl,0≤p.1∧(∀q∈p.2,0≤q)∧p.2.length+Dc w≤1000
theorem kL.len {a us:List Tm}{pl:List (Int×List Int)}{w:ES}(h:kL a us pl w):pl.length=us.length:=h.ok.len
theorem ij (a:List Tm) (n:Nat) (w:ES) (hn:n≤a.length) (hd:Dc w≤1000):kL a (a.take n) (VR n) w:=by
 refine⟨P8 a n hn,fun p hp=>?_⟩;obtain⟨i,_,rfl⟩:=List.mem_map.1 hp;exact⟨by simp,by simp,by simp;omega⟩
theorem kL.next {E:List B5}{a us f:List Tm}{pl:List (Int×List Int)}{w q:ES}(h:kL a us pl w) (hE:Ju E) {i:Nat}{v:Tm}{p:Int×List Int}{d:B5}{j:Int}{nm:ByteArray}(hv:us[i]?=some v) (hp:pl[i]?=some p) (hc:C8 E v=some (d,j,f)) (hb:Ca nm w.branches=some q) (ho:EW w):kL a (us++f) (pl++Ed p d.fixed f.length) q:=by
 have hcf:=Eo hc;obtain⟨b1,b2⟩:=Sx hb ho;have hfx:=(hE.all d hcf.mem).fx.1;have hmore:=h.ok.more hv hp hfx;rw[←hcf.fs] at hmore;obtain⟨n1,n2,n3⟩:=h.nn p (List.mem_of_getElem? hp);refine⟨hmore,fun r hr=>?_⟩;rcases List.mem_append.1 hr with hr | hr
 ·obtain⟨m1,m2,m3⟩:=h.nn r hr;exact⟨m1,m2,by omega⟩
 obtain⟨k,_,rfl⟩:=List.mem_map.1 hr;refine⟨n1,fun q hq=>?_,by simp only[List.length_append,List.length_cons,List.length_nil];omega⟩;rcases List.mem_append.1 hq with hq | hq
 ·exact n2 q hq
 have:=List.mem_singleton.1 hq;omega
theorem kL.at_ {a us:List Tm}{pl:List (Int×List Int)}{w:ES}(h:kL a us pl w) {i:Nat}{v:Tm}{p:Int×List Int}(hv:us[i]?=some v) (hp:pl[i]?=some p):0≤p.1∧(∀q∈p.2,0≤q)∧p.2.length≤1000∧p.1.toNat<a.length:=by
 obtain⟨n1,n2,n3⟩:=h.nn p (List.mem_of_getElem? hp);obtain⟨j,path,y,h1,h2,h3⟩:=h.ok.at_ i v hv;rw[hp] at h1;cases h1;exact⟨n1,n2,by omega,(List.getElem?_eq_some_iff.1 h2).1⟩
section
variable {E:List B5}{σ:Type}{S:Sys σ}{T:σ→Tm→Out (Option Tm×σ)}{h:Tm}{ar:Int}{a us:List Tm}{n:Nat}{t:ES}{pl:List (Int×List Int)}{s:σ}{x:Tm}{p:Int×List Int}
def gH (h:Tm) (a:List Tm) (p:Int×List Int) (r:Option Tm×σ):Out (Option Tm×σ):=match r.1 with
 | none=> .ok (none,r.2)
 | some x=>match HR (a.getD p.1.toNat default) p.2 x with
  | none=> .stuck
  | some y=> .ok (some (apply h (a.set p.1.toNat y)),r.2)
theorem jI {X:Out (Option Tm×σ)}(e:Ix E S T h ar a n t us pl s=X) (hX:X≠ .stuck):∃k,n=k+1:=by
 cases n with
 | zero=>rw[Ix] at e;exact absurd e.symm hX
 | succ k=>exact⟨k,rfl⟩
theorem j2 (hk:t.kind≠1):Ix E S T h ar a (n+1) t us pl s=GD S h t.body us (a.drop ar.toNat) s:=by rw[Ix,if_neg hk]
theorem lB (hk:t.kind=1) (hb:t.var<0∨t.var≥(us.length:Int)):Ix E S T h ar a (n+1) t us pl s= .ok (none,s):=by rw[Ix,if_pos hk,if_pos hb]
theorem iM (hk:t.kind=1) (hb:¬(t.var<0∨t.var≥(us.length:Int))) (hx:us[t.var.toNat]?=some x) (hp:pl[t.var.toNat]?=some p) (hc:C8 E x=none):Ix E S T h ar a (n+1) t us pl s=(T s x).bind (gH h a p):=by
 rw[Ix,if_pos hk,if_neg hb,B6 hx,B6 hp,hc];rfl
theorem oB {d:B5}{j:Int}{f:List Tm}(hk:t.kind=1) (hb:¬(t.var<0∨t.var≥(us.length:Int))) (hx:us[t.var.toNat]?=some x) (hp:pl[t.var.toNat]?=some p) (hc:C8 E x=some (d,j,f)) (hbr:Ca (Df d j).name t.branches=none):Ix E S T h ar a (n+1) t us pl s= .ok (none,s):=by
 rw[Ix,if_pos hk,if_neg hb,B6 hx,B6 hp,hc];simp only[hbr]
theorem oP {d:B5}{j:Int}{f:List Tm}{t':ES}(hk:t.kind=1) (hb:¬(t.var<0∨t.var≥(us.length:Int))) (hx:us[t.var.toNat]?=some x) (hp:pl[t.var.toNat]?=some p) (hc:C8 E x=some (d,j,f)) (hbr:Ca (Df d j).name t.branches=some t'):Ix E S T h ar a (n+1) t us pl s=Ix E S T h ar a n t' (us++f) (pl++Ed p d.fixed f.length) s:=by
 rw[Ix,if_pos hk,if_neg hb,B6 hx,B6 hp,hc];simp only[hbr]
theorem df {r:Option Tm×σ}(hr:r.1.isSome=false):gH h a p r= .ok (none,r.2):=by
 obtain⟨q,s⟩:=r;cases q with
 | none=>rfl
 | some x=>cases hr
theorem ey {r:Option Tm×σ}{y:Tm}(hs:gH h a p r≠ .stuck) (hr:r.1.isSome=true) (hy:a[p.1.toNat]?=some y):∃z,HR y p.2 (r.1.getD Bh)=some z∧gH h a p r= .ok (some (apply h (a.set p.1.toNat z)),r.2):=by
 obtain⟨q,s⟩:=r;cases q with
 | none=>cases hr
 | some x =>
  unfold gH at hs ⊢;simp only at hs ⊢;rw[B6 hy] at hs ⊢;cases hz:HR y p.2 x with
  | none=>rw[hz] at hs;exact absurd rfl hs
  | some z=>exact⟨z,hz,rfl⟩
end
end Go.Eu
namespace Go.Proofs.YtboammbpdaoojaaGreat
open Go.Abs Go.Eu
def wV (ds:List B5) (n:Nat):Prop:=∀(m:Nat) (t:Tm) (s:Int),Gl s→Dl ds Bp n s t≠ .stuck→Bn Tryz.prog 44 [.ptr m 0,.agg ((BP t).map .p)] [.box m [.p (.lst (List.map Bi ds)),.p (I s)]] (Lm (fun(r:Option Tm×Int)=> .tup [TV (r.1.getD Bh),.p (.bool r.1.isSome)]) (fun _=> .p (.iface 122 .unit)) (fun r H'=>H'=[.box m [.p (.lst (List.map Bi ds)),.p (I r.2)]]) ((Dl ds Bp n s t).ex))
set_option maxHeartbeats 4000000 in
theorem Zh:∀(n m:Nat) (ds:List B5) (s:Int) (g:Tm) (a:List Tm) (d:B5) (f:Hp),(wV ds n)→(Gi ds)→(Gl s)→(d∈ds)→(f∈d.funs)→(f.arity≤a.length)→(okB g=true)→(a.length<549755813888)→(∀y∈a,okB y=true)→(Ix ds Bp (Dl ds Bp n) g f.arity a n f.tree (a.take f.arity.toNat) (VR f.arity.toNat) s≠ .stuck)→Bn Tryz.prog 111 [.ptr m 0,.agg ((BP g).map .p),.agg ((FH f).map .p),.p (.lst (BE a))] [.box m [.p (.lst (List.map Bi ds)),.p (I s)]] (Lm (fun(r:Option Tm×Int)=> .tup [TV (r.1.getD Bh),.p (.bool r.1.isSome)]) (fun _=> .p (.iface 122 .unit)) (fun r H'=>H'=[.box m [.p (.lst (List.map Bi ds)),.p (I r.2)]]) ((Ix ds Bp (Dl ds Bp n) g f.arity a n f.tree (a.take f.arity.toNat) (VR f.arity.toNat) s).ex)):=by
 intro n m ds s g a d f hT h2 h3 h4 h5 h6 h7 h8 h9 hns;obtain⟨gk,gi,gn,gl,gs⟩:=g;have hgo:=B2.1 h7;have hgl:=hgo.nd;simp only[Nd,DY] at hgl;have hfu:=(h2.g.all _ h4).fu _ h5;have hdp:=h2.fu _ h4 _ h5;have hlf:=QZ h2 h4 h5 h9;have htl:(a.take f.arity.toNat).length=f.arity.toNat:=by rw[List.length_take];omega
 have hpw:=ij a f.arity.toNat f.tree An An;generalize hX:Ix ds Bp (Dl ds Bp n) (.mk gk gi gn gl gs:Tm) f.arity a n f.tree (a.take f.arity.toNat) (VR f.arity.toNat) s=X at hns ⊢;refine A5 Tryz.func111 O qU (n:=169) O O (Aw (BF O (BN O) fun b5=>BF O (BN O) fun b6=>BF O (A7 Bx O) fun b8=>Ar Ay 1 [] O (Aw (Ax Ay 2 [] O (Aq O (A0 (i:=1) DM O O (CU _)) (Aq O (CZ (lo:=0) (hi:=(f.arity:Int).toNat) Bf O (CG (Bv _)) O ⟨_,pI An⟩ (Nat.zero_le _) AR (OE a ((f.arity:Int).toNat))) (Nx O O O (.inl ⟨O,O,O⟩) (KW (a.take ((f.arity:Int).toNat)) (by simp only[List.length_take];omega)) (.inl O) fun o cp=>Ar Ay 1 [] O (Aw (bA O (B4 (EN (t:=11) (sz:=2) O) (Bg O (As (Aw (Br O (Aq O (Kj Bf O (BQ _)) (Ar Ay 1 [] O (A9 ?_)))))))))))))))));refine Bc (α:=Nat×Option Nat×Nat) (fun(i,o1,cp1)=>⟨169,mk [(0,.ptr m 0),(3,.p (.lst (BE a))),(5,.ptr b5 0),(6,.ptr b6 0),(8,.ptr b8 0),(10,.vs o (BE (a.take ((f.arity:Int).toNat))).length cp),(11,.vs o1 (List.map FJ (VR i)).length cp1),(32,.p (I ((a.take ((f.arity:Int).toNat)).length:Nat))),(33,.p (I (i:Int)))],[.vec o1 2 (List.map FJ (VR i)) cp1,.vec o 5 (BE (a.take ((f.arity:Int).toNat))) cp,.box b8 [.p (I 0),.p (I 0),.p (.str ⟨#[]⟩),.p (.nils),.p (.nils)],.box b6 ((FH f).map .p),.box b5 [.p (I gk),.p (I gi),.p (.str gn),.p (.lst (List.map By gl)),.p (.lst (BE gs))],.box m [.p (.lst (List.map Bi ds)),.p (I s)]],[]⟩) (fun(i,o1,cp1)=>(a.take f.arity.toNat).length - i) (fun(i,o1,cp1)=>i≤(a.take f.arity.toNat).length) ⟨0,none,0⟩ AQ ?_ ?_
 ·exact BS ⟨we O,we O,we O,we O,we O,we O,we O,we O,we O,Ap⟩ (leH (is:=[0,1,2,3,4,5]) O (wl (oe O) (wl (oe O) (wl (oe O) (wl (oe O) (wl (oe O) (wl (oe O) (C2))))))))
 rintro⟨i,o1,cp1⟩ hC
 try simp only at hC
 have hi:=hC;refine Au Ay 1 [] O (As (Av O (fun c=>?_) (fun c=>?_)))
 ·simp only[sd,se] at c;refine A2 (As (A9 (Au Ay 2 [] O (A3 (Ax Ay 3 [] O (Aq O (Bl Sf XU O O O O O) (FP O O (CR (i:=0) (rows':=List.map FJ ([((i:Int),[])])) Sf Sf XU O O O O O O (UQ _) (by simp only[List.length_map,RB,List.length_cons,List.length_nil];omega) (GP (f:=FJ) (VR i) ([((i:Int),[])]))) fun o2 cp2=>Ar Ay 1 [] O (A3 (Ar Ay 2 [] O ?_)))))))));refine⟨⟨i+1,o2,cp2⟩,AW,by omega,BS ⟨we rfl,we rfl,we rfl,we rfl,we rfl,we rfl,we (Gb (f:=FJ) (VR i++([((i:Int),[])])) ((Xo i).symm)),we rfl,we rfl,trivial⟩ (leH (is:=[0,1,2,3,4,5]) rfl (wl (Fl (f:=FJ) (VR i++([((i:Int),[])])) ((Xo i).symm)) (wl (oe rfl) (wl (oe rfl) (wl (oe rfl) (wl (oe rfl) (wl (oe rfl) (C2))))))))⟩
 simp only[sd,se] at c;refine Be (Aw (Aq O (Az HE O O) (Aq O (Bw (i:=3) Jl O O (D1 _) (Co _)) (BF O (A7 Wx O) fun b13=>Ar Ay 1 [0,1] O (As (A9 ?_))))));refine Bc (α:=Nat×ES×List Tm×List (Int×List Int)×Option Nat×Nat×Option Nat×Nat) (fun(k2,w,us,pl,o2,cp2,o3,cp3)=>⟨169,mk [(0,.ptr m 0),(3,.p (.lst (BE a))),(5,.ptr b5 0),(6,.ptr b6 0),(8,.ptr b8 0),(10,.vs o2 (BE us).length cp2),(11,.vs o3 (List.map FJ pl).length cp3),(13,.ptr b13 0)],[.box b13 ((Cz w).map .p),.vec o3 2 (List.map FJ pl) cp3,.vec o2 5 (BE us) cp2,.box b8 [.p (I 0),.p (I 0),.p (.str ⟨#[]⟩),.p (.nils),.p (.nils)],.box b6 ((FH f).map .p),.box b5 [.p (I gk),.p (I gi),.p (.str gn),.p (.lst (List.map By gl)),.p (.lst (BE gs))],.box m [.p (.lst (List.map Bi ds)),.p (I s)]],[]⟩) (fun(k2,w,us,pl,o2,cp2,o3,cp3)=>k2) (fun(k2,w,us,pl,o2,cp2,o3,cp3)=>Ix ds Bp (Dl ds Bp n) (.mk gk gi gn gl gs:Tm) f.arity a k2 w us pl s=X∧Tg w us∧kL a us pl w) ⟨n,f.tree,a.take f.arity.toNat,VR f.arity.toNat,o,cp,o1,cp1⟩ (⟨hX,hlf,hpw⟩) ?_ ?_
 ·exact BS ⟨we O,we O,we O,we O,we O,we O,we (Gb (f:=FJ) (VR i) (by rw[show i=f.arity.toNat from by omega])),we O,Ap⟩ (leH (is:=[0,1,2,3,4,5,6]) O (wl (oe O) (wl (Fl (f:=FJ) (VR i) (by rw[show i=f.arity.toNat from by omega])) (wl (oe O) (wl (oe O) (wl (oe O) (wl (oe O) (wl (oe O) (C2)))))))))
 rintro⟨k2,w,us,pl,o2,cp2,o3,cp3⟩ hC1
 try simp only at hC1
 obtain⟨hC1,hL,hW⟩:=hC1;obtain⟨k1,rfl⟩:=jI hC1 hns;refine As (Aw (Aq O (Az FG O O) (Aq O (A0 (i:=0) DM O O (Gc _)) (Ar Ay 1 [] O (Av O (fun c1=>?_) (fun c1=>?_))))))
 ·simp only[sd,se] at c1;have hk1:=c1;refine A2 (A9 (As (As (BT [0,3,5,6,8,10,11,13] 56 (fun y=>y= .p (.bool ((decide ((w.var:Int)<(0:Int)))||(decide ((w.var:Int)≥((us.length:Nat):Int)))))) ?_ ?_))))
  ·refine A3 (Aq O (Az FG O O) (Aq O (A0 (i:=0) DM O O (DE _)) (Ax Ay 2 [] O (BO 50 O (fun g1=>?_) (fun g1=>?_)))))
   ·simp only[sd,se] at g1;exact Ar Ay 6 [] O (⟨O,O,AM,AI,⟨O,O,O,O,O,O,O,O,Ap⟩⟩)
   simp only[sd,se] at g1;exact BB O (Az FG O O) (BB O (A0 (i:=0) DM O O (DE _)) (BB O (Ba O) (BB O (Kj Bf O (BQ _)) (Ar Ay 2 [] O (⟨O,O,AM,AI,⟨O,O,O,O,O,O,O,O,Ap⟩⟩)))))
  rintro _ rfl;refine Av O (fun c2=>?_) (fun c2=>?_)
  ·simp only[sd,se] at c2;rw[lB hk1 (by simpa using c2)] at hC1;refine Au Ay 3 [3,0] O (BH (BW (i:=3) O) (A1 (⟨O,_,_,⟨_,_,O,(BA (i:=3) BZ O O O),⟨_,_,O,O,O⟩⟩,(B8 (is:=[6]) O),?_⟩)));exact⟨⟨_,_⟩,DH hC1.symm,O,O⟩
  simp only[sd,se] at c2;have hcb:¬(w.var<0∨w.var≥(us.length:Int)):=by simpa using c2
  have hWl:=hW.len;have hLl:=hL.len;refine A2 (Aw (Ax Ay 2 [] O (Aq O (A0 (i:=0) DM O O (DE _)) (M8 (i:=1) O Aa fun b hb=>?_))));subst hb;refine Aq O (C0 Sf O O An AH) ?_;obtain⟨y,hy⟩:=A6 (l:=pl) (i:=(w.var:Int).toNat) AP;refine Aq O (Ei (i:=1) tg O O (RM hy)) (BF O (A7 XU O) fun b14=>Ar Ay 1 [0,1] O (Aw (Ax Ay 3 [] O (Aq O (A0 (i:=1) DM O O (DE _)) (M8 (i:=3) O Aa fun b1 hb1=>?_)))));subst hb1;refine Aq O (C0 Bf O O An AH) ?_;obtain⟨y1,hy1⟩:=A6 (l:=us) (i:=(w.var:Int).toNat) AP;refine Aq O (Ei (i:=3) BZ O O (Bd hy1)) (Aq O (CE [7] O (.inl ⟨O,O,O⟩) (RG m ds s y1 h2.g (hL.ok _ (List.mem_of_getElem? hy1))) ⟨_,_,O,O,O⟩ Am O (.inl O)) (Ax Ay 5 [] O (BF O (A7 Jw O) fun b15=>Ar Ay 4 [0,1] O (As (Au Ay 2 [] O (Av O (fun c3=>?_) (fun c3=>?_)))))))
  ·simp only[sd,se] at c3;have hcn:=Ob c3;obtain⟨ha1,ha2,ha3,ha4⟩:=hW.at_ hy1 hy;obtain⟨ya,hya⟩:=A6 ha4;refine Aw (Ax Ay 3 [] O (Aq O (A0 (i:=2) DM O O (DE _)) (Aq O (C0 Bf O O An AH) ?_)));obtain⟨y2,hy2⟩:=A6 (l:=us) (i:=(w.var:Int).toNat) AP;refine Aq O (Ei (i:=4) BZ O O (Bd hy2)) ?_;have hyy:y2=y1:=Option.some.inj (hy2.symm.trans hy1);rw[iM hk1 hcb hy2 hy (by rw[hyy];exact hcn)] at hC1;have hn0:=hns;rw[←hC1] at hn0;have hn1:=J2 hn0;refine Dm [8] O O O (.inl ⟨O,O,O⟩) (hT m y2 s h3 hn1) ⟨_,_,O,O,O⟩ Am (aw (we O) (aw (we O) (E0))) (fun _ _ h=>(congrArg List.length h).trans O) ?_ ?_
   rotate_left
   ·intro e _ he;exact⟨O,_,List.nil_sublist _,⟨_,by rw[←hC1];exact Kz hn0 he,rfl⟩⟩
   rintro⟨q,n2⟩ _ hz rfl;rw[Mw hz] at hC1;refine Ax Ay 3 [] O (BF O (A7 Bx O) fun b19=>Ar Ay 2 [0,1] O (As (Au Ay 2 [] O (Av O (fun c4=>?_) (fun c4=>?_)))))
   ·simp only[sd,se] at c4;rw[df c4] at hC1;refine Au Ay 3 [6,0] O (BH (BW (i:=6) O) (A1 (⟨O,_,_,⟨_,_,O,(BA (i:=6) BZ O O O),⟨_,_,O,O,O⟩⟩,(B8 (is:=[9]) O),?_⟩)));exact⟨⟨_,_⟩,DH hC1.symm,O,O⟩
   simp only[sd,se] at c4;obtain⟨z1,hz1,hz2⟩:=ey (by rw[hC1];exact hns) c4 hya;rw[hz2] at hC1;refine A2 (Aw (Br O (Nx O O O (.inl ⟨O,O,O⟩) (KW a h8) (.inl O) fun o4 cp4=>Ar Ay 1 [] O (As (MU (i:=0) O Aa fun b2 hb2=>?_)))));subst hb2;refine Bt (fun k=>false) Dn (BR Ay 6 [3,3] O (BG O (fun _=>C0 Bf O O An AH) Ap ?_));obtain⟨y3,hy3⟩:=A6 (l:=a) (i:=(y.1:Int).toNat) AP;refine CV (j:=0) O O O (fun H i hi=>Ei (i:=i) BZ O hi (Bd hy3)) AB Ap (BR Ay 3 [3,1] O ?_);have hyy:=Option.some.inj (hy3.symm.trans hya);refine BG O (fun _=>BC O O (lD y.2.length y.2 y3 (q.getD Bh) z1 (Nat.le_refl _) (h9 _ (List.mem_of_getElem? hy3)) ha2 An (by rw[hyy];exact hz1)) O) Ap (BG O (fun _=>C0 Bf O O An AH) Ap (GX O O (EH (i:=0) (j:=((y.1:Int).toNat)) BZ O O O AN O (Ko _) (BD _) (FX _) (U9 a ((y.1:Int).toNat) z1)) AB Ap (Je O Aj (Aw (Ax Ay 2 [9] O (B4 (DA (t:=91) (x:= .vs (some b2) (BE ((a).set ((y.1:Int).toNat) z1)).length cp4) (DI a (l':=(a).set ((y.1:Int).toNat) z1) Ao)) (B4 (DA (t:=21) (x:= .vs (some b2) (BE ((a).set ((y.1:Int).toNat) z1)).length cp4) (DI a (l':=(a).set ((y.1:Int).toNat) z1) Ao)) ?_)))))));refine B4 (DA (t:=92) (x:= .vs (some b2) (BE ((a).set ((y.1:Int).toNat) z1)).length cp4) (DI a (l':=(a).set ((y.1:Int).toNat) z1) Ao)) (B4 (DA (t:=95) (x:= .vs (some b2) (BE ((a).set ((y.1:Int).toNat) z1)).length cp4) (DI a (l':=(a).set ((y.1:Int).toNat) z1) Ao)) (B4 (DA (t:=106) (x:= .vs (some b2) (BE ((a).set ((y.1:Int).toNat) z1)).length cp4) (DI a (l':=(a).set ((y.1:Int).toNat) z1) Ao)) (B4 (Ck (i:=0) [91,21,92,95,106] O (D5 ⟨O,O,O,O,O,Ap⟩)) (Aq O (BC O O (EK (.mk gk gi gn gl gs:Tm) ((a).set ((y.1:Int).toNat) z1) AT) O) (Ar Ay 2 [6,1] O (A1 (⟨O,_,_,⟨_,_,O,(BA (i:=6) BZ O O Ag),⟨_,_,O,O,O⟩⟩,(B8 (is:=[9]) O),?_⟩)))))));exact⟨⟨_,_⟩,DH hC1.symm,O,O⟩
  simp only[sd,se] at c3;obtain⟨ha1,ha2,ha3,ha4⟩:=hW.at_ hy1 hy;have hcs:=M0 c3;have hcf:=Eo hcs;have hlo:=hcf.lo;have hhi:=hcf.hi;have hfl:=Io h2.g hcs;have hdf:=(h2.g.all _ hcf.mem).fx;refine A2 (As (As (Bt (fun k=>false) Dn (BR Ay 2 [2] O (CV (j:=0) O O O (fun H i hi=>A0 (i:=i) H4 O hi (CC _)) AB Ap (BG O (fun _=>Ba O) Ap ?_))))));obtain⟨x,hx⟩:=A6 (l:=((CL ds y1).1).ctors) (i:=((CL ds y1).2.1:Int).toNat) An;refine BG O (fun _=>A4 Hc O O An (Em hx) (EE _)) Ap (BG O (fun _=>B1 Jh O O) Ap (BG O (fun _=>DB MI O (Fg _)) Ap (BG O (fun _=>BC O O (Tx w x.name hL.tin.bl) O) Ap (Bk Ay 5 [2,1] O (Au Ay 2 [] O (Av O (fun c4=>?_) (fun c4=>?_)))))))
  ·simp only[sd,se] at c4;rw[oB hk1 hcb hy1 hy hcs (by rw[Df,B6 hx];exact Wq c4)] at hC1;refine Au Ay 3 [5,0] O (BH (BW (i:=5) O) (A1 (⟨O,_,_,⟨_,_,O,(BA (i:=5) BZ O O O),⟨_,_,O,O,O⟩⟩,(B8 (is:=[8]) O),?_⟩)));exact⟨⟨_,_⟩,DH hC1.symm,O,O⟩
  simp only[sd,se] at c4;have hbs:=W5 c4;rw[oP hk1 hcb hy1 hy hcs (by rw[Df,B6 hx];exact hbs)] at hC1;refine A2 (Aw (Br O (Aq O (BJ Bf O (BQ _)) (Ar Ay 1 [] O (A9 ?_)))));refine Bc (α:=Nat×Option Nat×Nat×Option Nat×Nat) (fun(i,o4,cp4,o5,cp5)=>⟨169,mk [(0,.ptr m 0),(3,.p (.lst (BE a))),(5,.ptr b5 0),(6,.ptr b6 0),(8,.ptr b8 0),(10,.vs o4 (BE (us++(CL ds y1).2.2.1.take i)).length cp4),(11,.vs o5 (List.map FJ (pl++Ed y (CL ds y1).1.fixed i)).length cp5),(13,.ptr b13 0),(14,.ptr b14 0),(15,.ptr b15 0),(122,.p (.lst (BE ((CL ds y1).2.2.1)))),(123,.p (I (((CL ds y1).2.2.1).length:Nat))),(124,.p (I (i:Int)))],[.box b15 ((Bi ((CL ds y1).1)).map .p),.box b14 ((FJ y).map .p),.box b13 ((Cz ((e9 x.name w.branches).1)).map .p),.vec o5 2 (List.map FJ (pl++Ed y (CL ds y1).1.fixed i)) cp5,.vec o4 5 (BE (us++(CL ds y1).2.2.1.take i)) cp4,.box b8 [.p (I 0),.p (I 0),.p (.str ⟨#[]⟩),.p (.nils),.p (.nils)],.box b6 ((FH f).map .p),.box b5 [.p (I gk),.p (I gi),.p (.str gn),.p (.lst (List.map By gl)),.p (.lst (BE gs))],.box m [.p (.lst (List.map Bi ds)),.p (I s)]],[]⟩) (fun(i,o4,cp4,o5,cp5)=>(CL ds y1).2.2.1.length - i) (fun(i,o4,cp4,o5,cp5)=>i≤(CL ds y1).2.2.1.length) ⟨0,(some b1),cp2,(some b),cp3⟩ AQ ?_ ?_
  ·exact BS ⟨we O,we O,we O,we O,we O,we (Mb us Ao),we (Gb (f:=FJ) pl (by simp[PL])),we O,we O,we O,we O,we O,we O,Ap⟩ (leH (is:=[0,1,2,3,4,5,6,7,8]) O (wl (oe O) (wl (oe O) (wl (oe O) (wl (Fl (f:=FJ) pl (by simp[PL])) (wl (KK us Ao) (wl (oe O) (wl (oe O) (wl (oe O) (wl (oe O) (C2)))))))))))
  rintro⟨i,o4,cp4,o5,cp5⟩ hC2
  try simp only at hC2
  have hi:=hC2;refine Au Ay 1 [] O (As (Av O (fun c5=>?_) (fun c5=>?_)))
  ·simp only[sd,se] at c5;refine A2 (As (A9 (Aw (Br O ?_))));obtain⟨x1,hx1⟩:=A6 (l:=(CL ds y1).2.2.1) (i:=i) An;refine Aq O (A4 Bf O O An (Bd hx1) (BD _)) (Aq O (BM BZ O (BD _)) (BF O (A7 Bx O) fun b23=>Ar Ay 2 [0,1] O (Aw (Ax Ay 2 [0] O ?_))));obtain⟨x1k,x1i,x1n,x1l,x1s⟩:=x1;refine Aq O (Bl Bf Bx O O O O O) (FP O O (CR (i:=5) (rows':=BE [(.mk x1k x1i x1n x1l x1s:Tm)]) Bf Bf Bx O O O O O O (Bv _) (by have:=hL.len;have:=hW.len;simp only[BQ,RB,K3,List.length_take,List.length_map,List.length_cons,List.length_nil,List.length_append];omega) (Kc (us++(CL ds y1).2.2.1.take i) [(.mk x1k x1i x1n x1l x1s:Tm)])) fun o6 cp6=>Ar Ay 1 [] O (Bt (fun k=>Nat.beq k 5||Nat.beq k 14) Dn (BR Ay 5 [2,2] O ?_)));refine ny [(6,.free (.ptr b15 13)),(7,.read [.box b15 ((Bi ((CL ds y1).1)).map .p)] (.p (I (((CL ds y1).1).fixed)))),(8,.free (.p (I (i:Int)))),(9,.free (.p (I ((((CL ds y1).1).fixed:Int)+((i:Int):Int))))),(10,.free (.p (.lst (List.map G0 [((((CL ds y1).1).fixed:Int)+((i:Int):Int))]))))] O O O (.inl ⟨O,O,O⟩) (jC y.2 An) (.inl O) Aj fun o7 cp7=>⟨AB,Ap,?_⟩;refine BR Ay 1 [] O (CV (j:=2) O O O (fun H i hi=>A0 (i:=i) DM O hi (Cr _)) AB AO (BR Ay 2 [] O (BG O (fun _=>Bl Hr ki O O O O O) AO (GX O O (Xv (i:=0) (rows':=List.map G0 [((((CL ds y1).1).fixed:Int)+((i:Int):Int))]) Hr Hr ki O O O O O O (QE _) (by have:=hL.len;have:=hW.len;simp only[BQ,RB,K3,List.length_take,List.length_map,List.length_cons,List.length_nil,List.length_append];omega) (GP (f:=G0) y.2 [((((CL ds y1).1).fixed:Int)+((i:Int):Int))])) AB AO (BR Ay 1 [] O (BG O (fun _=>Bl Sf XU O O O O O) AO ?_))))));refine K5 [] O O (CR (i:=4) (rows':=List.map FJ ([(y.1,(y.2++[((((CL ds y1).1).fixed:Int)+((i:Int):Int))]))])) Sf Sf XU O O O O O O (UQ _) (by have:=hL.len;have:=hW.len;simp only[BQ,RB,K3,List.length_take,List.length_map,List.length_cons,List.length_nil,List.length_append];omega) (GP (f:=FJ) (pl++Ed y (CL ds y1).1.fixed i) ([(y.1,(y.2++[((((CL ds y1).1).fixed:Int)+((i:Int):Int))]))]))) Aj fun o8 cp8=>⟨AB,AO,?_⟩;refine Bk Ay 1 [] O (A3 (Ar Ay 2 [] O ?_))
   refine⟨⟨i+1,o6,cp6,o8,cp8⟩,AW,by omega,BS ⟨we rfl,we rfl,we rfl,we rfl,we rfl,we (Mb (us++(CL ds y1).2.2.1.take i++[(.mk x1k x1i x1n x1l x1s:Tm)]) (by rw[S0 hx1,List.append_assoc])),we (Gb (f:=FJ) (pl++Ed y (CL ds y1).1.fixed i++([(y.1,(y.2++[((((CL ds y1).1).fixed:Int)+((i:Int):Int))]))])) (by rw[O9,List.append_assoc])),we rfl,we rfl,we rfl,we rfl,we rfl,we rfl,trivial⟩ (leH (is:=[1,2,3,4,5,6,7,8,9]) rfl (wl (oe rfl) (wl (oe rfl) (wl (oe rfl) (wl (Fl (f:=FJ) (pl++Ed y (CL ds y1).1.fixed i++([(y.1,(y.2++[((((CL ds y1).1).fixed:Int)+((i:Int):Int))]))])) (by rw[O9,List.append_assoc])) (wl (KK (us++(CL ds y1).2.2.1.take i++[(.mk x1k x1i x1n x1l x1s:Tm)]) (by rw[S0 hx1,List.append_assoc])) (wl (oe rfl) (wl (oe rfl) (wl (oe rfl) (wl (oe rfl) (C2)))))))))))⟩
  simp only[sd,se] at c5;refine Be ?_;refine⟨⟨k1,(e9 x.name w.branches).1,us++(CL ds y1).2.2.1,pl++Ed y (CL ds y1).1.fixed (CL ds y1).2.2.1.length,o4,cp4,o5,cp5⟩,AW,⟨hC1,hL.next h2.g (hL.ok _ (List.mem_of_getElem? hy1)) hcs hbs,hW.next h2.g hy1 hy hcs hbs hL.tok⟩,BS ⟨we O,we O,we O,we O,we O,we (Mb (us++(CL ds y1).2.2.1.take i) (by rw[W6 An])),we (Gb (f:=FJ) (pl++Ed y (CL ds y1).1.fixed i) (by rw[show i=(CL ds y1).2.2.1.length from by omega])),we O,Ap⟩ (leH (is:=[2,3,4,5,6,7,8]) O (wl (oe O) (wl (Fl (f:=FJ) (pl++Ed y (CL ds y1).1.fixed i) (by rw[show i=(CL ds y1).2.2.1.length from by omega])) (wl (KK (us++(CL ds y1).2.2.1.take i) (by rw[W6 An])) (wl (oe O) (wl (oe O) (wl (oe O) (wl (oe O) (C2)))))))))⟩
 simp only[sd,se] at c1;have hk1:=c1;have hLl:=hL.len;rw[j2 hk1] at hC1;refine Be (Aw (Aq O (Az FG O O) (Aq O (Bw (i:=0) BZ O O (E2 _) (BD _)) (Ax Ay 2 [5] O (Aq O (BC O O (Mt w.body gl (B2.1 (LD hL.tok)).nd (B2.1 (LD hL.tok)).vp (by have:=FC (LD hL.tok);omega) hgl.2.1 hgl.2.2.1) O) (Ax Ay 3 [] O (BF O (A7 Bx O) fun b24=>Ar Ay 2 [0,1] O (As (Au Ay 2 [] O (Av O (fun c2=>?_) (fun c2=>?_)))))))))))
 ·simp only[sd,se] at c2;rw[Ig (h:=(.mk gk gi gn gl gs:Tm)) c2] at hC1;refine Au Ay 3 [4,0] O (BH (BW (i:=4) O) (A1 (⟨O,_,_,⟨_,_,O,(BA (i:=4) BZ O O O),⟨_,_,O,O,O⟩⟩,(B8 (is:=[7]) O),?_⟩)));exact⟨⟨_,_⟩,DH hC1.symm,O,O⟩
 simp only[sd,se] at c2;obtain⟨hb1,hb2,hb3,hb4⟩:=RF (by rw[hC1];exact hns) c2;rw[hb4] at hC1;have hn3:=hns;rw[←hC1] at hn3;refine A2 (As (BH (Ck (i:=3) [10] O (D5 ⟨O,Ap⟩)) ?_));obtain⟨e,he⟩ | ⟨⟨z,n2⟩,hz⟩:=Fy (Ja s (CD ((BY w.body gl).1) us.reverse 0))
 ·refine JD ((fun _=> .p (.iface 122 .unit)) e) 3 [.val (.ptr m 0),.val (.agg ((BP ((BY w.body gl).1)).map .p)),.val (.p (.lst (BE us))),.val (.p .any),.val (.p (.lst (BE a))),.val (.ptr b6 (0+6)),.val (.p (I f.arity)),.val (.p (.lst (BE (a.drop ((f.arity:Int).toNat))))),.val (.p .any),.val (.p .any),.val (.p .any)] Dn O Aj O Ap (fun _ _=>by exact⟨rfl,_,List.nil_sublist _,⟨_,by rw[←hC1];exact LQ hn3 he,rfl⟩⟩) ?_;exact CA O O (fun Bs=>Ba O) (CA O O (fun Bs=>BU (i:=Bs.length+0) BZ O (CX O) Ag) (CA O O (fun Bs=>Ba O) (LX (mkp:=(fun _=> .p (.iface 122 .unit))) (e:=e) [6] he O O (.inl ⟨O,O,O⟩) (RU m ds s ((BY w.body gl).1) us h3 hb1 hb2 An) ⟨_,_,O,O,O⟩ Am (aw (we O) (aw (we O) (aw (we O) (E0)))) (CA O O (fun Bs=>Ba O) (CA O O (fun Bs=>Az HE O O) (CA O O (fun Bs=>A0 (i:=Bs.length+4) DM O (CX O) (CU _)) (CA O O (fun Bs=>CZ (lo:=(f.arity:Int).toNat) Bf O (CG (Bv _)) ⟨_,pI An⟩ O AR (Nat.le_refl _) (J0 a ((f.arity:Int).toNat))) (DD O O Aj (DD O O Aj (DD O O Aj LF))))))))))
 rw[LU hn3 hz] at hC1;refine IU [.box b24 ((BP ((BY w.body gl).1)).map .p),.box b13 ((Cz w).map .p),.vec o3 2 (List.map FJ pl) cp3,.box b8 [.p (I 0),.p (I 0),.p (.str ⟨#[]⟩),.p (.nils),.p (.nils)],.box b6 ((FH f).map .p),.box b5 [.p (I gk),.p (I gi),.p (.str gn),.p (.lst (List.map By gl)),.p (.lst (BE gs))],.box m [.p (.lst (List.map Bi ds)),.p (I n2)]] 3 [.val (.ptr m 0),.val (.agg ((BP ((BY w.body gl).1)).map .p)),.val (.p (.lst (BE us))),.val (.agg ((BP z).map .p)),.val (.p (.lst (BE a))),.val (.ptr b6 (0+6)),.val (.p (I f.arity)),.val (.p (.lst (BE (a.drop ((f.arity:Int).toNat))))),.val (.agg ((BP (apply z (a.drop ((f.arity:Int).toNat)))).map .p))] [.p .any,.p (.bool true)] [] Dn O Aj Aj Aj O (Bj O O (fun Bs=>Ba O) ?_);refine F7 O O O (fun Bs=>BU (i:=Bs.length+0) BZ O (CX O) Ag) (fun _ Bs=>BU (i:=Bs.length+0) BZ O (CX O) Ag) (Bj O O (fun Bs=>Ba O) (KS O O (fun Bs=>G2 [6] O (.inl ⟨O,O,O⟩) (Lj hz (RU m ds s ((BY w.body gl).1) us h3 hb1 hb2 An)) ⟨_,_,O,O,O⟩ Am O (aw (we O) (aw (we O) (aw (we O) (E0))))) (Bj O O (fun Bs=>Ba O) (Bj O O (fun Bs=>Az HE O O) (F7 O O O (fun Bs=>A0 (i:=Bs.length+4) DM O (CX O) (CU _)) (fun _ Bs=>A0 (i:=Bs.length+4) DM O (CX O) (CU _)) (Bj O O (fun Bs=>CZ (lo:=(f.arity:Int).toNat) Bf O (CG (Bv _)) ⟨_,pI An⟩ O AR (Nat.le_refl _) (J0 a ((f.arity:Int).toNat))) (Bj O O (fun Bs=>BC O O (EK z (a.drop ((f.arity:Int).toNat)) AS) O) ?_)))))));refine Hk (Dq [.box b24 ((BP ((BY w.body gl).1)).map .p),.box b13 ((Cz w).map .p),.vec o3 2 (List.map FJ pl) cp3,.box b8 ((BP (apply z (a.drop ((f.arity:Int).toNat)))).map .p),.box b6 ((FH f).map .p),.box b5 [.p (I gk),.p (I gi),.p (.str gn),.p (.lst (List.map By gl)),.p (.lst (BE gs))],.box m [.p (.lst (List.map Bi ds)),.p (I n2)]] O (Cc (i:=3) BZ O O O Ag AY (FX _)) (Dq [.box b24 ((BP ((BY w.body gl).1)).map .p),.box b13 ((Cz w).map .p),.vec o3 2 (List.map FJ pl) cp3,.box b8 ((BP (apply z (a.drop ((f.arity:Int).toNat)))).map .p),.box b6 ((FH f).map .p),.box b5 [.p (I gk),.p (I gi),.p (.str gn),.p (.lst (List.map By gl)),.p (.lst (BE gs))],.box m [.p (.lst (List.map Bi ds)),.p (I n2)]] O (EC O) (Jb (A1 ?_))));refine⟨O,_,_,⟨_,_,O,(BA (i:=3) BZ O O Ag),⟨_,_,O,O,O⟩⟩,(B8 (is:=[6]) O),?_⟩;exact⟨⟨_,_⟩,DH hC1.symm,O,O⟩
end Go.Proofs.YtboammbpdaoojaaGreat
namespace Go.Eu
open Go.Abs
def Js (E:List B5) {σ:Type}(S:Sys σ) (n:Nat) (h:Tm) (a:List Tm) (s:σ):Out (Option Tm×σ):=match Gf E h with
 | none=> .ok (none,s)
 | some x =>
  if x.kind=1 then Eg S (Bo E x.decl) h a s
  else if x.kind=5∧(a.length:Int) > CB (Bo E x.decl) then match C8 E (a.getD (CB (Bo E x.decl)).toNat default) with
   | some _=>Es E S (Bo E x.decl) h a (a.getD (CB (Bo E x.decl)).toNat default) s
   | none=>(Dl E S n s (a.getD (CB (Bo E x.decl)).toNat default)).bind fun r=>match r.1 with
    | none=> .ok (none,r.2)
    | some y=> .ok (some (apply h (a.set (CB (Bo E x.decl)).toNat y)),r.2)
  else if x.kind=6∧(a.length:Int)≥(EX (Bo E x.decl) x.item).arity then
   Ix E S (Dl E S n) h (EX (Bo E x.decl) x.item).arity a n (EX (Bo E x.decl) x.item).tree (a.take (EX (Bo E x.decl) x.item).arity.toNat) (VR (EX (Bo E x.decl) x.item).arity.toNat) s
  else .ok (none,s)
section
variable {E:List B5}{σ:Type}{S:Sys σ}{n:Nat}{h:Tm}{a:List Tm}{s:σ}{d:B5}{x:Tm}
def pV (h:Tm) (a:List Tm) (k:Nat) (r:Option Tm×σ):Out (Option Tm×σ):=match r.1 with
 | none=> .ok (none,r.2)
 | some y=> .ok (some (apply h (a.set k y)),r.2)
theorem nt {k:Nat}{r:Option Tm×σ}(hr:r.1.isSome=false):pV h a k r= .ok (none,r.2):=by
 obtain⟨q,s⟩:=r;cases q with
 | none=>rfl
 | some x=>cases hr
theorem pb {k:Nat}{r:Option Tm×σ}(hr:r.1.isSome=true):pV h a k r= .ok (some (apply h (a.set k (r.1.getD Bh))),r.2):=by
 obtain⟨q,s⟩:=r;cases q with
 | none=>cases hr
 | some x=>rfl
theorem jk (hu:Tl E h=false):Js E S n h a s= .ok (none,s):=by
 unfold Js;rw[C3,hu];simp
section
variable (hu:Tl E h=true) (hd:E[(Bb E h.name).1.decl.toNat]?=some d)
include hu hd
theorem kU (hk:(Bb E h.name).1.kind=1):Js E S n h a s=Eg S d h a s:=by
 unfold Js;rw[C3,hu,if_pos rfl];simp only[if_pos hk,Bo,B6 hd]
theorem fU (hk:(Bb E h.name).1.kind=5) (hl:(a.length:Int)≤CB d):Js E S n h a s= .ok (none,s):=by
 unfold Js;rw[C3,hu,if_pos rfl];simp only[Bo,B6 hd];rw[if_neg An,if_neg An,if_neg An]
theorem jv (hk:(Bb E h.name).1.kind=5) (hl:¬(a.length:Int)≤CB d) (hx:a[(CB d).toNat]?=some x) {q:B5×Int×List Tm}(hc:C8 E x=some q):Js E S n h a s=Es E S d h a x s:=by
 unfold Js;rw[C3,hu,if_pos rfl];simp only[Bo,B6 hd];rw[if_neg An,if_pos ⟨hk,by omega⟩,B6 hx];simp only[hc]
theorem iF (hk:(Bb E h.name).1.kind=5) (hl:¬(a.length:Int)≤CB d) (hx:a[(CB d).toNat]?=some x) (hc:C8 E x=none):Js E S n h a s=(Dl E S n s x).bind (pV h a (CB d).toNat):=by
 unfold Js;rw[C3,hu,if_pos rfl];simp only[Bo,B6 hd];rw[if_neg An,if_pos ⟨hk,by omega⟩,B6 hx];simp only[hc];rfl
theorem lW {f:Hp}(hk:(Bb E h.name).1.kind=6) (hf:d.funs[(Bb E h.name).1.item.toNat]?=some f) (hl:f.arity≤(a.length:Int)):Js E S n h a s=Ix E S (Dl E S n) h f.arity a n f.tree (a.take f.arity.toNat) (VR f.arity.toNat) s:=by
 unfold Js;rw[C3,hu,if_pos rfl];simp only[Bo,B6 hd,EX,B6 hf];rw[if_neg An,if_neg An,if_pos ⟨hk,by omega⟩]
theorem iJ {f:Hp}(hk:(Bb E h.name).1.kind=6) (hf:d.funs[(Bb E h.name).1.item.toNat]?=some f) (hl:¬f.arity≤(a.length:Int)):Js E S n h a s= .ok (none,s):=by
 unfold Js;rw[C3,hu,if_pos rfl];simp only[Bo,B6 hd,EX,B6 hf];rw[if_neg An,if_neg An,if_neg An]
omit hd
theorem nr (h1:(Bb E h.name).1.kind≠1) (h5:(Bb E h.name).1.kind≠5) (h6:(Bb E h.name).1.kind≠6):Js E S n h a s= .ok (none,s):=by
 unfold Js;rw[C3,hu,if_pos rfl];simp only;rw[if_neg h1,if_neg An,if_neg An]
end
end
section
variable {E:List B5}{σ:Type}{S:Sys σ}{n:Nat}{t:Tm}{s:σ}{X:Out (Option Tm×σ)}
theorem gg (h:Dl E S n s t=X) (hX:X≠ .stuck):∃k,n=k+1:=by
 cases n with
 | zero=>rw[Dl] at h;exact absurd h.symm hX
 | succ k=>exact⟨k,rfl⟩
theorem aG (h:Dl E S (n+1) s t=X) (hX:X≠ .stuck):okB t=true:=by
 rw[Dl] at h;split at h
 ·exact absurd h.symm hX
 rename_i hc;simpa using hc
section
variable (ho:okB t=true)
include ho
theorem X0 (hk:(A8 t).1.kind=5) (hl:(A8 t).2.length=0):Dl E S (n+1) s t= .ok (none,s):=by
 rw[Dl,if_neg (by simp[ho]),if_pos hk,if_pos hl]
theorem bS {b:Tm}(hk:(A8 t).1.kind=5) (hl:(A8 t).2.length≠0) (hb:(A8 t).1.kids[1]?=some b) :
  Dl E S (n+1) s t=S.put s (CD b ((A8 t).2.take 1) 0) fun x s'=> .ok (some (apply x ((A8 t).2.drop 1)),s'):=by
 rw[Dl,if_neg (by simp[ho]),if_pos hk,if_neg hl,PJ,hb]
theorem cE {v b:Tm}(hk:(A8 t).1.kind=11) (hv:(A8 t).1.kids[1]?=some v) (hb:(A8 t).1.kids[2]?=some b) :
  Dl E S (n+1) s t=S.put s (CD b [v] 0) fun x s'=> .ok (some (apply x (A8 t).2),s'):=by
 rw[Dl,if_neg (by simp[ho]),if_neg An,if_pos hk,Vq,hv,hb]
def kB (h:Tm) (a:List Tm) (r:Option Tm×σ):Out (Option Tm×σ):=match r.1 with
 | none=> .ok (none,r.2)
 | some x=> .ok (some (apply (Hn h.kind x) a),r.2)
theorem X2 {p q:Tm}(hk:(A8 t).1.kind=9∨(A8 t).1.kind=10) (hp:(A8 t).1.kids[0]?=some p) (h8:p.kind=8) (hq:p.kids[(1+(A8 t).1.kind - 9).toNat]?=some q) :
  Dl E S (n+1) s t=S.put s (q,0) fun x s'=> .ok (some (apply x (A8 t).2),s'):=by
 rw[Dl,if_neg (by simp[ho]),if_neg An,if_neg An,if_pos hk,hp];simp only;rw[if_pos h8,NP,hq]
theorem Wo {p:Tm}(hk:(A8 t).1.kind=9∨(A8 t).1.kind=10) (hp:(A8 t).1.kids[0]?=some p) (h8:p.kind≠8) :
  Dl E S (n+1) s t=(Dl E S n s p).bind (kB (A8 t).1 (A8 t).2):=by
 rw[Dl,if_neg (by simp[ho]),if_neg An,if_neg An,if_pos hk,hp];simp only;rw[if_neg h8];rfl
theorem UI (hk:(A8 t).1.kind=3):Dl E S (n+1) s t=Js E S n (A8 t).1 (A8 t).2 s:=by
 rw[Dl,if_neg (by simp[ho]),if_neg An,if_neg An,if_neg An,if_pos hk];rfl
theorem fP (h1:(A8 t).1.kind≠5) (h2:(A8 t).1.kind≠11) (h3:(A8 t).1.kind≠9) (h4:(A8 t).1.kind≠10) (h5:(A8 t).1.kind≠3):Dl E S (n+1) s t= .ok (none,s):=by
 rw[Dl,if_neg (by simp[ho]),if_neg h1,if_neg h2,if_neg An,if_neg h5]
end
theorem oU {h:Tm}{a:List Tm}{r:Option Tm×σ}(hr:r.1.isSome=false):kB h a r= .ok (none,r.2):=by
 obtain⟨q,s⟩:=r;cases q with
 | none=>rfl
 | some x=>cases hr
theorem pC {h:Tm}{a:List Tm}{r:Option Tm×σ}(hr:r.1.isSome=true):kB h a r= .ok (some (apply (Hn h.kind (r.1.getD Bh)) a),r.2):=by
 obtain⟨q,s⟩:=r;cases q with
 | none=>cases hr
 | some x=>rfl
end
section
variable {E:List B5}{σ:Type}{S:Sys σ}{n:Nat}{t:Tm}{s:σ}{r:Tm×σ}{d:B5}{X:Out (Option Int×σ)}
noncomputable def X1 (E:List B5) (S:Sys σ) (n:Nat) (q:(Option (Tm×List Tm)×Tm)×σ):Out (Option Int×σ):=match q.1.1 with
 | some _=> .ok (none,q.2)
 | none=>if S.over q.2=false∧Od q.1.2 Bh=false then Ii E S n q.2 q.1.2 else .ok (none,q.2)
noncomputable def Jv (E:List B5) (S:Sys σ) (n:Nat) (r:Tm×σ):Out (Option Int×σ) :=
 if (A8 r.1).1.kind=12 then .ok (some (A8 r.1).1.index,r.2)
  else if (A8 r.1).1.kind=9∨(A8 r.1).1.kind=10 then match (A8 r.1).1.kids[0]? with
   | none=> .stuck
   | some p=>Ii E S n r.2 p
  else if (A8 r.1).1.kind=3 then match Gf E (A8 r.1).1 with
   | none=> .ok (none,r.2)
   | some x =>
    if S.over r.2=true then .ok (none,r.2)
    else if x.kind=5∧((A8 r.1).2.length:Int) > CB (Bo E x.decl) then Ii E S n r.2 ((A8 r.1).2.getD (CB (Bo E x.decl)).toNat default)
    else if x.kind=6∧((A8 r.1).2.length:Int)≥(EX (Bo E x.decl) x.item).arity then
     (Dp E S (DK E S n) n (EX (Bo E x.decl) x.item).tree ((A8 r.1).2.take (EX (Bo E x.decl) x.item).arity.toNat) Bh r.2).bind (X1 E S n)
    else .ok (none,r.2)
  else .ok (none,r.2)
theorem j7 (h:Ii E S n s t=X) (hX:X≠ .stuck):∃k,n=k+1:=by
 cases n with
 | zero=>rw[Ii] at h;exact absurd h.symm hX
 | succ k=>exact⟨k,rfl⟩
theorem Va:Ii E S (n+1) s t=(DK E S n s t).chk (Jv E S n):=by
 rw[Ii];rfl
theorem UF (hk:(A8 r.1).1.kind=12):Jv E S n r= .ok (some (A8 r.1).1.index,r.2):=by rw[Jv,if_pos hk]
theorem dW {p:Tm}(hk:(A8 r.1).1.kind=9∨(A8 r.1).1.kind=10) (hp:(A8 r.1).1.kids[0]?=some p):Jv E S n r=Ii E S n r.2 p:=by
 rw[Jv,if_neg An,if_pos hk,hp]
theorem mT (h1:(A8 r.1).1.kind≠12) (h2:(A8 r.1).1.kind≠9) (h3:(A8 r.1).1.kind≠10) (h4:(A8 r.1).1.kind≠3):Jv E S n r= .ok (none,r.2):=by
 rw[Jv,if_neg h1,if_neg An,if_neg h4]
theorem dS (hk:(A8 r.1).1.kind=3) (hu:Tl E (A8 r.1).1=false∨S.over r.2=true):Jv E S n r= .ok (none,r.2):=by
 rw[Jv,if_neg An,if_neg An,if_pos hk,C3];rcases hu with hu | hu
 ·rw[hu];simp
 split
 ·rfl
 rw[if_pos hu]
section
variable (hk:(A8 r.1).1.kind=3) (hu:Tl E (A8 r.1).1=true) (ho:S.over r.2=false) (hd:E[(Bb E (A8 r.1).1.name).1.decl.toNat]?=some d)
include hk hu ho
theorem S7 (h5:(Bb E (A8 r.1).1.name).1.kind≠5) (h6:(Bb E (A8 r.1).1.name).1.kind≠6):Jv E S n r= .ok (none,r.2):=by
 rw[Jv,if_neg An,if_neg An,if_pos hk,C3,hu,if_pos rfl];simp only;rw[if_neg (by simp[ho]),if_neg An,if_neg An]
include hd
theorem eE (h5:(Bb E (A8 r.1).1.name).1.kind=5) (hl:((A8 r.1).2.length:Int)≤CB d):Jv E S n r= .ok (none,r.2):=by
 rw[Jv,if_neg An,if_neg An,if_pos hk,C3,hu,if_pos rfl];simp only[Bo,B6 hd];rw[if_neg (by simp[ho]),if_neg An,if_neg An]
theorem iv {x:Tm}(h5:(Bb E (A8 r.1).1.name).1.kind=5) (hl:CB d<((A8 r.1).2.length:Int)) (hx:(A8 r.1).2[(CB d).toNat]?=some x):Jv E S n r=Ii E S n r.2 x:=by
 rw[Jv,if_neg An,if_neg An,if_pos hk,C3,hu,if_pos rfl];simp only[Bo,B6 hd];rw[if_neg (by simp[ho]),if_pos ⟨h5,by omega⟩,B6 hx]
theorem ca {f:Hp}(h6:(Bb E (A8 r.1).1.name).1.kind=6) (hf:d.funs[(Bb E (A8 r.1).1.name).1.item.toNat]?=some f) (hl:¬f.arity≤((A8 r.1).2.length:Int)):Jv E S n r= .ok (none,r.2):=by
 rw[Jv,if_neg An,if_neg An,if_pos hk,C3,hu,if_pos rfl];simp only[Bo,B6 hd,EX,B6 hf];rw[if_neg (by simp[ho]),if_neg An,if_neg An]
theorem XJ {f:Hp}(h6:(Bb E (A8 r.1).1.name).1.kind=6) (hf:d.funs[(Bb E (A8 r.1).1.name).1.item.toNat]?=some f) (hl:f.arity≤((A8 r.1).2.length:Int)):Jv E S n r=(Dp E S (DK E S n) n f.tree ((A8 r.1).2.take f.arity.toNat) Bh r.2).bind (X1 E S n):=by
 rw[Jv,if_neg An,if_neg An,if_pos hk,C3,hu,if_pos rfl];simp only[Bo,B6 hd,EX,B6 hf];rw[if_neg (by simp[ho]),if_neg An,if_pos ⟨h6,by omega⟩]
end
theorem dX {q:(Option (Tm×List Tm)×Tm)×σ}(h:q.1.1.isSome=true∨S.over q.2=true∨Od q.1.2 Bh=true):X1 E S n q= .ok (none,q.2):=by
 obtain⟨⟨o,l⟩,s⟩:=q;unfold X1;cases o with
 | some x=>rfl
 | none =>
  simp only at h ⊢;rw[if_neg];rintro⟨h1,h2⟩;rcases h with h | h | h
  ·cases h
  ·rw[h1] at h;cases h
  rw[h2] at h;cases h
theorem bp {q:(Option (Tm×List Tm)×Tm)×σ}(h1:q.1.1.isSome=false) (h2:S.over q.2=false) (h3:Od q.1.2 Bh=false):X1 E S n q=Ii E S n q.2 q.1.2:=by
 obtain⟨⟨o,l⟩,s⟩:=q;unfold X1;cases o with
 | some x=>cases h1
 | none=>simp only at h2 h3 ⊢;rw[if_pos ⟨h2,h3⟩]
end
section
variable {E:List B5}{σ:Type}{S:Sys σ}{n:Nat}{t:ES}{a:List Tm}{s:σ}
end
end Go.Eu
namespace Go.Proofs.YtboammbpdaoojaaGreat
open Go.Abs Go.Eu
set_option maxHeartbeats 4000000 in
theorem VV:∀(n m:Nat) (ds:List B5) (s:Int) (g:Tm) (a:List Tm),(wV ds n)→(Gi ds)→(Gl s)→(okB g=true)→(a.length<549755813888)→(∀y∈a,okB y=true)→(Js ds Bp n g a s≠ .stuck)→Bn Tryz.prog 81 [.ptr m 0,.agg ((BP g).map .p),.p (.lst (BE a))] [.box m [.p (.lst (List.map Bi ds)),.p (I s)]] (Lm (fun(r:Option Tm×Int)=> .tup [TV (r.1.getD Bh),.p (.bool r.1.isSome)]) (fun _=> .p (.iface 122 .unit)) (fun r H'=>H'=[.box m [.p (.lst (List.map Bi ds)),.p (I r.2)]]) ((Js ds Bp n g a s).ex)):=by
 intro n m ds s g a hT h2 h3 h4 h5 h6 hns;obtain⟨gk,gi,gn,gl,gs⟩:=g;have hgo:=B2.1 h4;have hgl:=hgo.nd;simp only[Nd,DY] at hgl;generalize hC:Js ds Bp n (.mk gk gi gn gl gs:Tm) a s=X at hns ⊢;refine A5 Tryz.func81 O uo (n:=122) O O (Aw (BF O (BN O) fun b4=>BF O (A7 Bx O) fun b6=>Ar Ay 1 [] O (Aw (Ax Ay 2 [1] O (Aq O (CE [2] O (.inl ⟨O,O,O⟩) (PZ m ds s (.mk gk gi gn gl gs:Tm) h2.g.env) ⟨_,_,O,O,O⟩ Am O (.inl O)) (Ax Ay 3 [] O (BF O (A7 IK O) fun b8=>Ar Ay 2 [0,1] O (As (Au Ay 2 [] O (Av O (fun c=>?_) (fun c=>?_)))))))))))
 ·simp only[sd,se] at c;rw[jk c] at hC;refine Au Ay 3 [1,0] O (BH (BW (i:=1) O) (A1 (⟨O,_,_,⟨_,_,O,(BA (i:=1) BZ O O O),⟨_,_,O,O,O⟩⟩,(B8 (is:=[3]) O),?_⟩)));exact⟨⟨_,_⟩,DH hC.symm,O,O⟩
 simp only[sd,se] at c;have hu:=c;obtain⟨ix,dd,e1,e2,e3,e4⟩:=JS hu;have hde:=e2.decl;have hdg:=h2.g.all _ e3;have hel:=h2.g.env.len;have hil:=(List.getElem?_eq_some_iff.1 e1).1;have hfx:=hdg.fx;have hnr:=Ih hdg;have hcl:=hdg.din.cl;have hfl:=hdg.din.fl;refine A2 (As (Bt (fun k=>Nat.beq k 8) Dn (BR Ay 5 [3] O (CV (j:=0) O O O (fun H i hi=>A0 (i:=i) DM O hi (DW _)) AB Ap (BG O (fun _=>A4 IF O O An (D8 e4) (Cp _)) Ap (BG O (fun _=>BM FZ O (Cp _)) Ap (HC [] O O (A7 Jw O) Aj fun b10=>⟨AB,Ap,?_⟩)))))));refine Bk Ay 1 [0,1] O (As (Aw (Aq O (Az GO O O) (Aq O (A0 (i:=1) DM O O (DV _)) (Bg O (A9 (Au Ay 2 [] O (Av O (fun c1=>?_) (fun c1=>?_)))))))))
 ·simp only[sd,se] at c1;have hk1:=c1;refine Aw (Ax Ay 4 [1,3] O ?_);rw[kU hu e4 hk1] at hC;refine Dm [4] O O O (.inl ⟨O,O,O⟩) (YJ m ds s ((Bb ds (.mk gk gi gn gl gs:Tm).name).1) (.mk gk gi gn gl gs:Tm) a dd h3 e4 An hdg h4 h5 (by rw[hC];exact hns)) ⟨_,_,O,O,O⟩ Am (aw (we O) (aw (we O) (aw (we O) (aw (we O) (E0))))) (fun _ _ h=>(congrArg List.length h).trans O) ?_ ?_
  rotate_left
  ·intro e _ he;exact⟨O,_,List.nil_sublist _,⟨_,by rw[←hC];exact he,rfl⟩⟩
  rintro⟨q,n2⟩ _ hz rfl;have hfin:=hz;refine Ar Ay 4 [2,1] O (A1 (⟨O,_,_,⟨_,_,O,(BA (i:=2) BZ O O Ag),⟨_,_,O,O,O⟩⟩,(B8 (is:=[4]) O),?_⟩));exact⟨⟨q,n2⟩,by rw[←hC];exact hfin,rfl,rfl⟩
 simp only[sd,se] at c1;have hk1:=c1;refine Au Ay 2 [] O (Av O (fun c2=>?_) (fun c2=>?_))
 ·simp only[sd,se] at c2;have hk5:=c2;refine Aw (Aq O (BU (i:=0) FZ O O Ad) (Aq O (BC O O (OB dd hdg.din hdg.fx) O) (Ar Ay 1 [] O (As (Aw (Br O (Aq O (BJ Bf O (BQ _)) (Ar Ay 2 [] O (Av O (fun c3=>?_) (fun c3=>?_))))))))))
  ·simp only[sd,se] at c3;rw[fU hu e4 hk5 An] at hC;refine Au Ay 3 [2,0] O (BH (BW (i:=2) O) (A1 (⟨O,_,_,⟨_,_,O,(BA (i:=2) BZ O O O),⟨_,_,O,O,O⟩⟩,(B8 (is:=[4]) O),?_⟩)));exact⟨⟨_,_⟩,DH hC.symm,O,O⟩
  simp only[sd,se] at c3;have hfew:¬(a.length:Int)≤CB dd:=by omega
  refine A2 (As (Aw (Ax Ay 3 [] O ?_)));obtain⟨x,hx⟩:=A6 (l:=a) (i:=(CB dd:Int).toNat) An;have hxo:=h6 _ (List.mem_of_getElem? hx);refine Aq O (A4 Bf O O An (Bd hx) (BD _)) (Aq O (BM BZ O (BD _)) (Aq O (CE [4] O (.inl ⟨O,O,O⟩) (RG m ds s x h2.g hxo) ⟨_,_,O,O,O⟩ Am O (.inl O)) (Ax Ay 5 [] O (BF O (A7 Jw O) fun b12=>Ar Ay 4 [0,1] O (Au Ay 1 [] O (Av O (fun c4=>?_) (fun c4=>?_)))))))
  ·have hcs:=M0 c4;rw[jv hu e4 hk5 hfew hx hcs] at hC;refine As ?_;obtain⟨e,he⟩ | ⟨⟨q,n2⟩,hz⟩:=Fy ((Es ds Bp dd (.mk gk gi gn gl gs:Tm) a x s).ex)
   ·refine JD ((fun _=> .p (.iface 122 .unit)) e) 8 [.val (.ptr m 0),.val (.agg ((Bi dd).map .p)),.val (.agg [.p (I gk),.p (I gi),.p (.str gn),.p (.lst (List.map By gl)),.p (.lst (BE gs))]),.val (.p (.lst (BE a))),.val (.p (.lst (BE a))),.val (.p (I (CB dd))),.val (.ref (BP x)),.val (.agg ((BP x).map .p)),.val (.p .any),.val (.p .any),.val (.p .any),.val (.p .any),.val (.p .any)] Dn O Aj O Ap (fun _ _=>by exact⟨rfl,_,List.nil_sublist _,⟨_,by rw[←hC];exact he,rfl⟩⟩) ?_;exact CA O O (fun Bs=>Ba O) (CA O O (fun Bs=>BU (i:=Bs.length+1) FZ O (CX O) Ad) (CA O O (fun Bs=>BU (i:=Bs.length+4) BZ O (CX O) O) (CA O O (fun Bs=>Ba O) (CA O O (fun Bs=>Ba O) (CA O O (fun Bs=>Ba O) (CA O O (fun Bs=>A4 Bf O O An (Bd hx) (BD _)) (CA O O (fun Bs=>BM BZ O (BD _)) (LX (mkp:=(fun _=> .p (.iface 122 .unit))) (e:=e) [5] he O O (.inl ⟨O,O,O⟩) (V8 m ds s dd (.mk gk gi gn gl gs:Tm) a x h3 h2.g hdg h4 h5 hxo An (by rw[hC];exact hns)) ⟨_,_,O,O,O⟩ Am (aw (we O) (aw (we O) (aw (we O) (aw (we O) (aw (we O) (E0)))))) (DD O O Aj (DD O O Aj (DD O O Aj (DD O O Aj LF))))))))))))
   have hfin:=hz;refine IU [.box b12 ((Bi ((CL ds x).1)).map .p),.box b10 ((Bi dd).map .p),.box b8 ((DS ((Bb ds (.mk gk gi gn gl gs:Tm).name).1)).map .p),.box b6 [.p (I 0),.p (I 0),.p (.str ⟨#[]⟩),.p (.nils),.p (.nils)],.box b4 [.p (I gk),.p (I gi),.p (.str gn),.p (.lst (List.map By gl)),.p (.lst (BE gs))],.box m [.p (.lst (List.map Bi ds)),.p (I n2)]] 8 [.val (.ptr m 0),.val (.agg ((Bi dd).map .p)),.val (.agg [.p (I gk),.p (I gi),.p (.str gn),.p (.lst (List.map By gl)),.p (.lst (BE gs))]),.val (.p (.lst (BE a))),.val (.p (.lst (BE a))),.val (.p (I (CB dd))),.val (.ref (BP x)),.val (.agg ((BP x).map .p)),.val (.tup [.agg ((BP (q.getD Bh)).map .p),.p (.bool q.isSome)]),.val (.agg ((BP (q.getD Bh)).map .p)),.val (.p (.bool q.isSome))] [.p .any,.p (.bool q.isSome)] [] Dn O Aj Aj Aj O (Bj O O (fun Bs=>Ba O) ?_);refine F7 O O O (fun Bs=>BU (i:=Bs.length+1) FZ O (CX O) Ad) (fun _ Bs=>BU (i:=Bs.length+1) FZ O (CX O) Ad) (F7 O O O (fun Bs=>BU (i:=Bs.length+4) BZ O (CX O) O) (fun _ Bs=>BU (i:=Bs.length+4) BZ O (CX O) O) (Bj O O (fun Bs=>Ba O) (Bj O O (fun Bs=>Ba O) (Bj O O (fun Bs=>Ba O) (Bj O O (fun Bs=>A4 Bf O O An (Bd hx) (BD _)) (Bj O O (fun Bs=>BM BZ O (BD _)) (KS O O (fun Bs=>G2 [5] O (.inl ⟨O,O,O⟩) (Lj hz (V8 m ds s dd (.mk gk gi gn gl gs:Tm) a x h3 h2.g hdg h4 h5 hxo An (by rw[hC];exact hns))) ⟨_,_,O,O,O⟩ Am O (aw (we O) (aw (we O) (aw (we O) (aw (we O) (aw (we O) (E0))))))) (Bj O O (fun Bs=>DN O O) (Bj O O (fun Bs=>DN O O) (Hk ?_))))))))));refine Dq [.box b12 ((Bi ((CL ds x).1)).map .p),.box b10 ((Bi dd).map .p),.box b8 ((DS ((Bb ds (.mk gk gi gn gl gs:Tm).name).1)).map .p),.box b6 ((BP (q.getD Bh)).map .p),.box b4 [.p (I gk),.p (I gi),.p (.str gn),.p (.lst (List.map By gl)),.p (.lst (BE gs))],.box m [.p (.lst (List.map Bi ds)),.p (I n2)]] O (Cc (i:=3) BZ O O O Ag AY (FX _)) (Dq [.box b12 ((Bi ((CL ds x).1)).map .p),.box b10 ((Bi dd).map .p),.box b8 ((DS ((Bb ds (.mk gk gi gn gl gs:Tm).name).1)).map .p),.box b6 ((BP (q.getD Bh)).map .p),.box b4 [.p (I gk),.p (I gi),.p (.str gn),.p (.lst (List.map By gl)),.p (.lst (BE gs))],.box m [.p (.lst (List.map Bi ds)),.p (I n2)]] O (EC O) (Jb (A1 (⟨O,_,_,⟨_,_,O,(BA (i:=3) BZ O O Ag),⟨_,_,O,O,O⟩⟩,(B8 (is:=[5]) O),?_⟩))));exact⟨⟨q,n2⟩,by rw[←hC];exact hfin,rfl,rfl⟩
  have hcn:=Ob c4;refine A2 (Aw (Ax Ay 3 [] O (Aq O (A4 Bf O O An (Bd hx) (BD _)) (Aq O (BM BZ O (BD _)) ?_))));rw[iF hu e4 hk5 hfew hx hcn] at hC;have hn0:=hns;rw[←hC] at hn0;have hn1:=J2 hn0;refine Dm [5] O O O (.inl ⟨O,O,O⟩) (hT m x s h3 hn1) ⟨_,_,O,O,O⟩ Am (aw (we O) (aw (we O) (E0))) (fun _ _ h=>(congrArg List.length h).trans O) ?_ ?_
  rotate_left
  ·intro e _ he;exact⟨O,_,List.nil_sublist _,⟨_,by rw[←hC];exact Kz hn0 he,rfl⟩⟩
  rintro⟨q,n2⟩ _ hz rfl;rw[Mw hz] at hC;refine Ax Ay 3 [] O (BF O (A7 Bx O) fun b16=>Ar Ay 2 [0,1] O (As (Au Ay 2 [] O (Av O (fun c5=>?_) (fun c5=>?_)))))
  ·simp only[sd,se] at c5;rw[nt c5] at hC;refine Au Ay 3 [4,0] O (BH (BW (i:=4) O) (A1 (⟨O,_,_,⟨_,_,O,(BA (i:=4) BZ O O O),⟨_,_,O,O,O⟩⟩,(B8 (is:=[6]) O),?_⟩)));exact⟨⟨_,_⟩,DH hC.symm,O,O⟩
  simp only[sd,se] at c5;rw[pb c5] at hC;refine A2 (Aw (Br O (Nx O O O (.inl ⟨O,O,O⟩) (KW a h5) (.inl O) fun o cp=>Ar Ay 1 [] O (Aw (Ax Ay 3 [1] O (M8 (i:=0) O (by rw[BQ];omega) fun b hb=>?_))))));subst hb;refine Aq O (C0 Bf O O An AZ) (Aq O (EH (i:=0) (j:=((CB dd:Int).toNat)) BZ O O O AZ O (Ko _) (BD _) (FX _) (U9 a ((CB dd:Int).toNat) (q.getD Bh))) (Bg O (Aw (Ax Ay 2 [6] O (B4 (DA (t:=93) (x:= .vs (some b) (BE ((a).set ((CB dd:Int).toNat) (q.getD Bh))).length cp) (DI a (l':=(a).set ((CB dd:Int).toNat) (q.getD Bh)) Ao)) (B4 (DA (t:=18) (x:= .vs (some b) (BE ((a).set ((CB dd:Int).toNat) (q.getD Bh))).length cp) (DI a (l':=(a).set ((CB dd:Int).toNat) (q.getD Bh)) Ao)) (B4 (DA (t:=94) (x:= .vs (some b) (BE ((a).set ((CB dd:Int).toNat) (q.getD Bh))).length cp) (DI a (l':=(a).set ((CB dd:Int).toNat) (q.getD Bh)) Ao)) ?_)))))));refine B4 (DA (t:=99) (x:= .vs (some b) (BE ((a).set ((CB dd:Int).toNat) (q.getD Bh))).length cp) (DI a (l':=(a).set ((CB dd:Int).toNat) (q.getD Bh)) Ao)) (B4 (Ck (i:=0) [93,18,94,99] O (D5 ⟨O,O,O,O,Ap⟩)) (Aq O (BC O O (EK (.mk gk gi gn gl gs:Tm) ((a).set ((CB dd:Int).toNat) (q.getD Bh)) AT) O) (Ar Ay 2 [4,1] O (A1 (⟨O,_,_,⟨_,_,O,(BA (i:=4) BZ O O Ag),⟨_,_,O,O,O⟩⟩,(B8 (is:=[6]) O),?_⟩)))));exact⟨⟨_,_⟩,DH hC.symm,O,O⟩
 simp only[sd,se] at c2;have hk5:=c2;refine Au Ay 2 [] O (Av O (fun c3=>?_) (fun c3=>?_))
 ·simp only[sd,se] at c3;have hk6:=c3;obtain⟨fk,ff,f1,f2⟩:=e2.func hk6;have hff:dd.funs[(Bb ds (Tm.mk gk gi gn gl gs).name).1.item.toNat]?=some ff:=by rw[f2];simpa using f1
  have hfm:=List.mem_of_getElem? hff;have hfa:=hdg.fu ff hfm;have hfi:=(List.getElem?_eq_some_iff.1 f1).1;refine Aw (Aq O (Az C5 O O) (Aq O (A0 (i:=0) Hq O O (CJ _)) (Aq O (Az GO O O) (Aq O (A0 (i:=1) DM O O (Fm _)) (Aq O (A4 HV O O An (EZ hff) (DZ _)) (Aq O (BM jN O (DZ _)) (BF O (A7 dR O) fun b19=>Ar Ay 1 [0,1] O (Aw (Br O (Aq O (BJ Bf O (BQ _)) (Aq O (Az HE O O) (Aq O (A0 (i:=0) DM O O (CU _)) (Ar Ay 1 [] O (Av O (fun c4=>?_) (fun c4=>?_)))))))))))))))
  ·simp only[sd,se] at c4;refine Aw (Ax Ay 4 [4,0] O ?_);rw[lW hu e4 hk6 hff An] at hC;refine Dm [5] O O O (.inl ⟨O,O,O⟩) (Zh n m ds s (.mk gk gi gn gl gs:Tm) a dd ff hT h2 h3 e3 hfm An h4 h5 h6 (by rw[hC];exact hns)) ⟨_,_,O,O,O⟩ Am (aw (we O) (aw (we O) (aw (we O) (aw (we O) (E0))))) (fun _ _ h=>(congrArg List.length h).trans O) ?_ ?_
   rotate_left
   ·intro e _ he;exact⟨O,_,List.nil_sublist _,⟨_,by rw[←hC];exact he,rfl⟩⟩
   rintro⟨q,n2⟩ _ hz rfl;have hfin:=hz;refine Ar Ay 4 [3,1] O (A1 (⟨O,_,_,⟨_,_,O,(BA (i:=3) BZ O O Ag),⟨_,_,O,O,O⟩⟩,(B8 (is:=[5]) O),?_⟩));exact⟨⟨q,n2⟩,by rw[←hC];exact hfin,rfl,rfl⟩
  simp only[sd,se] at c4;rw[iJ hu e4 hk6 hff An] at hC;refine A2 (Au Ay 3 [3,0] O (BH (BW (i:=3) O) (A1 (⟨O,_,_,⟨_,_,O,(BA (i:=3) BZ O O O),⟨_,_,O,O,O⟩⟩,(B8 (is:=[5]) O),?_⟩))));exact⟨⟨_,_⟩,DH hC.symm,O,O⟩
 simp only[sd,se] at c3;have hk6:=c3;rw[nr hu hk1 hk5 hk6] at hC;refine A2 (Au Ay 3 [2,0] O (BH (BW (i:=2) O) (A1 (⟨O,_,_,⟨_,_,O,(BA (i:=2) BZ O O O),⟨_,_,O,O,O⟩⟩,(B8 (is:=[4]) O),?_⟩))));exact⟨⟨_,_⟩,DH hC.symm,O,O⟩
set_option maxHeartbeats 4000000 in
theorem jK:∀(ds:List B5) (hE:Gi ds) (n:Nat),wV ds n:=by
 intro ds hE n
 induction n using Nat.strongRecOn with
 | ind n ih =>
  intro m t s hJ hns;obtain⟨k,rfl⟩:=gg rfl hns;generalize hC:Dl ds Bp (k+1) s t=X at hns ⊢;have hwo:=aG hC hns;have hsp:=YI hwo;have hsl:=hsp.len;have hss:=hsp.sz;have hsa:=hsp.asz;refine A5 Tryz.func44 O wC (n:=90) O O (Aw (BF O (BN O) fun b3=>BF O (A7 Bx O) fun b4=>Ar Ay 1 [] O (Aw (Aq O (BU (i:=1) BZ O O Ag) (Aq O (BC O O (Ma t hsp.nd Ab) O) (Ax Ay 3 [] O (BF O (A7 Bx O) fun b6=>Ar Ay 2 [0,1] O (As (Aw (Aq O (Az HJ O O) ?_))))))))));generalize hz:(A8 t).1=z;obtain⟨zk,zi,zn,zl,zs⟩:=z;have hzo:okB (.mk zk zi zn zl zs)=true:=hz▸hsp.head;have hzq:=hz;have hzl:=Jp hzo;have hzn:=(B2.1 hzo).nd;refine Ar Ay 1 [0] O (A9 (Au Ay 2 [] O (Av O (fun c=>?_) (fun c=>?_))))
  ·simp only[sd,se] at c;have hk:=(congrArg Tm.kind hzq).trans c;refine Aw (Br O (Aq O (BJ Bf O (BQ _)) (Ar Ay 1 [] O (Av O (fun c1=>?_) (fun c1=>?_)))))
   ·simp only[sd,se] at c1;refine As ?_;obtain⟨x,hx⟩:=A6 (l:=zs) (i:=1) An;obtain⟨x1,hx1⟩:=A6 (l:=(A8 t).2) (i:=0) An;have hxo:=ER hzo (i:=1) hx;have hx1o:=hsp.args _ (List.mem_of_getElem? hx1);rw[bS hwo hk An (by rw[hzq];exact hx),nA hx1] at hC;have hn3:=hns;rw[←hC] at hn3;obtain⟨e,he⟩ | ⟨⟨z1,n2⟩,hz⟩:=Fy (Ja s (CD x [x1] 0))
    ·refine JD ((fun _=> .p (.iface 122 .unit)) e) 9 [.val (.ptr m 0),.val (.ptr b6 (0+4)),.val (.p (.lst (BE zs))),.val (.ref (BP x)),.val (.agg ((BP x).map .p)),.val (.p (.lst (BE ((A8 t).2)))),.val (.ref (BP x1)),.val (.agg ((BP x1).map .p)),.val (.p (.lst (BE [x1]))),.val (.p .any),.val (.p (.lst (BE ((A8 t).2)))),.val (.p (.lst (BE (((A8 t).2).drop 1)))),.val (.p .any),.val (.p .any),.val (.p .any)] Dn O Aj O Ap (fun _ _=>by exact⟨rfl,_,List.nil_sublist _,⟨_,by rw[←hC];exact LQ hn3 he,rfl⟩⟩) ?_;refine CA O O (fun Bs=>Ba O) (CA O O (fun Bs=>Az HJ O O) (CA O O (fun Bs=>B7 (i:=Bs.length+0) Gn O (CX O) O) (CA O O (fun Bs=>A4 Bf O O An (Bd hx) (BD _)) (CA O O (fun Bs=>BM BZ O (BD _)) (CA O O (fun Bs=>Ba O) (CA O O (fun Bs=>A4 Bf O O An (Bd hx1) (BD _)) (CA O O (fun Bs=>BM BZ O (BD _)) (CA O O (fun Bs=>Bu (rows:=BE [x1]) Bf Bx O O O O (CG (Bv _)) (E6 _)) (LX (mkp:=(fun _=> .p (.iface 122 .unit))) (e:=e) [3] he O O (.inl ⟨O,O,O⟩) (Lf m ds s x [x1] hJ hxo (ok_one hx1o) J4) ⟨_,_,O,O,O⟩ Am (aw (we O) (aw (we O) (aw (we O) (E0)))) (CA O O (fun Bs=>Ba O) ?_))))))))));exact CA O O (fun Bs=>CZ (lo:=1) Bf O (CG (Bv _)) ⟨_,O⟩ O AR (Nat.le_refl _) (J0 ((A8 t).2) 1)) (DD O O Aj (DD O O Aj (DD O O Aj LF)))
    rw[LU hn3 hz] at hC;have hJ3:=(Rb hJ hz).1;refine IU [.box b6 [.p (I zk),.p (I zi),.p (.str zn),.p (.lst (List.map By zl)),.p (.lst (BE zs))],.box b4 [.p (I 0),.p (I 0),.p (.str ⟨#[]⟩),.p (.nils),.p (.nils)],.box b3 ((BP t).map .p),.box m [.p (.lst (List.map Bi ds)),.p (I n2)]] 9 [.val (.ptr m 0),.val (.ptr b6 (0+4)),.val (.p (.lst (BE zs))),.val (.ref (BP x)),.val (.agg ((BP x).map .p)),.val (.p (.lst (BE ((A8 t).2)))),.val (.ref (BP x1)),.val (.agg ((BP x1).map .p)),.val (.p (.lst (BE [x1]))),.val (.agg ((BP z1).map .p)),.val (.p (.lst (BE ((A8 t).2)))),.val (.p (.lst (BE (((A8 t).2).drop 1)))),.val (.agg ((BP (apply z1 (((A8 t).2).drop 1))).map .p))] [.p .any,.p (.bool true)] [] Dn O Aj Aj Aj O (Bj O O (fun Bs=>Ba O) (Bj O O (fun Bs=>Az HJ O O) ?_));refine F7 O O O (fun Bs=>B7 (i:=Bs.length+0) Gn O (CX O) O) (fun _ Bs=>B7 (i:=Bs.length+0) Gn O (CX O) O) (Bj O O (fun Bs=>A4 Bf O O An (Bd hx) (BD _)) (Bj O O (fun Bs=>BM BZ O (BD _)) (Bj O O (fun Bs=>Ba O) (Bj O O (fun Bs=>A4 Bf O O An (Bd hx1) (BD _)) (Bj O O (fun Bs=>BM BZ O (BD _)) (Bj O O (fun Bs=>Bu (rows:=BE [x1]) Bf Bx O O O O (CG (Bv _)) (E6 _)) (KS O O (fun Bs=>G2 [3] O (.inl ⟨O,O,O⟩) (Lj hz (Lf m ds s x [x1] hJ hxo (ok_one hx1o) J4)) ⟨_,_,O,O,O⟩ Am O (aw (we O) (aw (we O) (aw (we O) (E0))))) (Bj O O (fun Bs=>Ba O) ?_))))))));refine Bj O O (fun Bs=>CZ (lo:=1) Bf O (CG (Bv _)) ⟨_,O⟩ O AR (Nat.le_refl _) (J0 ((A8 t).2) 1)) (Bj O O (fun Bs=>BC O O (EK z1 (((A8 t).2).drop 1) AS) O) (Hk (Dq [.box b6 [.p (I zk),.p (I zi),.p (.str zn),.p (.lst (List.map By zl)),.p (.lst (BE zs))],.box b4 ((BP (apply z1 (((A8 t).2).drop 1))).map .p),.box b3 ((BP t).map .p),.box m [.p (.lst (List.map Bi ds)),.p (I n2)]] O (Cc (i:=1) BZ O O O Ag AY (FX _)) (Dq [.box b6 [.p (I zk),.p (I zi),.p (.str zn),.p (.lst (List.map By zl)),.p (.lst (BE zs))],.box b4 ((BP (apply z1 (((A8 t).2).drop 1))).map .p),.box b3 ((BP t).map .p),.box m [.p (.lst (List.map Bi ds)),.p (I n2)]] O (EC O) (Jb (A1 (⟨O,_,_,⟨_,_,O,(BA (i:=1) BZ O O Ag),⟨_,_,O,O,O⟩⟩,(B8 (is:=[3]) O),?_⟩)))))));exact⟨⟨_,_⟩,DH hC.symm,O,O⟩
   simp only[sd,se] at c1;rw[X0 hwo hk An] at hC;refine A2 (Au Ay 3 [1,0] O (BH (BW (i:=1) O) (A1 (⟨O,_,_,⟨_,_,O,(BA (i:=1) BZ O O O),⟨_,_,O,O,O⟩⟩,(B8 (is:=[3]) O),?_⟩))));exact⟨⟨_,_⟩,DH hC.symm,O,O⟩
  simp only[sd,se] at c;refine Au Ay 2 [] O (Av O (fun c1=>?_) (fun c1=>?_))
  ·simp only[sd,se] at c1;have hk:=(congrArg Tm.kind hzq).trans c1;refine As ?_;obtain⟨x,hx⟩:=A6 (l:=zs) (i:=2) An;obtain⟨x1,hx1⟩:=A6 (l:=zs) (i:=1) An;have hxo:=ER hzo (i:=2) hx;have hx1o:=ER hzo (i:=1) hx1;rw[cE hwo hk (by rw[hzq];exact hx1) (by rw[hzq];exact hx)] at hC;have hn3:=hns;rw[←hC] at hn3;obtain⟨e,he⟩ | ⟨⟨z1,n2⟩,hz⟩:=Fy (Ja s (CD x [x1] 0))
   ·refine JD ((fun _=> .p (.iface 122 .unit)) e) 10 [.val (.ptr m 0),.val (.ptr b6 (0+4)),.val (.p (.lst (BE zs))),.val (.ref (BP x)),.val (.agg ((BP x).map .p)),.val (.ptr b6 (0+4)),.val (.p (.lst (BE zs))),.val (.ref (BP x1)),.val (.agg ((BP x1).map .p)),.val (.p (.lst (BE [x1]))),.val (.p .any),.val (.p (.lst (BE ((A8 t).2)))),.val (.p .any),.val (.p .any),.val (.p .any)] Dn O Aj O Ap (fun _ _=>by exact⟨rfl,_,List.nil_sublist _,⟨_,by rw[←hC];exact LQ hn3 he,rfl⟩⟩) ?_;refine CA O O (fun Bs=>Ba O) (CA O O (fun Bs=>Az HJ O O) (CA O O (fun Bs=>B7 (i:=Bs.length+0) Gn O (CX O) O) (CA O O (fun Bs=>A4 Bf O O An (Bd hx) (BD _)) (CA O O (fun Bs=>BM BZ O (BD _)) (CA O O (fun Bs=>Az HJ O O) (CA O O (fun Bs=>B7 (i:=Bs.length+0) Gn O (CX O) O) (CA O O (fun Bs=>A4 Bf O O An (Bd hx1) (BD _)) (CA O O (fun Bs=>BM BZ O (BD _)) (CA O O (fun Bs=>Bu (rows:=BE [x1]) Bf Bx O O O O (CG (Bv _)) (E6 _)) (LX (mkp:=(fun _=> .p (.iface 122 .unit))) (e:=e) [3] he O O (.inl ⟨O,O,O⟩) (Lf m ds s x [x1] hJ hxo (ok_one hx1o) J4) ⟨_,_,O,O,O⟩ Am (aw (we O) (aw (we O) (aw (we O) (E0)))) ?_))))))))));exact CA O O (fun Bs=>Ba O) (DD O O Aj (DD O O Aj (DD O O Aj LF)))
   rw[LU hn3 hz] at hC;have hJ3:=(Rb hJ hz).1;refine IU [.box b6 [.p (I zk),.p (I zi),.p (.str zn),.p (.lst (List.map By zl)),.p (.lst (BE zs))],.box b4 [.p (I 0),.p (I 0),.p (.str ⟨#[]⟩),.p (.nils),.p (.nils)],.box b3 ((BP t).map .p),.box m [.p (.lst (List.map Bi ds)),.p (I n2)]] 10 [.val (.ptr m 0),.val (.ptr b6 (0+4)),.val (.p (.lst (BE zs))),.val (.ref (BP x)),.val (.agg ((BP x).map .p)),.val (.ptr b6 (0+4)),.val (.p (.lst (BE zs))),.val (.ref (BP x1)),.val (.agg ((BP x1).map .p)),.val (.p (.lst (BE [x1]))),.val (.agg ((BP z1).map .p)),.val (.p (.lst (BE ((A8 t).2)))),.val (.agg ((BP (apply z1 ((A8 t).2))).map .p))] [.p .any,.p (.bool true)] [] Dn O Aj Aj Aj O (Bj O O (fun Bs=>Ba O) (Bj O O (fun Bs=>Az HJ O O) ?_));refine F7 O O O (fun Bs=>B7 (i:=Bs.length+0) Gn O (CX O) O) (fun _ Bs=>B7 (i:=Bs.length+0) Gn O (CX O) O) (Bj O O (fun Bs=>A4 Bf O O An (Bd hx) (BD _)) (Bj O O (fun Bs=>BM BZ O (BD _)) (Bj O O (fun Bs=>Az HJ O O) (F7 O O O (fun Bs=>B7 (i:=Bs.length+0) Gn O (CX O) O) (fun _ Bs=>B7 (i:=Bs.length+0) Gn O (CX O) O) (Bj O O (fun Bs=>A4 Bf O O An (Bd hx1) (BD _)) (Bj O O (fun Bs=>BM BZ O (BD _)) (Bj O O (fun Bs=>Bu (rows:=BE [x1]) Bf Bx O O O O (CG (Bv _)) (E6 _)) ?_)))))));refine KS O O (fun Bs=>G2 [3] O (.inl ⟨O,O,O⟩) (Lj hz (Lf m ds s x [x1] hJ hxo (ok_one hx1o) J4)) ⟨_,_,O,O,O⟩ Am O (aw (we O) (aw (we O) (aw (we O) (E0))))) (Bj O O (fun Bs=>Ba O) (Bj O O (fun Bs=>BC O O (EK z1 ((A8 t).2) AS) O) (Hk (Dq [.box b6 [.p (I zk),.p (I zi),.p (.str zn),.p (.lst (List.map By zl)),.p (.lst (BE zs))],.box b4 ((BP (apply z1 ((A8 t).2))).map .p),.box b3 ((BP t).map .p),.box m [.p (.lst (List.map Bi ds)),.p (I n2)]] O (Cc (i:=1) BZ O O O Ag AY (FX _)) (Dq [.box b6 [.p (I zk),.p (I zi),.p (.str zn),.p (.lst (List.map By zl)),.p (.lst (BE zs))],.box b4 ((BP (apply z1 ((A8 t).2))).map .p),.box b3 ((BP t).map .p),.box m [.p (.lst (List.map Bi ds)),.p (I n2)]] O (EC O) (Jb (A1 ?_)))))));refine⟨O,_,_,⟨_,_,O,(BA (i:=1) BZ O O Ag),⟨_,_,O,O,O⟩⟩,(B8 (is:=[3]) O),?_⟩;exact⟨⟨_,_⟩,DH hC.symm,O,O⟩
  simp only[sd,se] at c1;refine As (Au Ay 2 [] O (BT [0,4,6,7,17] 51 (fun y=>y= .p (.bool (decide (zk=9∨zk=10)))) ?_ ?_))
  ·refine Av O (fun c2=>?_) (fun c2=>?_)
   ·simp only[sd,se] at c2;exact A2 (⟨O,O,(List.Sublist.refl _),(by refine pB (Bool.eq_iff_iff.2 ?_);simp only[beq_iff_eq,decide_eq_true_eq];omega),⟨O,O,O,O,O,Ap⟩⟩)
   simp only[sd,se] at c2;exact A3 (Ar Ay 2 [] O (⟨O,O,(List.Sublist.refl _),(by refine pB (Bool.eq_iff_iff.2 ?_);simp only[beq_iff_eq,decide_eq_true_eq];omega),⟨O,O,O,O,O,Ap⟩⟩))
  rintro _ rfl;refine Av O (fun c2=>?_) (fun c2=>?_)
  ·simp only[sd,se] at c2;have hk9:zk=9∨zk=10:=by simpa using c2
   refine Aw (Ax Ay 2 [0] O ?_);obtain⟨p,hp⟩:=A6 (l:=zs) (i:=0) An;refine Aq O (A4 Bf O O An (Bd hp) (BD _)) (Aq O (BM BZ O (BD _)) (BF O (A7 Bx O) fun b8=>Ar Ay 1 [0,1] O (As (Aw (Aq O (Az HJ O O) ?_)))));obtain⟨pk,pi,pn,pl,ps⟩:=p;have hpo:=ER hzo (i:=0) hp;have hpl:=Jp hpo;refine Ar Ay 2 [0] O (Av O (fun c3=>?_) (fun c3=>?_))
   ·simp only[sd,se] at c3;have hp8:=c3;refine Aw (Ax Ay 3 [1,0] O ?_);obtain⟨cq,hcq⟩:=A6 (l:=ps) (i:=(1+zk - 9).toNat) (by have:=hpl.2.2.2 hp8;omega);have hcqo:=ER hpo (i:=(1+zk - 9).toNat) hcq;rw[X2 hwo (by rw[hzq];exact hk9) (by rw[hzq];exact hp) (p:= .mk pk pi pn pl ps) hp8 (by rw[hzq];exact hcq)] at hC;have hn3:=hns;rw[←hC] at hn3;refine Dm [4] O O O (.inl ⟨O,O,O⟩) (au m ds s (.mk zk zi zn zl zs:Tm) (.mk pk pi pn pl ps:Tm) cq hJ hk9 hcq) ⟨_,_,O,O,O⟩ Am (aw (we O) (aw (we O) (aw (we O) (E0)))) (fun _ _ h=>(congrArg List.length h).trans O) ?_ ?_
    rotate_left
    ·intro e _ he;exact⟨O,_,List.nil_sublist _,⟨_,by rw[←hC];exact LQ hn3 he,rfl⟩⟩
    rintro⟨z1,n2⟩ _ hz rfl;rw[LU hn3 hz] at hC;refine Br O (Aq O (BC O O (EK z1 ((A8 t).2) AS) O) (Ar Ay 2 [2,1] O (A1 (⟨O,_,_,⟨_,_,O,(BA (i:=2) BZ O O Ag),⟨_,_,O,O,O⟩⟩,(B8 (is:=[4]) O),?_⟩))));exact⟨⟨_,_⟩,DH hC.symm,O,O⟩
   simp only[sd,se] at c3;have hp8:=c3;refine A2 (Aw (Ax Ay 2 [0] O ?_));rw[Wo hwo (by rw[hzq];exact hk9) (by rw[hzq];exact hp) (p:= .mk pk pi pn pl ps) hp8] at hC;have hn0:=hns;rw[←hC] at hn0;have hn1:=J2 hn0;refine Dm [4] O O O (.inl ⟨O,O,O⟩) (ih k An m (.mk pk pi pn pl ps:Tm) s hJ hn1) ⟨_,_,O,O,O⟩ Am (aw (we O) (aw (we O) (E0))) (fun _ _ h=>(congrArg List.length h).trans O) ?_ ?_
   rotate_left
   ·intro e _ he;exact⟨O,_,List.nil_sublist _,⟨_,by rw[←hC];exact Kz hn0 he,rfl⟩⟩
   rintro⟨q,n2⟩ _ hz rfl;rw[Mw hz] at hC;refine Ax Ay 3 [] O (BF O (A7 Bx O) fun b9=>Ar Ay 2 [0,1] O (Au Ay 1 [] O (Av O (fun c4=>?_) (fun c4=>?_))))
   ·simp only[sd,se] at c4;rw[pC c4,hzq] at hC;refine Aw (Ax Ay 3 [2,0] O (Aq O (Bu (rows:=BE [(q.getD Bh)]) Bf Bx O O O O (CG (Bv _)) (E6 _)) (Ax Ay 2 [] O (Aq O (Gz O O (EK (.mk zk 0 ⟨#[]⟩ [] [(q.getD Bh)]:Tm) ((A8 t).2) AS) (aw (E1 O) (aw (we O) (E0)))) (Ar Ay 2 [3,1] O (A1 (⟨O,_,_,⟨_,_,O,(BA (i:=3) BZ O O Ag),⟨_,_,O,O,O⟩⟩,(B8 (is:=[5]) O),?_⟩)))))));exact⟨⟨_,_⟩,DH hC.symm,O,O⟩
   simp only[sd,se] at c4;rw[oU c4] at hC;refine A2 (Au Ay 3 [3,0] O (BH (BW (i:=3) O) (A1 (⟨O,_,_,⟨_,_,O,(BA (i:=3) BZ O O O),⟨_,_,O,O,O⟩⟩,(B8 (is:=[5]) O),?_⟩))));exact⟨⟨_,_⟩,DH hC.symm,O,O⟩
  simp only[sd,se] at c2;refine Au Ay 2 [] O (Av O (fun c3=>?_) (fun c3=>?_))
  ·simp only[sd,se] at c3;have hk:=(congrArg Tm.kind hzq).trans c3;refine Aw (Ax Ay 3 [0] O ?_);rw[UI hwo hk,hzq] at hC;refine Dm [3] O O O (.inl ⟨O,O,O⟩) (VV k m ds s (.mk zk zi zn zl zs:Tm) ((A8 t).2) (ih k An) hE hJ hzo An hsp.args (by rw[hC];exact hns)) ⟨_,_,O,O,O⟩ Am (aw (we O) (aw (we O) (aw (we O) (E0)))) (fun _ _ h=>(congrArg List.length h).trans O) ?_ ?_
   rotate_left
   ·intro e _ he;exact⟨O,_,List.nil_sublist _,⟨_,by rw[←hC];exact he,rfl⟩⟩
   rintro⟨q,n2⟩ _ hz rfl;have hfin:=hz;refine Ar Ay 4 [1,1] O (A1 (⟨O,_,_,⟨_,_,O,(BA (i:=1) BZ O O Ag),⟨_,_,O,O,O⟩⟩,(B8 (is:=[3]) O),?_⟩));exact⟨⟨q,n2⟩,by rw[←hC];exact hfin,rfl,rfl⟩
  simp only[sd,se] at c3;rw[fP hwo (by rw[hzq];assumption) (by rw[hzq];assumption) (by rw[hzq];show ¬zk=9;omega) (by rw[hzq];show ¬zk=10;omega) (by rw[hzq];assumption)] at hC;refine A2 (Au Ay 3 [1,0] O (BH (BW (i:=1) O) (A1 (⟨O,_,_,⟨_,_,O,(BA (i:=1) BZ O O O),⟨_,_,O,O,O⟩⟩,(B8 (is:=[3]) O),?_⟩))));exact⟨⟨_,_⟩,DH hC.symm,O,O⟩
end Go.Proofs.YtboammbpdaoojaaGreat
namespace Go.Eu
open Go.Abs
def ZG (q:Tm):Bool:= !(decide ((size q:Int) > 4096)||decide (FK q > 200))
def JQ:Out (Option Tm×Int)→Tm×Bool×Int
 | .ok (some q,_)=>if ZG q=true then (q,true,0) else (Bh,false,11)
 | .ok (none,_)=>(Bh,false,0)
 | _=>(Bh,false,11)
def gy:Out (Option Int×Int)→Int×Bool×Int
 | .ok (q,_)=>(q.getD 0,q.isSome,0)
 | _=>(0,false,11)
def oY (o:Out (Option Tm×Int)):Prop:=∀q c,o= .ok (some q,c)→okB q=true
theorem xG {ak ai bk bi:Int}{an bn:ByteArray}{al bl:List CS}{a b:List Tm}(hl:bl.length=0) (hs:b.length=0):Od (Tm.mk ak ai an al a) (.mk bk bi bn bl b)=(((((ak==bk)&&(ai==bi))&&(an.toList==bn.toList))&&(decide (al.length=0)))&&(decide (a.length=0))):=by
 rw[List.length_eq_zero_iff] at hl hs;subst hl hs;rw[Bool.eq_iff_iff,IM];simp only[Tm.mk.injEq,Bool.and_eq_true,decide_eq_true_eq,beq_iff_eq,List.length_eq_zero_iff];constructor
 ·rintro⟨rfl,rfl,rfl,rfl,rfl⟩;exact⟨⟨⟨⟨rfl,rfl⟩,rfl⟩,rfl⟩,rfl⟩
 rintro⟨⟨⟨⟨h1,h2⟩,h3⟩,h4⟩,h5⟩;exact⟨h1,h2,F3 h3,h4,h5⟩
section
variable {o:Out (Option Tm×Int)}{q:Option Tm}{c e:Int}
theorem TR (h:oY o) (hx:o.ex= .ok (q,c)):okB (q.getD Bh)=true:=by
 have h1:=IV hx;cases q with
 | none=>decide
 | some x=>exact h x c h1
theorem TD (h:o.ex= .error e):JQ o=(Bh,false,11):=by cases o<;>first | rfl | cases h
theorem O3 (h:o.ex= .ok (q,c)) (hq:q.isSome=false):JQ o=(q.getD Bh,q.isSome,0):=by
 rw[IV h];cases q with
 | none=>rfl
 | some x=>cases hq
theorem MR (h:o.ex= .ok (q,c)) (hq:q.isSome=true) (hf:(size (q.getD Bh):Int) > 4096∨FK (q.getD Bh) > 200):JQ o=(Bh,false,11):=by
 rw[IV h];cases q with
 | none=>cases hq
 | some x =>
  have:ZG x=false:=by
   simp only[Option.getD_some] at hf;unfold ZG;simp only[Bool.not_eq_false',Bool.or_eq_true,decide_eq_true_eq];exact hf
  simp only[JQ,this,Bool.false_eq_true,if_false]
theorem Rj (h:o.ex= .ok (q,c)) (hf:¬(q.isSome=true∧((size (q.getD Bh):Int) > 4096∨FK (q.getD Bh) > 200))):JQ o=(q.getD Bh,q.isSome,0):=by
 rw[IV h];cases q with
 | none=>rfl
 | some x =>
  have:ZG x=true:=by
   unfold ZG;simp only[Option.isSome_some,Option.getD_some,true_and,not_or] at hf;simp only[Bool.not_eq_true',Bool.or_eq_false_iff,decide_eq_false_iff_not];exact hf
  simp only[JQ,this,if_true,Option.getD_some,Option.isSome_some]
end
section
variable {o:Out (Option Int×Int)}{q:Option Int}{c e:Int}
theorem pR (h:o.ex= .error e):gy o=(0,false,11):=by cases o<;>first | rfl | cases h
theorem pK (h:o.ex= .ok (q,c)):gy o=(q.getD 0,q.isSome,0):=by rw[IV h];rfl
end
section
variable {E:List B5}{σ:Type}{S:Sys σ}{W:σ→Tm→Out (Tm×σ)}
end
end Go.Eu
namespace Go.Proofs.YtboammbpdaoojaaGreat
open Go.Abs Go.Eu
theorem aO:∀(ds:List B5) (N m bt bo bk:Nat) (t:Tm) (s:Int),(Gi ds)→(Gl s)→(Dl ds Bp N s t≠ .stuck)→Bn Tryz.prog 43 [.ptr m 0,.ptr bt 0,.ptr bo 0,.ptr bk 0] [.box m [.p (.lst (List.map Bi ds)),.p (I s)],.box bt ((BP t).map .p),.box bo [.p (I 0),.p (I 0),.p (.str ⟨#[]⟩),.p (.nils),.p (.nils)],.box bk [.p (.bool false)]] (Lm (fun(r:Option Tm×Int)=> .tup []) (fun _=> .p (.iface 122 .unit)) (fun r H'=>H'=[.box m [.p (.lst (List.map Bi ds)),.p (I r.2)],.box bt ((BP t).map .p),.box bo ((BP (r.1.getD Bh)).map .p),.box bk [.p (.bool r.1.isSome)]]) ((Dl ds Bp N s t).ex)):=by
 intro ds N m bt bo bk t s h1 h2 h3;refine A5 Tryz.func43 O vq (n:=11) O O (A3 (Ax Ay 2 [1] O (Dm [0] O O O (.inl ⟨O,O,O⟩) (jK ds h1 N m t s h2 h3) ⟨_,_,O,O,O⟩ Am (aw (we O) (aw (we O) (E0))) (fun _ _ h=>(congrArg List.length h).trans O) ?_ ?_)))
 rotate_left
 ·intro e _ he;exact⟨O,_,List.nil_sublist _,⟨_,he,O⟩⟩
 rintro⟨q,n2⟩ _ hz rfl;refine Ar Ay 5 [2,1,3,0] O ⟨O,_,_,O,(B8 (is:=[0,1,2,3]) O),?_⟩;exact⟨⟨q,n2⟩,hz,O,O⟩
theorem bG:∀(ds:List B5) (N:Nat) (t:Tm),(Gi ds)→(Dl ds Bp N 20000 t≠ .stuck)→(oY (Dl ds Bp N 20000 t))→ET Tryz.prog 16 [.p (.lst (List.map Bi ds)),.agg ((BP t).map .p)] (.tup [.agg ((BP ((JQ (Dl ds Bp N 20000 t)).1)).map .p),.p (.bool ((JQ (Dl ds Bp N 20000 t)).2.1)),.p (I ((JQ (Dl ds Bp N 20000 t)).2.2))]):=by
 intro ds N t h1 h2 h3;refine A5 Tryz.func16 O uq (n:=34) O O (Aw (BF O (BN O) fun b3=>BF O (A7 Bx O) fun b4=>Ar Ay 2 [] O (Aw (BF O (A7 Bx O) fun b7=>Bg O (Aw (BF O (A7 wh O) fun b8=>Ar Ay 1 [0,0] O (As ?_)))))));obtain⟨e,he⟩ | ⟨⟨q,n2⟩,ha⟩:=Fy ((Dl ds Bp N 20000 t).ex)
 ·refine A3 (Ax Ay 2 [] O (Vo [3,1,0] O O O (.inl ⟨O,O,O⟩) (Sj _ _ he (fun r=>r.2) (fun r=>[.box b3 ((BP t).map .p),.box b7 ((BP (r.1.getD Bh)).map .p),.box b8 [.p (.bool r.1.isSome)]]) 43 [.ptr b3 0,.ptr b7 0,.ptr b8 0] [.box b3 ((BP t).map .p),.box b7 [.p (I 0),.p (I 0),.p (.str ⟨#[]⟩),.p (.nils),.p (.nils)],.box b8 [.p (.bool false)]] ds (fun m=>aO ds N m b3 b7 b8 t 20000 h1 LY h2)) ⟨_,_,O,O,⟨_,_,O,O,⟨_,_,O,O,O⟩⟩⟩ Am (DQ _) (Ar Ay 1 [] O (As (Au Ay 15 [] O ?_)))));refine Av O (fun c=>by cases c) (fun c=>?_);refine A2 (As (Au Ay 2 [] O ?_));refine Av O (fun c1=>?_) (fun c1=>by cases c1);refine Au Ay 5 [0,0] O (BH (BW (i:=0) O) (A1 (⟨O,_,_,⟨_,_,O,(BA (i:=0) BZ O O O),⟨_,_,O,O,⟨_,_,O,O,O⟩⟩⟩,(List.nil_sublist _),?_⟩)))
  all_goals exact⟨by show (.tup [.agg [.p (I 0),.p (I 0),.p (.str ⟨#[]⟩),.p (.lst []),.p (.lst [])],.p (.bool false),.p (I 11)]:AV)=_;first | (rw[TD he]<;>rfl) | (rw[O3 ha g]<;>rfl) | (rw[MR ha g]<;>first | rfl | omega) | (rw[Rj ha]<;>first | rfl | (rintro⟨_,_ | _⟩<;>omega)),rfl⟩
 refine A3 (Ax Ay 2 [] O (Aq O (CE [3,1,0] O (.inl ⟨O,O,O⟩) (Vr _ _ ha (fun r=>r.2) (fun r=>[.box b3 ((BP t).map .p),.box b7 ((BP (r.1.getD Bh)).map .p),.box b8 [.p (.bool r.1.isSome)]]) 43 [.ptr b3 0,.ptr b7 0,.ptr b8 0] [.box b3 ((BP t).map .p),.box b7 [.p (I 0),.p (I 0),.p (.str ⟨#[]⟩),.p (.nils),.p (.nils)],.box b8 [.p (.bool false)]] ds (fun m=>aO ds N m b3 b7 b8 t 20000 h1 LY h2)) ⟨_,_,O,O,⟨_,_,O,O,⟨_,_,O,O,O⟩⟩⟩ Am O (.inl O)) (Ar Ay 1 [] O (As (Aw (Ax Ay 6 [0] O (BO 18 O (fun g=>?_) (fun g=>?_))))))))
 ·simp only[sd,se] at g;refine BB O (BU (i:=1) BZ O O Ag) (BB O (BC O O (bI (q.getD Bh) (B2.1 (TR h3 ha)).nd (by have:=FC (TR h3 ha);omega)) O) (Ax Ay 2 [] O (BO 22 O (fun g1=>?_) (fun g1=>?_))))
  ·simp only[sd,se] at g1;refine Ar Ay 5 [] O ?_;refine Av O (fun c=>?_) (fun c=>by cases c);refine A3 (Ar Ay 1 [] O (As (Au Ay 2 [] O ?_)));refine Av O (fun c1=>?_) (fun c1=>by cases c1);refine Au Ay 5 [2,0] O (BH (BW (i:=2) O) (A1 (⟨O,_,_,⟨_,_,O,(BA (i:=2) BZ O O O),⟨_,_,O,O,⟨_,_,O,O,O⟩⟩⟩,(List.nil_sublist _),?_⟩)))
   all_goals exact⟨by show (.tup [.agg [.p (I 0),.p (I 0),.p (.str ⟨#[]⟩),.p (.lst []),.p (.lst [])],.p (.bool false),.p (I 11)]:AV)=_;first | (rw[TD he]<;>rfl) | (rw[O3 ha g]<;>rfl) | (rw[MR ha g]<;>first | rfl | omega) | (rw[Rj ha]<;>first | rfl | (rintro⟨_,_ | _⟩<;>omega)),rfl⟩
  simp only[sd,se] at g1;refine BB O (BU (i:=1) BZ O O Ag) (BB O (BC O O (Ym _ (q.getD Bh) (Nat.le_refl _) (B2.1 (TR h3 ha)).nd) O) (Ar Ay 3 [] O (Av O (fun c=>?_) (fun c=>?_))))
  ·simp only[sd,se] at c;refine A3 (Ar Ay 1 [] O (As (Au Ay 2 [] O ?_)));refine Av O (fun c1=>?_) (fun c1=>by cases c1);refine Au Ay 5 [2,0] O (BH (BW (i:=2) O) (A1 (⟨O,_,_,⟨_,_,O,(BA (i:=2) BZ O O O),⟨_,_,O,O,⟨_,_,O,O,O⟩⟩⟩,(List.nil_sublist _),?_⟩)))
   all_goals exact⟨by show (.tup [.agg [.p (I 0),.p (I 0),.p (.str ⟨#[]⟩),.p (.lst []),.p (.lst [])],.p (.bool false),.p (I 11)]:AV)=_;first | (rw[TD he]<;>rfl) | (rw[O3 ha g]<;>rfl) | (rw[MR ha g]<;>first | rfl | omega) | (rw[Rj ha]<;>first | rfl | (rintro⟨_,_ | _⟩<;>omega)),rfl⟩
  simp only[sd,se] at c;refine A2 (As (Au Ay 2 [] O ?_));refine Av O (fun c1=>by cases c1) (fun c1=>?_);refine A2 (As (Bt (fun k=>false) Dn (Bk Ay 5 [1,0,2,1] O (A1 (⟨O,_,_,⟨_,_,O,(BA (i:=2) BZ O O Ag),⟨_,_,O,O,⟨_,_,O,O,O⟩⟩⟩,(List.nil_sublist _),?_⟩)))))
  all_goals exact⟨by show (.tup [.agg ((BP (q.getD Bh)).map .p),.p (.bool q.isSome),.p (I 0)]:AV)=_;first | (rw[TD he]<;>rfl) | (rw[O3 ha g]<;>rfl) | (rw[MR ha g]<;>first | rfl | omega) | (rw[Rj ha]<;>first | rfl | (rintro⟨_,_ | _⟩<;>omega)),rfl⟩
 simp only[sd,se] at g;refine Ar Ay 9 [] O ?_;refine Av O (fun c=>by cases c) (fun c=>?_);refine A2 (As (Au Ay 2 [] O ?_));refine Av O (fun c1=>by cases c1) (fun c1=>?_);refine A2 (As (Bt (fun k=>false) Dn (Bk Ay 5 [1,0,2,1] O (A1 (⟨O,_,_,⟨_,_,O,(BA (i:=2) BZ O O Ag),⟨_,_,O,O,⟨_,_,O,O,O⟩⟩⟩,(List.nil_sublist _),?_⟩)))))
 all_goals exact⟨by show (.tup [.agg ((BP (q.getD Bh)).map .p),.p (.bool q.isSome),.p (I 0)]:AV)=_;first | (rw[TD he]<;>rfl) | (rw[O3 ha g]<;>rfl) | (rw[MR ha g]<;>first | rfl | omega) | (rw[Rj ha]<;>first | rfl | (rintro⟨_,_ | _⟩<;>omega)),rfl⟩
theorem kc:∀(a b:List CS),(b.length=0)→ET Tryz.prog 118 [.p (.lst (List.map By a)),.p (.lst (List.map By b)),.p (.fn 119)] (.p (.bool (decide (a.length=0)))):=by
 intro a b h1;refine A5 Tryz.func118 O rR (n:=32) O O (Au Ay 1 [] O (As (Aw (Br O (Aq O (BJ EV O (List.length_map _)) (Br O (Aq O (BJ EV O (List.length_map _)) (Ar Ay 1 [] O (Av O (fun c=>?_) (fun c=>?_))))))))))
 ·simp only[sd,se] at c;refine Au Ay 1 [] O (A1 (⟨O,_,_,⟨_,_,O,O,O⟩,(List.nil_sublist _),?_⟩))
  all_goals exact⟨pB (decide_eq_false An).symm,rfl⟩
 simp only[sd,se] at c;refine A2 (As (Aw (Br O (Aq O (BJ EV O (List.length_map _)) (Ar Ay 1 [] O (A9 (Bc (α:=Nat) (fun i=>⟨32,mk [(1,.p (.lst (List.map By b))),(2,.p (.fn 119)),(15,.p (.lst (List.map By a))),(16,.p (I (a.length:Nat))),(17,.p (I (i:Int)))],[],[]⟩) (fun i=>a.length - i) (fun i=>i≤a.length) 0 AQ ?_ ?_)))))))
 ·exact BS ⟨we O,we O,we O,we O,we O,Ap⟩ (leH (is:=[]) O (C2))
 rintro i hC
 try simp only at hC
 have hi:=hC;refine Au Ay 1 [] O (As (Av O (fun c1=>?_) (fun c1=>?_)))
 ·simp only[sd,se] at c1;omega
 simp only[sd,se] at c1;refine Be (Au Ay 1 [] O (A1 (⟨O,_,_,⟨_,_,O,O,O⟩,(List.nil_sublist _),?_⟩)))
 all_goals exact⟨pB (decide_eq_true An).symm,rfl⟩
theorem lr:∀(a b:List Tm),(b.length=0)→ET Tryz.prog 120 [.p (.lst (BE a)),.p (.lst (BE b)),.p (.fn 91)] (.p (.bool (decide (a.length=0)))):=by
 intro a b h1;refine A5 Tryz.func120 O tZ (n:=32) O O (Au Ay 1 [] O (As (Aw (Br O (Aq O (BJ Bf O (BQ _)) (Br O (Aq O (BJ Bf O (BQ _)) (Ar Ay 1 [] O (Av O (fun c=>?_) (fun c=>?_))))))))))
 ·simp only[sd,se] at c;refine Au Ay 1 [] O (A1 (⟨O,_,_,⟨_,_,O,O,O⟩,(List.nil_sublist _),?_⟩))
  all_goals exact⟨pB (decide_eq_false An).symm,rfl⟩
 simp only[sd,se] at c;refine A2 (As (Aw (Br O (Aq O (BJ Bf O (BQ _)) (Ar Ay 1 [] O (A9 (Bc (α:=Nat) (fun i=>⟨32,mk [(1,.p (.lst (BE b))),(2,.p (.fn 91)),(15,.p (.lst (BE a))),(16,.p (I (a.length:Nat))),(17,.p (I (i:Int)))],[],[]⟩) (fun i=>a.length - i) (fun i=>i≤a.length) 0 AQ ?_ ?_)))))))
 ·exact BS ⟨we O,we O,we O,we O,we O,Ap⟩ (leH (is:=[]) O (C2))
 rintro i hC
 try simp only at hC
 have hi:=hC;refine Au Ay 1 [] O (As (Av O (fun c1=>?_) (fun c1=>?_)))
 ·simp only[sd,se] at c1;omega
 simp only[sd,se] at c1;refine Be (Au Ay 1 [] O (A1 (⟨O,_,_,⟨_,_,O,O,O⟩,(List.nil_sublist _),?_⟩)))
 all_goals exact⟨pB (decide_eq_true An).symm,rfl⟩
theorem m0:∀(a b:Tm),(b.levels.length=0)→(b.kids.length=0)→ET Tryz.prog 91 [.agg ((BP a).map .p),.agg ((BP b).map .p)] (.p (.bool (Od a b))):=by
 intro a b h1 h2;obtain⟨ak,ai,an,al,as1⟩:=a;obtain⟨bk,bi,bn,bl,bs⟩:=b;simp only[Tm.levels,Tm.kids] at h1 h2;refine A5 Tryz.func91 O wN (n:=38) O O (Aw (BF O (BN O) fun b2=>BF O (BN O) fun b3=>Ar Ay 1 [] O (As (BT [] 4 (fun y=>y= .p (.bool ((((((ak:Int)==(bk:Int))&&((ai:Int)==(bi:Int)))&&(an.toList==bn.toList))&&(decide (al.length=0)))&&(decide (as1.length=0))))) ?_ ?_))))
 ·refine A3 (Ax Ay 6 [1,0] O (BO 10 O (fun g=>?_) (fun g=>?_)))
  ·simp only[sd,se] at g;refine Ax Ay 7 [1,0] O (BO 17 O (fun g1=>?_) (fun g1=>?_))
   ·simp only[sd,se] at g1;refine Ax Ay 4 [1,0] O (BB O (FV O O) (Ax Ay 2 [] O (BO 24 O (fun g2=>?_) (fun g2=>?_))))
    ·simp only[sd,se] at g2;refine Ax Ay 4 [1,0] O (BB O (BC O O (kc al bl h1) O) (Ax Ay 2 [] O (BO 31 O (fun g3=>?_) (fun g3=>?_))))
     ·simp only[sd,se] at g3;exact Ax Ay 4 [1,0] O (BB O (BC O O (lr as1 bs h2) O) (Ar Ay 2 [] O ⟨O,O,AM,AI,Ap⟩))
     simp only[sd,se] at g3;exact Ar Ay 7 [] O ⟨O,O,AM,AI,Ap⟩
    simp only[sd,se] at g2;exact Ar Ay 14 [] O ⟨O,O,AM,AI,Ap⟩
   simp only[sd,se] at g1;exact Ar Ay 21 [] O ⟨O,O,AM,AI,Ap⟩
  simp only[sd,se] at g;exact Ar Ay 28 [] O ⟨O,O,AM,AI,Ap⟩
 rintro _ rfl;refine A1 (⟨O,_,_,⟨_,_,O,O,O⟩,(List.nil_sublist _),?_⟩)
 all_goals exact⟨by show (.p (.bool ((((((ak:Int)==(bk:Int))&&((ai:Int)==(bi:Int)))&&(an.toList==bn.toList))&&(decide (al.length=0)))&&(decide (as1.length=0)))):AV)=_;rw[xG h1 h2],rfl⟩
def wy (ds:List B5) (n:Nat):Prop:=∀(m:Nat) (t:Tm) (s:Int),Gl s→Ii ds Bp n s t≠ .stuck→Bn Tryz.prog 53 [.ptr m 0,.agg ((BP t).map .p)] [.box m [.p (.lst (List.map Bi ds)),.p (I s)]] (Lm (fun(r:Option Int×Int)=> .tup [.p (I (r.1.getD 0)),.p (.bool r.1.isSome)]) (fun _=> .p (.iface 122 .unit)) (fun r H'=>H'=[.box m [.p (.lst (List.map Bi ds)),.p (I r.2)]]) ((Ii ds Bp n s t).ex))
set_option maxHeartbeats 4000000 in
theorem Yw:∀(ds:List B5) (hE:Gi ds) (n:Nat),wy ds n:=by
 intro ds hE n
 induction n using Nat.strongRecOn with
 | ind n ih =>
  intro m t s hJ hns;have h2:=hE;obtain⟨k,rfl⟩:=j7 rfl hns;generalize hC:Ii ds Bp (k+1) s t=X at hns ⊢;rw[Va] at hC;have hn0:=hns;rw[←hC] at hn0;have hn1:=WU hn0;refine A5 Tryz.func53 O vK (n:=116) O O (Aw (BF O (BN O) fun b3=>Ar Ay 2 [] O (Aw (Ax Ay 2 [0] O (Dm [1] O O O (.inl ⟨O,O,O⟩) (Oi ds hE k m t s hJ hn1) ⟨_,_,O,O,O⟩ Am (aw (we O) (aw (we O) (E0))) (fun _ _ h=>(congrArg List.length h).trans O) ?_ ?_)))))
  rotate_left
  ·intro e _ he;exact⟨O,_,List.nil_sublist _,⟨_,by rw[←hC];exact WN hn0 he,rfl⟩⟩
  rintro⟨pr,n2⟩ _ hz rfl;obtain⟨hr2,hr3⟩:=Vg hn0 hz;rw[hr3] at hC;have hJ2:=RO hJ (IV hz);have hsp:qG pr:=YI hr2;have hsl:=hsp.len;have hss:=hsp.sz;have hsa:=hsp.asz;refine Aq O (BC O O (Ma pr hsp.nd Ab) O) (Ax Ay 3 [] O (BF O (A7 Bx O) fun b6=>Ar Ay 2 [0,1] O (As (Aw (Aq O (Az HJ O O) ?_)))));generalize hz:(A8 pr).1=z;obtain⟨zk,zi,zn,zl,zs⟩:=z;have hzo:okB (.mk zk zi zn zl zs)=true:=hz▸hsp.head;have hzq:=hz;have hzl:=Jp hzo;have hzn:=(B2.1 hzo).nd;refine Ar Ay 1 [0] O (A9 (Au Ay 2 [] O (Av O (fun c=>?_) (fun c=>?_))))
  ·simp only[sd,se] at c;have hk:=(congrArg Tm.kind hzq).trans c;rw[UF (r:=(pr,n2)) hk,hzq] at hC;refine Au Ay 4 [0] O (A1 (⟨O,_,_,⟨_,_,O,O,⟨_,_,O,O,O⟩⟩,(B8 (is:=[2]) O),?_⟩));exact⟨⟨_,_⟩,DH hC.symm,O,O⟩
  simp only[sd,se] at c;refine As (Au Ay 2 [] O (BT [0,6,7,25] 30 (fun y=>y= .p (.bool (decide (zk=9∨zk=10)))) ?_ ?_))
  ·refine Av O (fun c1=>?_) (fun c1=>?_)
   ·simp only[sd,se] at c1;exact A2 (⟨O,O,(List.Sublist.refl _),(by refine pB (Bool.eq_iff_iff.2 ?_);simp only[beq_iff_eq,decide_eq_true_eq];omega),⟨O,O,O,O,Ap⟩⟩)
   simp only[sd,se] at c1;exact A3 (Ar Ay 2 [] O (⟨O,O,(List.Sublist.refl _),(by refine pB (Bool.eq_iff_iff.2 ?_);simp only[beq_iff_eq,decide_eq_true_eq];omega),⟨O,O,O,O,Ap⟩⟩))
  rintro _ rfl;refine Av O (fun c1=>?_) (fun c1=>?_)
  ·simp only[sd,se] at c1;have hk9:zk=9∨zk=10:=by simpa using c1
   refine Aw (Ax Ay 3 [0] O ?_);obtain⟨x,hx⟩:=A6 (l:=zs) (i:=0) An;rw[dW (r:=(pr,n2)) (by rw[hzq];exact hk9) (by rw[hzq];exact hx)] at hC;refine Aq O (A4 Bf O O An (Bd hx) (BD _)) (Aq O (BM BZ O (BD _)) (Dm [2] O O O (.inl ⟨O,O,O⟩) (ih k An m x n2 hJ2 (by rw[hC];exact hns)) ⟨_,_,O,O,O⟩ Am (aw (we O) (aw (we O) (E0))) (fun _ _ h=>(congrArg List.length h).trans O) ?_ ?_))
   rotate_left
   ·intro e _ he;exact⟨O,_,List.nil_sublist _,⟨_,by rw[←hC];exact he,rfl⟩⟩
   rintro⟨q,n21⟩ _ hz1 rfl;have hfin:=hz1;refine Ar Ay 4 [] O (A1 (⟨O,_,_,⟨_,_,O,O,⟨_,_,O,O,O⟩⟩,(B8 (is:=[2]) O),?_⟩));exact⟨⟨q,n21⟩,by rw[←hC];exact hfin,rfl,rfl⟩
  simp only[sd,se] at c1;refine Au Ay 2 [] O (Av O (fun c2=>?_) (fun c2=>?_))
  ·simp only[sd,se] at c2;have hk:=(congrArg Tm.kind hzq).trans c2;refine Aw (Ax Ay 2 [0] O (Aq O (CE [2] O (.inl ⟨O,O,O⟩) (PZ m ds n2 (.mk zk zi zn zl zs:Tm) hE.g.env) ⟨_,_,O,O,O⟩ Am O (.inl O)) (Ax Ay 3 [] O (BF O (A7 IK O) fun b8=>Ar Ay 2 [0,1] O (As (Au Ay 2 [] O (Av O (fun c3=>?_) (fun c3=>?_))))))))
   ·simp only[sd,se] at c3;rw[dS (r:=(pr,n2)) hk (.inl (by rw[hzq];exact c3))] at hC;refine Au Ay 2 [] O (A1 (⟨O,_,_,⟨_,_,O,O,⟨_,_,O,O,O⟩⟩,(B8 (is:=[3]) O),?_⟩));exact⟨⟨_,_⟩,DH hC.symm,O,O⟩
   simp only[sd,se] at c3;have hu:=c3;obtain⟨ix,dd,e1,e2,e3,e4⟩:=JS hu;have hde:=e2.decl;have hdg:=h2.g.all _ e3;have hel:=h2.g.env.len;have hil:=(List.getElem?_eq_some_iff.1 e1).1;have hfx:=hdg.fx;have hnr:=Ih hdg;have hcl:=hdg.din.cl;have hfl:=hdg.din.fl;refine A2 (As (V4 [.val (.ptr m 0),.val (.ptr m 0),.val (.ptr m (0+0)),.val (.p (.lst (List.map Bi ds))),.val (.ptr b8 (0+1)),.val (.p (I (((Bb ds (.mk zk zi zn zl zs:Tm).name).1).decl))),.val (.ref (Bi dd)),.val (.agg ((Bi dd).map .p)),.new [.p (I 0),.p (.str ⟨#[]⟩),.p (I 0),.p (I 0),.p (I 0),.p (.str ⟨#[]⟩),.p (.nils),.p (.nils),.p (I 0),.p (I 0),.p (.str ⟨#[]⟩),.p (.nils),.p (.nils),.p (I 0),.p (.nils),.p (I 0),.p (I 0),.p (I 0),.p (.str ⟨#[]⟩),.p (.nils),.p (.nils),.p (.nils),.p (.nils)]] Dn O Aj Aj (C6 O (fun Bs=>Ba O) (C6 O (fun Bs=>OO O) (C6 O (fun Bs=>Az qK O O) (C6 O (fun Bs=>B7 (i:=Bs.length+3) j9 O (CX O) O) (C6 O (fun Bs=>Az GO O O) ?_)))))));refine C6 O (fun Bs=>A0 (i:=Bs.length+0) DM O (CX O) (DW _)) (C6 O (fun Bs=>A4 IF O O An (D8 e4) (Cp _)) (C6 O (fun Bs=>BM FZ O (Cp _)) (TM O (fun Bs=>A7 Jw O) fun b10=>Hk ?_)))
   change AL _ _ _ 9 ⟨116,_,[.box b10 [.p (I 0),.p (.str ⟨#[]⟩),.p (I 0),.p (I 0),.p (I 0),.p (.str ⟨#[]⟩),.p (.nils),.p (.nils),.p (I 0),.p (I 0),.p (.str ⟨#[]⟩),.p (.nils),.p (.nils),.p (I 0),.p (.nils),.p (I 0),.p (I 0),.p (I 0),.p (.str ⟨#[]⟩),.p (.nils),.p (.nils),.p (.nils),.p (.nils)],.box b8 ((DS ((Bb ds (.mk zk zi zn zl zs:Tm).name).1)).map .p),.box b6 [.p (I zk),.p (I zi),.p (.str zn),.p (.lst (List.map By zl)),.p (.lst (BE zs))],.box b3 ((BP t).map .p),.box m [.p (.lst (List.map Bi ds)),.p (I n2)]],[]⟩ _
   refine Ar Ay 1 [0,1] O (Aw (Aq O (Az GO O O) (Aq O (A0 (i:=1) DM O O (DV _)) (Bg O (A9 (Au Ay 2 [] O (Av O (fun c4=>?_) (fun c4=>?_))))))))
   ·simp only[sd,se] at c4;have hk5:=c4;refine Aw (Aq O (BU (i:=0) FZ O O Ad) (Aq O (BC O O (OB dd hdg.din hdg.fx) O) (Ar Ay 1 [] O (Aw (Br O (Aq O (BJ Bf O (BQ _)) (Ar Ay 2 [] O (Av O (fun c5=>?_) (fun c5=>?_)))))))))
    ·simp only[sd,se] at c5;refine Aw (Ax Ay 3 [] O ?_);obtain⟨x,hx⟩:=A6 (l:=(A8 pr).2) (i:=(CB dd:Int).toNat) An;rw[iv (r:=(pr,n2)) hk (by rw[hzq];exact hu) rfl (by rw[hzq];exact e4) (by rw[hzq];exact hk5) An hx] at hC;refine Aq O (A4 Bf O O An (Bd hx) (BD _)) (Aq O (BM BZ O (BD _)) (Dm [4] O O O (.inl ⟨O,O,O⟩) (ih k An m x n2 hJ2 (by rw[hC];exact hns)) ⟨_,_,O,O,O⟩ Am (aw (we O) (aw (we O) (E0))) (fun _ _ h=>(congrArg List.length h).trans O) ?_ ?_))
     rotate_left
     ·intro e _ he;exact⟨O,_,List.nil_sublist _,⟨_,by rw[←hC];exact he,rfl⟩⟩
     rintro⟨q,n21⟩ _ hz1 rfl;have hfin:=hz1;refine Ar Ay 4 [] O (A1 (⟨O,_,_,⟨_,_,O,O,⟨_,_,O,O,O⟩⟩,(B8 (is:=[4]) O),?_⟩));exact⟨⟨q,n21⟩,by rw[←hC];exact hfin,rfl,rfl⟩
    simp only[sd,se] at c5;rw[eE (r:=(pr,n2)) hk (by rw[hzq];exact hu) rfl (by rw[hzq];exact e4) (by rw[hzq];exact hk5) An] at hC;refine A2 (Au Ay 2 [] O (A1 (⟨O,_,_,⟨_,_,O,O,⟨_,_,O,O,O⟩⟩,(B8 (is:=[4]) O),?_⟩)));exact⟨⟨_,_⟩,DH hC.symm,O,O⟩
   simp only[sd,se] at c4;have hk5:=c4;refine Au Ay 2 [] O (Av O (fun c5=>?_) (fun c5=>?_))
   ·simp only[sd,se] at c5;have hk6:=c5;obtain⟨fk,ff,f1,f2⟩:=e2.func hk6;have hff:dd.funs[(Bb ds (Tm.mk zk zi zn zl zs).name).1.item.toNat]?=some ff:=by rw[f2];simpa using f1
    have hfm:=List.mem_of_getElem? hff;have hfa:=hdg.fu ff hfm;have hfi:=(List.getElem?_eq_some_iff.1 f1).1;refine Aw (Aq O (Az C5 O O) (Aq O (A0 (i:=0) Hq O O (CJ _)) (Aq O (Az GO O O) (Aq O (A0 (i:=1) DM O O (Fm _)) (Aq O (A4 HV O O An (EZ hff) (DZ _)) (Aq O (BM jN O (DZ _)) (BF O (A7 dR O) fun b12=>Ar Ay 1 [0,1] O (As (Aw (Br O (Aq O (BJ Bf O (BQ _)) (Aq O (Az HE O O) (Aq O (A0 (i:=0) DM O O (CU _)) (Ar Ay 1 [] O (Av O (fun c6=>?_) (fun c6=>?_))))))))))))))))
    ·simp only[sd,se] at c6;rw[ca (r:=(pr,n2)) hk (by rw[hzq];exact hu) rfl (by rw[hzq];exact e4) (by rw[hzq];exact hk6) (by rw[hzq];exact hff) (by show ¬ff.arity≤((A8 pr).2.length:Int);omega)] at hC;refine Au Ay 2 [] O (A1 (⟨O,_,_,⟨_,_,O,O,⟨_,_,O,O,O⟩⟩,(B8 (is:=[5]) O),?_⟩));exact⟨⟨_,_⟩,DH hC.symm,O,O⟩
    simp only[sd,se] at c6;refine A2 (As ?_);rw[XJ (r:=(pr,n2)) hk (by rw[hzq];exact hu) rfl (by rw[hzq];exact e4) (by rw[hzq];exact hk6) (by rw[hzq];exact hff) (by show ff.arity≤((A8 pr).2.length:Int);omega)] at hC;have hn0b:=hns;rw[←hC] at hn0b;have hn2:=J2 hn0b;obtain⟨e,he⟩ | ⟨⟨q,n21⟩,hz1⟩:=Fy ((Dp ds Bp (DK ds Bp k) k ff.tree (((A8 pr).2).take ((ff.arity:Int).toNat)) Bh n2).ex)
    ·refine JD ((fun _=> .p (.iface 122 .unit)) e) 7 [.val (.ptr m 0),.val (.ptr b12 (0+7)),.val (.agg ((Cz ff.tree).map .p)),.val (.p (.lst (BE ((A8 pr).2)))),.val (.ptr b12 (0+6)),.val (.p (I ff.arity)),.val (.p (.lst (BE (((A8 pr).2).take ((ff.arity:Int).toNat))))),.val (.p .any),.val (.p .any),.val (.p .any),.val (.p .any),.val (.p .any),.val (.p .any),.new [.p (I 0),.p (I 0),.p (.str ⟨#[]⟩),.p (.nils),.p (.nils)],.new [.p (I 0),.p (I 0),.p (.str ⟨#[]⟩),.p (.nils),.p (.nils)],.val (.p .any),.val (.p .any),.val (.p .any),.val (.p .any)] Dn O Aj O Ap (fun _ _=>by exact⟨rfl,_,List.nil_sublist _,⟨_,by rw[←hC];exact Kz hn0b he,rfl⟩⟩) ?_;refine CA O O (fun Bs=>Ba O) (CA O O (fun Bs=>Az HE O O) (CA O O (fun Bs=>Bw (i:=Bs.length+0) Jl O (CX O) (D1 _) (Co _)) (CA O O (fun Bs=>Ba O) (CA O O (fun Bs=>Az HE O O) (CA O O (fun Bs=>A0 (i:=Bs.length+0) DM O (CX O) (CU _)) (CA O O (fun Bs=>CZ (lo:=0) (hi:=(ff.arity:Int).toNat) Bf O (CG (Bv _)) O ⟨_,pI An⟩ (Nat.zero_le _) AR (OE ((A8 pr).2) ((ff.arity:Int).toNat))) (LX (mkp:=(fun _=> .p (.iface 122 .unit))) (e:=e) [5] he O O (.inl ⟨O,O,O⟩) (RV k k m ds ff.tree (((A8 pr).2).take ((ff.arity:Int).toNat)) n2 (Oi ds hE k) hE.g hJ2 (QZ hE e3 hfm hsp.args) hn2) ⟨_,_,O,O,O⟩ Am (aw (we O) (aw (we O) (aw (we O) (E0)))) (DD O O Aj (DD O O Aj (DD O O Aj ?_))))))))));exact DD O O Aj (DD O O Aj (WB O O (fun Bs=>A7 Bx O) fun _=>WB O O (fun Bs=>A7 Bx O) fun _=>DD O O Aj (DD O O Aj (DD O O Aj (DD O O Aj LF)))))
    rw[Mw hz1] at hC;have hJ3:=VH hJ2 (IV hz1);refine IU [.box b12 ((FH ff).map .p),.box b10 ((Bi dd).map .p),.box b8 ((DS ((Bb ds (.mk zk zi zn zl zs:Tm).name).1)).map .p),.box b6 [.p (I zk),.p (I zi),.p (.str zn),.p (.lst (List.map By zl)),.p (.lst (BE zs))],.box b3 ((BP t).map .p),.box m [.p (.lst (List.map Bi ds)),.p (I n21)]] 7 [.val (.ptr m 0),.val (.ptr b12 (0+7)),.val (.agg ((Cz ff.tree).map .p)),.val (.p (.lst (BE ((A8 pr).2)))),.val (.ptr b12 (0+6)),.val (.p (I ff.arity)),.val (.p (.lst (BE (((A8 pr).2).take ((ff.arity:Int).toNat))))),.val (.tup [.agg ((BP (KY q)).map .p),.p (.lst (BE (N9 q))),.p (.bool q.1.isSome),.agg ((BP q.2).map .p)]),.val (.tup [.agg ((BP (KY q)).map .p),.p (.lst (BE (N9 q))),.p (.bool q.1.isSome),.agg ((BP q.2).map .p)]),.val (.agg ((BP (KY q)).map .p)),.val (.p (.lst (BE (N9 q)))),.val (.p (.bool q.1.isSome)),.val (.agg ((BP q.2).map .p)),.new [.p (I 0),.p (I 0),.p (.str ⟨#[]⟩),.p (.nils),.p (.nils)],.new [.p (I 0),.p (I 0),.p (.str ⟨#[]⟩),.p (.nils),.p (.nils)]] [.p .any,.p (.lst (BE (N9 q))),.p (.bool q.1.isSome),.p .any] [10,11,12] Dn O Aj Aj Aj O ?_;refine Bj O O (fun Bs=>Ba O) (Bj O O (fun Bs=>Az HE O O) (F7 O O O (fun Bs=>Bw (i:=Bs.length+0) Jl O (CX O) (D1 _) (Co _)) (fun _ Bs=>Bw (i:=Bs.length+0) Jl O (CX O) (D1 _) (Co _)) (Bj O O (fun Bs=>Ba O) (Bj O O (fun Bs=>Az HE O O) (F7 O O O (fun Bs=>A0 (i:=Bs.length+0) DM O (CX O) (CU _)) (fun _ Bs=>A0 (i:=Bs.length+0) DM O (CX O) (CU _)) (Bj O O (fun Bs=>CZ (lo:=0) (hi:=(ff.arity:Int).toNat) Bf O (CG (Bv _)) O ⟨_,pI An⟩ (Nat.zero_le _) AR (OE ((A8 pr).2) ((ff.arity:Int).toNat))) ?_))))));refine KS O O (fun Bs=>G2 [5] O (.inl ⟨O,O,O⟩) (Lj hz1 (RV k k m ds ff.tree (((A8 pr).2).take ((ff.arity:Int).toNat)) n2 (Oi ds hE k) hE.g hJ2 (QZ hE e3 hfm hsp.args) hn2)) ⟨_,_,O,O,O⟩ Am O (aw (we O) (aw (we O) (aw (we O) (E0))))) (Bj O O (fun Bs=>Ba O) (Bj O O (fun Bs=>DN O O) (Bj O O (fun Bs=>DN O O) (Bj O O (fun Bs=>DN O O) (Bj O O (fun Bs=>DN O O) (QB O O (fun Bs=>A7 Bx O) fun b13=>QB O O (fun Bs=>A7 Bx O) fun b16=>Hk ?_))))))
    refine Dq [.box b13 ((BP (KY q)).map .p),.box b16 [.p (I 0),.p (I 0),.p (.str ⟨#[]⟩),.p (.nils),.p (.nils)],.box b12 ((FH ff).map .p),.box b10 ((Bi dd).map .p),.box b8 ((DS ((Bb ds (.mk zk zi zn zl zs:Tm).name).1)).map .p),.box b6 [.p (I zk),.p (I zi),.p (.str zn),.p (.lst (List.map By zl)),.p (.lst (BE zs))],.box b3 ((BP t).map .p),.box m [.p (.lst (List.map Bi ds)),.p (I n21)]] O (Cc (i:=0) BZ O O O Ag AY (FX _)) ?_;refine Dq [.box b13 ((BP (KY q)).map .p),.box b16 [.p (I 0),.p (I 0),.p (.str ⟨#[]⟩),.p (.nils),.p (.nils)],.box b12 ((FH ff).map .p),.box b10 ((Bi dd).map .p),.box b8 ((DS ((Bb ds (.mk zk zi zn zl zs:Tm).name).1)).map .p),.box b6 [.p (I zk),.p (I zi),.p (.str zn),.p (.lst (List.map By zl)),.p (.lst (BE zs))],.box b3 ((BP t).map .p),.box m [.p (.lst (List.map Bi ds)),.p (I n21)]] O (EC O) (Dq [.box b13 ((BP (KY q)).map .p),.box b16 [.p (I 0),.p (I 0),.p (.str ⟨#[]⟩),.p (.nils),.p (.nils)],.box b12 ((FH ff).map .p),.box b10 ((Bi dd).map .p),.box b8 ((DS ((Bb ds (.mk zk zi zn zl zs:Tm).name).1)).map .p),.box b6 [.p (I zk),.p (I zi),.p (.str zn),.p (.lst (List.map By zl)),.p (.lst (BE zs))],.box b3 ((BP t).map .p),.box m [.p (.lst (List.map Bi ds)),.p (I n21)]] O (EC O) ?_);refine Dq [.box b13 ((BP (KY q)).map .p),.box b16 ((BP q.2).map .p),.box b12 ((FH ff).map .p),.box b10 ((Bi dd).map .p),.box b8 ((DS ((Bb ds (.mk zk zi zn zl zs:Tm).name).1)).map .p),.box b6 [.p (I zk),.p (I zi),.p (.str zn),.p (.lst (List.map By zl)),.p (.lst (BE zs))],.box b3 ((BP t).map .p),.box m [.p (.lst (List.map Bi ds)),.p (I n21)]] O (Cc (i:=1) BZ O O O Ag AY (FX _)) (Jb (As (BT [0,16] 110 (fun y=>y= .p (.bool ((!q.1.isSome)&&(!(Od q.2 Bh))))) ?_ ?_)))
    ·refine A3 (Ax Ay 3 [] O (BO 105 O (fun g=>?_) (fun g=>?_)))
     ·simp only[sd,se] at g;exact Ax Ay 2 [1] O (BB O (Gz O O (m0 q.2 (.mk 0 0 ⟨#[]⟩ [] []:Tm) O O) (aw (we O) (aw (E1 O) (E0)))) (Ar Ay 2 [] O (⟨O,O,AM,(by first | rfl | (refine pB ?_;rw[g];rfl)),⟨O,O,Ap⟩⟩)))
     simp only[sd,se] at g;exact Ar Ay 5 [] O (⟨O,O,AM,(by first | rfl | (refine pB ?_;rw[g];rfl)),⟨O,O,Ap⟩⟩)
    rintro _ rfl;refine Av O (fun c7=>?_) (fun c7=>?_)
    ·simp only[sd,se] at c7;rw[bp (by simpa using c7.1) rfl (by simpa using c7.2)] at hC;refine Aw (Ax Ay 2 [1] O (Dm [7] O O O (.inl ⟨O,O,O⟩) (ih k An m q.2 n21 hJ3 (by rw[hC];exact hns)) ⟨_,_,O,O,O⟩ Am (aw (we O) (aw (we O) (E0))) (fun _ _ h=>(congrArg List.length h).trans O) ?_ ?_))
     rotate_left
     ·intro e _ he;exact⟨O,_,List.nil_sublist _,⟨_,by rw[←hC];exact he,rfl⟩⟩
     rintro⟨q1,n22⟩ _ hz2 rfl;have hfin:=hz2;refine Ar Ay 4 [] O (A1 (⟨O,_,_,⟨_,_,O,O,⟨_,_,O,O,O⟩⟩,(B8 (is:=[7]) O),?_⟩));exact⟨⟨q1,n22⟩,by rw[←hC];exact hfin,rfl,rfl⟩
    simp only[sd,se] at c7;rw[dX (by by_cases hqs:q.1.isSome=true;exact .inl hqs;exact .inr (.inr (by simpa [hqs] using c7)))] at hC;refine A2 (Au Ay 2 [] O (A1 (⟨O,_,_,⟨_,_,O,O,⟨_,_,O,O,O⟩⟩,(B8 (is:=[7]) O),?_⟩)));exact⟨⟨_,_⟩,DH hC.symm,O,O⟩
   simp only[sd,se] at c5;rw[S7 (r:=(pr,n2)) hk (by rw[hzq];exact hu) rfl (by rw[hzq];exact hk5) (by rw[hzq];exact c5)] at hC;refine A2 (Au Ay 2 [] O (A1 (⟨O,_,_,⟨_,_,O,O,⟨_,_,O,O,O⟩⟩,(B8 (is:=[4]) O),?_⟩)));exact⟨⟨_,_⟩,DH hC.symm,O,O⟩
  simp only[sd,se] at c2;rw[mT (r:=(pr,n2)) (by rw[hzq];assumption) (by rw[hzq];show ¬zk=9;omega) (by rw[hzq];show ¬zk=10;omega) (by rw[hzq];assumption)] at hC;refine A2 (Au Ay 2 [] O (A1 (⟨O,_,_,⟨_,_,O,O,⟨_,_,O,O,O⟩⟩,(B8 (is:=[2]) O),?_⟩)));exact⟨⟨_,_⟩,DH hC.symm,O,O⟩
theorem gD:∀(ds:List B5) (N m bt bo bk:Nat) (t:Tm) (s:Int),(Gi ds)→(Gl s)→(Ii ds Bp N s t≠ .stuck)→Bn Tryz.prog 52 [.ptr m 0,.ptr bt 0,.ptr bo 0,.ptr bk 0] [.box m [.p (.lst (List.map Bi ds)),.p (I s)],.box bt ((BP t).map .p),.box bo [.p (I 0)],.box bk [.p (.bool false)]] (Lm (fun(r:Option Int×Int)=> .tup []) (fun _=> .p (.iface 122 .unit)) (fun r H'=>H'=[.box m [.p (.lst (List.map Bi ds)),.p (I r.2)],.box bt ((BP t).map .p),.box bo [.p (I (r.1.getD 0))],.box bk [.p (.bool r.1.isSome)]]) ((Ii ds Bp N s t).ex)):=by
 intro ds N m bt bo bk t s h1 h2 h3;refine A5 Tryz.func52 O wM (n:=11) O O (A3 (Ax Ay 2 [1] O (Dm [0] O O O (.inl ⟨O,O,O⟩) (Yw ds h1 N m t s h2 h3) ⟨_,_,O,O,O⟩ Am (aw (we O) (aw (we O) (E0))) (fun _ _ h=>(congrArg List.length h).trans O) ?_ ?_)))
 rotate_left
 ·intro e _ he;exact⟨O,_,List.nil_sublist _,⟨_,he,O⟩⟩
 rintro⟨q,n2⟩ _ hz rfl;refine Ar Ay 5 [2,0,3,0] O ⟨O,_,_,O,(B8 (is:=[0,1,2,3]) O),?_⟩;exact⟨⟨q,n2⟩,hz,O,O⟩
theorem js:∀(ds:List B5) (N:Nat) (t:Tm),(Gi ds)→(Ii ds Bp N 20000 t≠ .stuck)→ET Tryz.prog 18 [.p (.lst (List.map Bi ds)),.agg ((BP t).map .p)] (.tup [.p (I ((gy (Ii ds Bp N 20000 t)).1)),.p (.bool ((gy (Ii ds Bp N 20000 t)).2.1)),.p (I ((gy (Ii ds Bp N 20000 t)).2.2))]):=by
 intro ds N t h1 h2;refine A5 Tryz.func18 O uk (n:=18) O O (Aw (BF O (BN O) fun b3=>Ar Ay 3 [] O (Aw (BF O (A7 ki O) fun b7=>BF O (A7 wh O) fun b8=>Ar Ay 2 [1,0,0,0] O (As ?_)))));obtain⟨e,he⟩ | ⟨⟨q,n2⟩,ha⟩:=Fy ((Ii ds Bp N 20000 t).ex)
 ·refine A3 (Ax Ay 2 [] O (Vo [2,1,0] O O O (.inl ⟨O,O,O⟩) (Sj _ _ he (fun r=>r.2) (fun r=>[.box b3 ((BP t).map .p),.box b7 [.p (I (r.1.getD 0))],.box b8 [.p (.bool r.1.isSome)]]) 52 [.ptr b3 0,.ptr b7 0,.ptr b8 0] [.box b3 ((BP t).map .p),.box b7 [.p (I 0)],.box b8 [.p (.bool false)]] ds (fun m=>gD ds N m b3 b7 b8 t 20000 h1 LY h2)) ⟨_,_,O,O,⟨_,_,O,O,⟨_,_,O,O,O⟩⟩⟩ Am (DQ _) (Ar Ay 1 [] O (As (Au Ay 2 [] O ?_)))));refine Av O (fun c=>?_) (fun c=>by cases c);refine Au Ay 4 [] O (A1 (⟨O,_,_,⟨_,_,O,O,⟨_,_,O,O,⟨_,_,O,O,O⟩⟩⟩,(List.nil_sublist _),?_⟩))
  all_goals exact⟨by show (.tup [.p (I 0),.p (.bool false),.p (I 11)]:AV)=_;rw[pR he],rfl⟩
 refine A3 (Ax Ay 2 [] O (Aq O (CE [2,1,0] O (.inl ⟨O,O,O⟩) (Vr _ _ ha (fun r=>r.2) (fun r=>[.box b3 ((BP t).map .p),.box b7 [.p (I (r.1.getD 0))],.box b8 [.p (.bool r.1.isSome)]]) 52 [.ptr b3 0,.ptr b7 0,.ptr b8 0] [.box b3 ((BP t).map .p),.box b7 [.p (I 0)],.box b8 [.p (.bool false)]] ds (fun m=>gD ds N m b3 b7 b8 t 20000 h1 LY h2)) ⟨_,_,O,O,⟨_,_,O,O,⟨_,_,O,O,O⟩⟩⟩ Am O (.inl O)) (Ar Ay 1 [] O (As (Au Ay 2 [] O ?_)))));refine Av O (fun c=>by cases c) (fun c=>?_);refine A2 (As (Bt (fun k=>false) Dn (Bk Ay 5 [1,0] O (A1 (⟨O,_,_,⟨_,_,O,O,⟨_,_,O,O,⟨_,_,O,O,O⟩⟩⟩,(List.nil_sublist _),?_⟩)))))
 all_goals exact⟨by show (.tup [.p (I (q.getD 0)),.p (.bool q.isSome),.p (I 0)]:AV)=_;rw[pK ha],rfl⟩
def wv (ds:List B5) (n:Nat):Prop:=∀(b:Nat) (t:Tm) (c c2:Et) (q:Option Tm),Dl ds Db n c t= .ok (q,c2)→Bn Tryz.prog 17 [.p (.lst (List.map Bi ds)),.agg ((BP t).map .p),.ptr b 0] [.box b ((JA c).map .p)] (Gk (.tup [TV (q.getD Bh),.p (.bool q.isSome)]) [.box b ((JA c2).map .p)])
theorem dA:Bn Tryz.prog 13 [] [] (fp (fun b=> .ptr b 0) ((JA Lw).map .p)):=by
 refine A5 Tryz.func13 O wQ (n:=3) O O (Au Ay 1 [] O (Aw (Aq O (CO uj ua O) (BF O (BN O) fun b2=>Ar Ay 1 [] O (A1 (⟨O,_,_,⟨_,_,O,O,O⟩,(B8 (is:=[0]) O),?_⟩))))));exact⟨_,O,O⟩
end Go.Proofs.YtboammbpdaoojaaGreat
namespace Go.Eu
open Go.Abs
mutual
theorem jG {vars m:Int}(hv:vars≤549755813888):∀(t:Tm) (d:Int),wf vars m d t→0≤d→d+size t≤1073741824→Vp t
 | .mk k i n l ks,d,h,h0,h1=>by
  simp only[wf,size] at h h1;exact⟨fun e=>by have:=h.2.2.2.1 e;omega,bM hv ks k d 0 h.2.2.2.2.2 h0 An⟩
theorem bM {vars m:Int}(hv:vars≤549755813888):∀(ts:List Tm) (k d:Int) (j:Nat),fA vars m k d j ts→0≤d→d+1+BX ts≤1073741824→Oh ts
 | [],k,d,j,h,h0,h1=>trivial
 | t::ts,k,d,j,h,h0,h1=>by
  have:=Cf k j;simp only[fA,BX] at h h1;have:=size_pos t;exact⟨jG hv t _ h.1 An An,bM hv ts k d (j+1) h.2 h0 An⟩
end
mutual
theorem nN:∀(t:Tm),Cw t→Ci t
 | .mk k i n l ks,h=>by
  obtain⟨⟨f1,f2,_⟩,h2⟩:=h;refine⟨?_,jZ ks h2⟩;simp only[tc,Bool.and_eq_true,Bool.or_eq_true,decide_eq_true_eq];refine⟨?_,?_⟩
  ·by_cases e:i=0
   ·exact .inl (.inl e)
   rcases f1 e with h | h
   ·exact .inl (.inr h)
   exact .inr h
  by_cases e:n=⟨#[]⟩
  ·subst e;exact .inl rfl
  exact .inr (f2 e)
theorem jZ:∀(ts:List Tm),uN ts→aY ts
 | [],_=>trivial
 | t::ts,h=>⟨nN t h.1,jZ ts h.2⟩
end
theorem jV {t:Tm}{vars m:Int}(hn:Nd t) (hs:size t<1000000) (hv:vars≤549755813888) (h:wf (max vars 0) m 0 t∧Cw t):okB t=true :=
 B2.2 ⟨hn,nL t 0 h.1,jG An t 0 h.1 An An,nN t h.2,by omega⟩
def aa (d:B5):Prop:=(d.kind≠1→d.kind≠2→d.value=Bh)∧(d.kind≠3→d.recs.rules.length=0∧d.fixed=0)∧(d.kind≠4→d.funs.length=0)
def WM (d:B5):Prop:=0≤d.fixed∧(∀f∈d.funs,1≤f.arity∧f.arity≤16)∧(d.kind=3→d.fixed≤1000000)
def pj (v:Int) (t:Tm):Prop:=∃m,wf (max v 0) m 0 t
inductive SF (E:List B5):Int→ES→Prop
 | leaf {v:Int} {t:ES} (hk:t.kind≠1) (h:pj v t.body):SF E v t
 | split {v:Int} {t:ES} (hk:t.kind=1) (h0:∀b∈t.branches,b.absurd=false→(Bb E b.ctor).2=0∧(Bb E b.ctor).1.kind=4) (h:∀b∈t.branches,b.absurd=false→SF E (v+C7 (Bo E (Bb E b.ctor).1.decl) (Bb E b.ctor).1.item) b.tree):SF E v t
def oV (E:List B5) (v:Int) (b:GC):Prop:=b.absurd=false→((Bb E b.ctor).2=0∧(Bb E b.ctor).1.kind=4)∧SF E (v+C7 (Bo E (Bb E b.ctor).1.decl) (Bb E b.ctor).1.item) b.tree
theorem mJ {E:List B5}{v:Int}{t:ES}(hk:t.kind=1) (h:∀b∈t.branches,EW b.tree∧oV E v b):SF E v t:= .split hk (fun b hb ha=>((h b hb).2 ha).1) fun b hb ha=>((h b hb).2 ha).2
theorem pq {E:List B5}{v:Int}{b:GC}{d:B5}(h1:(Bb E b.ctor).2=0) (h2:(Bb E b.ctor).1.kind=4) (hd:E[(Bb E b.ctor).1.decl.toNat]?=some d) (h:EW b.tree∧SF E (v+C7 d (Bb E b.ctor).1.item) b.tree):EW b.tree∧oV E v b :=
 ⟨h.1,fun _=>⟨⟨h1,h2⟩,by rw[show Bo E (Bb E b.ctor).1.decl=d from B6 hd];exact h.2⟩⟩
def Pp (E:List B5) (d:B5):Prop:=(d.kind=1∨d.kind=2→okB d.value=true∧pj 0 d.value)∧(d.kind=3→∀t∈d.recs.rules,okB t=true∧pj 0 t)∧(d.kind=4→∀f∈d.funs,EW f.tree∧SF E f.arity f.tree)
def jD (E:List B5):Prop:=∀i d,E[i]?=some d→Pp (E.take i) d
theorem qO {E:List B5}{d:B5}(h:Ox d) (hk:0≤d.kind∧d.kind≤4) (hu:aa d) (hc:WM d) (ht:Pp E d):DG d:=by
 obtain⟨u1,u2,u3⟩:=hu;obtain⟨c1,c2,c3⟩:=hc;obtain⟨t1,t2,t3⟩:=ht;refine⟨h,⟨c1,?_⟩,?_,?_,fun f hf=>⟨(c2 f hf).1,(c2 f hf).2,?_⟩⟩
 ·by_cases h3:d.kind=3
  ·exact c3 h3
  rw[(u2 h3).2];omega
 ·by_cases h1:d.kind=1∨d.kind=2
  ·exact(t1 h1).1
  rw[u1 An An];exact IY
 ·by_cases h3:d.kind=3
  ·exact fun t ht=>(t2 h3 t ht).1
  intro t ht;rw[List.length_eq_zero_iff.1 (u2 h3).1] at ht;cases ht
 by_cases h4:d.kind=4
 ·exact(t3 h4 f hf).1
 rw[List.length_eq_zero_iff.1 (u3 h4)] at hf;cases hf
def VI (d:B5):Prop:=size d.value≤400∧(∀t∈d.recs.rules,size t≤400)∧∀f∈d.funs,Dc f.tree≤50
theorem mW {ds:List B5}(h:Ju ds) (hf:∀d∈ds,VI d):Gi ds:=⟨h,fun d hd=>(hf d hd).1,fun d hd=>(hf d hd).2.1,fun d hd=>(hf d hd).2.2⟩
theorem Ry {n:Nat}:∀{l:List GC},(∀x∈l,Dc x.tree≤n)→LI l≤n
 | [],_=>by simp[LI]
 | .mk c a t::l,h=>by
  have h1:=h (.mk c a t) Ao;have h2:=Ry (n:=n) (l:=l) fun x hx=>h x (by simp[hx]);simp only[LI,ZM,GC.tree] at *;omega
theorem eA {n:Nat}{t:ES}(h:∀x∈t.branches,Dc x.tree≤n):Dc t≤n+1:=by
 obtain⟨k,b,v,l⟩:=t;have h1:=Ry (n:=n) (l:=l) h;simp only[Dc];omega
theorem Ux:∀{l:List GC},(∀x∈l,EW x.tree)→SZ l
 | [],_=>trivial
 | .mk c a t::l,h=>⟨h (.mk c a t) Ao,Ux fun x hx=>h x (by simp[hx])⟩
theorem SQ {t:ES}(h0:okB t.body=true) (h:∀x∈t.branches,EW x.tree):EW t:=by
 obtain⟨k,b,v,l⟩:=t;exact⟨h0,Ux h⟩
theorem Za {t:ES}(h0:Od t.body Bh=true) (h:t.branches.length=0):EW t :=
 SQ (by rw[IM.1 h0];exact IY) (fun x hx=>by rw[List.length_eq_zero_iff.1 h] at hx;cases hx)
theorem HW {α:Type}{p:α→Prop}{l:List α}{n:Nat}(hn:l.length≤n) (h:∀j,j<n→∀x,l[j]?=some x→p x):∀x∈l,p x:=fun x hx=>by
 obtain⟨j,hj⟩:=List.mem_iff_getElem?.1 hx;exact h j (by have:=(List.getElem?_eq_some_iff.1 hj).1;omega) x hj
theorem dc {ds:List B5}{i:Nat}(h:Hg ds) (hC:∀j,j<i→∀x,ds[j]?=some x→DG x):Ju (ds.take i) :=
 ⟨h.take i,fun d hd=>by
  obtain⟨j,hj⟩:=List.mem_iff_getElem?.1 hd;have hlt:=(List.getElem?_eq_some_iff.1 hj).1;rw[List.length_take] at hlt;rw[List.getElem?_take_of_lt An] at hj;exact hC j An d hj⟩
theorem pE {α:Type}{l:List α}(h:l.length=0) {p:α→Prop}:∀x∈l,p x:=fun x hx=>by
 rw[List.length_eq_zero_iff.1 h] at hx;cases hx
theorem lI {t:ES}{dp:Int}(hd:dp≤40) (h:∀x∈t.branches,(Dc x.tree:Int)≤42 - (dp+1)):(Dc t:Int)≤42 - dp:=by
 have:=eA (n:=(42 - (dp+1)).toNat) (t:=t) fun x hx=>by have:=h x hx;omega
 omega
theorem QN {t:Tm}(h:We t) (hs:Ev t≤400):size t≤400:=by
 have h1:=ME (t:=t) (by have:=h.sz;omega);omega
theorem jz {d:B5}(h:Ox d) (hv:Ev d.value≤400) (hr:∀t∈d.recs.rules,Ev t≤400) (hf:∀f∈d.funs,(Dc f.tree:Int)≤42 - 0):VI d :=
 ⟨QN h.vl hv,fun t ht=>QN (h.rs t ht) (hr t ht),fun f hm=>by have:=hf f hm;omega⟩
structure je (ds:List B5) (l:List Tm):Prop where
 env:Gi ds
 cl:jD ds
 ok:∀t∈l,okB t=true
 sz:BX l≤60
 few:ds.length≤70
theorem jj {ds:List B5}{l:List Tm}(hn:EU l 60 0≤60) (hg:ZK l∧∀t∈l,okB t=true) (he:(Gi ds∧jD ds)∧ds.length≤70):je ds l :=
 ⟨he.1.1,he.1.2,hg.2,by have:=XR hg.1 An hn;omega,he.2⟩
theorem eS {l:List Tm}(h:ZK l):l.length<1000000:=by
 have:=h.sz;have:=Dx l;omega
theorem ZU {l:List Tm}(h:ZK l∧∀t∈l,okB t=true):∀x∈l,okB x=true∧size x<1000000:=fun x hx =>
 ⟨h.2 x hx,by have:=h.1.sz;have:=En hx;omega⟩
end Go.Eu
namespace Go.Proofs.YtboammbpdaoojaaGreat
open Go.Abs Go.Eu
theorem Zz:∀(d:B5),(Ox d)→(0≤d.kind∧d.kind≤4)→Gp Tryz.prog 133 [.agg ((Bi d).map .p)] (fun v=>∃bb:Bool,v= .p (.bool bb)∧(bb=true→aa d)):=by
 intro d h1 h2;refine A5 Tryz.func133 O sG (n:=87) O O (Aw (BF O (BN O) fun b1=>Ar Ay 1 [] O (As (BT [1] 3 (fun y=>y= .p (.bool ((((d.recs.params:Int)==(0:Int))&&(Od d.recs.type Bh))&&(((d.recs.rules.length:Nat):Int)==(0:Int))))) ?_ ?_))))
 ·refine A3 (Ax Ay 2 [] O (Aq O (A0 (i:=0) DM O O (Da _)) (Ax Ay 2 [] O (BO 9 O (fun g=>?_) (fun g=>?_)))))
  ·simp only[sd,se] at g;refine Ax Ay 2 [] O (BB O (Bw (i:=0) BZ O O (E5 _) (BD _)) (BB O (BC O O (Kk d.recs.type (by first | exact h1.rt.nd | exact h1.vl.nd | exact h1.ty.nd)) O) (Ax Ay 2 [] O (BO 15 O (fun g1=>?_) (fun g1=>?_)))))
   ·exact Ax Ay 2 [] O (BB O (A0 (i:=0) Gn O O (Cj _)) (BB O (BJ Bf O (BQ _)) (Ar Ay 3 [] O (⟨O,O,AM,AI,⟨O,Ap⟩⟩))))
   exact Ar Ay 7 [] O (⟨O,O,AM,AI,⟨O,Ap⟩⟩)
  simp only[sd,se] at g;exact Ar Ay 13 [] O (⟨O,O,AM,AI,⟨O,Ap⟩⟩)
 rintro _ rfl;refine As (BT [1] 4 (fun y=>y= .p (.bool ((((d.fixed:Int)==(0:Int))&&(((d.ctors.length:Nat):Int)==(0:Int)))&&((((d.recs.params:Int)==(0:Int))&&(Od d.recs.type Bh))&&(((d.recs.rules.length:Nat):Int)==(0:Int)))))) ?_ ?_)
 ·refine A3 (Aq O (Az C5 O O) (Aq O (A0 (i:=0) DM O O (Cr _)) (Ax Ay 2 [] O (BO 25 O (fun g=>?_) (fun g=>?_)))))
  ·simp only[sd,se] at g;refine BB O (Az C5 O O) (BB O (A0 (i:=0) H4 O O (CC _)) (BB O (BJ Hc O (List.length_map _)) (Ax Ay 3 [] O (BO 31 O (fun g1=>?_) (fun g1=>?_)))))
   ·simp only[sd,se] at g1;exact Ar Ay 3 [] O (⟨O,O,AM,AI,⟨O,Ap⟩⟩)
   simp only[sd,se] at g1;exact Ar Ay 3 [] O (⟨O,O,AM,AI,⟨O,Ap⟩⟩)
  simp only[sd,se] at g;exact Ar Ay 9 [] O (⟨O,O,AM,AI,⟨O,Ap⟩⟩)
 rintro _ rfl;refine As (Aw (Aq O (Az C5 O O) (Aq O (A0 (i:=0) DM O O (Dz _)) (Bg O (A9 (Au Ay 2 [] O (Av O (fun c=>?_) (fun c=>?_))))))))
 ·simp only[sd,se] at c;refine As (BT [] 2 (fun y=>y= .p (.bool (((Od d.value Bh)&&((((d.fixed:Int)==(0:Int))&&(((d.ctors.length:Nat):Int)==(0:Int)))&&((((d.recs.params:Int)==(0:Int))&&(Od d.recs.type Bh))&&(((d.recs.rules.length:Nat):Int)==(0:Int)))))&&(((d.funs.length:Nat):Int)==(0:Int))))) ?_ ?_)
  ·refine A3 (Aq O (Az C5 O O) (Aq O (Bw (i:=0) BZ O O (FA _) (BD _)) (Aq O (BC O O (Kk d.value (by first | exact h1.rt.nd | exact h1.vl.nd | exact h1.ty.nd)) O) (Br O (BO 41 O (fun g=>?_) (fun g=>?_))))))
   ·refine Ax Ay 3 [] O (BO 44 O (fun g1=>?_) (fun g1=>?_))
    ·simp only[sd,se] at g1;exact BB O (Az C5 O O) (BB O (A0 (i:=0) Hq O O (CJ _)) (BB O (BJ HV O (List.length_map _)) (Ar Ay 3 [] O ⟨O,O,AM,AI,Ap⟩)))
    simp only[sd,se] at g1;exact Ar Ay 6 [] O ⟨O,O,AM,AI,Ap⟩
   exact Ar Ay 9 [] O ⟨O,O,AM,AI,Ap⟩
  rintro _ rfl;refine A1 (⟨O,_,_,⟨_,_,O,O,O⟩,(List.nil_sublist _),?_⟩)
  all_goals exact⟨⟨_,rfl,fun h=>by simp only[Bool.and_eq_true,beq_iff_eq,decide_eq_true_eq,IM] at h;refine⟨fun _ _=>?_,fun _=>⟨?_,?_⟩,fun _=>?_⟩<;>first | omega | (simp_all;done)⟩,rfl⟩
 simp only[sd,se] at c;refine As (Au Ay 2 [] O (BT [1,4,35] 50 (fun y=>y= .p (.bool (decide (d.kind=1∨d.kind=2)))) ?_ ?_))
 ·refine Av O (fun c1=>?_) (fun c1=>?_)
  ·simp only[sd,se] at c1;exact A2 (⟨O,O,(List.Sublist.refl _),(by refine pB (Bool.eq_iff_iff.2 ?_);simp only[beq_iff_eq,decide_eq_true_eq];omega),⟨O,O,O,Ap⟩⟩)
  simp only[sd,se] at c1;exact A3 (Ar Ay 2 [] O (⟨O,O,(List.Sublist.refl _),(by refine pB (Bool.eq_iff_iff.2 ?_);simp only[beq_iff_eq,decide_eq_true_eq];omega),⟨O,O,O,Ap⟩⟩))
 rintro _ rfl;refine Av O (fun c1=>?_) (fun c1=>?_)
 ·simp only[sd,se] at c1;refine As (BT [] 2 (fun y=>y= .p (.bool (((((d.fixed:Int)==(0:Int))&&(((d.ctors.length:Nat):Int)==(0:Int)))&&((((d.recs.params:Int)==(0:Int))&&(Od d.recs.type Bh))&&(((d.recs.rules.length:Nat):Int)==(0:Int))))&&(((d.funs.length:Nat):Int)==(0:Int))))) ?_ ?_)
  ·refine A3 (Ax Ay 2 [] O (BO 54 O (fun g=>?_) (fun g=>?_)))
   ·simp only[sd,se] at g;exact BB O (Az C5 O O) (BB O (A0 (i:=0) Hq O O (CJ _)) (BB O (BJ HV O (List.length_map _)) (Ar Ay 3 [] O ⟨O,O,AM,AI,Ap⟩)))
   simp only[sd,se] at g;exact Ar Ay 6 [] O ⟨O,O,AM,AI,Ap⟩
  rintro _ rfl;refine A1 (⟨O,_,_,⟨_,_,O,O,O⟩,(List.nil_sublist _),?_⟩)
  all_goals exact⟨⟨_,rfl,fun h=>by simp only[Bool.and_eq_true,beq_iff_eq,decide_eq_true_eq,IM] at h;refine⟨fun _ _=>?_,fun _=>⟨?_,?_⟩,fun _=>?_⟩<;>first | omega | (simp_all;done)⟩,rfl⟩
 simp only[sd,se] at c1;refine Au Ay 2 [] O (Av O (fun c2=>?_) (fun c2=>?_))
 ·simp only[sd,se] at c2;refine As (BT [] 2 (fun y=>y= .p (.bool ((Od d.value Bh)&&(((d.funs.length:Nat):Int)==(0:Int))))) ?_ ?_)
  ·refine A3 (Aq O (Az C5 O O) (Aq O (Bw (i:=0) BZ O O (FA _) (BD _)) (Aq O (BC O O (Kk d.value (by first | exact h1.rt.nd | exact h1.vl.nd | exact h1.ty.nd)) O) (Br O (BO 65 O (fun g=>?_) (fun g=>?_))))))
   ·exact BB O (Az C5 O O) (BB O (A0 (i:=0) Hq O O (CJ _)) (BB O (BJ HV O (List.length_map _)) (Ar Ay 3 [] O ⟨O,O,AM,AI,Ap⟩)))
   exact Ar Ay 6 [] O ⟨O,O,AM,AI,Ap⟩
  rintro _ rfl;refine A1 (⟨O,_,_,⟨_,_,O,O,O⟩,(List.nil_sublist _),?_⟩)
  all_goals exact⟨⟨_,rfl,fun h=>by simp only[Bool.and_eq_true,beq_iff_eq,decide_eq_true_eq,IM] at h;refine⟨fun _ _=>?_,fun _=>⟨?_,?_⟩,fun _=>?_⟩<;>first | omega | (simp_all;done)⟩,rfl⟩
 simp only[sd,se] at c2;refine A2 (As (BT [] 2 (fun y=>∃q:Bool,y= .p (.bool q)∧(q=true→Od d.value Bh=true∧d.fixed=0∧d.recs.rules.length=0)) ?_ ?_))
 ·refine A3 (Aq O (Az C5 O O) (Aq O (A0 (i:=0) MI O O (DF _)) (Aq O (FV O O) (Br O (BO 74 O (fun g=>?_) (fun g=>?_))))))
  ·simp only[sd,se] at g;refine BB O (Az C5 O O) (BB O (Bw (i:=0) BZ O O (E3 _) (BD _)) (BB O (BC O O (Kk d.type (by first | exact h1.rt.nd | exact h1.vl.nd | exact h1.ty.nd)) O) (Ax Ay 2 [] O (BO 79 O (fun g1=>?_) (fun g1=>?_)))))
   ·refine BB O (Az C5 O O) (BB O (Bw (i:=0) BZ O O (FA _) (BD _)) (BB O (BC O O (Kk d.value (by first | exact h1.rt.nd | exact h1.vl.nd | exact h1.ty.nd)) O) (Ax Ay 2 [] O (BO 84 O (fun g2=>?_) (fun g2=>?_)))))
    ·refine Ar Ay 3 [] O ?_;exact⟨rfl,rfl,AM,(by refine⟨_,rfl,fun h=>?_⟩;first | (exact absurd h Am) | (refine⟨by simpa using Ak,?_,?_⟩<;>(simp only[Bool.and_eq_true,beq_iff_eq,decide_eq_true_eq] at h;omega))),trivial⟩
    refine Ar Ay 3 [] O ?_;exact⟨rfl,rfl,AM,(by refine⟨_,rfl,fun h=>?_⟩;first | (exact absurd h Am) | (refine⟨by simpa using Ak,?_,?_⟩<;>(simp only[Bool.and_eq_true,beq_iff_eq,decide_eq_true_eq] at h;omega))),trivial⟩
   refine Ar Ay 8 [] O ?_;exact⟨rfl,rfl,AM,(by refine⟨_,rfl,fun h=>?_⟩;first | (exact absurd h Am) | (refine⟨by simpa using Ak,?_,?_⟩<;>(simp only[Bool.and_eq_true,beq_iff_eq,decide_eq_true_eq] at h;omega))),trivial⟩
  simp only[sd,se] at g;refine Ar Ay 13 [] O ?_;exact⟨rfl,rfl,AM,(by refine⟨_,rfl,fun h=>?_⟩;first | (exact absurd h Am) | (refine⟨by simpa using Ak,?_,?_⟩<;>(simp only[Bool.and_eq_true,beq_iff_eq,decide_eq_true_eq] at h;omega))),trivial⟩
 rintro _ ⟨q,rfl,hq⟩;refine A1 (⟨O,_,_,⟨_,_,O,O,O⟩,(List.nil_sublist _),?_⟩)
 all_goals exact⟨⟨_,rfl,fun h=>by obtain⟨q1,q2,q3⟩:=hq h;rw[IM] at q1;exact⟨fun _ _=>q1,fun _=>⟨q3,q2⟩,fun _=>by omega⟩⟩,rfl⟩
theorem Qa:∀(t:Tm),(We t)→Gp Tryz.prog 171 [.agg ((BP t).map .p)] (fun v=>∃e:Int,v= .p (I e)∧0≤e∧e≤size t):=by
 intro t h1;have hsz:=h1.sz;refine A5 Tryz.func171 O sD (n:=20) O O (Aw (BF O (BN O) fun b1=>Ar Ay 1 [] O (Au Ay 1 [] O (As (A9 ?_)))));refine Bc (α:=Tm×Int) (fun(y,m)=>⟨20,mk [(1,.ptr b1 0),(3,.p (I m))],[.box b1 ((BP y).map .p)],[]⟩) (fun(y,m)=>size y) (fun(y,m)=>Nd y∧0≤m∧m+size y≤size t) ⟨t,0⟩ (⟨h1.nd,by omega,by omega⟩) ?_ ?_
 ·exact BS ⟨we O,we O,Ap⟩ (leH (is:=[0]) O (wl (oe O) (C2)))
 rintro⟨y,m⟩ hC
 try simp only at hC
 obtain⟨hC,hm0,hm1⟩:=hC;refine As (As ?_);obtain⟨yk,yi,yn,yl,ys⟩:=y;refine BT [1,3] 12 (fun y=>y= .p (.bool (((yk:Int)==(6:Int))&&(((ys.length:Nat):Int)==(2:Int))))) ?_ ?_
 ·refine A3 (Ax Ay 4 [0] O (BO 7 O (fun g=>?_) (fun g=>?_)))
  ·simp only[sd,se] at g;exact Ax Ay 2 [0] O (BB O (BJ Bf O (BQ _)) (Ar Ay 2 [] O (⟨O,O,AM,AI,⟨O,O,Ap⟩⟩)))
  simp only[sd,se] at g;exact Ar Ay 5 [] O (⟨O,O,AM,AI,⟨O,O,Ap⟩⟩)
 rintro _ rfl;refine Av O (fun c=>?_) (fun c=>?_)
 ·simp only[sd,se] at c;refine A2 (A9 (Au Ay 3 [] O (A3 (Ax Ay 2 [0] O ?_))));obtain⟨x,hx⟩:=A6 (l:=ys) (i:=1) (by first | omega | (simp at c;omega));refine Aq O (A4 Bf O O An (Bd hx) (BD _)) (Ar Ay 2 [0,1] O ?_);refine⟨⟨x,(m:Int)+(1:Int)⟩,(by have:=Cb hx;simp only[size];omega),⟨DX hC.2.2.2.2.1 hx,by omega,by have:=Cb hx;simp only[size] at hm1;omega⟩,BS ⟨we rfl,we rfl,trivial⟩ (leH (is:=[0]) rfl (wl (oe rfl) (C2)))⟩
 simp only[sd,se] at c;refine Be (Au Ay 2 [] O (A1 (⟨O,_,_,⟨_,_,O,O,O⟩,(List.nil_sublist _),?_⟩)))
 all_goals exact⟨⟨_,rfl,by omega,by simp only[size] at hm1;omega⟩,rfl⟩
theorem Ty:∀(d:B5),(Ox d)→Gp Tryz.prog 150 [.agg ((Bi d).map .p)] (fun v=>∃bb:Bool,v= .p (.bool bb)∧(bb=true→d.fixed≤1000000)):=by
 intro d h1;have hcl:=h1.cl;have hts:=h1.ty.sz;refine A5 Tryz.func150 O sQ (n:=32) O O (Aw (BF O (BN O) fun b1=>Ar Ay 1 [] O (As (Bt (fun k=>Nat.beq k 2) Dn (BG O (fun _=>Az C5 O O) Ap (CV (j:=0) O O O (fun H i hi=>Bw (i:=i) BZ O hi (E3 _) (BD _)) AB Ap ?_))))));refine LO [(3,.free (.ptr b1 13)),(4,.read [.box b1 ((Bi d).map .p)] (.p (I d.fixed)))] O O (CI O O (Qa d.type h1.ty) (.inl O)) Aj (⟨_,0,O,by omega,by omega⟩) AB ?_;rintro _ ⟨e,rfl,he0,he1⟩;refine⟨Ap,?_⟩;refine BR Ay 1 [] O (CV (j:=0) O O O (fun H i hi=>A0 (i:=i) DM O hi (Cr _)) AB AO (Bk Ay 2 [] O (As (Au Ay 1 [] O (A9 ?_)))));refine Bc (α:=Nat×Bool) (fun(i,b)=>⟨32,mk [(1,.ptr b1 0),(3,.p (.bool b)),(4,.p (I (i:Int)))],[.box b1 ((Bi d).map .p)],[]⟩) (fun(i,b)=>d.ctors.length - i) (fun(i,b)=>i≤d.ctors.length∧(b=true→d.fixed≤1000000)) ⟨0,(decide ((e:Int)≥(d.fixed:Int)))⟩ (⟨by omega,fun h=>by simp only[decide_eq_true_eq] at h;omega⟩) ?_ ?_
 ·exact BS ⟨we O,we O,we O,Ap⟩ (leH (is:=[0]) O (wl (oe O) (C2)))
 rintro⟨i,b⟩ hC
 try simp only at hC
 obtain⟨hi,hC⟩:=hC;refine As (Aw (Ax Ay 2 [] O (Aq O (A0 (i:=0) H4 O O (CC _)) (Aq O (BJ Hc O (List.length_map _)) (Ar Ay 1 [] O (Av O (fun c=>?_) (fun c=>?_)))))))
 ·simp only[sd,se] at c;refine A2 (As (A9 (BT [1,4] 3 (fun y=>∃q:Bool,y= .p (.bool q)∧(q=true→b=true)) ?_ ?_)))
  ·refine Bt (fun k=>Nat.beq k 8) Dn (BR Ay 2 [] O (D6 19 O (fun g=>?_) (fun g=>?_)))
   ·refine Ce O (fun _=>Az C5 O O) Ap (MB (i:=0) O O O O O (fun H i hi=>A0 (i:=i) H4 O hi (CC _)) AB Ap (Ce O (fun _=>Ba O) Ap ?_));obtain⟨x,hx⟩:=A6 (l:=d.ctors) (i:=i) An;refine Ce O (fun _=>A4 Hc O O An (Em hx) (EE _)) Ap (Ce O (fun _=>B1 Jh O O) Ap (Ce O (fun _=>DP BZ O (Fi _) (BD _)) Ap ?_));refine l6 [(9,.free (.ptr b1 13)),(10,.read [.box b1 ((Bi d).map .p)] (.p (I d.fixed)))] O O O O (CI O O (Qa x.type (h1.cs _ (List.mem_of_getElem? hx)).ty) (.inl O)) Aj (⟨_,0,O,by omega,by omega⟩) AB ?_;rintro _ ⟨e1,rfl,he01,he11⟩;refine⟨Ap,?_⟩;exact BR Ay 1 [] O (MB (i:=0) O O O O O (fun H i hi=>A0 (i:=i) DM O hi (Cr _)) AB AO (Bk Ay 3 [] O (⟨O,O,AM,(by refine⟨_,rfl,fun h=>?_⟩;first | (exact absurd h Am) | assumption),⟨O,O,Ap⟩⟩)))
   exact BR Ay 6 [] O (gX O O O O AO (Bk Ay 5 [] O (⟨O,O,AM,(by refine⟨_,rfl,fun h=>?_⟩;first | (exact absurd h Am) | assumption),⟨O,O,Ap⟩⟩)))
  rintro _ ⟨q,rfl,hq⟩;refine A3 (Ar Ay 3 [] O (⟨⟨i+1,q⟩,AW,⟨by omega,fun h=>hC (hq h)⟩,BS ⟨we rfl,we rfl,we rfl,trivial⟩ (leH (is:=[0]) rfl (wl (oe rfl) (C2)))⟩))
 simp only[sd,se] at c;refine Be (Au Ay 2 [] O (A1 (⟨O,_,_,⟨_,_,O,O,O⟩,(List.nil_sublist _),?_⟩)))
 all_goals exact⟨⟨_,rfl,hC⟩,rfl⟩
end Go.Proofs.YtboammbpdaoojaaGreat
