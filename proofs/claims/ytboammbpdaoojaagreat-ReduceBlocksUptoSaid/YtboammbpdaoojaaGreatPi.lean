/- Part of the proofs: an abstract program logic, plain models and contracts of functions. -/
import Derived.Test.YtboammbpdaoojaaGreatPh
import Derived.Test.YtboammbpdaoojaaGreatPd
import Derived.Test.YtboammbpdaoojaaGreatPb
import Derived.Test.YtboammbpdaoojaaGreatPg
set_option linter.unusedVariables false
set_option linter.unusedSimpArgs false
set_option maxRecDepth 100000
namespace Go.Eu
open Go.Abs
section
variable {E:List CK}
def LW (W:Int→Tm→Out (Tm×Int)):Prop:=∀l t r l' k,0≤k→W l t= .ok (r,l')→W (l+k) t= .ok (r,l'+k)
structure Exit (E:List CK) (n:Nat) (l:Int) (a:Tm) (l':Int):Prop where
 many:B5.many (A9 a).2.length=false
 lam:(A9 a).1.kind=5→(A9 a).2.length=0
 lt:(A9 a).1.kind≠11
 proj:(A9 a).1.kind=9∨(A9 a).1.kind=10→∃p,(A9 a).1=Ip (A9 a).1.kind p∧okB p=true∧p.kind≠8∧EF E B5 n l p= .ok (p,l')∧a=apply (A9 a).1 (A9 a).2
 con:(A9 a).1.kind=3→EY E B5 (EF E B5 n) n (A9 a).1 (A9 a).2 l= .ok (none,l')
 oth:(A9 a).1.kind≠9→(A9 a).1.kind≠10→(A9 a).1.kind≠3→l'=l
end
def lO {α:Type}:Out α→Int
 | .ok _=>0
 | _=>11
def lQ {α:Type}(z:α):Out (α×Int)→α
 | .ok (a,_)=>a
 | _=>z
section
variable {α:Type}{o:Out (α×Int)}{a:α×Int}{z:α}{e:Int}
theorem k0 (h:o.ex= .ok a):lO o=0:=by rw[IZ h];rfl
theorem kP (h:o.ex= .error e):lO o=11:=by cases o<;>first | rfl | cases h
theorem kh (h:o.ex= .ok a):lQ z o=a.1:=by rw[IZ h];rfl
theorem lH (h:o.ex= .error e):lQ z o=z:=by cases o<;>first | rfl | cases h
end
theorem NW:HE 20000:=⟨by omega,by omega⟩
end Go.Eu
namespace Go.Proofs.YtboammbpdaoojaaGreat
open Go.Abs Go.Eu
theorem bp:∀(ds:List CK) (N m bt bo:Nat) (t:Tm) (s:Int),(HQ ds)→(HE s)→(EF ds B5 N s t≠ .stuck)→Bq Tryz.prog 38 [.ptr m 0,.ptr bt 0,.ptr bo 0] [.box m [.p (.lst (List.map Bk ds)),.p (I s)],.box bt ((BO t).map .p),.box bo [.p (I 0),.p (I 0),.p (.str ⟨#[]⟩),.p (.nils),.p (.nils)]] (Ky (fun(r:Tm×Int)=> .tup []) (fun _=> .p (.iface 122 .unit)) (fun r H'=>H'=[.box m [.p (.lst (List.map Bk ds)),.p (I r.2)],.box bt ((BO t).map .p),.box bo ((BO r.1).map .p)]) ((EF ds B5 N s t).ex)):=by
 intro ds N m bt bo t s h1 h2 h3;refine A6 Tryz.func38 O rV (n:=7) O O (A4 (Ax Ay 2 [1] O (Dv [0] O O O (.inl ⟨O,O,O⟩) (OW ds h1 N m t s h2 h3) ⟨_,_,O,O,O⟩ An (aw (we O) (aw (we O) (Et))) (fun _ _ h=>(congrArg List.length h).trans O) ?_ ?_)))
 rotate_left
 ·intro e _ he;exact⟨O,_,List.nil_sublist _,⟨_,he,O⟩⟩
 rintro⟨z,n2⟩ _ hz rfl;refine As Ay 1 [2,1] O ⟨O,_,_,O,(B4 (is:=[0,1,2]) O),?_⟩;exact⟨⟨z,n2⟩,hz,O,O⟩
theorem UN:∀(ds:List CK) (N:Nat) (t:Tm),(HQ ds)→(EF ds B5 N 20000 t≠ .stuck)→Ec Tryz.prog 12 [.p (.lst (List.map Bk ds)),.agg ((BO t).map .p)] (.tup [.agg ((BO (lQ Bi (EF ds B5 N 20000 t))).map .p),.p (I (lO (EF ds B5 N 20000 t)))]):=by
 intro ds N t h1 h2;refine A6 Tryz.func12 O rQ (n:=16) O O (Az (BG O (BP O) fun b3=>BG O (A8 Bz O) fun b4=>As Ay 1 [] O (Az (BG O (A8 Bz O) fun b6=>Bj O (Au ?_)))));obtain⟨e,he⟩ | ⟨⟨z,n2⟩,ha⟩:=F5 ((EF ds B5 N 20000 t).ex)
 ·refine A4 (Ax Ay 2 [] O (UH [2,0] O O O (.inl ⟨O,O,O⟩) (Rp _ _ he (fun r=>r.2) (fun r=>[.box b3 ((BO t).map .p),.box b6 ((BO r.1).map .p)]) 38 [.ptr b3 0,.ptr b6 0] [.box b3 ((BO t).map .p),.box b6 [.p (I 0),.p (I 0),.p (.str ⟨#[]⟩),.p (.nils),.p (.nils)]] ds (fun m=>bp ds N m b3 b6 t 20000 h1 NW h2)) ⟨_,_,O,O,⟨_,_,O,O,O⟩⟩ An (DZ _) (As Ay 1 [] O (Au (Av Ay 2 [] O ?_)))));refine Aw O (fun c=>?_) (fun c=>by cases c);refine Av Ay 4 [0,0] O (BI (BT (i:=0) O) (A1 (⟨O,_,_,⟨_,_,O,(BB (i:=0) Ba O O O),⟨_,_,O,O,O⟩⟩,(List.nil_sublist _),?_⟩)))
  all_goals exact⟨by show (.tup [.agg [.p (I 0),.p (I 0),.p (.str ⟨#[]⟩),.p (.lst []),.p (.lst [])],.p (I 11)]:AV)=_;rw[lH he,kP he];rfl,rfl⟩
 refine A4 (Ax Ay 2 [] O (Ar O (B8 [2,0] O (.inl ⟨O,O,O⟩) (UQ _ _ ha (fun r=>r.2) (fun r=>[.box b3 ((BO t).map .p),.box b6 ((BO r.1).map .p)]) 38 [.ptr b3 0,.ptr b6 0] [.box b3 ((BO t).map .p),.box b6 [.p (I 0),.p (I 0),.p (.str ⟨#[]⟩),.p (.nils),.p (.nils)]] ds (fun m=>bp ds N m b3 b6 t 20000 h1 NW h2)) ⟨_,_,O,O,⟨_,_,O,O,O⟩⟩ An O (.inl O)) (As Ay 1 [] O (Au (Av Ay 2 [] O ?_)))));refine Aw O (fun c=>by cases c) (fun c=>?_);refine A2 (Av Ay 3 [0,1,1] O (A1 (⟨O,_,_,⟨_,_,O,(BB (i:=1) Ba O O Ah),⟨_,_,O,O,O⟩⟩,(List.nil_sublist _),?_⟩)))
 all_goals exact⟨by show (.tup [.agg ((BO z).map .p),.p (I 0)]:AV)=_;rw[kh ha,k0 ha],rfl⟩
end Go.Proofs.YtboammbpdaoojaaGreat
namespace Go.Eu
open Go.Abs
def Fc (p:Int×List Int):List PV:=[I p.1,.lst (p.2.map Gl)]
theorem jD (p:Int×List Int):EM 2 (Fc p):=⟨rfl,by simp[Fc]⟩
theorem S4 (l:List (Int×List Int)):∀r∈l.map Fc,EM 2 r:=HH jD l
theorem Wn {t x z:Tm}{ps:List Int}{p:Int}(h:Jt t ps x=some z) (hp:ps[0]?=some p):p.toNat<(A9 t).2.length:=by
 cases ps with
 | nil=>simp at hp
 | cons q qs =>
  simp at hp;subst hp;rw[Jt] at h;rcases Nat.lt_or_ge q.toNat (A9 t).2.length with hl | hl
  ·exact hl
  rw[List.getElem?_eq_none hl] at h;cases h
theorem Zm {t x z y:Tm}{ps:List Int}{p:Int}(h:Jt t ps x=some z) (hp:ps[0]?=some p) (hy:(A9 t).2[p.toNat]?=some y):∃w,Jt y (ps.drop 1) x=some w∧apply (A9 t).1 ((A9 t).2.set p.toNat w)=z:=by
 cases ps with
 | nil=>simp at hp
 | cons q qs =>
  simp at hp;subst hp;rw[Jt,hy] at h;simp only[Option.map_eq_some_iff] at h;obtain⟨w,h1,h2⟩:=h;exact⟨w,h1,h2⟩
theorem ej {t x z:Tm}{ps:List Int}(h:Jt t ps x=some z) (hp:ps.length=0):x=z:=by
 cases ps with
 | nil=>rw[Jt] at h;cases h;rfl
 | cons q qs=>simp at hp
theorem Z6 {t x z:Tm}{ps:List Int}(h:Jt t ps x=some z) (hp:ps.length≠0):0<(A9 t).2.length:=by
 cases ps with
 | nil=>simp at hp
 | cons q qs=>have:=Wn (p:=q) h rfl;omega
end Go.Eu
namespace Go.Proofs.YtboammbpdaoojaaGreat
open Go.Abs Go.Eu
theorem dt:∀(l:List Int),(l.length<549755813888)→Bq Tryz.prog 143 [.p (.lst (List.map Gl l))] [] (ZY (fun v=>v) 1 (List.map Gl l)):=by
 intro l h1;refine A6 Tryz.func143 O oC (n:=8) O O (Av Ay 1 [] O (Au (Az (Bt O (Dk O O (M5 Hp O O) ?_)))));rintro _ ⟨q,rfl,hq⟩;refine Bj O (Aw O (fun c=>?_) (fun c=>?_))
 ·(try simp only[sd,se] at c);refine Av Ay 1 [] O (BI (EG (t:=2) (sz:=1) O) (A1 (⟨O,_,_,⟨_,_,O,O,O⟩,(B4 (is:=[0]) O),?_⟩)));rw[show l=[] by simpa using hq c]
  all_goals exact⟨_,_,rfl,rfl⟩
 (try simp only[sd,se] at c);refine A2 (Az (RL O O (LI Hp) fun b5 cp=>Bt O (FF O O (CQ (i:=0) (rows':=List.map Gl l) Hp Hp hG O O O O O O (O5 _) (by simp only[List.length_map,List.length_nil];omega) (GJ (f:=Gl) [] l)) fun o cp1=>As Ay 1 [] O (A1 (⟨O,_,_,⟨_,_,O,O,O⟩,(B4 (is:=[0]) O),?_⟩)))))
 all_goals exact⟨_,_,rfl,rfl⟩
theorem _root_.Go.AT {α:Prop}(h:α:=by simp only[Dd,List.length_set];omega):α:=h
theorem gJ:∀(n:Nat) (ps:List Int) (t x z:Tm),(ps.length≤n)→(okB t=true)→(∀p∈ps,0≤p)→(ps.length<1000000)→(Jt t ps x=some z)→Ec Tryz.prog 142 [.agg ((BO t).map .p),.p (.lst (List.map Gl ps)),.agg ((BO x).map .p)] (.agg ((BO z).map .p)):=by
 intro n
 induction n using Nat.strongRecOn with
 | ind n ih =>
  intro ps t x z h0 h1 h3 h4 h5;have hsp:=TZ h1;have hsl:=hsp.len;have hss:=hsp.sz;refine A6 Tryz.func142 O mi (n:=39) O O (Az (BG O (BP O) fun b3=>BG O (BP O) fun b5=>BG O (A8 Bz O) fun b6=>Bj O (Au (Az (Bt O (Ar O (BM Hp O (List.length_map _)) (As Ay 1 [] O (Aw O (fun c=>?_) (fun c=>?_)))))))))
  ·(try simp only[sd,se] at c);refine Av Ay 2 [1,0,1] O (A1 (⟨O,_,_,⟨_,_,O,(BB (i:=0) Ba O O Ah),O⟩,(List.nil_sublist _),?_⟩))
   all_goals exact⟨by show (.agg ((BO x).map .p):AV)=_;rw[ej h5 Ao],rfl⟩
  (try simp only[sd,se] at c);refine A2 (Az (Ar O (BU (i:=2) Ba O O Ah) (Ar O (BF O O (MF t hsp.nd Aa) O) (Ax Ay 3 [] O (BG O (A8 Bz O) fun b7=>As Ay 2 [0,1] O (Az (Bt O (NB O O O (.inl ⟨O,O,O⟩) (KH ((A9 t).2) hsp.len) (.inl O) fun o cp=>As Ay 1 [] O (Au (L2 (i:=0) O (by have hxl:=Z6 h5 Ao;rw[BS];omega) fun b hb=>?_))))))))));subst hb;refine Bu (fun k=>false) Dt (BQ Ay 2 [] O ?_);obtain⟨x1,hx1⟩:=A7 (l:=ps) (i:=0) Ao;have hx0:=h3 _ (List.mem_of_getElem? hx1);have hxl:=Wn h5 hx1;refine BH O (fun _=>A5 Hp O O Ao (L9 hx1) (O)) Aq (BQ Ay 3 [] O (BH O (fun _=>A5 Hp O O Ao (L9 hx1) (O)) Aq (BH O (fun _=>FE DH O) Aq (BH O (fun _=>Cz Bf O O Ao AY) Aq ?_))));obtain⟨y,hy⟩:=A7 (l:=((A9 t).2)) (i:=(x1:Int).toNat) (by first | omega | assumption);refine CX (j:=0) O O O (fun H i hi=>Ei (i:=i) Ba O hi (Bc hy)) AB Aq (BH O (fun _=>BZ O) Aq (BH O (fun _=>Ca (lo:=1) Hp O (CF (O5 _)) ⟨_,O⟩ O AR (Nat.le_refl _) (lu (f:=Gl) ps 1)) Aq (BQ Ay 1 [3] O ?_)));obtain⟨z1,e1,e2⟩:=Zm h5 hx1 hy;refine BH rfl (fun _=>BF rfl rfl (ih (n - 1) Ao (ps.drop 1) y x z1 (by simp only[List.length_drop];omega) (hsp.args _ (List.mem_of_getElem? hy)) (fun p hp=>h3 p (List.mem_of_mem_drop hp)) (by simp only[List.length_drop];omega) e1) rfl) trivial (BH O (fun _=>Cz Bf O O Ao AY) Aq (GP O O (EN (i:=0) (j:=((x1:Int).toNat)) Ba O O O AY O (KG _) (BD _) (E0 _) (Sv ((A9 t).2) ((x1:Int).toNat) z1)) AB Aq (JN O Ak (Az (Ax Ay 2 [1] O (B3 (C9 (t:=20) (x:= .vs (some b) (BE ((((A9 t).2)).set ((x1:Int).toNat) z1)).length cp) (DO ((A9 t).2) (l':=(((A9 t).2)).set ((x1:Int).toNat) z1) Ap)) ?_))))));refine B3 (C9 (t:=9) (x:= .vs (some b) (BE ((((A9 t).2)).set ((x1:Int).toNat) z1)).length cp) (DO ((A9 t).2) (l':=(((A9 t).2)).set ((x1:Int).toNat) z1) Ap)) (B3 (C9 (t:=21) (x:= .vs (some b) (BE ((((A9 t).2)).set ((x1:Int).toNat) z1)).length cp) (DO ((A9 t).2) (l':=(((A9 t).2)).set ((x1:Int).toNat) z1) Ap)) (B3 (C9 (t:=25) (x:= .vs (some b) (BE ((((A9 t).2)).set ((x1:Int).toNat) z1)).length cp) (DO ((A9 t).2) (l':=(((A9 t).2)).set ((x1:Int).toNat) z1) Ap)) (B3 (C9 (t:=37) (x:= .vs (some b) (BE ((((A9 t).2)).set ((x1:Int).toNat) z1)).length cp) (DO ((A9 t).2) (l':=(((A9 t).2)).set ((x1:Int).toNat) z1) Ap)) (B3 (Cj (i:=0) [20,9,21,25,37] O (D6 ⟨O,O,O,O,O,Aq⟩)) ?_))))
  refine Ar O (BF O O (EP ((A9 t).1) ((((A9 t).2)).set ((x1:Int).toNat) z1) AT) O) (As Ay 1 [1,1] O (A1 (⟨O,_,_,⟨_,_,O,(BB (i:=1) Ba O O Ah),O⟩,(List.nil_sublist _),?_⟩)))
  all_goals exact⟨by show (.agg ((BO (apply ((A9 t).1) ((((A9 t).2)).set ((x1:Int).toNat) z1))).map .p):AV)=_;rw[e2],rfl⟩
end Go.Proofs.YtboammbpdaoojaaGreat
namespace Go.Eu
open Go.Abs
def Ud (n:Nat):List (Int×List Int):=(List.range n).map fun i:Nat=>((i:Int),[])
theorem WO (n:Nat):Ud (n+1)=Ud n++[((n:Int),[])]:=by simp[Ud,List.range_succ]
theorem Qd (n:Nat):(Ud n).length=n:=by simp[Ud]
theorem OZ (a:Int×List Int) (fx:Int):Ee a fx 0=[]:=rfl
theorem Og (a:Int×List Int) (fx:Int) (n:Nat):Ee a fx (n+1)=Ee a fx n++[(a.1,a.2++[fx+(n:Int)])]:=by simp[Ee,List.range_succ]
theorem Qp {α:Type}{l:List α}{i:Nat}{x:α}(h:l[i]?=some x):l.take (i+1)=l.take i++[x]:=by rw[List.take_add_one,h];rfl
theorem Vd {α:Type}{l:List α}{i:Nat}(h:l.length≤i):l.take i=l:=List.take_of_length_le h
theorem NI {w:FJ}(h:Fg w):okB w.body=true:=by
 obtain⟨k,b,v,l⟩:=w;simp only[Fg] at h;exact h.1
structure iG (a us:List Tm) (pl:List (Int×List Int)) (w:FJ):Prop where
 ok:eL a us pl
 nn:∀p∈pl,0≤p.1∧(∀q∈p.2,0≤q)∧p.2.length+Dz w≤1000
theorem iG.len {a us:List Tm}{pl:List (Int×List Int)}{w:FJ}(h:iG a us pl w):pl.length=us.length:=h.ok.len
theorem dN (a:List Tm) (n:Nat) (w:FJ) (hn:n≤a.length) (hd:Dz w≤1000):iG a (a.take n) (Ud n) w:=by
 refine⟨a8 a n hn,fun p hp=>?_⟩;obtain⟨i,_,rfl⟩:=List.mem_map.1 hp;exact⟨by simp,by simp,by simp;omega⟩
theorem iG.next {E:List CK}{a us f:List Tm}{pl:List (Int×List Int)}{w q:FJ}(h:iG a us pl w) (hE:Ja E) {i:Nat}{v:Tm}{p:Int×List Int}{d:CK}{j:Int}{nm:ByteArray}(hv:us[i]?=some v) (hp:pl[i]?=some p) (hc:DE E v=some (d,j,f)) (hb:Cp nm w.branches=some q) (ho:Fg w):iG a (us++f) (pl++Ee p d.fixed f.length) q:=by
 have hcf:=Fs hc;obtain⟨b1,b2⟩:=X9 hb ho;have hfx:=(hE.all d hcf.mem).fx.1;have hmore:=h.ok.more hv hp hfx;rw[←hcf.fs] at hmore;obtain⟨n1,n2,n3⟩:=h.nn p (List.mem_of_getElem? hp);refine⟨hmore,fun r hr=>?_⟩;rcases List.mem_append.1 hr with hr | hr
 ·obtain⟨m1,m2,m3⟩:=h.nn r hr;exact⟨m1,m2,by omega⟩
 obtain⟨k,_,rfl⟩:=List.mem_map.1 hr;refine⟨n1,fun q hq=>?_,by simp only[List.length_append,List.length_cons,List.length_nil];omega⟩;rcases List.mem_append.1 hq with hq | hq
 ·exact n2 q hq
 have:=List.mem_singleton.1 hq;omega
theorem iG.at_ {a us:List Tm}{pl:List (Int×List Int)}{w:FJ}(h:iG a us pl w) {i:Nat}{v:Tm}{p:Int×List Int}(hv:us[i]?=some v) (hp:pl[i]?=some p):0≤p.1∧(∀q∈p.2,0≤q)∧p.2.length≤1000∧p.1.toNat<a.length:=by
 obtain⟨n1,n2,n3⟩:=h.nn p (List.mem_of_getElem? hp);obtain⟨j,path,y,h1,h2,h3⟩:=h.ok.at_ i v hv;rw[hp] at h1;cases h1;exact⟨n1,n2,by omega,(List.getElem?_eq_some_iff.1 h2).1⟩
section
variable {E:List CK}{σ:Type}{S:Sys σ}{T:σ→Tm→Out (Option Tm×σ)}{h:Tm}{ar:Int}{a us:List Tm}{n:Nat}{t:FJ}{pl:List (Int×List Int)}{s:σ}{x:Tm}{p:Int×List Int}
def cg (h:Tm) (a:List Tm) (p:Int×List Int) (r:Option Tm×σ):Out (Option Tm×σ):=match r.1 with
 | none=> .ok (none,r.2)
 | some x=>match Jt (a.getD p.1.toNat default) p.2 x with
  | none=> .stuck
  | some y=> .ok (some (apply h (a.set p.1.toNat y)),r.2)
theorem fP {X:Out (Option Tm×σ)}(e:Jx E S T h ar a n t us pl s=X) (hX:X≠ .stuck):∃k,n=k+1:=by
 cases n with
 | zero=>rw[Jx] at e;exact absurd e.symm hX
 | succ k=>exact⟨k,rfl⟩
theorem dH (hk:t.kind≠1):Jx E S T h ar a (n+1) t us pl s=HL S h t.body us (a.drop ar.toNat) s:=by rw[Jx,if_neg hk]
theorem ji (hk:t.kind=1) (hb:t.var<0∨t.var≥(us.length:Int)):Jx E S T h ar a (n+1) t us pl s= .ok (none,s):=by rw[Jx,if_pos hk,if_pos hb]
theorem dh (hk:t.kind=1) (hb:¬(t.var<0∨t.var≥(us.length:Int))) (hx:us[t.var.toNat]?=some x) (hp:pl[t.var.toNat]?=some p) (hc:DE E x=none):Jx E S T h ar a (n+1) t us pl s=(T s x).bind (cg h a p):=by
 rw[Jx,if_pos hk,if_neg hb,CJ hx,CJ hp,hc];rfl
theorem lD {d:CK}{j:Int}{f:List Tm}(hk:t.kind=1) (hb:¬(t.var<0∨t.var≥(us.length:Int))) (hx:us[t.var.toNat]?=some x) (hp:pl[t.var.toNat]?=some p) (hc:DE E x=some (d,j,f)) (hbr:Cp (Ed d j).name t.branches=none):Jx E S T h ar a (n+1) t us pl s= .ok (none,s):=by
 rw[Jx,if_pos hk,if_neg hb,CJ hx,CJ hp,hc];simp only[hbr]
theorem lN {d:CK}{j:Int}{f:List Tm}{t':FJ}(hk:t.kind=1) (hb:¬(t.var<0∨t.var≥(us.length:Int))) (hx:us[t.var.toNat]?=some x) (hp:pl[t.var.toNat]?=some p) (hc:DE E x=some (d,j,f)) (hbr:Cp (Ed d j).name t.branches=some t'):Jx E S T h ar a (n+1) t us pl s=Jx E S T h ar a n t' (us++f) (pl++Ee p d.fixed f.length) s:=by
 rw[Jx,if_pos hk,if_neg hb,CJ hx,CJ hp,hc];simp only[hbr]
theorem aJ {r:Option Tm×σ}(hr:r.1.isSome=false):cg h a p r= .ok (none,r.2):=by
 obtain⟨q,s⟩:=r;cases q with
 | none=>rfl
 | some x=>cases hr
theorem aa {r:Option Tm×σ}{y:Tm}(hs:cg h a p r≠ .stuck) (hr:r.1.isSome=true) (hy:a[p.1.toNat]?=some y):∃z,Jt y p.2 (r.1.getD Bi)=some z∧cg h a p r= .ok (some (apply h (a.set p.1.toNat z)),r.2):=by
 obtain⟨q,s⟩:=r;cases q with
 | none=>cases hr
 | some x =>
  unfold cg at hs ⊢;simp only at hs ⊢;rw[CJ hy] at hs ⊢;cases hz:Jt y p.2 x with
  | none=>rw[hz] at hs;exact absurd rfl hs
  | some z=>exact⟨z,hz,rfl⟩
end
end Go.Eu
namespace Go.Proofs.YtboammbpdaoojaaGreat
open Go.Abs Go.Eu
def qQ (ds:List CK) (n:Nat):Prop:=∀(m:Nat) (t:Tm) (s:Int),HE s→FG ds B5 n s t≠ .stuck→Bq Tryz.prog 44 [.ptr m 0,.agg ((BO t).map .p)] [.box m [.p (.lst (List.map Bk ds)),.p (I s)]] (Ky (fun(r:Option Tm×Int)=> .tup [TV (r.1.getD Bi),.p (.bool r.1.isSome)]) (fun _=> .p (.iface 122 .unit)) (fun r H'=>H'=[.box m [.p (.lst (List.map Bk ds)),.p (I r.2)]]) ((FG ds B5 n s t).ex))
set_option maxHeartbeats 4000000 in
theorem YI:∀(n m:Nat) (ds:List CK) (s:Int) (g:Tm) (a:List Tm) (d:CK) (f:Hi),(qQ ds n)→(HQ ds)→(HE s)→(d∈ds)→(f∈d.funs)→(f.arity≤a.length)→(okB g=true)→(a.length<549755813888)→(∀y∈a,okB y=true)→(Jx ds B5 (FG ds B5 n) g f.arity a n f.tree (a.take f.arity.toNat) (Ud f.arity.toNat) s≠ .stuck)→Bq Tryz.prog 111 [.ptr m 0,.agg ((BO g).map .p),.agg ((Em f).map .p),.p (.lst (BE a))] [.box m [.p (.lst (List.map Bk ds)),.p (I s)]] (Ky (fun(r:Option Tm×Int)=> .tup [TV (r.1.getD Bi),.p (.bool r.1.isSome)]) (fun _=> .p (.iface 122 .unit)) (fun r H'=>H'=[.box m [.p (.lst (List.map Bk ds)),.p (I r.2)]]) ((Jx ds B5 (FG ds B5 n) g f.arity a n f.tree (a.take f.arity.toNat) (Ud f.arity.toNat) s).ex)):=by
 intro n m ds s g a d f hT h2 h3 h4 h5 h6 h7 h8 h9 hns;obtain⟨gk,gi,gn,gl,gs⟩:=g;have hgo:=CP.1 h7;have hgl:=hgo.nd;simp only[Nd,Dd] at hgl;have hfu:=(h2.g.all _ h4).fu _ h5;have hdp:=h2.fu _ h4 _ h5;have hlf:=OP h2 h4 h5 h9;have htl:(a.take f.arity.toNat).length=f.arity.toNat:=by rw[List.length_take];omega
 have hpw:=dN a f.arity.toNat f.tree Ao Ao;generalize hX:Jx ds B5 (FG ds B5 n) (.mk gk gi gn gl gs:Tm) f.arity a n f.tree (a.take f.arity.toNat) (Ud f.arity.toNat) s=X at hns ⊢;refine A6 Tryz.func111 O oU (n:=169) O O (Az (BG O (BP O) fun b5=>BG O (BP O) fun b6=>BG O (A8 Bz O) fun b8=>As Ay 1 [] O (Az (Ax Ay 2 [] O (Ar O (A3 (i:=1) DH O O (CI _)) (Ar O (Ca (lo:=0) (hi:=(f.arity:Int).toNat) Bf O (CF (Bw _)) O ⟨_,pI Ao⟩ (Nat.zero_le _) AR (My a ((f.arity:Int).toNat))) (NB O O O (.inl ⟨O,O,O⟩) (KH (a.take ((f.arity:Int).toNat)) (by simp only[List.length_take];omega)) (.inl O) fun o cp=>As Ay 1 [] O (Az (VV O (B3 (EG (t:=11) (sz:=2) O) (Bj O (Au (Az (Bt O (Ar O (KA Bf O (BS _)) (As Ay 1 [] O (BA ?_)))))))))))))))));refine Be (α:=Nat×Option Nat×Nat) (fun(i,o1,cp1)=>⟨169,mk [(0,.ptr m 0),(3,.p (.lst (BE a))),(5,.ptr b5 0),(6,.ptr b6 0),(8,.ptr b8 0),(10,.vs o (BE (a.take ((f.arity:Int).toNat))).length cp),(11,.vs o1 (List.map Fc (Ud i)).length cp1),(32,.p (I ((a.take ((f.arity:Int).toNat)).length:Nat))),(33,.p (I (i:Int)))],[.vec o1 2 (List.map Fc (Ud i)) cp1,.vec o 5 (BE (a.take ((f.arity:Int).toNat))) cp,.box b8 [.p (I 0),.p (I 0),.p (.str ⟨#[]⟩),.p (.nils),.p (.nils)],.box b6 ((Em f).map .p),.box b5 [.p (I gk),.p (I gi),.p (.str gn),.p (.lst (List.map B0 gl)),.p (.lst (BE gs))],.box m [.p (.lst (List.map Bk ds)),.p (I s)]],[]⟩) (fun(i,o1,cp1)=>(a.take f.arity.toNat).length - i) (fun(i,o1,cp1)=>i≤(a.take f.arity.toNat).length) ⟨0,none,0⟩ AQ ?_ ?_
 ·exact BY ⟨we O,we O,we O,we O,we O,we O,we O,we O,we O,Aq⟩ (leH (is:=[0,1,2,3,4,5]) O (wl (oe O) (wl (oe O) (wl (oe O) (wl (oe O) (wl (oe O) (wl (oe O) (C7))))))))
 rintro⟨i,o1,cp1⟩ hC
 try simp only at hC
 have hi:=hC;refine Av Ay 1 [] O (Au (Aw O (fun c=>?_) (fun c=>?_)))
 ·(try simp only[sd,se] at c);refine A2 (Au (BA (Av Ay 2 [] O (A4 (Ax Ay 3 [] O (Ar O (Bo Qq V8 O O O O O) (FF O O (CQ (i:=0) (rows':=List.map Fc ([((i:Int),[])])) Qq Qq V8 O O O O O O (S4 _) (by simp only[List.length_map,Qd,List.length_cons,List.length_nil];omega) (GJ (f:=Fc) (Ud i) ([((i:Int),[])]))) fun o2 cp2=>As Ay 1 [] O (A4 (As Ay 2 [] O ?_)))))))));refine⟨⟨i+1,o2,cp2⟩,AU,by omega,BY ⟨we rfl,we rfl,we rfl,we rfl,we rfl,we rfl,we (Gb (f:=Fc) (Ud i++([((i:Int),[])])) ((WO i).symm)),we rfl,we rfl,trivial⟩ (leH (is:=[0,1,2,3,4,5]) rfl (wl (Fk (f:=Fc) (Ud i++([((i:Int),[])])) ((WO i).symm)) (wl (oe rfl) (wl (oe rfl) (wl (oe rfl) (wl (oe rfl) (wl (oe rfl) (C7))))))))⟩
 (try simp only[sd,se] at c);refine Bg (Az (Ar O (A0 GX O O) (Ar O (By (i:=3) Iv O O (Dn _) (Cn _)) (BG O (A8 Vc O) fun b13=>As Ay 1 [0,1] O (Au (BA ?_))))));refine Be (α:=Nat×FJ×List Tm×List (Int×List Int)×Option Nat×Nat×Option Nat×Nat) (fun(k2,w,us,pl,o2,cp2,o3,cp3)=>⟨169,mk [(0,.ptr m 0),(3,.p (.lst (BE a))),(5,.ptr b5 0),(6,.ptr b6 0),(8,.ptr b8 0),(10,.vs o2 (BE us).length cp2),(11,.vs o3 (List.map Fc pl).length cp3),(13,.ptr b13 0)],[.box b13 ((Ct w).map .p),.vec o3 2 (List.map Fc pl) cp3,.vec o2 5 (BE us) cp2,.box b8 [.p (I 0),.p (I 0),.p (.str ⟨#[]⟩),.p (.nils),.p (.nils)],.box b6 ((Em f).map .p),.box b5 [.p (I gk),.p (I gi),.p (.str gn),.p (.lst (List.map B0 gl)),.p (.lst (BE gs))],.box m [.p (.lst (List.map Bk ds)),.p (I s)]],[]⟩) (fun(k2,w,us,pl,o2,cp2,o3,cp3)=>k2) (fun(k2,w,us,pl,o2,cp2,o3,cp3)=>Jx ds B5 (FG ds B5 n) (.mk gk gi gn gl gs:Tm) f.arity a k2 w us pl s=X∧SO w us∧iG a us pl w) ⟨n,f.tree,a.take f.arity.toNat,Ud f.arity.toNat,o,cp,o1,cp1⟩ (⟨hX,hlf,hpw⟩) ?_ ?_
 ·exact BY ⟨we O,we O,we O,we O,we O,we O,we (Gb (f:=Fc) (Ud i) (by rw[show i=f.arity.toNat from by omega])),we O,Aq⟩ (leH (is:=[0,1,2,3,4,5,6]) O (wl (oe O) (wl (Fk (f:=Fc) (Ud i) (by rw[show i=f.arity.toNat from by omega])) (wl (oe O) (wl (oe O) (wl (oe O) (wl (oe O) (wl (oe O) (C7)))))))))
 rintro⟨k2,w,us,pl,o2,cp2,o3,cp3⟩ hC1
 try simp only at hC1
 obtain⟨hC1,hL,hW⟩:=hC1;obtain⟨k1,rfl⟩:=fP hC1 hns;refine Au (Az (Ar O (A0 FP O O) (Ar O (A3 (i:=0) DH O O (Gc _)) (As Ay 1 [] O (Aw O (fun c1=>?_) (fun c1=>?_))))))
 ·(try simp only[sd,se] at c1);have hk1:=c1;refine A2 (BA (Au (Au (BR [0,3,5,6,8,10,11,13] 56 (fun y=>y= .p (.bool ((decide ((w.var:Int)<(0:Int)))||(decide ((w.var:Int)≥((us.length:Nat):Int)))))) ?_ ?_))))
  ·refine A4 (Ar O (A0 FP O O) (Ar O (A3 (i:=0) DH O O (DK _)) (Ax Ay 2 [] O (BL 50 O (fun g1=>?_) (fun g1=>?_)))))
   ·(try simp only[sd,se] at g1);exact As Ay 6 [] O (⟨O,O,AK,AI,⟨O,O,O,O,O,O,O,O,Aq⟩⟩)
   (try simp only[sd,se] at g1);exact BC O (A0 FP O O) (BC O (A3 (i:=0) DH O O (DK _)) (BC O (BZ O) (BC O (KA Bf O (BS _)) (As Ay 2 [] O (⟨O,O,AK,AI,⟨O,O,O,O,O,O,O,O,Aq⟩⟩)))))
  rintro _ rfl;refine Aw O (fun c2=>?_) (fun c2=>?_)
  ·(try simp only[sd,se] at c2);rw[ji hk1 (by simpa using c2)] at hC1;refine Av Ay 3 [3,0] O (BI (BT (i:=3) O) (A1 (⟨O,_,_,⟨_,_,O,(BB (i:=3) Ba O O O),⟨_,_,O,O,O⟩⟩,(B4 (is:=[6]) O),?_⟩)));exact⟨⟨_,_⟩,DS hC1.symm,O,O⟩
  (try simp only[sd,se] at c2);have hcb:¬(w.var<0∨w.var≥(us.length:Int)):=by simpa using c2
  have hWl:=hW.len;have hLl:=hL.len;refine A2 (Az (Ax Ay 2 [] O (Ar O (A3 (i:=0) DH O O (DK _)) (MX (i:=1) O AZ fun b hb=>?_))));subst hb;refine Ar O (Cz Qq O O Ao AH) ?_;obtain⟨y,hy⟩:=A7 (l:=pl) (i:=(w.var:Int).toNat) AO;refine Ar O (Ei (i:=1) pP O O (QN hy)) (BG O (A8 V8 O) fun b14=>As Ay 1 [0,1] O (Az (Ax Ay 3 [] O (Ar O (A3 (i:=1) DH O O (DK _)) (MX (i:=3) O AZ fun b1 hb1=>?_)))));subst hb1;refine Ar O (Cz Bf O O Ao AH) ?_;obtain⟨y1,hy1⟩:=A7 (l:=us) (i:=(w.var:Int).toNat) AO;refine Ar O (Ei (i:=3) Ba O O (Bc hy1)) (Ar O (B8 [7] O (.inl ⟨O,O,O⟩) (QM m ds s y1 h2.g (hL.ok _ (List.mem_of_getElem? hy1))) ⟨_,_,O,O,O⟩ An O (.inl O)) (Ax Ay 5 [] O (BG O (A8 JK O) fun b15=>As Ay 4 [0,1] O (Au (Av Ay 2 [] O (Aw O (fun c3=>?_) (fun c3=>?_)))))))
  ·(try simp only[sd,se] at c3);have hcn:=OB c3;obtain⟨ha1,ha2,ha3,ha4⟩:=hW.at_ hy1 hy;obtain⟨ya,hya⟩:=A7 ha4;refine Az (Ax Ay 3 [] O (Ar O (A3 (i:=2) DH O O (DK _)) (Ar O (Cz Bf O O Ao AH) ?_)));obtain⟨y2,hy2⟩:=A7 (l:=us) (i:=(w.var:Int).toNat) AO;refine Ar O (Ei (i:=4) Ba O O (Bc hy2)) ?_;have hyy:y2=y1:=Option.some.inj (hy2.symm.trans hy1);rw[dh hk1 hcb hy2 hy (by rw[hyy];exact hcn)] at hC1;have hn0:=hns;rw[←hC1] at hn0;have hn1:=Ji hn0;refine Dv [8] O O O (.inl ⟨O,O,O⟩) (hT m y2 s h3 hn1) ⟨_,_,O,O,O⟩ An (aw (we O) (aw (we O) (Et))) (fun _ _ h=>(congrArg List.length h).trans O) ?_ ?_
   rotate_left
   ·intro e _ he;exact⟨O,_,List.nil_sublist _,⟨_,by rw[←hC1];exact Kn hn0 he,rfl⟩⟩
   rintro⟨q,n2⟩ _ hz rfl;rw[MT hz] at hC1;refine Ax Ay 3 [] O (BG O (A8 Bz O) fun b19=>As Ay 2 [0,1] O (Au (Av Ay 2 [] O (Aw O (fun c4=>?_) (fun c4=>?_)))))
   ·(try simp only[sd,se] at c4);rw[aJ c4] at hC1;refine Av Ay 3 [6,0] O (BI (BT (i:=6) O) (A1 (⟨O,_,_,⟨_,_,O,(BB (i:=6) Ba O O O),⟨_,_,O,O,O⟩⟩,(B4 (is:=[9]) O),?_⟩)));exact⟨⟨_,_⟩,DS hC1.symm,O,O⟩
   (try simp only[sd,se] at c4);obtain⟨z1,hz1,hz2⟩:=aa (by rw[hC1];exact hns) c4 hya;rw[hz2] at hC1;refine A2 (Az (Bt O (NB O O O (.inl ⟨O,O,O⟩) (KH a h8) (.inl O) fun o4 cp4=>As Ay 1 [] O (Au (L2 (i:=0) O AZ fun b2 hb2=>?_)))));subst hb2;refine Bu (fun k=>false) Dt (BQ Ay 6 [3,3] O (BH O (fun _=>Cz Bf O O Ao AH) Aq ?_));obtain⟨y3,hy3⟩:=A7 (l:=a) (i:=(y.1:Int).toNat) AO;refine CX (j:=0) O O O (fun H i hi=>Ei (i:=i) Ba O hi (Bc hy3)) AB Aq (BQ Ay 3 [3,1] O ?_);have hyy:=Option.some.inj (hy3.symm.trans hya);refine BH O (fun _=>BF O O (gJ y.2.length y.2 y3 (q.getD Bi) z1 (Nat.le_refl _) (h9 _ (List.mem_of_getElem? hy3)) ha2 Ao (by rw[hyy];exact hz1)) O) Aq (BH O (fun _=>Cz Bf O O Ao AH) Aq (GP O O (EN (i:=0) (j:=((y.1:Int).toNat)) Ba O O O AM O (KG _) (BD _) (E0 _) (Sv a ((y.1:Int).toNat) z1)) AB Aq (JN O Ak (Az (Ax Ay 2 [9] O (B3 (C9 (t:=91) (x:= .vs (some b2) (BE ((a).set ((y.1:Int).toNat) z1)).length cp4) (DO a (l':=(a).set ((y.1:Int).toNat) z1) Ap)) (B3 (C9 (t:=21) (x:= .vs (some b2) (BE ((a).set ((y.1:Int).toNat) z1)).length cp4) (DO a (l':=(a).set ((y.1:Int).toNat) z1) Ap)) ?_)))))));refine B3 (C9 (t:=92) (x:= .vs (some b2) (BE ((a).set ((y.1:Int).toNat) z1)).length cp4) (DO a (l':=(a).set ((y.1:Int).toNat) z1) Ap)) (B3 (C9 (t:=95) (x:= .vs (some b2) (BE ((a).set ((y.1:Int).toNat) z1)).length cp4) (DO a (l':=(a).set ((y.1:Int).toNat) z1) Ap)) (B3 (C9 (t:=106) (x:= .vs (some b2) (BE ((a).set ((y.1:Int).toNat) z1)).length cp4) (DO a (l':=(a).set ((y.1:Int).toNat) z1) Ap)) (B3 (Cj (i:=0) [91,21,92,95,106] O (D6 ⟨O,O,O,O,O,Aq⟩)) (Ar O (BF O O (EP (.mk gk gi gn gl gs:Tm) ((a).set ((y.1:Int).toNat) z1) AT) O) (As Ay 2 [6,1] O (A1 (⟨O,_,_,⟨_,_,O,(BB (i:=6) Ba O O Ah),⟨_,_,O,O,O⟩⟩,(B4 (is:=[9]) O),?_⟩)))))));exact⟨⟨_,_⟩,DS hC1.symm,O,O⟩
  (try simp only[sd,se] at c3);obtain⟨ha1,ha2,ha3,ha4⟩:=hW.at_ hy1 hy;have hcs:=MK c3;have hcf:=Fs hcs;have hlo:=hcf.lo;have hhi:=hcf.hi;have hfl:=JI h2.g hcs;have hdf:=(h2.g.all _ hcf.mem).fx;refine A2 (Au (Au (Bu (fun k=>false) Dt (BQ Ay 2 [2] O (CX (j:=0) O O O (fun H i hi=>A3 (i:=i) Hl O hi (CB _)) AB Aq (BH O (fun _=>BZ O) Aq ?_))))));obtain⟨x,hx⟩:=A7 (l:=((CL ds y1).1).ctors) (i:=((CL ds y1).2.1:Int).toNat) Ao;refine BH O (fun _=>A5 HN O O Ao (EX hx) (D8 _)) Aq (BH O (fun _=>Bv Ir O O) Aq (BH O (fun _=>C0 Lu O (Fl _)) Aq (BH O (fun _=>BF O O (S7 w x.name hL.tin.bl) O) Aq (Bn Ay 5 [2,1] O (Av Ay 2 [] O (Aw O (fun c4=>?_) (fun c4=>?_)))))))
  ·(try simp only[sd,se] at c4);rw[lD hk1 hcb hy1 hy hcs (by rw[Ed,CJ hx];exact V9 c4)] at hC1;refine Av Ay 3 [5,0] O (BI (BT (i:=5) O) (A1 (⟨O,_,_,⟨_,_,O,(BB (i:=5) Ba O O O),⟨_,_,O,O,O⟩⟩,(B4 (is:=[8]) O),?_⟩)));exact⟨⟨_,_⟩,DS hC1.symm,O,O⟩
  (try simp only[sd,se] at c4);have hbs:=Wj c4;rw[lN hk1 hcb hy1 hy hcs (by rw[Ed,CJ hx];exact hbs)] at hC1;refine A2 (Az (Bt O (Ar O (BM Bf O (BS _)) (As Ay 1 [] O (BA ?_)))));refine Be (α:=Nat×Option Nat×Nat×Option Nat×Nat) (fun(i,o4,cp4,o5,cp5)=>⟨169,mk [(0,.ptr m 0),(3,.p (.lst (BE a))),(5,.ptr b5 0),(6,.ptr b6 0),(8,.ptr b8 0),(10,.vs o4 (BE (us++(CL ds y1).2.2.1.take i)).length cp4),(11,.vs o5 (List.map Fc (pl++Ee y (CL ds y1).1.fixed i)).length cp5),(13,.ptr b13 0),(14,.ptr b14 0),(15,.ptr b15 0),(122,.p (.lst (BE ((CL ds y1).2.2.1)))),(123,.p (I (((CL ds y1).2.2.1).length:Nat))),(124,.p (I (i:Int)))],[.box b15 ((Bk ((CL ds y1).1)).map .p),.box b14 ((Fc y).map .p),.box b13 ((Ct ((bM x.name w.branches).1)).map .p),.vec o5 2 (List.map Fc (pl++Ee y (CL ds y1).1.fixed i)) cp5,.vec o4 5 (BE (us++(CL ds y1).2.2.1.take i)) cp4,.box b8 [.p (I 0),.p (I 0),.p (.str ⟨#[]⟩),.p (.nils),.p (.nils)],.box b6 ((Em f).map .p),.box b5 [.p (I gk),.p (I gi),.p (.str gn),.p (.lst (List.map B0 gl)),.p (.lst (BE gs))],.box m [.p (.lst (List.map Bk ds)),.p (I s)]],[]⟩) (fun(i,o4,cp4,o5,cp5)=>(CL ds y1).2.2.1.length - i) (fun(i,o4,cp4,o5,cp5)=>i≤(CL ds y1).2.2.1.length) ⟨0,(some b1),cp2,(some b),cp3⟩ AQ ?_ ?_
  ·exact BY ⟨we O,we O,we O,we O,we O,we (Lk us Ap),we (Gb (f:=Fc) pl (by simp[OZ])),we O,we O,we O,we O,we O,we O,Aq⟩ (leH (is:=[0,1,2,3,4,5,6,7,8]) O (wl (oe O) (wl (oe O) (wl (oe O) (wl (Fk (f:=Fc) pl (by simp[OZ])) (wl (J5 us Ap) (wl (oe O) (wl (oe O) (wl (oe O) (wl (oe O) (C7)))))))))))
  rintro⟨i,o4,cp4,o5,cp5⟩ hC2
  try simp only at hC2
  have hi:=hC2;refine Av Ay 1 [] O (Au (Aw O (fun c5=>?_) (fun c5=>?_)))
  ·(try simp only[sd,se] at c5);refine A2 (Au (BA (Az (Bt O ?_))));obtain⟨x1,hx1⟩:=A7 (l:=(CL ds y1).2.2.1) (i:=i) Ao;refine Ar O (A5 Bf O O Ao (Bc hx1) (BD _)) (Ar O (BN Ba O (BD _)) (BG O (A8 Bz O) fun b23=>As Ay 2 [0,1] O (Az (Ax Ay 2 [0] O ?_))));obtain⟨x1k,x1i,x1n,x1l,x1s⟩:=x1;refine Ar O (Bo Bf Bz O O O O O) (FF O O (CQ (i:=5) (rows':=BE [(.mk x1k x1i x1n x1l x1s:Tm)]) Bf Bf Bz O O O O O O (Bw _) (by have:=hL.len;have:=hW.len;simp only[BS,Qd,Kq,List.length_take,List.length_map,List.length_cons,List.length_nil,List.length_append];omega) (Jl (us++(CL ds y1).2.2.1.take i) [(.mk x1k x1i x1n x1l x1s:Tm)])) fun o6 cp6=>As Ay 1 [] O (Bu (fun k=>Nat.beq k 5||Nat.beq k 14) Dt (BQ Ay 5 [2,2] O ?_)));refine kX [(6,.free (.ptr b15 13)),(7,.read [.box b15 ((Bk ((CL ds y1).1)).map .p)] (.p (I (((CL ds y1).1).fixed)))),(8,.free (.p (I (i:Int)))),(9,.free (.p (I ((((CL ds y1).1).fixed:Int)+((i:Int):Int))))),(10,.free (.p (.lst (List.map Gl [((((CL ds y1).1).fixed:Int)+((i:Int):Int))]))))] O O O (.inl ⟨O,O,O⟩) (dt y.2 Ao) (.inl O) Ak fun o7 cp7=>⟨AB,Aq,?_⟩;refine BQ Ay 1 [] O (CX (j:=2) O O O (fun H i hi=>A3 (i:=i) DH O hi (Co _)) AB AN (BQ Ay 2 [] O (BH O (fun _=>Bo Hp hG O O O O O) AN (GP O O (WX (i:=0) (rows':=List.map Gl [((((CL ds y1).1).fixed:Int)+((i:Int):Int))]) Hp Hp hG O O O O O O (O5 _) (by have:=hL.len;have:=hW.len;simp only[BS,Qd,Kq,List.length_take,List.length_map,List.length_cons,List.length_nil,List.length_append];omega) (GJ (f:=Gl) y.2 [((((CL ds y1).1).fixed:Int)+((i:Int):Int))])) AB AN (BQ Ay 1 [] O (BH O (fun _=>Bo Qq V8 O O O O O) AN ?_))))));refine LC [] O O (CQ (i:=4) (rows':=List.map Fc ([(y.1,(y.2++[((((CL ds y1).1).fixed:Int)+((i:Int):Int))]))])) Qq Qq V8 O O O O O O (S4 _) (by have:=hL.len;have:=hW.len;simp only[BS,Qd,Kq,List.length_take,List.length_map,List.length_cons,List.length_nil,List.length_append];omega) (GJ (f:=Fc) (pl++Ee y (CL ds y1).1.fixed i) ([(y.1,(y.2++[((((CL ds y1).1).fixed:Int)+((i:Int):Int))]))]))) Ak fun o8 cp8=>⟨AB,AN,?_⟩;refine Bn Ay 1 [] O (A4 (As Ay 2 [] O ?_))
   refine⟨⟨i+1,o6,cp6,o8,cp8⟩,AU,by omega,BY ⟨we rfl,we rfl,we rfl,we rfl,we rfl,we (Lk (us++(CL ds y1).2.2.1.take i++[(.mk x1k x1i x1n x1l x1s:Tm)]) (by rw[Qp hx1,List.append_assoc])),we (Gb (f:=Fc) (pl++Ee y (CL ds y1).1.fixed i++([(y.1,(y.2++[((((CL ds y1).1).fixed:Int)+((i:Int):Int))]))])) (by rw[Og,List.append_assoc])),we rfl,we rfl,we rfl,we rfl,we rfl,we rfl,trivial⟩ (leH (is:=[1,2,3,4,5,6,7,8,9]) rfl (wl (oe rfl) (wl (oe rfl) (wl (oe rfl) (wl (Fk (f:=Fc) (pl++Ee y (CL ds y1).1.fixed i++([(y.1,(y.2++[((((CL ds y1).1).fixed:Int)+((i:Int):Int))]))])) (by rw[Og,List.append_assoc])) (wl (J5 (us++(CL ds y1).2.2.1.take i++[(.mk x1k x1i x1n x1l x1s:Tm)]) (by rw[Qp hx1,List.append_assoc])) (wl (oe rfl) (wl (oe rfl) (wl (oe rfl) (wl (oe rfl) (C7)))))))))))⟩
  (try simp only[sd,se] at c5);refine Bg ?_;refine⟨⟨k1,(bM x.name w.branches).1,us++(CL ds y1).2.2.1,pl++Ee y (CL ds y1).1.fixed (CL ds y1).2.2.1.length,o4,cp4,o5,cp5⟩,AU,⟨hC1,hL.next h2.g (hL.ok _ (List.mem_of_getElem? hy1)) hcs hbs,hW.next h2.g hy1 hy hcs hbs hL.tok⟩,BY ⟨we O,we O,we O,we O,we O,we (Lk (us++(CL ds y1).2.2.1.take i) (by rw[Vd Ao])),we (Gb (f:=Fc) (pl++Ee y (CL ds y1).1.fixed i) (by rw[show i=(CL ds y1).2.2.1.length from by omega])),we O,Aq⟩ (leH (is:=[2,3,4,5,6,7,8]) O (wl (oe O) (wl (Fk (f:=Fc) (pl++Ee y (CL ds y1).1.fixed i) (by rw[show i=(CL ds y1).2.2.1.length from by omega])) (wl (J5 (us++(CL ds y1).2.2.1.take i) (by rw[Vd Ao])) (wl (oe O) (wl (oe O) (wl (oe O) (wl (oe O) (C7)))))))))⟩
 (try simp only[sd,se] at c1);have hk1:=c1;have hLl:=hL.len;rw[dH hk1] at hC1;refine Bg (Az (Ar O (A0 FP O O) (Ar O (By (i:=0) Ba O O (E9 _) (BD _)) (Ax Ay 2 [5] O (Ar O (BF O O (Mg w.body gl (CP.1 (NI hL.tok)).nd (CP.1 (NI hL.tok)).vp (by have:=F9 (NI hL.tok);omega) hgl.2.1 hgl.2.2.1) O) (Ax Ay 3 [] O (BG O (A8 Bz O) fun b24=>As Ay 2 [0,1] O (Au (Av Ay 2 [] O (Aw O (fun c2=>?_) (fun c2=>?_)))))))))))
 ·(try simp only[sd,se] at c2);rw[KO (h:=(.mk gk gi gn gl gs:Tm)) c2] at hC1;refine Av Ay 3 [4,0] O (BI (BT (i:=4) O) (A1 (⟨O,_,_,⟨_,_,O,(BB (i:=4) Ba O O O),⟨_,_,O,O,O⟩⟩,(B4 (is:=[7]) O),?_⟩)));exact⟨⟨_,_⟩,DS hC1.symm,O,O⟩
 (try simp only[sd,se] at c2);obtain⟨hb1,hb2,hb3,hb4⟩:=Uh (by rw[hC1];exact hns) c2;rw[hb4] at hC1;have hn3:=hns;rw[←hC1] at hn3;refine A2 (Au (BI (Cj (i:=3) [10] O (D6 ⟨O,Aq⟩)) ?_));obtain⟨e,he⟩ | ⟨⟨z,n2⟩,hz⟩:=F5 (JQ s (CT ((Bp w.body gl).1) us.reverse 0))
 ·refine Iw ((fun _=> .p (.iface 122 .unit)) e) 3 [.val (.ptr m 0),.val (.agg ((BO ((Bp w.body gl).1)).map .p)),.val (.p (.lst (BE us))),.val (.p .any),.val (.p (.lst (BE a))),.val (.ptr b6 (0+6)),.val (.p (I f.arity)),.val (.p (.lst (BE (a.drop ((f.arity:Int).toNat))))),.val (.p .any),.val (.p .any),.val (.p .any)] Dt O Ak O Aq (fun _ _=>by exact⟨rfl,_,List.nil_sublist _,⟨_,by rw[←hC1];exact K4 hn3 he,rfl⟩⟩) ?_;exact B9 O O (fun Bs=>BZ O) (B9 O O (fun Bs=>BU (i:=Bs.length+0) Ba O (CS O) Ah) (B9 O O (fun Bs=>BZ O) (K1 (mkp:=(fun _=> .p (.iface 122 .unit))) (e:=e) [6] he O O (.inl ⟨O,O,O⟩) (Qe m ds s ((Bp w.body gl).1) us h3 hb1 hb2 Ao) ⟨_,_,O,O,O⟩ An (aw (we O) (aw (we O) (aw (we O) (Et)))) (B9 O O (fun Bs=>BZ O) (B9 O O (fun Bs=>A0 GX O O) (B9 O O (fun Bs=>A3 (i:=Bs.length+4) DH O (CS O) (CI _)) (B9 O O (fun Bs=>Ca (lo:=(f.arity:Int).toNat) Bf O (CF (Bw _)) ⟨_,pI Ao⟩ O AR (Nat.le_refl _) (Ju a ((f.arity:Int).toNat))) (DC O O Ak (DC O O Ak (DC O O Ak LG))))))))))
 rw[K5 hn3 hz] at hC1;refine HZ [.box b24 ((BO ((Bp w.body gl).1)).map .p),.box b13 ((Ct w).map .p),.vec o3 2 (List.map Fc pl) cp3,.box b8 [.p (I 0),.p (I 0),.p (.str ⟨#[]⟩),.p (.nils),.p (.nils)],.box b6 ((Em f).map .p),.box b5 [.p (I gk),.p (I gi),.p (.str gn),.p (.lst (List.map B0 gl)),.p (.lst (BE gs))],.box m [.p (.lst (List.map Bk ds)),.p (I n2)]] 3 [.val (.ptr m 0),.val (.agg ((BO ((Bp w.body gl).1)).map .p)),.val (.p (.lst (BE us))),.val (.agg ((BO z).map .p)),.val (.p (.lst (BE a))),.val (.ptr b6 (0+6)),.val (.p (I f.arity)),.val (.p (.lst (BE (a.drop ((f.arity:Int).toNat))))),.val (.agg ((BO (apply z (a.drop ((f.arity:Int).toNat)))).map .p))] [.p .any,.p (.bool true)] [] Dt O Ak Ak Ak O ?_ ?_
 ·exact Aq
 refine Bd O O (fun Bs=>BZ O) (Ew O O O (fun Bs=>BU (i:=Bs.length+0) Ba O (CS O) Ah) (fun Bs=>BU (i:=Bs.length+0) Ba O (CS O) Ah) (Bd O O (fun Bs=>BZ O) (JP O (fun Bs=>GF [6] O (.inl ⟨O,O,O⟩) (Kz hz (Qe m ds s ((Bp w.body gl).1) us h3 hb1 hb2 Ao)) ⟨_,_,O,O,O⟩ An O (aw (we O) (aw (we O) (aw (we O) (Et))))) (Bd O O (fun Bs=>BZ O) (Bd O O (fun Bs=>A0 GX O O) (Ew O O O (fun Bs=>A3 (i:=Bs.length+4) DH O (CS O) (CI _)) (fun Bs=>A3 (i:=Bs.length+4) DH O (CS O) (CI _)) (Bd O O (fun Bs=>Ca (lo:=(f.arity:Int).toNat) Bf O (CF (Bw _)) ⟨_,pI Ao⟩ O AR (Nat.le_refl _) (Ju a ((f.arity:Int).toNat))) ?_)))))));refine Bd O O (fun Bs=>BF O O (EP z (a.drop ((f.arity:Int).toNat)) AS) O) (JJ (DV [.box b24 ((BO ((Bp w.body gl).1)).map .p),.box b13 ((Ct w).map .p),.vec o3 2 (List.map Fc pl) cp3,.box b8 ((BO (apply z (a.drop ((f.arity:Int).toNat)))).map .p),.box b6 ((Em f).map .p),.box b5 [.p (I gk),.p (I gi),.p (.str gn),.p (.lst (List.map B0 gl)),.p (.lst (BE gs))],.box m [.p (.lst (List.map Bk ds)),.p (I n2)]] O (CY (i:=3) Ba O O O Ah AX (E0 _)) ?_));refine DV [.box b24 ((BO ((Bp w.body gl).1)).map .p),.box b13 ((Ct w).map .p),.vec o3 2 (List.map Fc pl) cp3,.box b8 ((BO (apply z (a.drop ((f.arity:Int).toNat)))).map .p),.box b6 ((Em f).map .p),.box b5 [.p (I gk),.p (I gi),.p (.str gn),.p (.lst (List.map B0 gl)),.p (.lst (BE gs))],.box m [.p (.lst (List.map Bk ds)),.p (I n2)]] O (Du O) (JZ (A1 (⟨O,_,_,⟨_,_,O,(BB (i:=3) Ba O O Ah),⟨_,_,O,O,O⟩⟩,(B4 (is:=[6]) O),?_⟩)));exact⟨⟨_,_⟩,DS hC1.symm,O,O⟩
end Go.Proofs.YtboammbpdaoojaaGreat
namespace Go.Eu
open Go.Abs
def KU (E:List CK) {σ:Type}(S:Sys σ) (n:Nat) (h:Tm) (a:List Tm) (s:σ):Out (Option Tm×σ):=match Kf E h with
 | none=> .ok (none,s)
 | some x =>
  if x.kind=1 then E1 S (Cb E x.decl) h a s
  else if x.kind=5∧(a.length:Int) > CR (Cb E x.decl) then match DE E (a.getD (CR (Cb E x.decl)).toNat default) with
   | some _=>E4 E S (Cb E x.decl) h a (a.getD (CR (Cb E x.decl)).toNat default) s
   | none=>(FG E S n s (a.getD (CR (Cb E x.decl)).toNat default)).bind fun r=>match r.1 with
    | none=> .ok (none,r.2)
    | some y=> .ok (some (apply h (a.set (CR (Cb E x.decl)).toNat y)),r.2)
  else if x.kind=6∧(a.length:Int)≥(E2 (Cb E x.decl) x.item).arity then
   Jx E S (FG E S n) h (E2 (Cb E x.decl) x.item).arity a n (E2 (Cb E x.decl) x.item).tree (a.take (E2 (Cb E x.decl) x.item).arity.toNat) (Ud (E2 (Cb E x.decl) x.item).arity.toNat) s
  else .ok (none,s)
section
variable {E:List CK}{σ:Type}{S:Sys σ}{n:Nat}{h:Tm}{a:List Tm}{s:σ}{d:CK}{x:Tm}
def lY (h:Tm) (a:List Tm) (k:Nat) (r:Option Tm×σ):Out (Option Tm×σ):=match r.1 with
 | none=> .ok (none,r.2)
 | some y=> .ok (some (apply h (a.set k y)),r.2)
theorem kz {k:Nat}{r:Option Tm×σ}(hr:r.1.isSome=false):lY h a k r= .ok (none,r.2):=by
 obtain⟨q,s⟩:=r;cases q with
 | none=>rfl
 | some x=>cases hr
theorem ku {k:Nat}{r:Option Tm×σ}(hr:r.1.isSome=true):lY h a k r= .ok (some (apply h (a.set k (r.1.getD Bi))),r.2):=by
 obtain⟨q,s⟩:=r;cases q with
 | none=>cases hr
 | some x=>rfl
theorem cj (hu:QG E h=false):KU E S n h a s= .ok (none,s):=by
 unfold KU;rw[Cm,hu];simp
section
variable (hu:QG E h=true) (hd:E[(Bh E h.name).1.decl.toNat]?=some d)
include hu hd
theorem gD (hk:(Bh E h.name).1.kind=1):KU E S n h a s=E1 S d h a s:=by
 unfold KU;rw[Cm,hu,if_pos rfl];simp only[if_pos hk,Cb,CJ hd]
theorem bz (hk:(Bh E h.name).1.kind=5) (hl:(a.length:Int)≤CR d):KU E S n h a s= .ok (none,s):=by
 unfold KU;rw[Cm,hu,if_pos rfl];simp only[Cb,CJ hd];rw[if_neg Ao,if_neg Ao,if_neg Ao]
theorem bZ (hk:(Bh E h.name).1.kind=5) (hl:¬(a.length:Int)≤CR d) (hx:a[(CR d).toNat]?=some x) {q:CK×Int×List Tm}(hc:DE E x=some q):KU E S n h a s=E4 E S d h a x s:=by
 unfold KU;rw[Cm,hu,if_pos rfl];simp only[Cb,CJ hd];rw[if_neg Ao,if_pos ⟨hk,by omega⟩,CJ hx];simp only[hc]
theorem fA (hk:(Bh E h.name).1.kind=5) (hl:¬(a.length:Int)≤CR d) (hx:a[(CR d).toNat]?=some x) (hc:DE E x=none):KU E S n h a s=(FG E S n s x).bind (lY h a (CR d).toNat):=by
 unfold KU;rw[Cm,hu,if_pos rfl];simp only[Cb,CJ hd];rw[if_neg Ao,if_pos ⟨hk,by omega⟩,CJ hx];simp only[hc];rfl
theorem je {f:Hi}(hk:(Bh E h.name).1.kind=6) (hf:d.funs[(Bh E h.name).1.item.toNat]?=some f) (hl:f.arity≤(a.length:Int)):KU E S n h a s=Jx E S (FG E S n) h f.arity a n f.tree (a.take f.arity.toNat) (Ud f.arity.toNat) s:=by
 unfold KU;rw[Cm,hu,if_pos rfl];simp only[Cb,CJ hd,E2,CJ hf];rw[if_neg Ao,if_neg Ao,if_pos ⟨hk,by omega⟩]
theorem dT {f:Hi}(hk:(Bh E h.name).1.kind=6) (hf:d.funs[(Bh E h.name).1.item.toNat]?=some f) (hl:¬f.arity≤(a.length:Int)):KU E S n h a s= .ok (none,s):=by
 unfold KU;rw[Cm,hu,if_pos rfl];simp only[Cb,CJ hd,E2,CJ hf];rw[if_neg Ao,if_neg Ao,if_neg Ao]
omit hd
theorem ly (h1:(Bh E h.name).1.kind≠1) (h5:(Bh E h.name).1.kind≠5) (h6:(Bh E h.name).1.kind≠6):KU E S n h a s= .ok (none,s):=by
 unfold KU;rw[Cm,hu,if_pos rfl];simp only;rw[if_neg h1,if_neg Ao,if_neg Ao]
end
end
section
variable {E:List CK}{σ:Type}{S:Sys σ}{n:Nat}{t:Tm}{s:σ}{X:Out (Option Tm×σ)}
theorem fh (h:FG E S n s t=X) (hX:X≠ .stuck):∃k,n=k+1:=by
 cases n with
 | zero=>rw[FG] at h;exact absurd h.symm hX
 | succ k=>exact⟨k,rfl⟩
theorem iH (h:FG E S (n+1) s t=X) (hX:X≠ .stuck):okB t=true:=by
 rw[FG] at h;split at h
 ·exact absurd h.symm hX
 rename_i hc;simpa using hc
section
variable (ho:okB t=true)
include ho
theorem du (hk:(A9 t).1.kind=5) (hl:(A9 t).2.length=0):FG E S (n+1) s t= .ok (none,s):=by
 rw[FG,if_neg (by simp[ho]),if_pos hk,if_pos hl]
theorem ja {b:Tm}(hk:(A9 t).1.kind=5) (hl:(A9 t).2.length≠0) (hb:(A9 t).1.kids[1]?=some b) :
  FG E S (n+1) s t=S.put s (CT b ((A9 t).2.take 1) 0) fun x s'=> .ok (some (apply x ((A9 t).2.drop 1)),s'):=by
 rw[FG,if_neg (by simp[ho]),if_pos hk,if_neg hl,Nw,hb]
theorem gM {v b:Tm}(hk:(A9 t).1.kind=11) (hv:(A9 t).1.kids[1]?=some v) (hb:(A9 t).1.kids[2]?=some b) :
  FG E S (n+1) s t=S.put s (CT b [v] 0) fun x s'=> .ok (some (apply x (A9 t).2),s'):=by
 rw[FG,if_neg (by simp[ho]),if_neg Ao,if_pos hk,Ua,hv,hb]
def kg (h:Tm) (a:List Tm) (r:Option Tm×σ):Out (Option Tm×σ):=match r.1 with
 | none=> .ok (none,r.2)
 | some x=> .ok (some (apply (Ip h.kind x) a),r.2)
theorem cK {p q:Tm}(hk:(A9 t).1.kind=9∨(A9 t).1.kind=10) (hp:(A9 t).1.kids[0]?=some p) (h8:p.kind=8) (hq:p.kids[(1+(A9 t).1.kind - 9).toNat]?=some q) :
  FG E S (n+1) s t=S.put s (q,0) fun x s'=> .ok (some (apply x (A9 t).2),s'):=by
 rw[FG,if_neg (by simp[ho]),if_neg Ao,if_neg Ao,if_pos hk,hp];simp only;rw[if_pos h8,Ms,hq]
theorem cY {p:Tm}(hk:(A9 t).1.kind=9∨(A9 t).1.kind=10) (hp:(A9 t).1.kids[0]?=some p) (h8:p.kind≠8) :
  FG E S (n+1) s t=(FG E S n s p).bind (kg (A9 t).1 (A9 t).2):=by
 rw[FG,if_neg (by simp[ho]),if_neg Ao,if_neg Ao,if_pos hk,hp];simp only;rw[if_neg h8];rfl
theorem ao (hk:(A9 t).1.kind=3):FG E S (n+1) s t=KU E S n (A9 t).1 (A9 t).2 s:=by
 rw[FG,if_neg (by simp[ho]),if_neg Ao,if_neg Ao,if_neg Ao,if_pos hk];rfl
theorem l4 (h1:(A9 t).1.kind≠5) (h2:(A9 t).1.kind≠11) (h3:(A9 t).1.kind≠9) (h4:(A9 t).1.kind≠10) (h5:(A9 t).1.kind≠3):FG E S (n+1) s t= .ok (none,s):=by
 rw[FG,if_neg (by simp[ho]),if_neg h1,if_neg h2,if_neg Ao,if_neg h5]
end
theorem kp {h:Tm}{a:List Tm}{r:Option Tm×σ}(hr:r.1.isSome=false):kg h a r= .ok (none,r.2):=by
 obtain⟨q,s⟩:=r;cases q with
 | none=>rfl
 | some x=>cases hr
theorem lh {h:Tm}{a:List Tm}{r:Option Tm×σ}(hr:r.1.isSome=true):kg h a r= .ok (some (apply (Ip h.kind (r.1.getD Bi)) a),r.2):=by
 obtain⟨q,s⟩:=r;cases q with
 | none=>cases hr
 | some x=>rfl
end
section
variable {E:List CK}{σ:Type}{S:Sys σ}{n:Nat}{t:Tm}{s:σ}{r:Tm×σ}{d:CK}{X:Out (Option Int×σ)}
noncomputable def UZ (E:List CK) (S:Sys σ) (n:Nat) (q:(Option (Tm×List Tm)×Tm)×σ):Out (Option Int×σ):=match q.1.1 with
 | some _=> .ok (none,q.2)
 | none=>if S.over q.2=false∧Nj q.1.2 Bi=false then EI E S n q.2 q.1.2 else .ok (none,q.2)
noncomputable def Il (E:List CK) (S:Sys σ) (n:Nat) (r:Tm×σ):Out (Option Int×σ) :=
 if (A9 r.1).1.kind=12 then .ok (some (A9 r.1).1.index,r.2)
  else if (A9 r.1).1.kind=9∨(A9 r.1).1.kind=10 then match (A9 r.1).1.kids[0]? with
   | none=> .stuck
   | some p=>EI E S n r.2 p
  else if (A9 r.1).1.kind=3 then match Kf E (A9 r.1).1 with
   | none=> .ok (none,r.2)
   | some x =>
    if S.over r.2=true then .ok (none,r.2)
    else if x.kind=5∧((A9 r.1).2.length:Int) > CR (Cb E x.decl) then EI E S n r.2 ((A9 r.1).2.getD (CR (Cb E x.decl)).toNat default)
    else if x.kind=6∧((A9 r.1).2.length:Int)≥(E2 (Cb E x.decl) x.item).arity then
     (Ds E S (EF E S n) n (E2 (Cb E x.decl) x.item).tree ((A9 r.1).2.take (E2 (Cb E x.decl) x.item).arity.toNat) Bi r.2).bind (UZ E S n)
    else .ok (none,r.2)
  else .ok (none,r.2)
theorem Vb (h:EI E S n s t=X) (hX:X≠ .stuck):∃k,n=k+1:=by
 cases n with
 | zero=>rw[EI] at h;exact absurd h.symm hX
 | succ k=>exact⟨k,rfl⟩
theorem O3:EI E S (n+1) s t=(EF E S n s t).chk (Il E S n):=by
 rw[EI];rfl
theorem O4 (hk:(A9 r.1).1.kind=12):Il E S n r= .ok (some (A9 r.1).1.index,r.2):=by rw[Il,if_pos hk]
theorem TU {p:Tm}(hk:(A9 r.1).1.kind=9∨(A9 r.1).1.kind=10) (hp:(A9 r.1).1.kids[0]?=some p):Il E S n r=EI E S n r.2 p:=by
 rw[Il,if_neg Ao,if_pos hk,hp]
theorem YU (h1:(A9 r.1).1.kind≠12) (h2:(A9 r.1).1.kind≠9) (h3:(A9 r.1).1.kind≠10) (h4:(A9 r.1).1.kind≠3):Il E S n r= .ok (none,r.2):=by
 rw[Il,if_neg h1,if_neg Ao,if_neg h4]
theorem TE (hk:(A9 r.1).1.kind=3) (hu:QG E (A9 r.1).1=false∨S.over r.2=true):Il E S n r= .ok (none,r.2):=by
 rw[Il,if_neg Ao,if_neg Ao,if_pos hk,Cm];rcases hu with hu | hu
 ·rw[hu];simp
 split
 ·rfl
 rw[if_pos hu]
section
variable (hk:(A9 r.1).1.kind=3) (hu:QG E (A9 r.1).1=true) (ho:S.over r.2=false) (hd:E[(Bh E (A9 r.1).1.name).1.decl.toNat]?=some d)
include hk hu ho
theorem SE (h5:(Bh E (A9 r.1).1.name).1.kind≠5) (h6:(Bh E (A9 r.1).1.name).1.kind≠6):Il E S n r= .ok (none,r.2):=by
 rw[Il,if_neg Ao,if_neg Ao,if_pos hk,Cm,hu,if_pos rfl];simp only;rw[if_neg (by simp[ho]),if_neg Ao,if_neg Ao]
include hd
theorem aV (h5:¬((Bh E (A9 r.1).1.name).1.kind=5∧((A9 r.1).2.length:Int) > CR d)) (h6:¬((Bh E (A9 r.1).1.name).1.kind=6∧((A9 r.1).2.length:Int)≥(E2 d (Bh E (A9 r.1).1.name).1.item).arity)):Il E S n r= .ok (none,r.2):=by
 rw[Il,if_neg Ao,if_neg Ao,if_pos hk,Cm,hu,if_pos rfl];simp only[Cb,CJ hd];rw[if_neg (by simp[ho]),if_neg h5,if_neg h6]
theorem aI (h5:(Bh E (A9 r.1).1.name).1.kind=5) (hl:((A9 r.1).2.length:Int)≤CR d):Il E S n r= .ok (none,r.2):=by
 rw[Il,if_neg Ao,if_neg Ao,if_pos hk,Cm,hu,if_pos rfl];simp only[Cb,CJ hd];rw[if_neg (by simp[ho]),if_neg Ao,if_neg Ao]
theorem V2 {x:Tm}(h5:(Bh E (A9 r.1).1.name).1.kind=5) (hl:CR d<((A9 r.1).2.length:Int)) (hx:(A9 r.1).2[(CR d).toNat]?=some x):Il E S n r=EI E S n r.2 x:=by
 rw[Il,if_neg Ao,if_neg Ao,if_pos hk,Cm,hu,if_pos rfl];simp only[Cb,CJ hd];rw[if_neg (by simp[ho]),if_pos ⟨h5,by omega⟩,CJ hx]
theorem Zo {f:Hi}(h6:(Bh E (A9 r.1).1.name).1.kind=6) (hf:d.funs[(Bh E (A9 r.1).1.name).1.item.toNat]?=some f) (hl:¬f.arity≤((A9 r.1).2.length:Int)):Il E S n r= .ok (none,r.2):=by
 rw[Il,if_neg Ao,if_neg Ao,if_pos hk,Cm,hu,if_pos rfl];simp only[Cb,CJ hd,E2,CJ hf];rw[if_neg (by simp[ho]),if_neg Ao,if_neg Ao]
theorem Q5 {f:Hi}(h6:(Bh E (A9 r.1).1.name).1.kind=6) (hf:d.funs[(Bh E (A9 r.1).1.name).1.item.toNat]?=some f) (hl:f.arity≤((A9 r.1).2.length:Int)):Il E S n r=(Ds E S (EF E S n) n f.tree ((A9 r.1).2.take f.arity.toNat) Bi r.2).bind (UZ E S n):=by
 rw[Il,if_neg Ao,if_neg Ao,if_pos hk,Cm,hu,if_pos rfl];simp only[Cb,CJ hd,E2,CJ hf];rw[if_neg (by simp[ho]),if_neg Ao,if_pos ⟨h6,by omega⟩]
end
theorem S5 {q:(Option (Tm×List Tm)×Tm)×σ}(h:q.1.1.isSome=true∨S.over q.2=true∨Nj q.1.2 Bi=true):UZ E S n q= .ok (none,q.2):=by
 obtain⟨⟨o,l⟩,s⟩:=q;unfold UZ;cases o with
 | some x=>rfl
 | none =>
  simp only at h ⊢;rw[if_neg];rintro⟨h1,h2⟩;rcases h with h | h | h
  ·cases h
  ·rw[h1] at h;cases h
  rw[h2] at h;cases h
theorem Ub {q:(Option (Tm×List Tm)×Tm)×σ}(h1:q.1.1.isSome=false) (h2:S.over q.2=false) (h3:Nj q.1.2 Bi=false):UZ E S n q=EI E S n q.2 q.1.2:=by
 obtain⟨⟨o,l⟩,s⟩:=q;unfold UZ;cases o with
 | some x=>cases h1
 | none=>simp only at h2 h3 ⊢;rw[if_pos ⟨h2,h3⟩]
end
section
variable {E:List CK}{σ:Type}{S:Sys σ}{n:Nat}{t:FJ}{a:List Tm}{s:σ}
def tc (S:Sys σ) (q:(Option (Tm×List Tm)×Tm)×σ):Out (Option Tm×σ):=match q.1.1 with
 | none=> .ok (none,q.2)
 | some (b,vars)=>if okB b=false∨vars.all okB=false∨1125899906842624≤Bb vars then .stuck else S.put q.2 (CT b vars.reverse 0) fun x s'=> .ok (some x,s')
end
end Go.Eu
namespace Go.Proofs.YtboammbpdaoojaaGreat
open Go.Abs Go.Eu
set_option maxHeartbeats 4000000 in
theorem Up:∀(n m:Nat) (ds:List CK) (s:Int) (g:Tm) (a:List Tm),(qQ ds n)→(HQ ds)→(HE s)→(okB g=true)→(a.length<549755813888)→(∀y∈a,okB y=true)→(KU ds B5 n g a s≠ .stuck)→Bq Tryz.prog 81 [.ptr m 0,.agg ((BO g).map .p),.p (.lst (BE a))] [.box m [.p (.lst (List.map Bk ds)),.p (I s)]] (Ky (fun(r:Option Tm×Int)=> .tup [TV (r.1.getD Bi),.p (.bool r.1.isSome)]) (fun _=> .p (.iface 122 .unit)) (fun r H'=>H'=[.box m [.p (.lst (List.map Bk ds)),.p (I r.2)]]) ((KU ds B5 n g a s).ex)):=by
 intro n m ds s g a hT h2 h3 h4 h5 h6 hns;obtain⟨gk,gi,gn,gl,gs⟩:=g;have hgo:=CP.1 h4;have hgl:=hgo.nd;simp only[Nd,Dd] at hgl;generalize hC:KU ds B5 n (.mk gk gi gn gl gs:Tm) a s=X at hns ⊢;refine A6 Tryz.func81 O qw (n:=122) O O (Az (BG O (BP O) fun b4=>BG O (A8 Bz O) fun b6=>As Ay 1 [] O (Az (Ax Ay 2 [1] O (Ar O (B8 [2] O (.inl ⟨O,O,O⟩) (O6 m ds s (.mk gk gi gn gl gs:Tm) h2.g.env) ⟨_,_,O,O,O⟩ An O (.inl O)) (Ax Ay 3 [] O (BG O (A8 Hk O) fun b8=>As Ay 2 [0,1] O (Au (Av Ay 2 [] O (Aw O (fun c=>?_) (fun c=>?_)))))))))))
 ·(try simp only[sd,se] at c);rw[cj c] at hC;refine Av Ay 3 [1,0] O (BI (BT (i:=1) O) (A1 (⟨O,_,_,⟨_,_,O,(BB (i:=1) Ba O O O),⟨_,_,O,O,O⟩⟩,(B4 (is:=[3]) O),?_⟩)));exact⟨⟨_,_⟩,DS hC.symm,O,O⟩
 (try simp only[sd,se] at c);have hu:=c;obtain⟨ix,dd,e1,e2,e3,e4⟩:=Hh hu;have hde:=e2.decl;have hdg:=h2.g.all _ e3;have hel:=h2.g.env.len;have hil:=(List.getElem?_eq_some_iff.1 e1).1;have hfx:=hdg.fx;have hnr:=Gz hdg;have hcl:=hdg.din.cl;have hfl:=hdg.din.fl;refine A2 (Au (Bu (fun k=>Nat.beq k 8) Dt (BQ Ay 5 [3] O (CX (j:=0) O O O (fun H i hi=>A3 (i:=i) DH O hi (DR _)) AB Aq (BH O (fun _=>A5 Hj O O Ao (D4 e4) (Cl _)) Aq (BH O (fun _=>BN FM O (Cl _)) Aq (G9 [] O O (A8 JK O) Ak fun b10=>⟨AB,Aq,?_⟩)))))));refine Bn Ay 1 [0,1] O (Au (Az (Ar O (A0 Fe O O) (Ar O (A3 (i:=1) DH O O (DB _)) (Bj O (BA (Av Ay 2 [] O (Aw O (fun c1=>?_) (fun c1=>?_)))))))))
 ·(try simp only[sd,se] at c1);have hk1:=c1;refine Az (Ax Ay 4 [1,3] O ?_);rw[gD hu e4 hk1] at hC;refine Dv [4] O O O (.inl ⟨O,O,O⟩) (WY m ds s ((Bh ds (.mk gk gi gn gl gs:Tm).name).1) (.mk gk gi gn gl gs:Tm) a dd h3 e4 Ao hdg h4 h5 (by rw[hC];exact hns)) ⟨_,_,O,O,O⟩ An (aw (we O) (aw (we O) (aw (we O) (aw (we O) (Et))))) (fun _ _ h=>(congrArg List.length h).trans O) ?_ ?_
  rotate_left
  ·intro e _ he;exact⟨O,_,List.nil_sublist _,⟨_,by rw[←hC];exact he,rfl⟩⟩
  rintro⟨q,n2⟩ _ hz rfl;have hfin:=hz;refine As Ay 4 [2,1] O (A1 (⟨O,_,_,⟨_,_,O,(BB (i:=2) Ba O O Ah),⟨_,_,O,O,O⟩⟩,(B4 (is:=[4]) O),?_⟩));exact⟨⟨q,n2⟩,by rw[←hC];exact hfin,rfl,rfl⟩
 (try simp only[sd,se] at c1);have hk1:=c1;refine Av Ay 2 [] O (Aw O (fun c2=>?_) (fun c2=>?_))
 ·(try simp only[sd,se] at c2);have hk5:=c2;refine Az (Ar O (BU (i:=0) FM O O Ae) (Ar O (BF O O (Nq dd hdg.din hdg.fx) O) (As Ay 1 [] O (Au (Az (Bt O (Ar O (BM Bf O (BS _)) (As Ay 2 [] O (Aw O (fun c3=>?_) (fun c3=>?_))))))))))
  ·(try simp only[sd,se] at c3);rw[bz hu e4 hk5 Ao] at hC;refine Av Ay 3 [2,0] O (BI (BT (i:=2) O) (A1 (⟨O,_,_,⟨_,_,O,(BB (i:=2) Ba O O O),⟨_,_,O,O,O⟩⟩,(B4 (is:=[4]) O),?_⟩)));exact⟨⟨_,_⟩,DS hC.symm,O,O⟩
  (try simp only[sd,se] at c3);have hfew:¬(a.length:Int)≤CR dd:=by omega
  refine A2 (Au (Az (Ax Ay 3 [] O ?_)));obtain⟨x,hx⟩:=A7 (l:=a) (i:=(CR dd:Int).toNat) Ao;have hxo:=h6 _ (List.mem_of_getElem? hx);refine Ar O (A5 Bf O O Ao (Bc hx) (BD _)) (Ar O (BN Ba O (BD _)) (Ar O (B8 [4] O (.inl ⟨O,O,O⟩) (QM m ds s x h2.g hxo) ⟨_,_,O,O,O⟩ An O (.inl O)) (Ax Ay 5 [] O (BG O (A8 JK O) fun b12=>As Ay 4 [0,1] O (Av Ay 1 [] O (Aw O (fun c4=>?_) (fun c4=>?_)))))))
  ·(try simp only[sd,se] at c4);have hcs:=MK c4;rw[bZ hu e4 hk5 hfew hx hcs] at hC;refine Au ?_;obtain⟨e,he⟩ | ⟨⟨q,n2⟩,hz⟩:=F5 ((E4 ds B5 dd (.mk gk gi gn gl gs:Tm) a x s).ex)
   ·refine Iw ((fun _=> .p (.iface 122 .unit)) e) 8 [.val (.ptr m 0),.val (.agg ((Bk dd).map .p)),.val (.agg [.p (I gk),.p (I gi),.p (.str gn),.p (.lst (List.map B0 gl)),.p (.lst (BE gs))]),.val (.p (.lst (BE a))),.val (.p (.lst (BE a))),.val (.p (I (CR dd))),.val (.ref (BO x)),.val (.agg ((BO x).map .p)),.val (.p .any),.val (.p .any),.val (.p .any),.val (.p .any),.val (.p .any)] Dt O Ak O Aq (fun _ _=>by exact⟨rfl,_,List.nil_sublist _,⟨_,by rw[←hC];exact he,rfl⟩⟩) ?_;exact B9 O O (fun Bs=>BZ O) (B9 O O (fun Bs=>BU (i:=Bs.length+1) FM O (CS O) Ae) (B9 O O (fun Bs=>BU (i:=Bs.length+4) Ba O (CS O) O) (B9 O O (fun Bs=>BZ O) (B9 O O (fun Bs=>BZ O) (B9 O O (fun Bs=>BZ O) (B9 O O (fun Bs=>A5 Bf O O Ao (Bc hx) (BD _)) (B9 O O (fun Bs=>BN Ba O (BD _)) (K1 (mkp:=(fun _=> .p (.iface 122 .unit))) (e:=e) [5] he O O (.inl ⟨O,O,O⟩) (UG m ds s dd (.mk gk gi gn gl gs:Tm) a x h3 h2.g hdg h4 h5 hxo Ao (by rw[hC];exact hns)) ⟨_,_,O,O,O⟩ An (aw (we O) (aw (we O) (aw (we O) (aw (we O) (aw (we O) (Et)))))) (DC O O Ak (DC O O Ak (DC O O Ak (DC O O Ak LG))))))))))))
   have hfin:=hz;refine HZ [.box b12 ((Bk ((CL ds x).1)).map .p),.box b10 ((Bk dd).map .p),.box b8 ((DN ((Bh ds (.mk gk gi gn gl gs:Tm).name).1)).map .p),.box b6 [.p (I 0),.p (I 0),.p (.str ⟨#[]⟩),.p (.nils),.p (.nils)],.box b4 [.p (I gk),.p (I gi),.p (.str gn),.p (.lst (List.map B0 gl)),.p (.lst (BE gs))],.box m [.p (.lst (List.map Bk ds)),.p (I n2)]] 8 [.val (.ptr m 0),.val (.agg ((Bk dd).map .p)),.val (.agg [.p (I gk),.p (I gi),.p (.str gn),.p (.lst (List.map B0 gl)),.p (.lst (BE gs))]),.val (.p (.lst (BE a))),.val (.p (.lst (BE a))),.val (.p (I (CR dd))),.val (.ref (BO x)),.val (.agg ((BO x).map .p)),.val (.tup [.agg ((BO (q.getD Bi)).map .p),.p (.bool q.isSome)]),.val (.agg ((BO (q.getD Bi)).map .p)),.val (.p (.bool q.isSome))] [.p .any,.p (.bool q.isSome)] [] Dt O Ak Ak Ak O ?_ ?_
   ·exact Aq
   refine Bd O O (fun Bs=>BZ O) (Ew O O O (fun Bs=>BU (i:=Bs.length+1) FM O (CS O) Ae) (fun Bs=>BU (i:=Bs.length+1) FM O (CS O) Ae) (Ew O O O (fun Bs=>BU (i:=Bs.length+4) Ba O (CS O) O) (fun Bs=>BU (i:=Bs.length+4) Ba O (CS O) O) (Bd O O (fun Bs=>BZ O) (Bd O O (fun Bs=>BZ O) (Bd O O (fun Bs=>BZ O) (Bd O O (fun Bs=>A5 Bf O O Ao (Bc hx) (BD _)) (Bd O O (fun Bs=>BN Ba O (BD _)) (JP O (fun Bs=>GF [5] O (.inl ⟨O,O,O⟩) (Kz hz (UG m ds s dd (.mk gk gi gn gl gs:Tm) a x h3 h2.g hdg h4 h5 hxo Ao (by rw[hC];exact hns))) ⟨_,_,O,O,O⟩ An O (aw (we O) (aw (we O) (aw (we O) (aw (we O) (aw (we O) (Et))))))) (Bd O O (fun Bs=>Cx O O) ?_)))))))));refine Bd O O (fun Bs=>Cx O O) (JJ (DV [.box b12 ((Bk ((CL ds x).1)).map .p),.box b10 ((Bk dd).map .p),.box b8 ((DN ((Bh ds (.mk gk gi gn gl gs:Tm).name).1)).map .p),.box b6 ((BO (q.getD Bi)).map .p),.box b4 [.p (I gk),.p (I gi),.p (.str gn),.p (.lst (List.map B0 gl)),.p (.lst (BE gs))],.box m [.p (.lst (List.map Bk ds)),.p (I n2)]] O (CY (i:=3) Ba O O O Ah AX (E0 _)) (DV [.box b12 ((Bk ((CL ds x).1)).map .p),.box b10 ((Bk dd).map .p),.box b8 ((DN ((Bh ds (.mk gk gi gn gl gs:Tm).name).1)).map .p),.box b6 ((BO (q.getD Bi)).map .p),.box b4 [.p (I gk),.p (I gi),.p (.str gn),.p (.lst (List.map B0 gl)),.p (.lst (BE gs))],.box m [.p (.lst (List.map Bk ds)),.p (I n2)]] O (Du O) (JZ (A1 ?_)))));refine⟨O,_,_,⟨_,_,O,(BB (i:=3) Ba O O Ah),⟨_,_,O,O,O⟩⟩,(B4 (is:=[5]) O),?_⟩;exact⟨⟨q,n2⟩,by rw[←hC];exact hfin,rfl,rfl⟩
  (try simp only[sd,se] at c4);have hcn:=OB c4;refine A2 (Az (Ax Ay 3 [] O (Ar O (A5 Bf O O Ao (Bc hx) (BD _)) (Ar O (BN Ba O (BD _)) ?_))));rw[fA hu e4 hk5 hfew hx hcn] at hC;have hn0:=hns;rw[←hC] at hn0;have hn1:=Ji hn0;refine Dv [5] O O O (.inl ⟨O,O,O⟩) (hT m x s h3 hn1) ⟨_,_,O,O,O⟩ An (aw (we O) (aw (we O) (Et))) (fun _ _ h=>(congrArg List.length h).trans O) ?_ ?_
  rotate_left
  ·intro e _ he;exact⟨O,_,List.nil_sublist _,⟨_,by rw[←hC];exact Kn hn0 he,rfl⟩⟩
  rintro⟨q,n2⟩ _ hz rfl;rw[MT hz] at hC;refine Ax Ay 3 [] O (BG O (A8 Bz O) fun b16=>As Ay 2 [0,1] O (Au (Av Ay 2 [] O (Aw O (fun c5=>?_) (fun c5=>?_)))))
  ·(try simp only[sd,se] at c5);rw[kz c5] at hC;refine Av Ay 3 [4,0] O (BI (BT (i:=4) O) (A1 (⟨O,_,_,⟨_,_,O,(BB (i:=4) Ba O O O),⟨_,_,O,O,O⟩⟩,(B4 (is:=[6]) O),?_⟩)));exact⟨⟨_,_⟩,DS hC.symm,O,O⟩
  (try simp only[sd,se] at c5);rw[ku c5] at hC;refine A2 (Az (Bt O (NB O O O (.inl ⟨O,O,O⟩) (KH a h5) (.inl O) fun o cp=>As Ay 1 [] O (Az (Ax Ay 3 [1] O (MX (i:=0) O (by rw[BS];omega) fun b hb=>?_))))));subst hb;refine Ar O (Cz Bf O O Ao AY) (Ar O (EN (i:=0) (j:=((CR dd:Int).toNat)) Ba O O O AY O (KG _) (BD _) (E0 _) (Sv a ((CR dd:Int).toNat) (q.getD Bi))) (Bj O (Az (Ax Ay 2 [6] O (B3 (C9 (t:=93) (x:= .vs (some b) (BE ((a).set ((CR dd:Int).toNat) (q.getD Bi))).length cp) (DO a (l':=(a).set ((CR dd:Int).toNat) (q.getD Bi)) Ap)) (B3 (C9 (t:=18) (x:= .vs (some b) (BE ((a).set ((CR dd:Int).toNat) (q.getD Bi))).length cp) (DO a (l':=(a).set ((CR dd:Int).toNat) (q.getD Bi)) Ap)) (B3 (C9 (t:=94) (x:= .vs (some b) (BE ((a).set ((CR dd:Int).toNat) (q.getD Bi))).length cp) (DO a (l':=(a).set ((CR dd:Int).toNat) (q.getD Bi)) Ap)) ?_)))))));refine B3 (C9 (t:=99) (x:= .vs (some b) (BE ((a).set ((CR dd:Int).toNat) (q.getD Bi))).length cp) (DO a (l':=(a).set ((CR dd:Int).toNat) (q.getD Bi)) Ap)) (B3 (Cj (i:=0) [93,18,94,99] O (D6 ⟨O,O,O,O,Aq⟩)) (Ar O (BF O O (EP (.mk gk gi gn gl gs:Tm) ((a).set ((CR dd:Int).toNat) (q.getD Bi)) AT) O) (As Ay 2 [4,1] O (A1 (⟨O,_,_,⟨_,_,O,(BB (i:=4) Ba O O Ah),⟨_,_,O,O,O⟩⟩,(B4 (is:=[6]) O),?_⟩)))));exact⟨⟨_,_⟩,DS hC.symm,O,O⟩
 (try simp only[sd,se] at c2);have hk5:=c2;refine Av Ay 2 [] O (Aw O (fun c3=>?_) (fun c3=>?_))
 ·(try simp only[sd,se] at c3);have hk6:=c3;obtain⟨fk,ff,f1,f2⟩:=e2.func hk6;have hff:dd.funs[(Bh ds (Tm.mk gk gi gn gl gs).name).1.item.toNat]?=some ff:=by rw[f2];simpa using f1
  have hfm:=List.mem_of_getElem? hff;have hfa:=hdg.fu ff hfm;have hfi:=(List.getElem?_eq_some_iff.1 f1).1;refine Az (Ar O (A0 Cy O O) (Ar O (A3 (i:=0) Gj O O (B6 _)) (Ar O (A0 Fe O O) (Ar O (A3 (i:=1) DH O O (Dq _)) (Ar O (A5 Gn O O Ao (D7 hff) (DF _)) (Ar O (BN fW O (DF _)) (BG O (A8 aq O) fun b19=>As Ay 1 [0,1] O (Az (Bt O (Ar O (BM Bf O (BS _)) (Ar O (A0 GX O O) (Ar O (A3 (i:=0) DH O O (CI _)) (As Ay 1 [] O (Aw O (fun c4=>?_) (fun c4=>?_)))))))))))))))
  ·(try simp only[sd,se] at c4);refine Az (Ax Ay 4 [4,0] O ?_);rw[je hu e4 hk6 hff Ao] at hC;refine Dv [5] O O O (.inl ⟨O,O,O⟩) (YI n m ds s (.mk gk gi gn gl gs:Tm) a dd ff hT h2 h3 e3 hfm Ao h4 h5 h6 (by rw[hC];exact hns)) ⟨_,_,O,O,O⟩ An (aw (we O) (aw (we O) (aw (we O) (aw (we O) (Et))))) (fun _ _ h=>(congrArg List.length h).trans O) ?_ ?_
   rotate_left
   ·intro e _ he;exact⟨O,_,List.nil_sublist _,⟨_,by rw[←hC];exact he,rfl⟩⟩
   rintro⟨q,n2⟩ _ hz rfl;have hfin:=hz;refine As Ay 4 [3,1] O (A1 (⟨O,_,_,⟨_,_,O,(BB (i:=3) Ba O O Ah),⟨_,_,O,O,O⟩⟩,(B4 (is:=[5]) O),?_⟩));exact⟨⟨q,n2⟩,by rw[←hC];exact hfin,rfl,rfl⟩
  (try simp only[sd,se] at c4);rw[dT hu e4 hk6 hff Ao] at hC;refine A2 (Av Ay 3 [3,0] O (BI (BT (i:=3) O) (A1 (⟨O,_,_,⟨_,_,O,(BB (i:=3) Ba O O O),⟨_,_,O,O,O⟩⟩,(B4 (is:=[5]) O),?_⟩))));exact⟨⟨_,_⟩,DS hC.symm,O,O⟩
 (try simp only[sd,se] at c3);have hk6:=c3;rw[ly hu hk1 hk5 hk6] at hC;refine A2 (Av Ay 3 [2,0] O (BI (BT (i:=2) O) (A1 (⟨O,_,_,⟨_,_,O,(BB (i:=2) Ba O O O),⟨_,_,O,O,O⟩⟩,(B4 (is:=[4]) O),?_⟩))));exact⟨⟨_,_⟩,DS hC.symm,O,O⟩
set_option maxHeartbeats 4000000 in
theorem e8:∀(ds:List CK) (hE:HQ ds) (n:Nat),qQ ds n:=by
 intro ds hE n
 induction n using Nat.strongRecOn with
 | ind n ih =>
  intro m t s hJ hns;obtain⟨k,rfl⟩:=fh rfl hns;generalize hC:FG ds B5 (k+1) s t=X at hns ⊢;have hwo:=iH hC hns;have hsp:=TZ hwo;have hsl:=hsp.len;have hss:=hsp.sz;have hsa:=hsp.asz;refine A6 Tryz.func44 O qA (n:=90) O O (Az (BG O (BP O) fun b3=>BG O (A8 Bz O) fun b4=>As Ay 1 [] O (Az (Ar O (BU (i:=1) Ba O O Ah) (Ar O (BF O O (MF t hsp.nd Aa) O) (Ax Ay 3 [] O (BG O (A8 Bz O) fun b6=>As Ay 2 [0,1] O (Au (Az (Ar O (A0 G8 O O) ?_))))))))));generalize hz:(A9 t).1=z;obtain⟨zk,zi,zn,zl,zs⟩:=z;have hzo:okB (.mk zk zi zn zl zs)=true:=hz▸hsp.head;have hzq:=hz;have hzl:=IN hzo;have hzn:=(CP.1 hzo).nd;refine As Ay 1 [0] O (BA (Av Ay 2 [] O (Aw O (fun c=>?_) (fun c=>?_))))
  ·(try simp only[sd,se] at c);have hk:=(congrArg Tm.kind hzq).trans c;refine Az (Bt O (Ar O (BM Bf O (BS _)) (As Ay 1 [] O (Aw O (fun c1=>?_) (fun c1=>?_)))))
   ·(try simp only[sd,se] at c1);refine Au ?_;obtain⟨x,hx⟩:=A7 (l:=zs) (i:=1) Ao;obtain⟨x1,hx1⟩:=A7 (l:=(A9 t).2) (i:=0) Ao;have hxo:=GA hzo (i:=1) hx;have hx1o:=hsp.args _ (List.mem_of_getElem? hx1);rw[ja hwo hk Ao (by rw[hzq];exact hx),j6 hx1] at hC;have hn3:=hns;rw[←hC] at hn3;obtain⟨e,he⟩ | ⟨⟨z1,n2⟩,hz⟩:=F5 (JQ s (CT x [x1] 0))
    ·refine Iw ((fun _=> .p (.iface 122 .unit)) e) 9 [.val (.ptr m 0),.val (.ptr b6 (0+4)),.val (.p (.lst (BE zs))),.val (.ref (BO x)),.val (.agg ((BO x).map .p)),.val (.p (.lst (BE ((A9 t).2)))),.val (.ref (BO x1)),.val (.agg ((BO x1).map .p)),.val (.p (.lst (BE [x1]))),.val (.p .any),.val (.p (.lst (BE ((A9 t).2)))),.val (.p (.lst (BE (((A9 t).2).drop 1)))),.val (.p .any),.val (.p .any),.val (.p .any)] Dt O Ak O Aq (fun _ _=>by exact⟨rfl,_,List.nil_sublist _,⟨_,by rw[←hC];exact K4 hn3 he,rfl⟩⟩) ?_;refine B9 O O (fun Bs=>BZ O) (B9 O O (fun Bs=>A0 G8 O O) (B9 O O (fun Bs=>B7 (i:=Bs.length+0) Gk O (CS O) O) (B9 O O (fun Bs=>A5 Bf O O Ao (Bc hx) (BD _)) (B9 O O (fun Bs=>BN Ba O (BD _)) (B9 O O (fun Bs=>BZ O) (B9 O O (fun Bs=>A5 Bf O O Ao (Bc hx1) (BD _)) (B9 O O (fun Bs=>BN Ba O (BD _)) (B9 O O (fun Bs=>Bx (rows:=BE [x1]) Bf Bz O O O O (CF (Bw _)) (E8 _)) (K1 (mkp:=(fun _=> .p (.iface 122 .unit))) (e:=e) [3] he O O (.inl ⟨O,O,O⟩) (Ku m ds s x [x1] hJ hxo (ok_one hx1o) Jd) ⟨_,_,O,O,O⟩ An (aw (we O) (aw (we O) (aw (we O) (Et)))) (B9 O O (fun Bs=>BZ O) ?_))))))))));exact B9 O O (fun Bs=>Ca (lo:=1) Bf O (CF (Bw _)) ⟨_,O⟩ O AR (Nat.le_refl _) (Ju ((A9 t).2) 1)) (DC O O Ak (DC O O Ak (DC O O Ak LG)))
    rw[K5 hn3 hz] at hC;have hJ3:=(Rl hJ hz).1;refine HZ [.box b6 [.p (I zk),.p (I zi),.p (.str zn),.p (.lst (List.map B0 zl)),.p (.lst (BE zs))],.box b4 [.p (I 0),.p (I 0),.p (.str ⟨#[]⟩),.p (.nils),.p (.nils)],.box b3 ((BO t).map .p),.box m [.p (.lst (List.map Bk ds)),.p (I n2)]] 9 [.val (.ptr m 0),.val (.ptr b6 (0+4)),.val (.p (.lst (BE zs))),.val (.ref (BO x)),.val (.agg ((BO x).map .p)),.val (.p (.lst (BE ((A9 t).2)))),.val (.ref (BO x1)),.val (.agg ((BO x1).map .p)),.val (.p (.lst (BE [x1]))),.val (.agg ((BO z1).map .p)),.val (.p (.lst (BE ((A9 t).2)))),.val (.p (.lst (BE (((A9 t).2).drop 1)))),.val (.agg ((BO (apply z1 (((A9 t).2).drop 1))).map .p))] [.p .any,.p (.bool true)] [] Dt O Ak Ak Ak O ?_ ?_
    ·exact Aq
    refine Bd O O (fun Bs=>BZ O) (Bd O O (fun Bs=>A0 G8 O O) (Ew O O O (fun Bs=>B7 (i:=Bs.length+0) Gk O (CS O) O) (fun Bs=>B7 (i:=Bs.length+0) Gk O (CS O) O) (Bd O O (fun Bs=>A5 Bf O O Ao (Bc hx) (BD _)) (Bd O O (fun Bs=>BN Ba O (BD _)) (Bd O O (fun Bs=>BZ O) (Bd O O (fun Bs=>A5 Bf O O Ao (Bc hx1) (BD _)) (Bd O O (fun Bs=>BN Ba O (BD _)) (Bd O O (fun Bs=>Bx (rows:=BE [x1]) Bf Bz O O O O (CF (Bw _)) (E8 _)) (JP O (fun Bs=>GF [3] O (.inl ⟨O,O,O⟩) (Kz hz (Ku m ds s x [x1] hJ hxo (ok_one hx1o) Jd)) ⟨_,_,O,O,O⟩ An O (aw (we O) (aw (we O) (aw (we O) (Et))))) (Bd O O (fun Bs=>BZ O) ?_))))))))));refine Bd O O (fun Bs=>Ca (lo:=1) Bf O (CF (Bw _)) ⟨_,O⟩ O AR (Nat.le_refl _) (Ju ((A9 t).2) 1)) (Bd O O (fun Bs=>BF O O (EP z1 (((A9 t).2).drop 1) AS) O) (JJ (DV [.box b6 [.p (I zk),.p (I zi),.p (.str zn),.p (.lst (List.map B0 zl)),.p (.lst (BE zs))],.box b4 ((BO (apply z1 (((A9 t).2).drop 1))).map .p),.box b3 ((BO t).map .p),.box m [.p (.lst (List.map Bk ds)),.p (I n2)]] O (CY (i:=1) Ba O O O Ah AX (E0 _)) (DV [.box b6 [.p (I zk),.p (I zi),.p (.str zn),.p (.lst (List.map B0 zl)),.p (.lst (BE zs))],.box b4 ((BO (apply z1 (((A9 t).2).drop 1))).map .p),.box b3 ((BO t).map .p),.box m [.p (.lst (List.map Bk ds)),.p (I n2)]] O (Du O) (JZ (A1 (⟨O,_,_,⟨_,_,O,(BB (i:=1) Ba O O Ah),⟨_,_,O,O,O⟩⟩,(B4 (is:=[3]) O),?_⟩)))))));exact⟨⟨_,_⟩,DS hC.symm,O,O⟩
   (try simp only[sd,se] at c1);rw[du hwo hk Ao] at hC;refine A2 (Av Ay 3 [1,0] O (BI (BT (i:=1) O) (A1 (⟨O,_,_,⟨_,_,O,(BB (i:=1) Ba O O O),⟨_,_,O,O,O⟩⟩,(B4 (is:=[3]) O),?_⟩))));exact⟨⟨_,_⟩,DS hC.symm,O,O⟩
  (try simp only[sd,se] at c);refine Av Ay 2 [] O (Aw O (fun c1=>?_) (fun c1=>?_))
  ·(try simp only[sd,se] at c1);have hk:=(congrArg Tm.kind hzq).trans c1;refine Au ?_;obtain⟨x,hx⟩:=A7 (l:=zs) (i:=2) Ao;obtain⟨x1,hx1⟩:=A7 (l:=zs) (i:=1) Ao;have hxo:=GA hzo (i:=2) hx;have hx1o:=GA hzo (i:=1) hx1;rw[gM hwo hk (by rw[hzq];exact hx1) (by rw[hzq];exact hx)] at hC;have hn3:=hns;rw[←hC] at hn3;obtain⟨e,he⟩ | ⟨⟨z1,n2⟩,hz⟩:=F5 (JQ s (CT x [x1] 0))
   ·refine Iw ((fun _=> .p (.iface 122 .unit)) e) 10 [.val (.ptr m 0),.val (.ptr b6 (0+4)),.val (.p (.lst (BE zs))),.val (.ref (BO x)),.val (.agg ((BO x).map .p)),.val (.ptr b6 (0+4)),.val (.p (.lst (BE zs))),.val (.ref (BO x1)),.val (.agg ((BO x1).map .p)),.val (.p (.lst (BE [x1]))),.val (.p .any),.val (.p (.lst (BE ((A9 t).2)))),.val (.p .any),.val (.p .any),.val (.p .any)] Dt O Ak O Aq (fun _ _=>by exact⟨rfl,_,List.nil_sublist _,⟨_,by rw[←hC];exact K4 hn3 he,rfl⟩⟩) ?_;refine B9 O O (fun Bs=>BZ O) (B9 O O (fun Bs=>A0 G8 O O) (B9 O O (fun Bs=>B7 (i:=Bs.length+0) Gk O (CS O) O) (B9 O O (fun Bs=>A5 Bf O O Ao (Bc hx) (BD _)) (B9 O O (fun Bs=>BN Ba O (BD _)) (B9 O O (fun Bs=>A0 G8 O O) (B9 O O (fun Bs=>B7 (i:=Bs.length+0) Gk O (CS O) O) (B9 O O (fun Bs=>A5 Bf O O Ao (Bc hx1) (BD _)) (B9 O O (fun Bs=>BN Ba O (BD _)) (B9 O O (fun Bs=>Bx (rows:=BE [x1]) Bf Bz O O O O (CF (Bw _)) (E8 _)) (K1 (mkp:=(fun _=> .p (.iface 122 .unit))) (e:=e) [3] he O O (.inl ⟨O,O,O⟩) (Ku m ds s x [x1] hJ hxo (ok_one hx1o) Jd) ⟨_,_,O,O,O⟩ An (aw (we O) (aw (we O) (aw (we O) (Et)))) ?_))))))))));exact B9 O O (fun Bs=>BZ O) (DC O O Ak (DC O O Ak (DC O O Ak LG)))
   rw[K5 hn3 hz] at hC;have hJ3:=(Rl hJ hz).1;refine HZ [.box b6 [.p (I zk),.p (I zi),.p (.str zn),.p (.lst (List.map B0 zl)),.p (.lst (BE zs))],.box b4 [.p (I 0),.p (I 0),.p (.str ⟨#[]⟩),.p (.nils),.p (.nils)],.box b3 ((BO t).map .p),.box m [.p (.lst (List.map Bk ds)),.p (I n2)]] 10 [.val (.ptr m 0),.val (.ptr b6 (0+4)),.val (.p (.lst (BE zs))),.val (.ref (BO x)),.val (.agg ((BO x).map .p)),.val (.ptr b6 (0+4)),.val (.p (.lst (BE zs))),.val (.ref (BO x1)),.val (.agg ((BO x1).map .p)),.val (.p (.lst (BE [x1]))),.val (.agg ((BO z1).map .p)),.val (.p (.lst (BE ((A9 t).2)))),.val (.agg ((BO (apply z1 ((A9 t).2))).map .p))] [.p .any,.p (.bool true)] [] Dt O Ak Ak Ak O ?_ ?_
   ·exact Aq
   refine Bd O O (fun Bs=>BZ O) (Bd O O (fun Bs=>A0 G8 O O) (Ew O O O (fun Bs=>B7 (i:=Bs.length+0) Gk O (CS O) O) (fun Bs=>B7 (i:=Bs.length+0) Gk O (CS O) O) (Bd O O (fun Bs=>A5 Bf O O Ao (Bc hx) (BD _)) (Bd O O (fun Bs=>BN Ba O (BD _)) (Bd O O (fun Bs=>A0 G8 O O) (Ew O O O (fun Bs=>B7 (i:=Bs.length+0) Gk O (CS O) O) (fun Bs=>B7 (i:=Bs.length+0) Gk O (CS O) O) (Bd O O (fun Bs=>A5 Bf O O Ao (Bc hx1) (BD _)) (Bd O O (fun Bs=>BN Ba O (BD _)) (Bd O O (fun Bs=>Bx (rows:=BE [x1]) Bf Bz O O O O (CF (Bw _)) (E8 _)) ?_)))))))));refine JP O (fun Bs=>GF [3] O (.inl ⟨O,O,O⟩) (Kz hz (Ku m ds s x [x1] hJ hxo (ok_one hx1o) Jd)) ⟨_,_,O,O,O⟩ An O (aw (we O) (aw (we O) (aw (we O) (Et))))) (Bd O O (fun Bs=>BZ O) (Bd O O (fun Bs=>BF O O (EP z1 ((A9 t).2) AS) O) (JJ (DV [.box b6 [.p (I zk),.p (I zi),.p (.str zn),.p (.lst (List.map B0 zl)),.p (.lst (BE zs))],.box b4 ((BO (apply z1 ((A9 t).2))).map .p),.box b3 ((BO t).map .p),.box m [.p (.lst (List.map Bk ds)),.p (I n2)]] O (CY (i:=1) Ba O O O Ah AX (E0 _)) (DV [.box b6 [.p (I zk),.p (I zi),.p (.str zn),.p (.lst (List.map B0 zl)),.p (.lst (BE zs))],.box b4 ((BO (apply z1 ((A9 t).2))).map .p),.box b3 ((BO t).map .p),.box m [.p (.lst (List.map Bk ds)),.p (I n2)]] O (Du O) (JZ (A1 ?_)))))));refine⟨O,_,_,⟨_,_,O,(BB (i:=1) Ba O O Ah),⟨_,_,O,O,O⟩⟩,(B4 (is:=[3]) O),?_⟩;exact⟨⟨_,_⟩,DS hC.symm,O,O⟩
  (try simp only[sd,se] at c1);refine Au (Av Ay 2 [] O (BR [0,4,6,7,17] 51 (fun y=>y= .p (.bool (decide (zk=9∨zk=10)))) ?_ ?_))
  ·refine Aw O (fun c2=>?_) (fun c2=>?_)
   ·(try simp only[sd,se] at c2);exact A2 (⟨O,O,(List.Sublist.refl _),(by refine pB (Bool.eq_iff_iff.2 ?_);simp only[beq_iff_eq,decide_eq_true_eq];omega),⟨O,O,O,O,O,Aq⟩⟩)
   (try simp only[sd,se] at c2);exact A4 (As Ay 2 [] O (⟨O,O,(List.Sublist.refl _),(by refine pB (Bool.eq_iff_iff.2 ?_);simp only[beq_iff_eq,decide_eq_true_eq];omega),⟨O,O,O,O,O,Aq⟩⟩))
  rintro _ rfl;refine Aw O (fun c2=>?_) (fun c2=>?_)
  ·(try simp only[sd,se] at c2);have hk9:zk=9∨zk=10:=by simpa using c2
   refine Az (Ax Ay 2 [0] O ?_);obtain⟨p,hp⟩:=A7 (l:=zs) (i:=0) Ao;refine Ar O (A5 Bf O O Ao (Bc hp) (BD _)) (Ar O (BN Ba O (BD _)) (BG O (A8 Bz O) fun b8=>As Ay 1 [0,1] O (Au (Az (Ar O (A0 G8 O O) ?_)))));obtain⟨pk,pi,pn,pl,ps⟩:=p;have hpo:=GA hzo (i:=0) hp;have hpl:=IN hpo;refine As Ay 2 [0] O (Aw O (fun c3=>?_) (fun c3=>?_))
   ·(try simp only[sd,se] at c3);have hp8:=c3;refine Az (Ax Ay 3 [1,0] O ?_);obtain⟨cq,hcq⟩:=A7 (l:=ps) (i:=(1+zk - 9).toNat) (by have:=hpl.2.2.2 hp8;omega);have hcqo:=GA hpo (i:=(1+zk - 9).toNat) hcq;rw[cK hwo (by rw[hzq];exact hk9) (by rw[hzq];exact hp) (p:= .mk pk pi pn pl ps) hp8 (by rw[hzq];exact hcq)] at hC;have hn3:=hns;rw[←hC] at hn3;refine Dv [4] O O O (.inl ⟨O,O,O⟩) (ZT m ds s (.mk zk zi zn zl zs:Tm) (.mk pk pi pn pl ps:Tm) cq hJ hk9 hcq) ⟨_,_,O,O,O⟩ An (aw (we O) (aw (we O) (aw (we O) (Et)))) (fun _ _ h=>(congrArg List.length h).trans O) ?_ ?_
    rotate_left
    ·intro e _ he;exact⟨O,_,List.nil_sublist _,⟨_,by rw[←hC];exact K4 hn3 he,rfl⟩⟩
    rintro⟨z1,n2⟩ _ hz rfl;rw[K5 hn3 hz] at hC;refine Bt O (Ar O (BF O O (EP z1 ((A9 t).2) AS) O) (As Ay 2 [2,1] O (A1 (⟨O,_,_,⟨_,_,O,(BB (i:=2) Ba O O Ah),⟨_,_,O,O,O⟩⟩,(B4 (is:=[4]) O),?_⟩))));exact⟨⟨_,_⟩,DS hC.symm,O,O⟩
   (try simp only[sd,se] at c3);have hp8:=c3;refine A2 (Az (Ax Ay 2 [0] O ?_));rw[cY hwo (by rw[hzq];exact hk9) (by rw[hzq];exact hp) (p:= .mk pk pi pn pl ps) hp8] at hC;have hn0:=hns;rw[←hC] at hn0;have hn1:=Ji hn0;refine Dv [4] O O O (.inl ⟨O,O,O⟩) (ih k Ao m (.mk pk pi pn pl ps:Tm) s hJ hn1) ⟨_,_,O,O,O⟩ An (aw (we O) (aw (we O) (Et))) (fun _ _ h=>(congrArg List.length h).trans O) ?_ ?_
   rotate_left
   ·intro e _ he;exact⟨O,_,List.nil_sublist _,⟨_,by rw[←hC];exact Kn hn0 he,rfl⟩⟩
   rintro⟨q,n2⟩ _ hz rfl;rw[MT hz] at hC;refine Ax Ay 3 [] O (BG O (A8 Bz O) fun b9=>As Ay 2 [0,1] O (Av Ay 1 [] O (Aw O (fun c4=>?_) (fun c4=>?_))))
   ·(try simp only[sd,se] at c4);rw[lh c4,hzq] at hC;refine Az (Ax Ay 3 [2,0] O (Ar O (Bx (rows:=BE [(q.getD Bi)]) Bf Bz O O O O (CF (Bw _)) (E8 _)) (Ax Ay 2 [] O (Ar O (GU O O (EP (.mk zk 0 ⟨#[]⟩ [] [(q.getD Bi)]:Tm) ((A9 t).2) AS) (aw (Df O) (aw (we O) (Et)))) (As Ay 2 [3,1] O (A1 (⟨O,_,_,⟨_,_,O,(BB (i:=3) Ba O O Ah),⟨_,_,O,O,O⟩⟩,(B4 (is:=[5]) O),?_⟩)))))));exact⟨⟨_,_⟩,DS hC.symm,O,O⟩
   (try simp only[sd,se] at c4);rw[kp c4] at hC;refine A2 (Av Ay 3 [3,0] O (BI (BT (i:=3) O) (A1 (⟨O,_,_,⟨_,_,O,(BB (i:=3) Ba O O O),⟨_,_,O,O,O⟩⟩,(B4 (is:=[5]) O),?_⟩))));exact⟨⟨_,_⟩,DS hC.symm,O,O⟩
  (try simp only[sd,se] at c2);refine Av Ay 2 [] O (Aw O (fun c3=>?_) (fun c3=>?_))
  ·(try simp only[sd,se] at c3);have hk:=(congrArg Tm.kind hzq).trans c3;refine Az (Ax Ay 3 [0] O ?_);rw[ao hwo hk,hzq] at hC;refine Dv [3] O O O (.inl ⟨O,O,O⟩) (Up k m ds s (.mk zk zi zn zl zs:Tm) ((A9 t).2) (ih k Ao) hE hJ hzo Ao hsp.args (by rw[hC];exact hns)) ⟨_,_,O,O,O⟩ An (aw (we O) (aw (we O) (aw (we O) (Et)))) (fun _ _ h=>(congrArg List.length h).trans O) ?_ ?_
   rotate_left
   ·intro e _ he;exact⟨O,_,List.nil_sublist _,⟨_,by rw[←hC];exact he,rfl⟩⟩
   rintro⟨q,n2⟩ _ hz rfl;have hfin:=hz;refine As Ay 4 [1,1] O (A1 (⟨O,_,_,⟨_,_,O,(BB (i:=1) Ba O O Ah),⟨_,_,O,O,O⟩⟩,(B4 (is:=[3]) O),?_⟩));exact⟨⟨q,n2⟩,by rw[←hC];exact hfin,rfl,rfl⟩
  (try simp only[sd,se] at c3);rw[l4 hwo (by rw[hzq];assumption) (by rw[hzq];assumption) (by rw[hzq];show ¬zk=9;omega) (by rw[hzq];show ¬zk=10;omega) (by rw[hzq];assumption)] at hC;refine A2 (Av Ay 3 [1,0] O (BI (BT (i:=1) O) (A1 (⟨O,_,_,⟨_,_,O,(BB (i:=1) Ba O O O),⟨_,_,O,O,O⟩⟩,(B4 (is:=[3]) O),?_⟩))));exact⟨⟨_,_⟩,DS hC.symm,O,O⟩
end Go.Proofs.YtboammbpdaoojaaGreat
namespace Go.Eu
open Go.Abs
def bX (q:Tm):Bool:= !(decide ((size q:Int) > 4096)||decide (Ev q > 200))
def Uv:Out (Option Tm×Int)→Tm×Bool×Int
 | .ok (some q,_)=>if bX q=true then (q,true,0) else (Bi,false,11)
 | .ok (none,_)=>(Bi,false,0)
 | _=>(Bi,false,11)
def tj:Out (Option Tm×Int)→Tm×Bool×Int
 | .ok (q,_)=>(q.getD Bi,q.isSome,0)
 | _=>(Bi,false,11)
def LU:Out (Option Int×Int)→Int×Bool×Int
 | .ok (q,_)=>(q.getD 0,q.isSome,0)
 | _=>(0,false,11)
def nq (o:Out (Option Tm×Int)):Prop:=∀q c,o= .ok (some q,c)→okB q=true
theorem sx {ak ai bk bi:Int}{an bn:ByteArray}{al bl:List CZ}{a b:List Tm}(hl:bl.length=0) (hs:b.length=0):Nj (Tm.mk ak ai an al a) (.mk bk bi bn bl b)=(((((ak==bk)&&(ai==bi))&&(an.toList==bn.toList))&&(decide (al.length=0)))&&(decide (a.length=0))):=by
 rw[List.length_eq_zero_iff] at hl hs;subst hl hs;rw[Bool.eq_iff_iff,IK];simp only[Tm.mk.injEq,Bool.and_eq_true,decide_eq_true_eq,beq_iff_eq,List.length_eq_zero_iff];constructor
 ·rintro⟨rfl,rfl,rfl,rfl,rfl⟩;exact⟨⟨⟨⟨rfl,rfl⟩,rfl⟩,rfl⟩,rfl⟩
 rintro⟨⟨⟨⟨h1,h2⟩,h3⟩,h4⟩,h5⟩;exact⟨h1,h2,Gq h3,h4,h5⟩
section
variable {o:Out (Option Tm×Int)}{q:Option Tm}{c e:Int}
theorem Rq (h:nq o) (hx:o.ex= .ok (q,c)):okB (q.getD Bi)=true:=by
 have h1:=IZ hx;cases q with
 | none=>decide
 | some x=>exact h x c h1
theorem Ri (h:o.ex= .error e):Uv o=(Bi,false,11):=by cases o<;>first | rfl | cases h
theorem OE (h:o.ex= .ok (q,c)) (hq:q.isSome=false):Uv o=(q.getD Bi,q.isSome,0):=by
 rw[IZ h];cases q with
 | none=>rfl
 | some x=>cases hq
theorem LZ (h:o.ex= .ok (q,c)) (hq:q.isSome=true) (hf:(size (q.getD Bi):Int) > 4096∨Ev (q.getD Bi) > 200):Uv o=(Bi,false,11):=by
 rw[IZ h];cases q with
 | none=>cases hq
 | some x =>
  have:bX x=false:=by
   simp only[Option.getD_some] at hf;unfold bX;simp only[Bool.not_eq_false',Bool.or_eq_true,decide_eq_true_eq];exact hf
  simp only[Uv,this,Bool.false_eq_true,if_false]
theorem Q1 (h:o.ex= .ok (q,c)) (hf:¬(q.isSome=true∧((size (q.getD Bi):Int) > 4096∨Ev (q.getD Bi) > 200))):Uv o=(q.getD Bi,q.isSome,0):=by
 rw[IZ h];cases q with
 | none=>rfl
 | some x =>
  have:bX x=true:=by
   unfold bX;simp only[Option.isSome_some,Option.getD_some,true_and,not_or] at hf;simp only[Bool.not_eq_true',Bool.or_eq_false_iff,decide_eq_false_iff_not];exact hf
  simp only[Uv,this,if_true,Option.getD_some,Option.isSome_some]
end
section
variable {o:Out (Option Int×Int)}{q:Option Int}{c e:Int}
theorem lR (h:o.ex= .error e):LU o=(0,false,11):=by cases o<;>first | rfl | cases h
theorem lS (h:o.ex= .ok (q,c)):LU o=(q.getD 0,q.isSome,0):=by rw[IZ h];rfl
end
section
variable {E:List CK}{σ:Type}{S:Sys σ}{W:σ→Tm→Out (Tm×σ)}
theorem Sl:∀(k:Nat) (t:FJ) (vs:List Tm) (l:Tm) (s s':σ) (q:Option (Tm×List Tm)×Tm),okB l=true→Ds E S W k t vs l s= .ok (q,s')→okB q.2=true
 | 0,t,vs,l,s,s',q,hl,h=>by rw[Ds] at h;cases h
 | k+1,t,vs,l,s,s',q,hl,h=>by
  by_cases hk:t.kind=1
  ·by_cases hb:t.var<0∨t.var≥(vs.length:Int)∨S.over s=true
   ·rw[IL hk hb] at h;cases h;exact hl
   have hlt:t.var.toNat<vs.length:=by omega
   rw[Jf hk hb (List.getElem?_eq_getElem hlt)] at h;obtain⟨⟨r,s1⟩,h1,h2,h3⟩:=He h;cases hc:DE E r with
   | none=>rw[Fp hc] at h3;cases h3;exact h2
   | some p =>
    obtain⟨d,j,f⟩:=p;cases hbr:Cp (Ed d j).name t.branches with
    | none=>rw[HV hc hbr] at h3;cases h3;exact h2
    | some t'=>rw[Hc hc hbr] at h3;exact Sl k t' _ _ _ _ _ h2 h3
  rw[HM hk] at h;cases h;exact HR
end
end Go.Eu
namespace Go.Proofs.YtboammbpdaoojaaGreat
open Go.Abs Go.Eu
theorem Y3:∀(ds:List CK) (N m bt bo bk:Nat) (t:Tm) (s:Int),(HQ ds)→(HE s)→(FG ds B5 N s t≠ .stuck)→Bq Tryz.prog 43 [.ptr m 0,.ptr bt 0,.ptr bo 0,.ptr bk 0] [.box m [.p (.lst (List.map Bk ds)),.p (I s)],.box bt ((BO t).map .p),.box bo [.p (I 0),.p (I 0),.p (.str ⟨#[]⟩),.p (.nils),.p (.nils)],.box bk [.p (.bool false)]] (Ky (fun(r:Option Tm×Int)=> .tup []) (fun _=> .p (.iface 122 .unit)) (fun r H'=>H'=[.box m [.p (.lst (List.map Bk ds)),.p (I r.2)],.box bt ((BO t).map .p),.box bo ((BO (r.1.getD Bi)).map .p),.box bk [.p (.bool r.1.isSome)]]) ((FG ds B5 N s t).ex)):=by
 intro ds N m bt bo bk t s h1 h2 h3;refine A6 Tryz.func43 O qy (n:=11) O O (A4 (Ax Ay 2 [1] O (Dv [0] O O O (.inl ⟨O,O,O⟩) (e8 ds h1 N m t s h2 h3) ⟨_,_,O,O,O⟩ An (aw (we O) (aw (we O) (Et))) (fun _ _ h=>(congrArg List.length h).trans O) ?_ ?_)))
 rotate_left
 ·intro e _ he;exact⟨O,_,List.nil_sublist _,⟨_,he,O⟩⟩
 rintro⟨q,n2⟩ _ hz rfl;refine As Ay 5 [2,1,3,0] O ⟨O,_,_,O,(B4 (is:=[0,1,2,3]) O),?_⟩;exact⟨⟨q,n2⟩,hz,O,O⟩
theorem gE:∀(ds:List CK) (N:Nat) (t:Tm),(HQ ds)→(FG ds B5 N 20000 t≠ .stuck)→(nq (FG ds B5 N 20000 t))→Ec Tryz.prog 16 [.p (.lst (List.map Bk ds)),.agg ((BO t).map .p)] (.tup [.agg ((BO ((Uv (FG ds B5 N 20000 t)).1)).map .p),.p (.bool ((Uv (FG ds B5 N 20000 t)).2.1)),.p (I ((Uv (FG ds B5 N 20000 t)).2.2))]):=by
 intro ds N t h1 h2 h3;refine A6 Tryz.func16 O rO (n:=34) O O (Az (BG O (BP O) fun b3=>BG O (A8 Bz O) fun b4=>As Ay 2 [] O (Az (BG O (A8 Bz O) fun b7=>Bj O (Az (BG O (A8 sh O) fun b8=>As Ay 1 [0,0] O (Au ?_)))))));obtain⟨e,he⟩ | ⟨⟨q,n2⟩,ha⟩:=F5 ((FG ds B5 N 20000 t).ex)
 ·refine A4 (Ax Ay 2 [] O (UH [3,1,0] O O O (.inl ⟨O,O,O⟩) (Rp _ _ he (fun r=>r.2) (fun r=>[.box b3 ((BO t).map .p),.box b7 ((BO (r.1.getD Bi)).map .p),.box b8 [.p (.bool r.1.isSome)]]) 43 [.ptr b3 0,.ptr b7 0,.ptr b8 0] [.box b3 ((BO t).map .p),.box b7 [.p (I 0),.p (I 0),.p (.str ⟨#[]⟩),.p (.nils),.p (.nils)],.box b8 [.p (.bool false)]] ds (fun m=>Y3 ds N m b3 b7 b8 t 20000 h1 NW h2)) ⟨_,_,O,O,⟨_,_,O,O,⟨_,_,O,O,O⟩⟩⟩ An (DZ _) (As Ay 1 [] O (Au (Av Ay 15 [] O ?_)))));refine Aw O (fun c=>by cases c) (fun c=>?_);refine A2 (Au (Av Ay 2 [] O ?_));refine Aw O (fun c1=>?_) (fun c1=>by cases c1);refine Av Ay 5 [0,0] O (BI (BT (i:=0) O) (A1 (⟨O,_,_,⟨_,_,O,(BB (i:=0) Ba O O O),⟨_,_,O,O,⟨_,_,O,O,O⟩⟩⟩,(List.nil_sublist _),?_⟩)))
  all_goals exact⟨by show (.tup [.agg [.p (I 0),.p (I 0),.p (.str ⟨#[]⟩),.p (.lst []),.p (.lst [])],.p (.bool false),.p (I 11)]:AV)=_;first | (rw[Ri he]<;>rfl) | (rw[OE ha g]<;>rfl) | (rw[LZ ha g]<;>first | rfl | omega) | (rw[Q1 ha]<;>first | rfl | (rintro⟨_,_ | _⟩<;>omega)),rfl⟩
 refine A4 (Ax Ay 2 [] O (Ar O (B8 [3,1,0] O (.inl ⟨O,O,O⟩) (UQ _ _ ha (fun r=>r.2) (fun r=>[.box b3 ((BO t).map .p),.box b7 ((BO (r.1.getD Bi)).map .p),.box b8 [.p (.bool r.1.isSome)]]) 43 [.ptr b3 0,.ptr b7 0,.ptr b8 0] [.box b3 ((BO t).map .p),.box b7 [.p (I 0),.p (I 0),.p (.str ⟨#[]⟩),.p (.nils),.p (.nils)],.box b8 [.p (.bool false)]] ds (fun m=>Y3 ds N m b3 b7 b8 t 20000 h1 NW h2)) ⟨_,_,O,O,⟨_,_,O,O,⟨_,_,O,O,O⟩⟩⟩ An O (.inl O)) (As Ay 1 [] O (Au (Az (Ax Ay 6 [0] O (BL 18 O (fun g=>?_) (fun g=>?_))))))))
 ·(try simp only[sd,se] at g);refine BC O (BU (i:=1) Ba O O Ah) (BC O (BF O O (Yz (q.getD Bi) (CP.1 (Rq h3 ha)).nd (by have:=F9 (Rq h3 ha);omega)) O) (Ax Ay 2 [] O (BL 22 O (fun g1=>?_) (fun g1=>?_))))
  ·(try simp only[sd,se] at g1);refine As Ay 5 [] O ?_;refine Aw O (fun c=>?_) (fun c=>by cases c);refine A4 (As Ay 1 [] O (Au (Av Ay 2 [] O ?_)));refine Aw O (fun c1=>?_) (fun c1=>by cases c1);refine Av Ay 5 [2,0] O (BI (BT (i:=2) O) (A1 (⟨O,_,_,⟨_,_,O,(BB (i:=2) Ba O O O),⟨_,_,O,O,⟨_,_,O,O,O⟩⟩⟩,(List.nil_sublist _),?_⟩)))
   all_goals exact⟨by show (.tup [.agg [.p (I 0),.p (I 0),.p (.str ⟨#[]⟩),.p (.lst []),.p (.lst [])],.p (.bool false),.p (I 11)]:AV)=_;first | (rw[Ri he]<;>rfl) | (rw[OE ha g]<;>rfl) | (rw[LZ ha g]<;>first | rfl | omega) | (rw[Q1 ha]<;>first | rfl | (rintro⟨_,_ | _⟩<;>omega)),rfl⟩
  (try simp only[sd,se] at g1);refine BC O (BU (i:=1) Ba O O Ah) (BC O (BF O O (V1 _ (q.getD Bi) (Nat.le_refl _) (CP.1 (Rq h3 ha)).nd) O) (As Ay 3 [] O (Aw O (fun c=>?_) (fun c=>?_))))
  ·(try simp only[sd,se] at c);refine A4 (As Ay 1 [] O (Au (Av Ay 2 [] O ?_)));refine Aw O (fun c1=>?_) (fun c1=>by cases c1);refine Av Ay 5 [2,0] O (BI (BT (i:=2) O) (A1 (⟨O,_,_,⟨_,_,O,(BB (i:=2) Ba O O O),⟨_,_,O,O,⟨_,_,O,O,O⟩⟩⟩,(List.nil_sublist _),?_⟩)))
   all_goals exact⟨by show (.tup [.agg [.p (I 0),.p (I 0),.p (.str ⟨#[]⟩),.p (.lst []),.p (.lst [])],.p (.bool false),.p (I 11)]:AV)=_;first | (rw[Ri he]<;>rfl) | (rw[OE ha g]<;>rfl) | (rw[LZ ha g]<;>first | rfl | omega) | (rw[Q1 ha]<;>first | rfl | (rintro⟨_,_ | _⟩<;>omega)),rfl⟩
  (try simp only[sd,se] at c);refine A2 (Au (Av Ay 2 [] O ?_));refine Aw O (fun c1=>by cases c1) (fun c1=>?_);refine A2 (Au (Bu (fun k=>false) Dt (Bn Ay 5 [1,0,2,1] O (A1 (⟨O,_,_,⟨_,_,O,(BB (i:=2) Ba O O Ah),⟨_,_,O,O,⟨_,_,O,O,O⟩⟩⟩,(List.nil_sublist _),?_⟩)))))
  all_goals exact⟨by show (.tup [.agg ((BO (q.getD Bi)).map .p),.p (.bool q.isSome),.p (I 0)]:AV)=_;first | (rw[Ri he]<;>rfl) | (rw[OE ha g]<;>rfl) | (rw[LZ ha g]<;>first | rfl | omega) | (rw[Q1 ha]<;>first | rfl | (rintro⟨_,_ | _⟩<;>omega)),rfl⟩
 (try simp only[sd,se] at g);refine As Ay 9 [] O ?_;refine Aw O (fun c=>by cases c) (fun c=>?_);refine A2 (Au (Av Ay 2 [] O ?_));refine Aw O (fun c1=>by cases c1) (fun c1=>?_);refine A2 (Au (Bu (fun k=>false) Dt (Bn Ay 5 [1,0,2,1] O (A1 (⟨O,_,_,⟨_,_,O,(BB (i:=2) Ba O O Ah),⟨_,_,O,O,⟨_,_,O,O,O⟩⟩⟩,(List.nil_sublist _),?_⟩)))))
 all_goals exact⟨by show (.tup [.agg ((BO (q.getD Bi)).map .p),.p (.bool q.isSome),.p (I 0)]:AV)=_;first | (rw[Ri he]<;>rfl) | (rw[OE ha g]<;>rfl) | (rw[LZ ha g]<;>first | rfl | omega) | (rw[Q1 ha]<;>first | rfl | (rintro⟨_,_ | _⟩<;>omega)),rfl⟩
theorem gO:∀(a b:List CZ),(b.length=0)→Ec Tryz.prog 118 [.p (.lst (List.map B0 a)),.p (.lst (List.map B0 b)),.p (.fn 119)] (.p (.bool (decide (a.length=0)))):=by
 intro a b h1;refine A6 Tryz.func118 O mK (n:=32) O O (Av Ay 1 [] O (Au (Az (Bt O (Ar O (BM EZ O (List.length_map _)) (Bt O (Ar O (BM EZ O (List.length_map _)) (As Ay 1 [] O (Aw O (fun c=>?_) (fun c=>?_))))))))))
 ·(try simp only[sd,se] at c);refine Av Ay 1 [] O (A1 (⟨O,_,_,⟨_,_,O,O,O⟩,(List.nil_sublist _),?_⟩))
  all_goals exact⟨pB (decide_eq_false Ao).symm,rfl⟩
 (try simp only[sd,se] at c);refine A2 (Au (Az (Bt O (Ar O (BM EZ O (List.length_map _)) (As Ay 1 [] O (BA (Be (α:=Nat) (fun i=>⟨32,mk [(1,.p (.lst (List.map B0 b))),(2,.p (.fn 119)),(15,.p (.lst (List.map B0 a))),(16,.p (I (a.length:Nat))),(17,.p (I (i:Int)))],[],[]⟩) (fun i=>a.length - i) (fun i=>i≤a.length) 0 AQ ?_ ?_)))))))
 ·exact BY ⟨we O,we O,we O,we O,we O,Aq⟩ (leH (is:=[]) O (C7))
 rintro i hC
 try simp only at hC
 have hi:=hC;refine Av Ay 1 [] O (Au (Aw O (fun c1=>?_) (fun c1=>?_)))
 ·(try simp only[sd,se] at c1);omega
 (try simp only[sd,se] at c1);refine Bg (Av Ay 1 [] O (A1 (⟨O,_,_,⟨_,_,O,O,O⟩,(List.nil_sublist _),?_⟩)))
 all_goals exact⟨pB (decide_eq_true Ao).symm,rfl⟩
theorem jS:∀(a b:List Tm),(b.length=0)→Ec Tryz.prog 120 [.p (.lst (BE a)),.p (.lst (BE b)),.p (.fn 91)] (.p (.bool (decide (a.length=0)))):=by
 intro a b h1;refine A6 Tryz.func120 O pj (n:=32) O O (Av Ay 1 [] O (Au (Az (Bt O (Ar O (BM Bf O (BS _)) (Bt O (Ar O (BM Bf O (BS _)) (As Ay 1 [] O (Aw O (fun c=>?_) (fun c=>?_))))))))))
 ·(try simp only[sd,se] at c);refine Av Ay 1 [] O (A1 (⟨O,_,_,⟨_,_,O,O,O⟩,(List.nil_sublist _),?_⟩))
  all_goals exact⟨pB (decide_eq_false Ao).symm,rfl⟩
 (try simp only[sd,se] at c);refine A2 (Au (Az (Bt O (Ar O (BM Bf O (BS _)) (As Ay 1 [] O (BA (Be (α:=Nat) (fun i=>⟨32,mk [(1,.p (.lst (BE b))),(2,.p (.fn 91)),(15,.p (.lst (BE a))),(16,.p (I (a.length:Nat))),(17,.p (I (i:Int)))],[],[]⟩) (fun i=>a.length - i) (fun i=>i≤a.length) 0 AQ ?_ ?_)))))))
 ·exact BY ⟨we O,we O,we O,we O,we O,Aq⟩ (leH (is:=[]) O (C7))
 rintro i hC
 try simp only at hC
 have hi:=hC;refine Av Ay 1 [] O (Au (Aw O (fun c1=>?_) (fun c1=>?_)))
 ·(try simp only[sd,se] at c1);omega
 (try simp only[sd,se] at c1);refine Bg (Av Ay 1 [] O (A1 (⟨O,_,_,⟨_,_,O,O,O⟩,(List.nil_sublist _),?_⟩)))
 all_goals exact⟨pB (decide_eq_true Ao).symm,rfl⟩
theorem iD:∀(a b:Tm),(b.levels.length=0)→(b.kids.length=0)→Ec Tryz.prog 91 [.agg ((BO a).map .p),.agg ((BO b).map .p)] (.p (.bool (Nj a b))):=by
 intro a b h1 h2;obtain⟨ak,ai,an,al,as1⟩:=a;obtain⟨bk,bi,bn,bl,bs⟩:=b;simp only[Tm.levels,Tm.kids] at h1 h2;refine A6 Tryz.func91 O qI (n:=38) O O (Az (BG O (BP O) fun b2=>BG O (BP O) fun b3=>As Ay 1 [] O (Au (BR [] 4 (fun y=>y= .p (.bool ((((((ak:Int)==(bk:Int))&&((ai:Int)==(bi:Int)))&&(an.toList==bn.toList))&&(decide (al.length=0)))&&(decide (as1.length=0))))) ?_ ?_))))
 ·refine A4 (Ax Ay 6 [1,0] O (BL 10 O (fun g=>?_) (fun g=>?_)))
  ·(try simp only[sd,se] at g);refine Ax Ay 7 [1,0] O (BL 17 O (fun g1=>?_) (fun g1=>?_))
   ·(try simp only[sd,se] at g1);refine Ax Ay 4 [1,0] O (BC O (F7 O O) (Ax Ay 2 [] O (BL 24 O (fun g2=>?_) (fun g2=>?_))))
    ·(try simp only[sd,se] at g2);refine Ax Ay 4 [1,0] O (BC O (BF O O (gO al bl h1) O) (Ax Ay 2 [] O (BL 31 O (fun g3=>?_) (fun g3=>?_))))
     ·(try simp only[sd,se] at g3);exact Ax Ay 4 [1,0] O (BC O (BF O O (jS as1 bs h2) O) (As Ay 2 [] O ⟨O,O,AK,AI,Aq⟩))
     (try simp only[sd,se] at g3);exact As Ay 7 [] O ⟨O,O,AK,AI,Aq⟩
    (try simp only[sd,se] at g2);exact As Ay 14 [] O ⟨O,O,AK,AI,Aq⟩
   (try simp only[sd,se] at g1);exact As Ay 21 [] O ⟨O,O,AK,AI,Aq⟩
  (try simp only[sd,se] at g);exact As Ay 28 [] O ⟨O,O,AK,AI,Aq⟩
 rintro _ rfl;refine A1 (⟨O,_,_,⟨_,_,O,O,O⟩,(List.nil_sublist _),?_⟩)
 all_goals exact⟨by show (.p (.bool ((((((ak:Int)==(bk:Int))&&((ai:Int)==(bi:Int)))&&(an.toList==bn.toList))&&(decide (al.length=0)))&&(decide (as1.length=0)))):AV)=_;rw[sx h1 h2],rfl⟩
def sv (ds:List CK) (n:Nat):Prop:=∀(m:Nat) (t:Tm) (s:Int),HE s→EI ds B5 n s t≠ .stuck→Bq Tryz.prog 53 [.ptr m 0,.agg ((BO t).map .p)] [.box m [.p (.lst (List.map Bk ds)),.p (I s)]] (Ky (fun(r:Option Int×Int)=> .tup [.p (I (r.1.getD 0)),.p (.bool r.1.isSome)]) (fun _=> .p (.iface 122 .unit)) (fun r H'=>H'=[.box m [.p (.lst (List.map Bk ds)),.p (I r.2)]]) ((EI ds B5 n s t).ex))
set_option maxHeartbeats 4000000 in
theorem XU:∀(ds:List CK) (hE:HQ ds) (n:Nat),sv ds n:=by
 intro ds hE n
 induction n using Nat.strongRecOn with
 | ind n ih =>
  intro m t s hJ hns;have h2:=hE;obtain⟨k,rfl⟩:=Vb rfl hns;generalize hC:EI ds B5 (k+1) s t=X at hns ⊢;rw[O3] at hC;have hn0:=hns;rw[←hC] at hn0;have hn1:=UK hn0;refine A6 Tryz.func53 O rC (n:=116) O O (Az (BG O (BP O) fun b3=>As Ay 2 [] O (Az (Ax Ay 2 [0] O (Dv [1] O O O (.inl ⟨O,O,O⟩) (OW ds hE k m t s hJ hn1) ⟨_,_,O,O,O⟩ An (aw (we O) (aw (we O) (Et))) (fun _ _ h=>(congrArg List.length h).trans O) ?_ ?_)))))
  rotate_left
  ·intro e _ he;exact⟨O,_,List.nil_sublist _,⟨_,by rw[←hC];exact UF hn0 he,rfl⟩⟩
  rintro⟨pr,n2⟩ _ hz rfl;obtain⟨hr2,hr3⟩:=T7 hn0 hz;rw[hr3] at hC;have hJ2:=Qf hJ (IZ hz);have hsp:lA pr:=TZ hr2;have hsl:=hsp.len;have hss:=hsp.sz;have hsa:=hsp.asz;refine Ar O (BF O O (MF pr hsp.nd Aa) O) (Ax Ay 3 [] O (BG O (A8 Bz O) fun b6=>As Ay 2 [0,1] O (Au (Az (Ar O (A0 G8 O O) ?_)))));generalize hz:(A9 pr).1=z;obtain⟨zk,zi,zn,zl,zs⟩:=z;have hzo:okB (.mk zk zi zn zl zs)=true:=hz▸hsp.head;have hzq:=hz;have hzl:=IN hzo;have hzn:=(CP.1 hzo).nd;refine As Ay 1 [0] O (BA (Av Ay 2 [] O (Aw O (fun c=>?_) (fun c=>?_))))
  ·(try simp only[sd,se] at c);have hk:=(congrArg Tm.kind hzq).trans c;rw[O4 (r:=(pr,n2)) hk,hzq] at hC;refine Av Ay 4 [0] O (A1 (⟨O,_,_,⟨_,_,O,O,⟨_,_,O,O,O⟩⟩,(B4 (is:=[2]) O),?_⟩));exact⟨⟨_,_⟩,DS hC.symm,O,O⟩
  (try simp only[sd,se] at c);refine Au (Av Ay 2 [] O (BR [0,6,7,25] 30 (fun y=>y= .p (.bool (decide (zk=9∨zk=10)))) ?_ ?_))
  ·refine Aw O (fun c1=>?_) (fun c1=>?_)
   ·(try simp only[sd,se] at c1);exact A2 (⟨O,O,(List.Sublist.refl _),(by refine pB (Bool.eq_iff_iff.2 ?_);simp only[beq_iff_eq,decide_eq_true_eq];omega),⟨O,O,O,O,Aq⟩⟩)
   (try simp only[sd,se] at c1);exact A4 (As Ay 2 [] O (⟨O,O,(List.Sublist.refl _),(by refine pB (Bool.eq_iff_iff.2 ?_);simp only[beq_iff_eq,decide_eq_true_eq];omega),⟨O,O,O,O,Aq⟩⟩))
  rintro _ rfl;refine Aw O (fun c1=>?_) (fun c1=>?_)
  ·(try simp only[sd,se] at c1);have hk9:zk=9∨zk=10:=by simpa using c1
   refine Az (Ax Ay 3 [0] O ?_);obtain⟨x,hx⟩:=A7 (l:=zs) (i:=0) Ao;rw[TU (r:=(pr,n2)) (by rw[hzq];exact hk9) (by rw[hzq];exact hx)] at hC;refine Ar O (A5 Bf O O Ao (Bc hx) (BD _)) (Ar O (BN Ba O (BD _)) (Dv [2] O O O (.inl ⟨O,O,O⟩) (ih k Ao m x n2 hJ2 (by rw[hC];exact hns)) ⟨_,_,O,O,O⟩ An (aw (we O) (aw (we O) (Et))) (fun _ _ h=>(congrArg List.length h).trans O) ?_ ?_))
   rotate_left
   ·intro e _ he;exact⟨O,_,List.nil_sublist _,⟨_,by rw[←hC];exact he,rfl⟩⟩
   rintro⟨q,n21⟩ _ hz1 rfl;have hfin:=hz1;refine As Ay 4 [] O (A1 (⟨O,_,_,⟨_,_,O,O,⟨_,_,O,O,O⟩⟩,(B4 (is:=[2]) O),?_⟩));exact⟨⟨q,n21⟩,by rw[←hC];exact hfin,rfl,rfl⟩
  (try simp only[sd,se] at c1);refine Av Ay 2 [] O (Aw O (fun c2=>?_) (fun c2=>?_))
  ·(try simp only[sd,se] at c2);have hk:=(congrArg Tm.kind hzq).trans c2;refine Az (Ax Ay 2 [0] O (Ar O (B8 [2] O (.inl ⟨O,O,O⟩) (O6 m ds n2 (.mk zk zi zn zl zs:Tm) hE.g.env) ⟨_,_,O,O,O⟩ An O (.inl O)) (Ax Ay 3 [] O (BG O (A8 Hk O) fun b8=>As Ay 2 [0,1] O (Au (Av Ay 2 [] O (Aw O (fun c3=>?_) (fun c3=>?_))))))))
   ·(try simp only[sd,se] at c3);rw[TE (r:=(pr,n2)) hk (.inl (by rw[hzq];exact c3))] at hC;refine Av Ay 2 [] O (A1 (⟨O,_,_,⟨_,_,O,O,⟨_,_,O,O,O⟩⟩,(B4 (is:=[3]) O),?_⟩));exact⟨⟨_,_⟩,DS hC.symm,O,O⟩
   (try simp only[sd,se] at c3);have hu:=c3;obtain⟨ix,dd,e1,e2,e3,e4⟩:=Hh hu;have hde:=e2.decl;have hdg:=h2.g.all _ e3;have hel:=h2.g.env.len;have hil:=(List.getElem?_eq_some_iff.1 e1).1;have hfx:=hdg.fx;have hnr:=Gz hdg;have hcl:=hdg.din.cl;have hfl:=hdg.din.fl;refine A2 (Au (UO [.val (.ptr m 0),.val (.ptr m 0),.val (.ptr m (0+0)),.val (.p (.lst (List.map Bk ds))),.val (.ptr b8 (0+1)),.val (.p (I (((Bh ds (.mk zk zi zn zl zs:Tm).name).1).decl))),.val (.ref (Bk dd)),.val (.agg ((Bk dd).map .p)),.new [.p (I 0),.p (.str ⟨#[]⟩),.p (I 0),.p (I 0),.p (I 0),.p (.str ⟨#[]⟩),.p (.nils),.p (.nils),.p (I 0),.p (I 0),.p (.str ⟨#[]⟩),.p (.nils),.p (.nils),.p (I 0),.p (.nils),.p (I 0),.p (I 0),.p (I 0),.p (.str ⟨#[]⟩),.p (.nils),.p (.nils),.p (.nils),.p (.nils)]] Dt O Ak Ak (Dw O (fun Bs=>BZ O) (Dw O (fun Bs=>OO O) (Dw O (fun Bs=>A0 mb O O) (Dw O (fun Bs=>B7 (i:=Bs.length+3) eJ O (CS O) O) (Dw O (fun Bs=>A0 Fe O O) ?_)))))));refine Dw O (fun Bs=>A3 (i:=Bs.length+0) DH O (CS O) (DR _)) (Dw O (fun Bs=>A5 Hj O O Ao (D4 e4) (Cl _)) (Dw O (fun Bs=>BN FM O (Cl _)) (Xj O (fun Bs=>A8 JK O) fun b10=>XQ ?_)))
   change AL _ _ _ 9 ⟨116,_,[.box b10 [.p (I 0),.p (.str ⟨#[]⟩),.p (I 0),.p (I 0),.p (I 0),.p (.str ⟨#[]⟩),.p (.nils),.p (.nils),.p (I 0),.p (I 0),.p (.str ⟨#[]⟩),.p (.nils),.p (.nils),.p (I 0),.p (.nils),.p (I 0),.p (I 0),.p (I 0),.p (.str ⟨#[]⟩),.p (.nils),.p (.nils),.p (.nils),.p (.nils)],.box b8 ((DN ((Bh ds (.mk zk zi zn zl zs:Tm).name).1)).map .p),.box b6 [.p (I zk),.p (I zi),.p (.str zn),.p (.lst (List.map B0 zl)),.p (.lst (BE zs))],.box b3 ((BO t).map .p),.box m [.p (.lst (List.map Bk ds)),.p (I n2)]],[]⟩ _
   refine As Ay 1 [0,1] O (Az (Ar O (A0 Fe O O) (Ar O (A3 (i:=1) DH O O (DB _)) (Bj O (BA (Av Ay 2 [] O (Aw O (fun c4=>?_) (fun c4=>?_))))))))
   ·(try simp only[sd,se] at c4);have hk5:=c4;refine Az (Ar O (BU (i:=0) FM O O Ae) (Ar O (BF O O (Nq dd hdg.din hdg.fx) O) (As Ay 1 [] O (Az (Bt O (Ar O (BM Bf O (BS _)) (As Ay 2 [] O (Aw O (fun c5=>?_) (fun c5=>?_)))))))))
    ·(try simp only[sd,se] at c5);refine Az (Ax Ay 3 [] O ?_);obtain⟨x,hx⟩:=A7 (l:=(A9 pr).2) (i:=(CR dd:Int).toNat) Ao;rw[V2 (r:=(pr,n2)) hk (by rw[hzq];exact hu) rfl (by rw[hzq];exact e4) (by rw[hzq];exact hk5) Ao hx] at hC;refine Ar O (A5 Bf O O Ao (Bc hx) (BD _)) (Ar O (BN Ba O (BD _)) (Dv [4] O O O (.inl ⟨O,O,O⟩) (ih k Ao m x n2 hJ2 (by rw[hC];exact hns)) ⟨_,_,O,O,O⟩ An (aw (we O) (aw (we O) (Et))) (fun _ _ h=>(congrArg List.length h).trans O) ?_ ?_))
     rotate_left
     ·intro e _ he;exact⟨O,_,List.nil_sublist _,⟨_,by rw[←hC];exact he,rfl⟩⟩
     rintro⟨q,n21⟩ _ hz1 rfl;have hfin:=hz1;refine As Ay 4 [] O (A1 (⟨O,_,_,⟨_,_,O,O,⟨_,_,O,O,O⟩⟩,(B4 (is:=[4]) O),?_⟩));exact⟨⟨q,n21⟩,by rw[←hC];exact hfin,rfl,rfl⟩
    (try simp only[sd,se] at c5);rw[aI (r:=(pr,n2)) hk (by rw[hzq];exact hu) rfl (by rw[hzq];exact e4) (by rw[hzq];exact hk5) Ao] at hC;refine A2 (Av Ay 2 [] O (A1 (⟨O,_,_,⟨_,_,O,O,⟨_,_,O,O,O⟩⟩,(B4 (is:=[4]) O),?_⟩)));exact⟨⟨_,_⟩,DS hC.symm,O,O⟩
   (try simp only[sd,se] at c4);have hk5:=c4;refine Av Ay 2 [] O (Aw O (fun c5=>?_) (fun c5=>?_))
   ·(try simp only[sd,se] at c5);have hk6:=c5;obtain⟨fk,ff,f1,f2⟩:=e2.func hk6;have hff:dd.funs[(Bh ds (Tm.mk zk zi zn zl zs).name).1.item.toNat]?=some ff:=by rw[f2];simpa using f1
    have hfm:=List.mem_of_getElem? hff;have hfa:=hdg.fu ff hfm;have hfi:=(List.getElem?_eq_some_iff.1 f1).1;refine Az (Ar O (A0 Cy O O) (Ar O (A3 (i:=0) Gj O O (B6 _)) (Ar O (A0 Fe O O) (Ar O (A3 (i:=1) DH O O (Dq _)) (Ar O (A5 Gn O O Ao (D7 hff) (DF _)) (Ar O (BN fW O (DF _)) (BG O (A8 aq O) fun b12=>As Ay 1 [0,1] O (Au (Az (Bt O (Ar O (BM Bf O (BS _)) (Ar O (A0 GX O O) (Ar O (A3 (i:=0) DH O O (CI _)) (As Ay 1 [] O (Aw O (fun c6=>?_) (fun c6=>?_))))))))))))))))
    ·(try simp only[sd,se] at c6);rw[Zo (r:=(pr,n2)) hk (by rw[hzq];exact hu) rfl (by rw[hzq];exact e4) (by rw[hzq];exact hk6) (by rw[hzq];exact hff) (by show ¬ff.arity≤((A9 pr).2.length:Int);omega)] at hC;refine Av Ay 2 [] O (A1 (⟨O,_,_,⟨_,_,O,O,⟨_,_,O,O,O⟩⟩,(B4 (is:=[5]) O),?_⟩));exact⟨⟨_,_⟩,DS hC.symm,O,O⟩
    (try simp only[sd,se] at c6);refine A2 (Au ?_);rw[Q5 (r:=(pr,n2)) hk (by rw[hzq];exact hu) rfl (by rw[hzq];exact e4) (by rw[hzq];exact hk6) (by rw[hzq];exact hff) (by show ff.arity≤((A9 pr).2.length:Int);omega)] at hC;have hn0b:=hns;rw[←hC] at hn0b;have hn2:=Ji hn0b;obtain⟨e,he⟩ | ⟨⟨q,n21⟩,hz1⟩:=F5 ((Ds ds B5 (EF ds B5 k) k ff.tree (((A9 pr).2).take ((ff.arity:Int).toNat)) Bi n2).ex)
    ·refine Iw ((fun _=> .p (.iface 122 .unit)) e) 7 [.val (.ptr m 0),.val (.ptr b12 (0+7)),.val (.agg ((Ct ff.tree).map .p)),.val (.p (.lst (BE ((A9 pr).2)))),.val (.ptr b12 (0+6)),.val (.p (I ff.arity)),.val (.p (.lst (BE (((A9 pr).2).take ((ff.arity:Int).toNat))))),.val (.p .any),.val (.p .any),.val (.p .any),.val (.p .any),.val (.p .any),.val (.p .any),.new [.p (I 0),.p (I 0),.p (.str ⟨#[]⟩),.p (.nils),.p (.nils)],.new [.p (I 0),.p (I 0),.p (.str ⟨#[]⟩),.p (.nils),.p (.nils)],.val (.p .any),.val (.p .any),.val (.p .any),.val (.p .any)] Dt O Ak O Aq (fun _ _=>by exact⟨rfl,_,List.nil_sublist _,⟨_,by rw[←hC];exact Kn hn0b he,rfl⟩⟩) ?_;refine B9 O O (fun Bs=>BZ O) (B9 O O (fun Bs=>A0 GX O O) (B9 O O (fun Bs=>By (i:=Bs.length+0) Iv O (CS O) (Dn _) (Cn _)) (B9 O O (fun Bs=>BZ O) (B9 O O (fun Bs=>A0 GX O O) (B9 O O (fun Bs=>A3 (i:=Bs.length+0) DH O (CS O) (CI _)) (B9 O O (fun Bs=>Ca (lo:=0) (hi:=(ff.arity:Int).toNat) Bf O (CF (Bw _)) O ⟨_,pI Ao⟩ (Nat.zero_le _) AR (My ((A9 pr).2) ((ff.arity:Int).toNat))) (K1 (mkp:=(fun _=> .p (.iface 122 .unit))) (e:=e) [5] he O O (.inl ⟨O,O,O⟩) (Qc k k m ds ff.tree (((A9 pr).2).take ((ff.arity:Int).toNat)) n2 (OW ds hE k) hE.g hJ2 (OP hE e3 hfm hsp.args) hn2) ⟨_,_,O,O,O⟩ An (aw (we O) (aw (we O) (aw (we O) (Et)))) (DC O O Ak (DC O O Ak (DC O O Ak ?_))))))))));exact DC O O Ak (DC O O Ak (T6 O O (fun Bs=>A8 Bz O) fun _=>T6 O O (fun Bs=>A8 Bz O) fun _=>DC O O Ak (DC O O Ak (DC O O Ak (DC O O Ak LG)))))
    rw[MT hz1] at hC;have hJ3:=Tj hJ2 (IZ hz1);refine HZ [.box b12 ((Em ff).map .p),.box b10 ((Bk dd).map .p),.box b8 ((DN ((Bh ds (.mk zk zi zn zl zs:Tm).name).1)).map .p),.box b6 [.p (I zk),.p (I zi),.p (.str zn),.p (.lst (List.map B0 zl)),.p (.lst (BE zs))],.box b3 ((BO t).map .p),.box m [.p (.lst (List.map Bk ds)),.p (I n21)]] 7 [.val (.ptr m 0),.val (.ptr b12 (0+7)),.val (.agg ((Ct ff.tree).map .p)),.val (.p (.lst (BE ((A9 pr).2)))),.val (.ptr b12 (0+6)),.val (.p (I ff.arity)),.val (.p (.lst (BE (((A9 pr).2).take ((ff.arity:Int).toNat))))),.val (.tup [.agg ((BO (I9 q)).map .p),.p (.lst (BE (ML q))),.p (.bool q.1.isSome),.agg ((BO q.2).map .p)]),.val (.tup [.agg ((BO (I9 q)).map .p),.p (.lst (BE (ML q))),.p (.bool q.1.isSome),.agg ((BO q.2).map .p)]),.val (.agg ((BO (I9 q)).map .p)),.val (.p (.lst (BE (ML q)))),.val (.p (.bool q.1.isSome)),.val (.agg ((BO q.2).map .p)),.new [.p (I 0),.p (I 0),.p (.str ⟨#[]⟩),.p (.nils),.p (.nils)],.new [.p (I 0),.p (I 0),.p (.str ⟨#[]⟩),.p (.nils),.p (.nils)]] [.p .any,.p (.lst (BE (ML q))),.p (.bool q.1.isSome),.p .any] [10,11,12] Dt O Ak Ak Ak O ?_ ?_
    ·exact Aq
    refine Bd O O (fun Bs=>BZ O) (Bd O O (fun Bs=>A0 GX O O) (Ew O O O (fun Bs=>By (i:=Bs.length+0) Iv O (CS O) (Dn _) (Cn _)) (fun Bs=>By (i:=Bs.length+0) Iv O (CS O) (Dn _) (Cn _)) (Bd O O (fun Bs=>BZ O) (Bd O O (fun Bs=>A0 GX O O) (Ew O O O (fun Bs=>A3 (i:=Bs.length+0) DH O (CS O) (CI _)) (fun Bs=>A3 (i:=Bs.length+0) DH O (CS O) (CI _)) (Bd O O (fun Bs=>Ca (lo:=0) (hi:=(ff.arity:Int).toNat) Bf O (CF (Bw _)) O ⟨_,pI Ao⟩ (Nat.zero_le _) AR (My ((A9 pr).2) ((ff.arity:Int).toNat))) ?_))))));refine JP O (fun Bs=>GF [5] O (.inl ⟨O,O,O⟩) (Kz hz1 (Qc k k m ds ff.tree (((A9 pr).2).take ((ff.arity:Int).toNat)) n2 (OW ds hE k) hE.g hJ2 (OP hE e3 hfm hsp.args) hn2)) ⟨_,_,O,O,O⟩ An O (aw (we O) (aw (we O) (aw (we O) (Et))))) (Bd O O (fun Bs=>BZ O) (Bd O O (fun Bs=>Cx O O) (Bd O O (fun Bs=>Cx O O) (Bd O O (fun Bs=>Cx O O) (Bd O O (fun Bs=>Cx O O) (Lq O O (fun Bs=>A8 Bz O) fun b13=>Lq O O (fun Bs=>A8 Bz O) fun b16=>JJ ?_))))));refine DV [.box b13 ((BO (I9 q)).map .p),.box b16 [.p (I 0),.p (I 0),.p (.str ⟨#[]⟩),.p (.nils),.p (.nils)],.box b12 ((Em ff).map .p),.box b10 ((Bk dd).map .p),.box b8 ((DN ((Bh ds (.mk zk zi zn zl zs:Tm).name).1)).map .p),.box b6 [.p (I zk),.p (I zi),.p (.str zn),.p (.lst (List.map B0 zl)),.p (.lst (BE zs))],.box b3 ((BO t).map .p),.box m [.p (.lst (List.map Bk ds)),.p (I n21)]] O (CY (i:=0) Ba O O O Ah AX (E0 _)) ?_;refine DV [.box b13 ((BO (I9 q)).map .p),.box b16 [.p (I 0),.p (I 0),.p (.str ⟨#[]⟩),.p (.nils),.p (.nils)],.box b12 ((Em ff).map .p),.box b10 ((Bk dd).map .p),.box b8 ((DN ((Bh ds (.mk zk zi zn zl zs:Tm).name).1)).map .p),.box b6 [.p (I zk),.p (I zi),.p (.str zn),.p (.lst (List.map B0 zl)),.p (.lst (BE zs))],.box b3 ((BO t).map .p),.box m [.p (.lst (List.map Bk ds)),.p (I n21)]] O (Du O) (DV [.box b13 ((BO (I9 q)).map .p),.box b16 [.p (I 0),.p (I 0),.p (.str ⟨#[]⟩),.p (.nils),.p (.nils)],.box b12 ((Em ff).map .p),.box b10 ((Bk dd).map .p),.box b8 ((DN ((Bh ds (.mk zk zi zn zl zs:Tm).name).1)).map .p),.box b6 [.p (I zk),.p (I zi),.p (.str zn),.p (.lst (List.map B0 zl)),.p (.lst (BE zs))],.box b3 ((BO t).map .p),.box m [.p (.lst (List.map Bk ds)),.p (I n21)]] O (Du O) ?_)
    refine DV [.box b13 ((BO (I9 q)).map .p),.box b16 ((BO q.2).map .p),.box b12 ((Em ff).map .p),.box b10 ((Bk dd).map .p),.box b8 ((DN ((Bh ds (.mk zk zi zn zl zs:Tm).name).1)).map .p),.box b6 [.p (I zk),.p (I zi),.p (.str zn),.p (.lst (List.map B0 zl)),.p (.lst (BE zs))],.box b3 ((BO t).map .p),.box m [.p (.lst (List.map Bk ds)),.p (I n21)]] O (CY (i:=1) Ba O O O Ah AX (E0 _)) (JZ (Au (BR [0,16] 110 (fun y=>y= .p (.bool ((!q.1.isSome)&&(!(Nj q.2 Bi))))) ?_ ?_)))
    ·refine A4 (Ax Ay 3 [] O (BL 105 O (fun g=>?_) (fun g=>?_)))
     ·(try simp only[sd,se] at g);exact Ax Ay 2 [1] O (BC O (GU O O (iD q.2 (.mk 0 0 ⟨#[]⟩ [] []:Tm) O O) (aw (we O) (aw (Df O) (Et)))) (As Ay 2 [] O (⟨O,O,AK,(by first | rfl | (refine pB ?_;rw[g];rfl)),⟨O,O,Aq⟩⟩)))
     (try simp only[sd,se] at g);exact As Ay 5 [] O (⟨O,O,AK,(by first | rfl | (refine pB ?_;rw[g];rfl)),⟨O,O,Aq⟩⟩)
    rintro _ rfl;refine Aw O (fun c7=>?_) (fun c7=>?_)
    ·(try simp only[sd,se] at c7);rw[Ub (by simpa using c7.1) rfl (by simpa using c7.2)] at hC;refine Az (Ax Ay 2 [1] O (Dv [7] O O O (.inl ⟨O,O,O⟩) (ih k Ao m q.2 n21 hJ3 (by rw[hC];exact hns)) ⟨_,_,O,O,O⟩ An (aw (we O) (aw (we O) (Et))) (fun _ _ h=>(congrArg List.length h).trans O) ?_ ?_))
     rotate_left
     ·intro e _ he;exact⟨O,_,List.nil_sublist _,⟨_,by rw[←hC];exact he,rfl⟩⟩
     rintro⟨q1,n22⟩ _ hz2 rfl;have hfin:=hz2;refine As Ay 4 [] O (A1 (⟨O,_,_,⟨_,_,O,O,⟨_,_,O,O,O⟩⟩,(B4 (is:=[7]) O),?_⟩));exact⟨⟨q1,n22⟩,by rw[←hC];exact hfin,rfl,rfl⟩
    (try simp only[sd,se] at c7);rw[S5 (by by_cases hqs:q.1.isSome=true;exact .inl hqs;exact .inr (.inr (by simpa [hqs] using c7)))] at hC;refine A2 (Av Ay 2 [] O (A1 (⟨O,_,_,⟨_,_,O,O,⟨_,_,O,O,O⟩⟩,(B4 (is:=[7]) O),?_⟩)));exact⟨⟨_,_⟩,DS hC.symm,O,O⟩
   (try simp only[sd,se] at c5);rw[SE (r:=(pr,n2)) hk (by rw[hzq];exact hu) rfl (by rw[hzq];exact hk5) (by rw[hzq];exact c5)] at hC;refine A2 (Av Ay 2 [] O (A1 (⟨O,_,_,⟨_,_,O,O,⟨_,_,O,O,O⟩⟩,(B4 (is:=[4]) O),?_⟩)));exact⟨⟨_,_⟩,DS hC.symm,O,O⟩
  (try simp only[sd,se] at c2);rw[YU (r:=(pr,n2)) (by rw[hzq];assumption) (by rw[hzq];show ¬zk=9;omega) (by rw[hzq];show ¬zk=10;omega) (by rw[hzq];assumption)] at hC;refine A2 (Av Ay 2 [] O (A1 (⟨O,_,_,⟨_,_,O,O,⟨_,_,O,O,O⟩⟩,(B4 (is:=[2]) O),?_⟩)));exact⟨⟨_,_⟩,DS hC.symm,O,O⟩
theorem eY:∀(ds:List CK) (N m bt bo bk:Nat) (t:Tm) (s:Int),(HQ ds)→(HE s)→(EI ds B5 N s t≠ .stuck)→Bq Tryz.prog 52 [.ptr m 0,.ptr bt 0,.ptr bo 0,.ptr bk 0] [.box m [.p (.lst (List.map Bk ds)),.p (I s)],.box bt ((BO t).map .p),.box bo [.p (I 0)],.box bk [.p (.bool false)]] (Ky (fun(r:Option Int×Int)=> .tup []) (fun _=> .p (.iface 122 .unit)) (fun r H'=>H'=[.box m [.p (.lst (List.map Bk ds)),.p (I r.2)],.box bt ((BO t).map .p),.box bo [.p (I (r.1.getD 0))],.box bk [.p (.bool r.1.isSome)]]) ((EI ds B5 N s t).ex)):=by
 intro ds N m bt bo bk t s h1 h2 h3;refine A6 Tryz.func52 O rW (n:=11) O O (A4 (Ax Ay 2 [1] O (Dv [0] O O O (.inl ⟨O,O,O⟩) (XU ds h1 N m t s h2 h3) ⟨_,_,O,O,O⟩ An (aw (we O) (aw (we O) (Et))) (fun _ _ h=>(congrArg List.length h).trans O) ?_ ?_)))
 rotate_left
 ·intro e _ he;exact⟨O,_,List.nil_sublist _,⟨_,he,O⟩⟩
 rintro⟨q,n2⟩ _ hz rfl;refine As Ay 5 [2,0,3,0] O ⟨O,_,_,O,(B4 (is:=[0,1,2,3]) O),?_⟩;exact⟨⟨q,n2⟩,hz,O,O⟩
theorem XE:∀(ds:List CK) (N:Nat) (t:Tm),(HQ ds)→(EI ds B5 N 20000 t≠ .stuck)→Ec Tryz.prog 18 [.p (.lst (List.map Bk ds)),.agg ((BO t).map .p)] (.tup [.p (I ((LU (EI ds B5 N 20000 t)).1)),.p (.bool ((LU (EI ds B5 N 20000 t)).2.1)),.p (I ((LU (EI ds B5 N 20000 t)).2.2))]):=by
 intro ds N t h1 h2;refine A6 Tryz.func18 O rS (n:=18) O O (Az (BG O (BP O) fun b3=>As Ay 3 [] O (Az (BG O (A8 hG O) fun b7=>BG O (A8 sh O) fun b8=>As Ay 2 [1,0,0,0] O (Au ?_)))));obtain⟨e,he⟩ | ⟨⟨q,n2⟩,ha⟩:=F5 ((EI ds B5 N 20000 t).ex)
 ·refine A4 (Ax Ay 2 [] O (UH [2,1,0] O O O (.inl ⟨O,O,O⟩) (Rp _ _ he (fun r=>r.2) (fun r=>[.box b3 ((BO t).map .p),.box b7 [.p (I (r.1.getD 0))],.box b8 [.p (.bool r.1.isSome)]]) 52 [.ptr b3 0,.ptr b7 0,.ptr b8 0] [.box b3 ((BO t).map .p),.box b7 [.p (I 0)],.box b8 [.p (.bool false)]] ds (fun m=>eY ds N m b3 b7 b8 t 20000 h1 NW h2)) ⟨_,_,O,O,⟨_,_,O,O,⟨_,_,O,O,O⟩⟩⟩ An (DZ _) (As Ay 1 [] O (Au (Av Ay 2 [] O ?_)))));refine Aw O (fun c=>?_) (fun c=>by cases c);refine Av Ay 4 [] O (A1 (⟨O,_,_,⟨_,_,O,O,⟨_,_,O,O,⟨_,_,O,O,O⟩⟩⟩,(List.nil_sublist _),?_⟩))
  all_goals exact⟨by show (.tup [.p (I 0),.p (.bool false),.p (I 11)]:AV)=_;rw[lR he],rfl⟩
 refine A4 (Ax Ay 2 [] O (Ar O (B8 [2,1,0] O (.inl ⟨O,O,O⟩) (UQ _ _ ha (fun r=>r.2) (fun r=>[.box b3 ((BO t).map .p),.box b7 [.p (I (r.1.getD 0))],.box b8 [.p (.bool r.1.isSome)]]) 52 [.ptr b3 0,.ptr b7 0,.ptr b8 0] [.box b3 ((BO t).map .p),.box b7 [.p (I 0)],.box b8 [.p (.bool false)]] ds (fun m=>eY ds N m b3 b7 b8 t 20000 h1 NW h2)) ⟨_,_,O,O,⟨_,_,O,O,⟨_,_,O,O,O⟩⟩⟩ An O (.inl O)) (As Ay 1 [] O (Au (Av Ay 2 [] O ?_)))));refine Aw O (fun c=>by cases c) (fun c=>?_);refine A2 (Au (Bu (fun k=>false) Dt (Bn Ay 5 [1,0] O (A1 (⟨O,_,_,⟨_,_,O,O,⟨_,_,O,O,⟨_,_,O,O,O⟩⟩⟩,(List.nil_sublist _),?_⟩)))))
 all_goals exact⟨by show (.tup [.p (I (q.getD 0)),.p (.bool q.isSome),.p (I 0)]:AV)=_;rw[lS ha],rfl⟩
def tv (ds:List CK) (n:Nat):Prop:=∀(b:Nat) (t:Tm) (c c2:EL) (q:Option Tm),FG ds DD n c t= .ok (q,c2)→Bq Tryz.prog 17 [.p (.lst (List.map Bk ds)),.agg ((BO t).map .p),.ptr b 0] [.box b ((G6 c).map .p)] (GW (.tup [TV (q.getD Bi),.p (.bool q.isSome)]) [.box b ((G6 c2).map .p)])
theorem aO:Bq Tryz.prog 13 [] [] (cQ (fun b=> .ptr b 0) ((G6 Je).map .p)):=by
 refine A6 Tryz.func13 O r7 (n:=3) O O (Av Ay 1 [] O (Az (Ar O (CO rq rJ O) (BG O (BP O) fun b2=>As Ay 1 [] O (A1 (⟨O,_,_,⟨_,_,O,O,O⟩,(B4 (is:=[0]) O),?_⟩))))));exact⟨_,O,O⟩
end Go.Proofs.YtboammbpdaoojaaGreat
namespace Go.Eu
open Go.Abs
mutual
theorem dA {vars m:Int}(hv:vars≤549755813888):∀(t:Tm) (d:Int),wf vars m d t→0≤d→d+size t≤1073741824→Vp t
 | .mk k i n l ks,d,h,h0,h1=>by
  simp only[wf,size] at h h1;exact⟨fun e=>by have:=h.2.2.2.1 e;omega,Y0 hv ks k d 0 h.2.2.2.2.2 h0 Ao⟩
theorem Y0 {vars m:Int}(hv:vars≤549755813888):∀(ts:List Tm) (k d:Int) (j:Nat),iu vars m k d j ts→0≤d→d+1+Bb ts≤1073741824→Sy ts
 | [],k,d,j,h,h0,h1=>trivial
 | t::ts,k,d,j,h,h0,h1=>by
  have:=C5 k j;simp only[iu,Bb] at h h1;have:=size_pos t;exact⟨dA hv t _ h.1 Ao Ao,Y0 hv ts k d (j+1) h.2 h0 Ao⟩
end
theorem ez {t:Tm}{vars m:Int}(hn:Nd t) (hs:size t<1000000) (hv:vars≤549755813888) (h:wf (max vars 0) m 0 t):okB t=true :=
 CP.2 ⟨hn,jy t 0 h,dA Ao t 0 h Ao Ao,by omega⟩
def Y4 (d:CK):Prop:=(d.kind≠1→d.kind≠2→d.value=Bi)∧(d.kind≠3→d.recs.rules.length=0∧d.fixed=0)∧(d.kind≠4→d.funs.length=0)
def Uk (d:CK):Prop:=0≤d.fixed∧(∀f∈d.funs,1≤f.arity∧f.arity≤16)∧(d.kind=3→d.fixed≤1000000)
def cH (d:CK):Prop:=(d.kind=1∨d.kind=2→okB d.value=true)∧(d.kind=3→∀t∈d.recs.rules,okB t=true)∧(d.kind=4→∀f∈d.funs,Fg f.tree)
theorem mf {d:CK}(h:Nn d) (hk:0≤d.kind∧d.kind≤4) (hu:Y4 d) (hc:Uk d) (ht:cH d):DG d:=by
 obtain⟨u1,u2,u3⟩:=hu;obtain⟨c1,c2,c3⟩:=hc;obtain⟨t1,t2,t3⟩:=ht;refine⟨h,⟨c1,?_⟩,?_,?_,fun f hf=>⟨(c2 f hf).1,(c2 f hf).2,?_⟩⟩
 ·by_cases h3:d.kind=3
  ·exact c3 h3
  rw[(u2 h3).2];omega
 ·by_cases h1:d.kind=1∨d.kind=2
  ·exact t1 h1
  rw[u1 Ao Ao];exact HR
 ·by_cases h3:d.kind=3
  ·exact t2 h3
  intro t ht;rw[List.length_eq_zero_iff.1 (u2 h3).1] at ht;cases ht
 by_cases h4:d.kind=4
 ·exact t3 h4 f hf
 rw[List.length_eq_zero_iff.1 (u3 h4)] at hf;cases hf
def Sh (d:CK):Prop:=size d.value≤400∧(∀t∈d.recs.rules,size t≤400)∧∀f∈d.funs,Dz f.tree≤50
theorem gr {ds:List CK}(h:Ja ds) (hf:∀d∈ds,Sh d):HQ ds:=⟨h,fun d hd=>(hf d hd).1,fun d hd=>(hf d hd).2.1,fun d hd=>(hf d hd).2.2⟩
theorem Qz {n:Nat}:∀{l:List GD},(∀x∈l,Dz x.tree≤n)→Kx l≤n
 | [],_=>by simp[Kx]
 | .mk c a t::l,h=>by
  have h1:=h (.mk c a t) Ap;have h2:=Qz (n:=n) (l:=l) fun x hx=>h x (by simp[hx]);simp only[Kx,Xq,GD.tree] at *;omega
theorem ZX {n:Nat}{t:FJ}(h:∀x∈t.branches,Dz x.tree≤n):Dz t≤n+1:=by
 obtain⟨k,b,v,l⟩:=t;have h1:=Qz (n:=n) (l:=l) h;simp only[Dz];omega
theorem S8:∀{l:List GD},(∀x∈l,Fg x.tree)→RA l
 | [],_=>trivial
 | .mk c a t::l,h=>⟨h (.mk c a t) Ap,S8 fun x hx=>h x (by simp[hx])⟩
theorem RE {t:FJ}(h0:okB t.body=true) (h:∀x∈t.branches,Fg x.tree):Fg t:=by
 obtain⟨k,b,v,l⟩:=t;exact⟨h0,S8 h⟩
theorem W7 {t:FJ}(h0:Nj t.body Bi=true) (h:t.branches.length=0):Fg t :=
 RE (by rw[IK.1 h0];exact HR) (fun x hx=>by rw[List.length_eq_zero_iff.1 h] at hx;cases hx)
theorem II {α:Type}{p:α→Prop}{l:List α}{n:Nat}(hn:l.length≤n) (h:∀j,j<n→∀x,l[j]?=some x→p x):∀x∈l,p x:=fun x hx=>by
 obtain⟨j,hj⟩:=List.mem_iff_getElem?.1 hx;exact h j (by have:=(List.getElem?_eq_some_iff.1 hj).1;omega) x hj
theorem aK {ds:List CK}{i:Nat}(h:HT ds) (hC:∀j,j<i→∀x,ds[j]?=some x→DG x):Ja (ds.take i) :=
 ⟨h.take i,fun d hd=>by
  obtain⟨j,hj⟩:=List.mem_iff_getElem?.1 hd;have hlt:=(List.getElem?_eq_some_iff.1 hj).1;rw[List.length_take] at hlt;rw[List.getElem?_take_of_lt Ao] at hj;exact hC j Ao d hj⟩
theorem lx {α:Type}{l:List α}(h:l.length=0) {p:α→Prop}:∀x∈l,p x:=fun x hx=>by
 rw[List.length_eq_zero_iff.1 h] at hx;cases hx
theorem hZ {t:FJ}{dp:Int}(hd:dp≤40) (h:∀x∈t.branches,(Dz x.tree:Int)≤42 - (dp+1)):(Dz t:Int)≤42 - dp:=by
 have:=ZX (n:=(42 - (dp+1)).toNat) (t:=t) fun x hx=>by have:=h x hx;omega
 omega
theorem Pm {t:Tm}(h:US t) (hs:Eo t≤400):size t≤400:=by
 have h1:=No (t:=t) (by have:=h.sz;omega);omega
theorem eG {d:CK}(h:Nn d) (hv:Eo d.value≤400) (hr:∀t∈d.recs.rules,Eo t≤400) (hf:∀f∈d.funs,(Dz f.tree:Int)≤42 - 0):Sh d :=
 ⟨Pm h.vl hv,fun t ht=>Pm (h.rs t ht) (hr t ht),fun f hm=>by have:=hf f hm;omega⟩
structure dK (ds:List CK) (l:List Tm):Prop where
 env:HQ ds
 ok:∀t∈l,okB t=true
 sz:Bb l≤60
 few:ds.length≤70
theorem cE {ds:List CK}{l:List Tm}(hn:Ea l 60 0≤60) (hg:YF l∧∀t∈l,okB t=true) (he:HQ ds∧ds.length≤70):dK ds l :=
 ⟨he.1,hg.2,by have:=Wa hg.1 Ao hn;omega,he.2⟩
theorem ZV {l:List Tm}(h:YF l):l.length<1000000:=by
 have:=h.sz;have:=HW l;omega
theorem W6 {l:List Tm}(h:YF l∧∀t∈l,okB t=true):∀x∈l,okB x=true∧size x<1000000:=fun x hx =>
 ⟨h.2 x hx,by have:=h.1.sz;have:=En hx;omega⟩
end Go.Eu
namespace Go.Proofs.YtboammbpdaoojaaGreat
open Go.Abs Go.Eu
theorem YB:∀(d:CK),(Nn d)→(0≤d.kind∧d.kind≤4)→GC Tryz.prog 133 [.agg ((Bk d).map .p)] (fun v=>∃bb:Bool,v= .p (.bool bb)∧(bb=true→Y4 d)):=by
 intro d h1 h2;refine A6 Tryz.func133 O mT (n:=87) O O (Az (BG O (BP O) fun b1=>As Ay 1 [] O (Au (BR [1] 3 (fun y=>y= .p (.bool ((((d.recs.params:Int)==(0:Int))&&(Nj d.recs.type Bi))&&(((d.recs.rules.length:Nat):Int)==(0:Int))))) ?_ ?_))))
 ·refine A4 (Ax Ay 2 [] O (Ar O (A3 (i:=0) DH O O (De _)) (Ax Ay 2 [] O (BL 9 O (fun g=>?_) (fun g=>?_)))))
  ·(try simp only[sd,se] at g);refine Ax Ay 2 [] O (BC O (By (i:=0) Ba O O (FC _) (BD _)) (BC O (BF O O (KJ d.recs.type (by first | exact h1.rt.nd | exact h1.vl.nd | exact h1.ty.nd)) O) (Ax Ay 2 [] O (BL 15 O (fun g1=>?_) (fun g1=>?_)))))
   ·(try simp only[sd,se] at g1);exact Ax Ay 2 [] O (BC O (A3 (i:=0) Gk O O (Ck _)) (BC O (BM Bf O (BS _)) (As Ay 3 [] O (⟨O,O,AK,AI,⟨O,Aq⟩⟩))))
   (try simp only[sd,se] at g1);exact As Ay 7 [] O (⟨O,O,AK,AI,⟨O,Aq⟩⟩)
  (try simp only[sd,se] at g);exact As Ay 13 [] O (⟨O,O,AK,AI,⟨O,Aq⟩⟩)
 rintro _ rfl;refine Au (BR [1] 4 (fun y=>y= .p (.bool ((((d.fixed:Int)==(0:Int))&&(((d.ctors.length:Nat):Int)==(0:Int)))&&((((d.recs.params:Int)==(0:Int))&&(Nj d.recs.type Bi))&&(((d.recs.rules.length:Nat):Int)==(0:Int)))))) ?_ ?_)
 ·refine A4 (Ar O (A0 Cy O O) (Ar O (A3 (i:=0) DH O O (Co _)) (Ax Ay 2 [] O (BL 25 O (fun g=>?_) (fun g=>?_)))))
  ·(try simp only[sd,se] at g);refine BC O (A0 Cy O O) (BC O (A3 (i:=0) Hl O O (CB _)) (BC O (BM HN O (List.length_map _)) (Ax Ay 3 [] O (BL 31 O (fun g1=>?_) (fun g1=>?_)))))
   ·(try simp only[sd,se] at g1);exact As Ay 3 [] O (⟨O,O,AK,AI,⟨O,Aq⟩⟩)
   (try simp only[sd,se] at g1);exact As Ay 3 [] O (⟨O,O,AK,AI,⟨O,Aq⟩⟩)
  (try simp only[sd,se] at g);exact As Ay 9 [] O (⟨O,O,AK,AI,⟨O,Aq⟩⟩)
 rintro _ rfl;refine Au (Az (Ar O (A0 Cy O O) (Ar O (A3 (i:=0) DH O O (D3 _)) (Bj O (BA (Av Ay 2 [] O (Aw O (fun c=>?_) (fun c=>?_))))))))
 ·(try simp only[sd,se] at c);refine Au (BR [] 2 (fun y=>y= .p (.bool (((Nj d.value Bi)&&((((d.fixed:Int)==(0:Int))&&(((d.ctors.length:Nat):Int)==(0:Int)))&&((((d.recs.params:Int)==(0:Int))&&(Nj d.recs.type Bi))&&(((d.recs.rules.length:Nat):Int)==(0:Int)))))&&(((d.funs.length:Nat):Int)==(0:Int))))) ?_ ?_)
  ·refine A4 (Ar O (A0 Cy O O) (Ar O (By (i:=0) Ba O O (FD _) (BD _)) (Ar O (BF O O (KJ d.value (by first | exact h1.rt.nd | exact h1.vl.nd | exact h1.ty.nd)) O) (Bt O (BL 41 O (fun g=>?_) (fun g=>?_))))))
   ·(try simp only[sd,se] at g);refine Ax Ay 3 [] O (BL 44 O (fun g1=>?_) (fun g1=>?_))
    ·(try simp only[sd,se] at g1);exact BC O (A0 Cy O O) (BC O (A3 (i:=0) Gj O O (B6 _)) (BC O (BM Gn O (List.length_map _)) (As Ay 3 [] O ⟨O,O,AK,AI,Aq⟩)))
    (try simp only[sd,se] at g1);exact As Ay 6 [] O ⟨O,O,AK,AI,Aq⟩
   (try simp only[sd,se] at g);exact As Ay 9 [] O ⟨O,O,AK,AI,Aq⟩
  rintro _ rfl;refine A1 (⟨O,_,_,⟨_,_,O,O,O⟩,(List.nil_sublist _),?_⟩)
  all_goals exact⟨⟨_,rfl,fun h=>by simp only[Bool.and_eq_true,beq_iff_eq,decide_eq_true_eq,IK] at h;refine⟨fun _ _=>?_,fun _=>⟨?_,?_⟩,fun _=>?_⟩<;>first | omega | (simp_all;done)⟩,rfl⟩
 (try simp only[sd,se] at c);refine Au (Av Ay 2 [] O (BR [1,4,35] 50 (fun y=>y= .p (.bool (decide (d.kind=1∨d.kind=2)))) ?_ ?_))
 ·refine Aw O (fun c1=>?_) (fun c1=>?_)
  ·(try simp only[sd,se] at c1);exact A2 (⟨O,O,(List.Sublist.refl _),(by refine pB (Bool.eq_iff_iff.2 ?_);simp only[beq_iff_eq,decide_eq_true_eq];omega),⟨O,O,O,Aq⟩⟩)
  (try simp only[sd,se] at c1);exact A4 (As Ay 2 [] O (⟨O,O,(List.Sublist.refl _),(by refine pB (Bool.eq_iff_iff.2 ?_);simp only[beq_iff_eq,decide_eq_true_eq];omega),⟨O,O,O,Aq⟩⟩))
 rintro _ rfl;refine Aw O (fun c1=>?_) (fun c1=>?_)
 ·(try simp only[sd,se] at c1);refine Au (BR [] 2 (fun y=>y= .p (.bool (((((d.fixed:Int)==(0:Int))&&(((d.ctors.length:Nat):Int)==(0:Int)))&&((((d.recs.params:Int)==(0:Int))&&(Nj d.recs.type Bi))&&(((d.recs.rules.length:Nat):Int)==(0:Int))))&&(((d.funs.length:Nat):Int)==(0:Int))))) ?_ ?_)
  ·refine A4 (Ax Ay 2 [] O (BL 54 O (fun g=>?_) (fun g=>?_)))
   ·(try simp only[sd,se] at g);exact BC O (A0 Cy O O) (BC O (A3 (i:=0) Gj O O (B6 _)) (BC O (BM Gn O (List.length_map _)) (As Ay 3 [] O ⟨O,O,AK,AI,Aq⟩)))
   (try simp only[sd,se] at g);exact As Ay 6 [] O ⟨O,O,AK,AI,Aq⟩
  rintro _ rfl;refine A1 (⟨O,_,_,⟨_,_,O,O,O⟩,(List.nil_sublist _),?_⟩)
  all_goals exact⟨⟨_,rfl,fun h=>by simp only[Bool.and_eq_true,beq_iff_eq,decide_eq_true_eq,IK] at h;refine⟨fun _ _=>?_,fun _=>⟨?_,?_⟩,fun _=>?_⟩<;>first | omega | (simp_all;done)⟩,rfl⟩
 (try simp only[sd,se] at c1);refine Av Ay 2 [] O (Aw O (fun c2=>?_) (fun c2=>?_))
 ·(try simp only[sd,se] at c2);refine Au (BR [] 2 (fun y=>y= .p (.bool ((Nj d.value Bi)&&(((d.funs.length:Nat):Int)==(0:Int))))) ?_ ?_)
  ·refine A4 (Ar O (A0 Cy O O) (Ar O (By (i:=0) Ba O O (FD _) (BD _)) (Ar O (BF O O (KJ d.value (by first | exact h1.rt.nd | exact h1.vl.nd | exact h1.ty.nd)) O) (Bt O (BL 65 O (fun g=>?_) (fun g=>?_))))))
   ·(try simp only[sd,se] at g);exact BC O (A0 Cy O O) (BC O (A3 (i:=0) Gj O O (B6 _)) (BC O (BM Gn O (List.length_map _)) (As Ay 3 [] O ⟨O,O,AK,AI,Aq⟩)))
   (try simp only[sd,se] at g);exact As Ay 6 [] O ⟨O,O,AK,AI,Aq⟩
  rintro _ rfl;refine A1 (⟨O,_,_,⟨_,_,O,O,O⟩,(List.nil_sublist _),?_⟩)
  all_goals exact⟨⟨_,rfl,fun h=>by simp only[Bool.and_eq_true,beq_iff_eq,decide_eq_true_eq,IK] at h;refine⟨fun _ _=>?_,fun _=>⟨?_,?_⟩,fun _=>?_⟩<;>first | omega | (simp_all;done)⟩,rfl⟩
 (try simp only[sd,se] at c2);refine A2 (Au (BR [] 2 (fun y=>∃q:Bool,y= .p (.bool q)∧(q=true→Nj d.value Bi=true∧d.fixed=0∧d.recs.rules.length=0)) ?_ ?_))
 ·refine A4 (Ar O (A0 Cy O O) (Ar O (A3 (i:=0) Lu O O (DP _)) (Ar O (F7 O O) (Bt O (BL 74 O (fun g=>?_) (fun g=>?_))))))
  ·(try simp only[sd,se] at g);refine BC O (A0 Cy O O) (BC O (By (i:=0) Ba O O (E6 _) (BD _)) (BC O (BF O O (KJ d.type (by first | exact h1.rt.nd | exact h1.vl.nd | exact h1.ty.nd)) O) (Ax Ay 2 [] O (BL 79 O (fun g1=>?_) (fun g1=>?_)))))
   ·(try simp only[sd,se] at g1);refine BC O (A0 Cy O O) (BC O (By (i:=0) Ba O O (FD _) (BD _)) (BC O (BF O O (KJ d.value (by first | exact h1.rt.nd | exact h1.vl.nd | exact h1.ty.nd)) O) (Ax Ay 2 [] O (BL 84 O (fun g2=>?_) (fun g2=>?_)))))
    ·(try simp only[sd,se] at g2);refine As Ay 3 [] O ?_;exact⟨rfl,rfl,AK,(by refine⟨_,rfl,fun h=>?_⟩;first | (exact absurd h An) | (refine⟨by simpa using Al,?_,?_⟩<;>(simp only[Bool.and_eq_true,beq_iff_eq,decide_eq_true_eq] at h;omega))),trivial⟩
    (try simp only[sd,se] at g2);refine As Ay 3 [] O ?_;exact⟨rfl,rfl,AK,(by refine⟨_,rfl,fun h=>?_⟩;first | (exact absurd h An) | (refine⟨by simpa using Al,?_,?_⟩<;>(simp only[Bool.and_eq_true,beq_iff_eq,decide_eq_true_eq] at h;omega))),trivial⟩
   (try simp only[sd,se] at g1);refine As Ay 8 [] O ?_;exact⟨rfl,rfl,AK,(by refine⟨_,rfl,fun h=>?_⟩;first | (exact absurd h An) | (refine⟨by simpa using Al,?_,?_⟩<;>(simp only[Bool.and_eq_true,beq_iff_eq,decide_eq_true_eq] at h;omega))),trivial⟩
  (try simp only[sd,se] at g);refine As Ay 13 [] O ?_;exact⟨rfl,rfl,AK,(by refine⟨_,rfl,fun h=>?_⟩;first | (exact absurd h An) | (refine⟨by simpa using Al,?_,?_⟩<;>(simp only[Bool.and_eq_true,beq_iff_eq,decide_eq_true_eq] at h;omega))),trivial⟩
 rintro _ ⟨q,rfl,hq⟩;refine A1 (⟨O,_,_,⟨_,_,O,O,O⟩,(List.nil_sublist _),?_⟩)
 all_goals exact⟨⟨_,rfl,fun h=>by obtain⟨q1,q2,q3⟩:=hq h;rw[IK] at q1;exact⟨fun _ _=>q1,fun _=>⟨q3,q2⟩,fun _=>by omega⟩⟩,rfl⟩
theorem P2:∀(t:Tm),(US t)→GC Tryz.prog 171 [.agg ((BO t).map .p)] (fun v=>∃e:Int,v= .p (I e)∧0≤e∧e≤size t):=by
 intro t h1;have hsz:=h1.sz;refine A6 Tryz.func171 O oX (n:=20) O O (Az (BG O (BP O) fun b1=>As Ay 1 [] O (Av Ay 1 [] O (Au (BA ?_)))));refine Be (α:=Tm×Int) (fun(y,m)=>⟨20,mk [(1,.ptr b1 0),(3,.p (I m))],[.box b1 ((BO y).map .p)],[]⟩) (fun(y,m)=>size y) (fun(y,m)=>Nd y∧0≤m∧m+size y≤size t) ⟨t,0⟩ (⟨h1.nd,by omega,by omega⟩) ?_ ?_
 ·exact BY ⟨we O,we O,Aq⟩ (leH (is:=[0]) O (wl (oe O) (C7)))
 rintro⟨y,m⟩ hC
 try simp only at hC
 obtain⟨hC,hm0,hm1⟩:=hC;refine Au (Au ?_);obtain⟨yk,yi,yn,yl,ys⟩:=y;refine BR [1,3] 12 (fun y=>y= .p (.bool (((yk:Int)==(6:Int))&&(((ys.length:Nat):Int)==(2:Int))))) ?_ ?_
 ·refine A4 (Ax Ay 4 [0] O (BL 7 O (fun g=>?_) (fun g=>?_)))
  ·(try simp only[sd,se] at g);exact Ax Ay 2 [0] O (BC O (BM Bf O (BS _)) (As Ay 2 [] O (⟨O,O,AK,AI,⟨O,O,Aq⟩⟩)))
  (try simp only[sd,se] at g);exact As Ay 5 [] O (⟨O,O,AK,AI,⟨O,O,Aq⟩⟩)
 rintro _ rfl;refine Aw O (fun c=>?_) (fun c=>?_)
 ·(try simp only[sd,se] at c);refine A2 (BA (Av Ay 3 [] O (A4 (Ax Ay 2 [0] O ?_))));obtain⟨x,hx⟩:=A7 (l:=ys) (i:=1) (by first | omega | (simp at c;omega));refine Ar O (A5 Bf O O Ao (Bc hx) (BD _)) (As Ay 2 [0,1] O ?_);refine⟨⟨x,(m:Int)+(1:Int)⟩,(by have:=Ce hx;simp only[size];omega),⟨DW hC.2.2.2.2.1 hx,by omega,by have:=Ce hx;simp only[size] at hm1;omega⟩,BY ⟨we rfl,we rfl,trivial⟩ (leH (is:=[0]) rfl (wl (oe rfl) (C7)))⟩
 (try simp only[sd,se] at c);refine Bg (Av Ay 2 [] O (A1 (⟨O,_,_,⟨_,_,O,O,O⟩,(List.nil_sublist _),?_⟩)))
 all_goals exact⟨⟨_,rfl,by omega,by simp only[size] at hm1;omega⟩,rfl⟩
theorem Ss:∀(d:CK),(Nn d)→GC Tryz.prog 150 [.agg ((Bk d).map .p)] (fun v=>∃bb:Bool,v= .p (.bool bb)∧(bb=true→d.fixed≤1000000)):=by
 intro d h1;have hcl:=h1.cl;have hts:=h1.ty.sz;refine A6 Tryz.func150 O nG (n:=32) O O (Az (BG O (BP O) fun b1=>As Ay 1 [] O (Au (Bu (fun k=>Nat.beq k 2) Dt (BH O (fun _=>A0 Cy O O) Aq (CX (j:=0) O O O (fun H i hi=>By (i:=i) Ba O hi (E6 _) (BD _)) AB Aq ?_))))));refine J3 [(3,.free (.ptr b1 13)),(4,.read [.box b1 ((Bk d).map .p)] (.p (I d.fixed)))] O O (CC O O (P2 d.type h1.ty) (.inl O)) Ak (⟨_,0,O,by omega,by omega⟩) AB ?_;rintro _ ⟨e,rfl,he0,he1⟩;refine⟨Aq,?_⟩;refine BQ Ay 1 [] O (CX (j:=0) O O O (fun H i hi=>A3 (i:=i) DH O hi (Co _)) AB AN (Bn Ay 2 [] O (Au (Av Ay 1 [] O (BA ?_)))));refine Be (α:=Nat×Bool) (fun(i,b)=>⟨32,mk [(1,.ptr b1 0),(3,.p (.bool b)),(4,.p (I (i:Int)))],[.box b1 ((Bk d).map .p)],[]⟩) (fun(i,b)=>d.ctors.length - i) (fun(i,b)=>i≤d.ctors.length∧(b=true→d.fixed≤1000000)) ⟨0,(decide ((e:Int)≥(d.fixed:Int)))⟩ (⟨by omega,fun h=>by simp only[decide_eq_true_eq] at h;omega⟩) ?_ ?_
 ·exact BY ⟨we O,we O,we O,Aq⟩ (leH (is:=[0]) O (wl (oe O) (C7)))
 rintro⟨i,b⟩ hC
 try simp only at hC
 obtain⟨hi,hC⟩:=hC;refine Au (Az (Ax Ay 2 [] O (Ar O (A3 (i:=0) Hl O O (CB _)) (Ar O (BM HN O (List.length_map _)) (As Ay 1 [] O (Aw O (fun c=>?_) (fun c=>?_)))))))
 ·(try simp only[sd,se] at c);refine A2 (Au (BA (BR [1,4] 3 (fun y=>∃q:Bool,y= .p (.bool q)∧(q=true→b=true)) ?_ ?_)))
  ·refine Bu (fun k=>Nat.beq k 8) Dt (BQ Ay 2 [] O (Dx 19 O (fun g=>?_) (fun g=>?_)))
   ·(try simp only[sd,se] at g);refine Cc O (fun _=>A0 Cy O O) Aq (Lo (i:=0) O O O O O (fun H i hi=>A3 (i:=i) Hl O hi (CB _)) AB Aq (Cc O (fun _=>BZ O) Aq ?_));obtain⟨x,hx⟩:=A7 (l:=d.ctors) (i:=i) Ao;refine Cc O (fun _=>A5 HN O O Ao (EX hx) (D8 _)) Aq (Cc O (fun _=>Bv Ir O O) Aq (Cc O (fun _=>DA Ba O (FA _) (BD _)) Aq ?_));refine gq [(9,.free (.ptr b1 13)),(10,.read [.box b1 ((Bk d).map .p)] (.p (I d.fixed)))] O O O O (CC O O (P2 x.type (h1.cs _ (List.mem_of_getElem? hx)).ty) (.inl O)) Ak (⟨_,0,O,by omega,by omega⟩) AB ?_;rintro _ ⟨e1,rfl,he01,he11⟩;refine⟨Aq,?_⟩;exact BQ Ay 1 [] O (Lo (i:=0) O O O O O (fun H i hi=>A3 (i:=i) DH O hi (Co _)) AB AN (Bn Ay 3 [] O (⟨O,O,AK,(by refine⟨_,rfl,fun h=>?_⟩;first | (exact absurd h An) | assumption),⟨O,O,Aq⟩⟩)))
   (try simp only[sd,se] at g);exact BQ Ay 6 [] O (fO O O O O AN (Bn Ay 5 [] O (⟨O,O,AK,(by refine⟨_,rfl,fun h=>?_⟩;first | (exact absurd h An) | assumption),⟨O,O,Aq⟩⟩)))
  rintro _ ⟨q,rfl,hq⟩;refine A4 (As Ay 3 [] O (⟨⟨i+1,q⟩,AU,⟨by omega,fun h=>hC (hq h)⟩,BY ⟨we rfl,we rfl,we rfl,trivial⟩ (leH (is:=[0]) rfl (wl (oe rfl) (C7)))⟩))
 (try simp only[sd,se] at c);refine Bg (Av Ay 2 [] O (A1 (⟨O,_,_,⟨_,_,O,O,O⟩,(List.nil_sublist _),?_⟩)))
 all_goals exact⟨⟨_,rfl,hC⟩,rfl⟩
end Go.Proofs.YtboammbpdaoojaaGreat
