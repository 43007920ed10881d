/- Part of the proofs: an abstract program logic, plain models and contracts of functions. -/
import Derived.Test.YtboammbpdaoojaaGreatPh
import Derived.Test.YtboammbpdaoojaaGreatPd
import Derived.Test.YtboammbpdaoojaaGreatPb
import Derived.Test.YtboammbpdaoojaaGreatPg
set_option linter.unusedVariables false
set_option linter.unusedSimpArgs false
set_option maxRecDepth 100000
namespace Go.Eu
open Go.Abs
section
variable {E:List CH}
def LW (W:Int→Tm→Out (Tm×Int)):Prop:=∀l t r l' k,0≤k→W l t= .ok (r,l')→W (l+k) t= .ok (r,l'+k)
structure Exit (E:List CH) (n:Nat) (l:Int) (a:Tm) (l':Int):Prop where
 many:B1.many (BA a).2.length=false
 lam:(BA a).1.kind=5→(BA a).2.length=0
 lt:(BA a).1.kind≠11
 proj:(BA a).1.kind=9∨(BA a).1.kind=10→∃p,(BA a).1=Ip (BA a).1.kind p∧okB p=true∧p.kind≠8∧EA E B1 n l p= .ok (p,l')∧a=apply (BA a).1 (BA a).2
 con:(BA a).1.kind=3→EU E B1 (EA E B1 n) n (BA a).1 (BA a).2 l= .ok (none,l')
 oth:(BA a).1.kind≠9→(BA a).1.kind≠10→(BA a).1.kind≠3→l'=l
end
def lA {α:Type}:Out α→Int
 | .ok _=>0
 | _=>11
def kc {α:Type}(z:α):Out (α×Int)→α
 | .ok (a,_)=>a
 | _=>z
section
variable {α:Type}{o:Out (α×Int)}{a:α×Int}{z:α}{e:Int}
theorem l4 (h:o.ex= .ok a):lA o=0:=by rw[HJ h];rfl
theorem mP (h:o.ex= .error e):lA o=11:=by cases o<;>first | rfl | cases h
theorem lG (h:o.ex= .ok a):kc z o=a.1:=by rw[HJ h];rfl
theorem kz (h:o.ex= .error e):kc z o=z:=by cases o<;>first | rfl | cases h
end
theorem Ko:Gg 20000:=⟨by omega,by omega⟩
end Go.Eu
namespace Go.Proofs.YtboammbpdaoojaaGreat
open Go.Abs Go.Eu
theorem cr:∀(ds:List CH) (N m bt bo:Nat) (t:Tm) (s:Int),(Gh ds)→(Gg s)→(EA ds B1 N s t≠ .stuck)→Bo Tryz.prog 38 [.ptr m 0,.ptr bt 0,.ptr bo 0] [.box m [.p (.lst (List.map Bh ds)),.p (I s)],.box bt ((BO t).map .p),.box bo [.p (I 0),.p (I 0),.p (.str ⟨#[]⟩),.p (.nils),.p (.nils)]] (Km (fun(r:Tm×Int)=> .tup []) (fun _=> .p (.iface 122 .unit)) (fun r H'=>H'=[.box m [.p (.lst (List.map Bh ds)),.p (I r.2)],.box bt ((BO t).map .p),.box bo ((BO r.1).map .p)]) ((EA ds B1 N s t).ex)):=by
 intro ds N m bt bo t s h1 h2 h3;refine A5 Tryz.func38 O qk (n:=7) O O (A2 (Ax Ay 2 [1] O (De [0] O O O (.inl ⟨O,O,O⟩) (MA ds h1 N m t s h2 h3) ⟨_,_,O,O,O⟩ Am (aw (we O) (aw (we O) (Eo))) (fun _ _ h=>(congrArg List.length h).trans O) ?_ ?_)))
 rotate_left
 ·intro e _ he;exact⟨O,_,List.nil_sublist _,⟨_,he,O⟩⟩
 rintro⟨z,n2⟩ _ hz rfl;refine Ar Ay 1 [2,1] O ⟨O,_,_,O,(B4 (is:=[0,1,2]) O),?_⟩;exact⟨⟨z,n2⟩,hz,O,O⟩
theorem UN:∀(ds:List CH) (N:Nat) (t:Tm),(Gh ds)→(EA ds B1 N 20000 t≠ .stuck)→EZ Tryz.prog 12 [.p (.lst (List.map Bh ds)),.agg ((BO t).map .p)] (.tup [.agg ((BO (kc Bc (EA ds B1 N 20000 t))).map .p),.p (I (lA (EA ds B1 N 20000 t)))]):=by
 intro ds N t h1 h2;refine A5 Tryz.func12 O sc (n:=16) O O (Aw (BF O (BN O) fun b3=>BF O (A7 Bw O) fun b4=>Ar Ay 1 [] O (Aw (BF O (A7 Bw O) fun b6=>Bg O (As ?_)))));obtain⟨e,he⟩ | ⟨⟨z,n2⟩,ha⟩:=FK ((EA ds B1 N 20000 t).ex)
 ·refine A2 (Ax Ay 2 [] O (QW [2,0] O O O (.inl ⟨O,O,O⟩) (O0 _ _ he (fun r=>r.2) (fun r=>[.box b3 ((BO t).map .p),.box b6 ((BO r.1).map .p)]) 38 [.ptr b3 0,.ptr b6 0] [.box b3 ((BO t).map .p),.box b6 [.p (I 0),.p (I 0),.p (.str ⟨#[]⟩),.p (.nils),.p (.nils)]] ds (fun m=>cr ds N m b3 b6 t 20000 h1 Ko h2)) ⟨_,_,O,O,⟨_,_,O,O,O⟩⟩ Am (DF _) (Ar Ay 1 [] O (As (Au Ay 2 [] O ?_)))));refine Av O (fun c=>?_) (fun c=>by cases c);refine Au Ay 4 [0,0] O (BH (BR (i:=0) O) (Az (⟨O,_,_,⟨_,_,O,(A9 (i:=0) BY O O O),⟨_,_,O,O,O⟩⟩,(List.nil_sublist _),?_⟩)))
  all_goals exact⟨by show (.tup [.agg [.p (I 0),.p (I 0),.p (.str ⟨#[]⟩),.p (.lst []),.p (.lst [])],.p (I 11)]:AV)=_;rw[kz he,mP he];rfl,rfl⟩
 refine A2 (Ax Ay 2 [] O (Aq O (B9 [2,0] O (.inl ⟨O,O,O⟩) (Qi _ _ ha (fun r=>r.2) (fun r=>[.box b3 ((BO t).map .p),.box b6 ((BO r.1).map .p)]) 38 [.ptr b3 0,.ptr b6 0] [.box b3 ((BO t).map .p),.box b6 [.p (I 0),.p (I 0),.p (.str ⟨#[]⟩),.p (.nils),.p (.nils)]] ds (fun m=>cr ds N m b3 b6 t 20000 h1 Ko h2)) ⟨_,_,O,O,⟨_,_,O,O,O⟩⟩ Am O (.inl O)) (Ar Ay 1 [] O (As (Au Ay 2 [] O ?_)))));refine Av O (fun c=>by cases c) (fun c=>?_);refine A1 (Au Ay 3 [0,1,1] O (Az (⟨O,_,_,⟨_,_,O,(A9 (i:=1) BY O O Ag),⟨_,_,O,O,O⟩⟩,(List.nil_sublist _),?_⟩)))
 all_goals exact⟨by show (.tup [.agg ((BO z).map .p),.p (I 0)]:AV)=_;rw[lG ha,l4 ha],rfl⟩
end Go.Proofs.YtboammbpdaoojaaGreat
namespace Go.Eu
open Go.Abs
def FM (p:Int×List Int):List PV:=[I p.1,.lst (p.2.map Gl)]
theorem jQ (p:Int×List Int):EG 2 (FM p):=⟨rfl,by simp[FM]⟩
theorem Sw (l:List (Int×List Int)):∀r∈l.map FM,EG 2 r:=GV jQ l
theorem U9 {t x z:Tm}{ps:List Int}{p:Int}(h:Ju t ps x=some z) (hp:ps[0]?=some p):p.toNat<(BA t).2.length:=by
 cases ps with
 | nil=>simp at hp
 | cons q qs =>
  simp at hp;subst hp;rw[Ju] at h;rcases Nat.lt_or_ge q.toNat (BA t).2.length with hl | hl
  ·exact hl
  rw[List.getElem?_eq_none hl] at h;cases h
theorem aG {t x z y:Tm}{ps:List Int}{p:Int}(h:Ju t ps x=some z) (hp:ps[0]?=some p) (hy:(BA t).2[p.toNat]?=some y):∃w,Ju y (ps.drop 1) x=some w∧apply (BA t).1 ((BA t).2.set p.toNat w)=z:=by
 cases ps with
 | nil=>simp at hp
 | cons q qs =>
  simp at hp;subst hp;rw[Ju,hy] at h;simp only[Option.map_eq_some_iff] at h;obtain⟨w,h1,h2⟩:=h;exact⟨w,h1,h2⟩
theorem dR {t x z:Tm}{ps:List Int}(h:Ju t ps x=some z) (hp:ps.length=0):x=z:=by
 cases ps with
 | nil=>rw[Ju] at h;cases h;rfl
 | cons q qs=>simp at hp
theorem Z2 {t x z:Tm}{ps:List Int}(h:Ju t ps x=some z) (hp:ps.length≠0):0<(BA t).2.length:=by
 cases ps with
 | nil=>simp at hp
 | cons q qs=>have:=U9 (p:=q) h rfl;omega
end Go.Eu
namespace Go.Proofs.YtboammbpdaoojaaGreat
open Go.Abs Go.Eu
theorem fY:∀(l:List Int),(l.length<549755813888)→Bo Tryz.prog 143 [.p (.lst (List.map Gl l))] [] (bJ (fun v=>v) 1 (List.map Gl l)):=by
 intro l h1;refine A5 Tryz.func143 O nR (n:=8) O O (Au Ay 1 [] O (As (Aw (Bq O (Ds O O (M0 Hh O O) ?_)))));rintro _ ⟨q,rfl,hq⟩;refine Bg O (Av O (fun c=>?_) (fun c=>?_))
 ·(try simp only[sd,se] at c);refine Au Ay 1 [] O (BH (D4 (t:=2) (sz:=1) O) (Az (⟨O,_,_,⟨_,_,O,O,O⟩,(B4 (is:=[0]) O),?_⟩)));rw[show l=[] by simpa using hq c]
  all_goals exact⟨_,_,rfl,rfl⟩
 (try simp only[sd,se] at c);refine A1 (Aw (R4 O O (LU Hh) fun b5 cp=>Bq O (Er O O (CK (i:=0) (rows':=List.map Gl l) Hh Hh jJ O O O O O O (PD _) (by simp only[List.length_map,List.length_nil];omega) (F3 (f:=Gl) [] l)) fun o cp1=>Ar Ay 1 [] O (Az (⟨O,_,_,⟨_,_,O,O,O⟩,(B4 (is:=[0]) O),?_⟩)))))
 all_goals exact⟨_,_,rfl,rfl⟩
theorem _root_.Go.AS {α:Prop}(h:α:=by simp only[Dc,List.length_set];omega):α:=h
theorem ik:∀(n:Nat) (ps:List Int) (t x z:Tm),(ps.length≤n)→(okB t=true)→(∀p∈ps,0≤p)→(ps.length<1000000)→(Ju t ps x=some z)→EZ Tryz.prog 142 [.agg ((BO t).map .p),.p (.lst (List.map Gl ps)),.agg ((BO x).map .p)] (.agg ((BO z).map .p)):=by
 intro n
 induction n using Nat.strongRecOn with
 | ind n ih =>
  intro ps t x z h0 h1 h3 h4 h5;have hsp:=WV h1;have hsl:=hsp.len;have hss:=hsp.sz;refine A5 Tryz.func142 O ni (n:=39) O O (Aw (BF O (BN O) fun b3=>BF O (BN O) fun b5=>BF O (A7 Bw O) fun b6=>Bg O (As (Aw (Bq O (Aq O (BK Hh O (List.length_map _)) (Ar Ay 1 [] O (Av O (fun c=>?_) (fun c=>?_)))))))))
  ·(try simp only[sd,se] at c);refine Au Ay 2 [1,0,1] O (Az (⟨O,_,_,⟨_,_,O,(A9 (i:=0) BY O O Ag),O⟩,(List.nil_sublist _),?_⟩))
   all_goals exact⟨by show (.agg ((BO x).map .p):AV)=_;rw[dR h5 An],rfl⟩
  (try simp only[sd,se] at c);refine A1 (Aw (Aq O (BT (i:=2) BY O O Ag) (Aq O (BC O O (ML t hsp.nd AZ) O) (Ax Ay 3 [] O (BF O (A7 Bw O) fun b7=>Ar Ay 2 [0,1] O (Aw (Bq O (Nl O O O (.inl ⟨O,O,O⟩) (Kb ((BA t).2) hsp.len) (.inl O) fun o cp=>Ar Ay 1 [] O (As (Lp (i:=0) O (by have hxl:=Z2 h5 An;rw[BQ];omega) fun b hb=>?_))))))))));subst hb;refine Bt (fun k=>false) Dn (BP Ay 2 [] O ?_);obtain⟨x1,hx1⟩:=A6 (l:=ps) (i:=0) An;have hx0:=h3 _ (List.mem_of_getElem? hx1);have hxl:=U9 h5 hx1;refine BG O (fun _=>A4 Hh O O An (Lv hx1) (O)) Ap (BP Ay 3 [] O (BG O (fun _=>A4 Hh O O An (Lv hx1) (O)) Ap (BG O (fun _=>E8 DN O) Ap (BG O (fun _=>Cv Be O O An AX) Ap ?_))));obtain⟨y,hy⟩:=A6 (l:=((BA t).2)) (i:=(x1:Int).toNat) (by first | omega | assumption);refine CU (j:=0) O O O (fun H i hi=>Ef (i:=i) BY O hi (Bd hy)) AB Ap (BG O (fun _=>BZ O) Ap (BG O (fun _=>CY (lo:=1) Hh O (CF (PD _)) ⟨_,O⟩ O AQ (Nat.le_refl _) (l5 (f:=Gl) ps 1)) Ap (BP Ay 1 [3] O ?_)));obtain⟨z1,e1,e2⟩:=aG h5 hx1 hy;refine BG rfl (fun _=>BC rfl rfl (ih (n - 1) An (ps.drop 1) y x z1 (by simp only[List.length_drop];omega) (hsp.args _ (List.mem_of_getElem? hy)) (fun p hp=>h3 p (List.mem_of_mem_drop hp)) (by simp only[List.length_drop];omega) e1) rfl) trivial (BG O (fun _=>Cv Be O O An AX) Ap (F9 O O (EJ (i:=0) (j:=((x1:Int).toNat)) BY O O O AX O (KV _) (BD _) (FP _) (Ss ((BA t).2) ((x1:Int).toNat) z1)) AB Ap (JJ O Aj (Aw (Ax Ay 2 [1] O (B2 (C5 (t:=20) (x:= .vs (some b) (BE ((((BA t).2)).set ((x1:Int).toNat) z1)).length cp) (DL ((BA t).2) (l':=(((BA t).2)).set ((x1:Int).toNat) z1) Ao)) ?_))))));refine B2 (C5 (t:=9) (x:= .vs (some b) (BE ((((BA t).2)).set ((x1:Int).toNat) z1)).length cp) (DL ((BA t).2) (l':=(((BA t).2)).set ((x1:Int).toNat) z1) Ao)) (B2 (C5 (t:=21) (x:= .vs (some b) (BE ((((BA t).2)).set ((x1:Int).toNat) z1)).length cp) (DL ((BA t).2) (l':=(((BA t).2)).set ((x1:Int).toNat) z1) Ao)) (B2 (C5 (t:=25) (x:= .vs (some b) (BE ((((BA t).2)).set ((x1:Int).toNat) z1)).length cp) (DL ((BA t).2) (l':=(((BA t).2)).set ((x1:Int).toNat) z1) Ao)) (B2 (C5 (t:=37) (x:= .vs (some b) (BE ((((BA t).2)).set ((x1:Int).toNat) z1)).length cp) (DL ((BA t).2) (l':=(((BA t).2)).set ((x1:Int).toNat) z1) Ao)) (B2 (Ce (i:=0) [20,9,21,25,37] O (Dx ⟨O,O,O,O,O,Ap⟩)) ?_))))
  refine Aq O (BC O O (EL ((BA t).1) ((((BA t).2)).set ((x1:Int).toNat) z1) AS) O) (Ar Ay 1 [1,1] O (Az (⟨O,_,_,⟨_,_,O,(A9 (i:=1) BY O O Ag),O⟩,(List.nil_sublist _),?_⟩)))
  all_goals exact⟨by show (.agg ((BO (apply ((BA t).1) ((((BA t).2)).set ((x1:Int).toNat) z1))).map .p):AV)=_;rw[e2],rfl⟩
end Go.Proofs.YtboammbpdaoojaaGreat
namespace Go.Eu
open Go.Abs
def UC (n:Nat):List (Int×List Int):=(List.range n).map fun i:Nat=>((i:Int),[])
theorem VV (n:Nat):UC (n+1)=UC n++[((n:Int),[])]:=by simp[UC,List.range_succ]
theorem Qk (n:Nat):(UC n).length=n:=by simp[UC]
theorem N7 (a:Int×List Int) (fx:Int):Ea a fx 0=[]:=rfl
theorem OE (a:Int×List Int) (fx:Int) (n:Nat):Ea a fx (n+1)=Ea a fx n++[(a.1,a.2++[fx+(n:Int)])]:=by simp[Ea,List.range_succ]
theorem Ro {α:Type}{l:List α}{i:Nat}{x:α}(h:l[i]?=some x):l.take (i+1)=l.take i++[x]:=by rw[List.take_add_one,h];rfl
theorem WT {α:Type}{l:List α}{i:Nat}(h:l.length≤i):l.take i=l:=List.take_of_length_le h
theorem Ni {w:Es}(h:FC w):okB w.body=true:=by
 obtain⟨k,b,v,l⟩:=w;simp only[FC] at h;exact h.1
structure hG (a us:List Tm) (pl:List (Int×List Int)) (w:Es):Prop where
 ok:du a us pl
 nn:∀p∈pl,0≤p.1∧(∀q∈p.2,0≤q)∧p.2.length+Dl w≤1000
theorem hG.len {a us:List Tm}{pl:List (Int×List Int)}{w:Es}(h:hG a us pl w):pl.length=us.length:=h.ok.len
theorem ey (a:List Tm) (n:Nat) (w:Es) (hn:n≤a.length) (hd:Dl w≤1000):hG a (a.take n) (UC n) w:=by
 refine⟨aT a n hn,fun p hp=>?_⟩;obtain⟨i,_,rfl⟩:=List.mem_map.1 hp;exact⟨by simp,by simp,by simp;omega⟩
theorem hG.next {E:List CH}{a us f:List Tm}{pl:List (Int×List Int)}{w q:Es}(h:hG a us pl w) (hE:Je E) {i:Nat}{v:Tm}{p:Int×List Int}{d:CH}{j:Int}{nm:ByteArray}(hv:us[i]?=some v) (hp:pl[i]?=some p) (hc:DD E v=some (d,j,f)) (hb:Cp nm w.branches=some q) (ho:FC w):hG a (us++f) (pl++Ea p d.fixed f.length) q:=by
 have hcf:=Fi hc;obtain⟨b1,b2⟩:=XN hb ho;have hfx:=(hE.all d hcf.mem).fx.1;have hmore:=h.ok.more hv hp hfx;rw[←hcf.fs] at hmore;obtain⟨n1,n2,n3⟩:=h.nn p (List.mem_of_getElem? hp);refine⟨hmore,fun r hr=>?_⟩;rcases List.mem_append.1 hr with hr | hr
 ·obtain⟨m1,m2,m3⟩:=h.nn r hr;exact⟨m1,m2,by omega⟩
 obtain⟨k,_,rfl⟩:=List.mem_map.1 hr;refine⟨n1,fun q hq=>?_,by simp only[List.length_append,List.length_cons,List.length_nil];omega⟩;rcases List.mem_append.1 hq with hq | hq
 ·exact n2 q hq
 have:=List.mem_singleton.1 hq;omega
theorem hG.at_ {a us:List Tm}{pl:List (Int×List Int)}{w:Es}(h:hG a us pl w) {i:Nat}{v:Tm}{p:Int×List Int}(hv:us[i]?=some v) (hp:pl[i]?=some p):0≤p.1∧(∀q∈p.2,0≤q)∧p.2.length≤1000∧p.1.toNat<a.length:=by
 obtain⟨n1,n2,n3⟩:=h.nn p (List.mem_of_getElem? hp);obtain⟨j,path,y,h1,h2,h3⟩:=h.ok.at_ i v hv;rw[hp] at h1;cases h1;exact⟨n1,n2,by omega,(List.getElem?_eq_some_iff.1 h2).1⟩
section
variable {E:List CH}{σ:Type}{S:Sys σ}{T:σ→Tm→Out (Option Tm×σ)}{h:Tm}{ar:Int}{a us:List Tm}{n:Nat}{t:Es}{pl:List (Int×List Int)}{s:σ}{x:Tm}{p:Int×List Int}
def cH (h:Tm) (a:List Tm) (p:Int×List Int) (r:Option Tm×σ):Out (Option Tm×σ):=match r.1 with
 | none=> .ok (none,r.2)
 | some x=>match Ju (a.getD p.1.toNat default) p.2 x with
  | none=> .stuck
  | some y=> .ok (some (apply h (a.set p.1.toNat y)),r.2)
theorem eo {X:Out (Option Tm×σ)}(e:J9 E S T h ar a n t us pl s=X) (hX:X≠ .stuck):∃k,n=k+1:=by
 cases n with
 | zero=>rw[J9] at e;exact absurd e.symm hX
 | succ k=>exact⟨k,rfl⟩
theorem bg (hk:t.kind≠1):J9 E S T h ar a (n+1) t us pl s=HM S h t.body us (a.drop ar.toNat) s:=by rw[J9,if_neg hk]
theorem gg (hk:t.kind=1) (hb:t.var<0∨t.var≥(us.length:Int)):J9 E S T h ar a (n+1) t us pl s= .ok (none,s):=by rw[J9,if_pos hk,if_pos hb]
theorem cJ (hk:t.kind=1) (hb:¬(t.var<0∨t.var≥(us.length:Int))) (hx:us[t.var.toNat]?=some x) (hp:pl[t.var.toNat]?=some p) (hc:DD E x=none):J9 E S T h ar a (n+1) t us pl s=(T s x).bind (cH h a p):=by
 rw[J9,if_pos hk,if_neg hb,CW hx,CW hp,hc];rfl
theorem lR {d:CH}{j:Int}{f:List Tm}(hk:t.kind=1) (hb:¬(t.var<0∨t.var≥(us.length:Int))) (hx:us[t.var.toNat]?=some x) (hp:pl[t.var.toNat]?=some p) (hc:DD E x=some (d,j,f)) (hbr:Cp (En d j).name t.branches=none):J9 E S T h ar a (n+1) t us pl s= .ok (none,s):=by
 rw[J9,if_pos hk,if_neg hb,CW hx,CW hp,hc];simp only[hbr]
theorem ld {d:CH}{j:Int}{f:List Tm}{t':Es}(hk:t.kind=1) (hb:¬(t.var<0∨t.var≥(us.length:Int))) (hx:us[t.var.toNat]?=some x) (hp:pl[t.var.toNat]?=some p) (hc:DD E x=some (d,j,f)) (hbr:Cp (En d j).name t.branches=some t'):J9 E S T h ar a (n+1) t us pl s=J9 E S T h ar a n t' (us++f) (pl++Ea p d.fixed f.length) s:=by
 rw[J9,if_pos hk,if_neg hb,CW hx,CW hp,hc];simp only[hbr]
theorem Zi {r:Option Tm×σ}(hr:r.1.isSome=false):cH h a p r= .ok (none,r.2):=by
 obtain⟨q,s⟩:=r;cases q with
 | none=>rfl
 | some x=>cases hr
theorem Zg {r:Option Tm×σ}{y:Tm}(hs:cH h a p r≠ .stuck) (hr:r.1.isSome=true) (hy:a[p.1.toNat]?=some y):∃z,Ju y p.2 (r.1.getD Bc)=some z∧cH h a p r= .ok (some (apply h (a.set p.1.toNat z)),r.2):=by
 obtain⟨q,s⟩:=r;cases q with
 | none=>cases hr
 | some x =>
  unfold cH at hs ⊢;simp only at hs ⊢;rw[CW hy] at hs ⊢;cases hz:Ju y p.2 x with
  | none=>rw[hz] at hs;exact absurd rfl hs
  | some z=>exact⟨z,hz,rfl⟩
end
end Go.Eu
namespace Go.Proofs.YtboammbpdaoojaaGreat
open Go.Abs Go.Eu
def rR (ds:List CH) (n:Nat):Prop:=∀(m:Nat) (t:Tm) (s:Int),Gg s→E9 ds B1 n s t≠ .stuck→Bo Tryz.prog 44 [.ptr m 0,.agg ((BO t).map .p)] [.box m [.p (.lst (List.map Bh ds)),.p (I s)]] (Km (fun(r:Option Tm×Int)=> .tup [TV (r.1.getD Bc),.p (.bool r.1.isSome)]) (fun _=> .p (.iface 122 .unit)) (fun r H'=>H'=[.box m [.p (.lst (List.map Bh ds)),.p (I r.2)]]) ((E9 ds B1 n s t).ex))
set_option maxHeartbeats 4000000 in
theorem Xk:∀(n m:Nat) (ds:List CH) (s:Int) (g:Tm) (a:List Tm) (d:CH) (f:G7),(rR ds n)→(Gh ds)→(Gg s)→(d∈ds)→(f∈d.funs)→(f.arity≤a.length)→(okB g=true)→(a.length<549755813888)→(∀y∈a,okB y=true)→(J9 ds B1 (E9 ds B1 n) g f.arity a n f.tree (a.take f.arity.toNat) (UC f.arity.toNat) s≠ .stuck)→Bo Tryz.prog 111 [.ptr m 0,.agg ((BO g).map .p),.agg ((Ec f).map .p),.p (.lst (BE a))] [.box m [.p (.lst (List.map Bh ds)),.p (I s)]] (Km (fun(r:Option Tm×Int)=> .tup [TV (r.1.getD Bc),.p (.bool r.1.isSome)]) (fun _=> .p (.iface 122 .unit)) (fun r H'=>H'=[.box m [.p (.lst (List.map Bh ds)),.p (I r.2)]]) ((J9 ds B1 (E9 ds B1 n) g f.arity a n f.tree (a.take f.arity.toNat) (UC f.arity.toNat) s).ex)):=by
 intro n m ds s g a d f hT h2 h3 h4 h5 h6 h7 h8 h9 hns;obtain⟨gk,gi,gn,gl,gs⟩:=g;have hgo:=CM.1 h7;have hgl:=hgo.nd;simp only[Nd,Dc] at hgl;have hfu:=(h2.g.all _ h4).fu _ h5;have hdp:=h2.fu _ h4 _ h5;have hlf:=QC h2 h4 h5 h9;have htl:(a.take f.arity.toNat).length=f.arity.toNat:=by rw[List.length_take];omega
 have hpw:=ey a f.arity.toNat f.tree An An;generalize hX:J9 ds B1 (E9 ds B1 n) (.mk gk gi gn gl gs:Tm) f.arity a n f.tree (a.take f.arity.toNat) (UC f.arity.toNat) s=X at hns ⊢;refine A5 Tryz.func111 O pM (n:=169) O O (Aw (BF O (BN O) fun b5=>BF O (BN O) fun b6=>BF O (A7 Bw O) fun b8=>Ar Ay 1 [] O (Aw (Ax Ay 2 [] O (Aq O (A3 (i:=1) DN O O (CL _)) (Aq O (CY (lo:=0) (hi:=(f.arity:Int).toNat) Be O (CF (Bv _)) O ⟨_,pI An⟩ (Nat.zero_le _) AQ (Mx a ((f.arity:Int).toNat))) (Nl O O O (.inl ⟨O,O,O⟩) (Kb (a.take ((f.arity:Int).toNat)) (by simp only[List.length_take];omega)) (.inl O) fun o cp=>Ar Ay 1 [] O (Aw (TE O (B2 (D4 (t:=11) (sz:=2) O) (Bg O (As (Aw (Bq O (Aq O (KX Be O (BQ _)) (Ar Ay 1 [] O (A8 ?_)))))))))))))))));refine Bb (α:=Nat×Option Nat×Nat) (fun(i,o1,cp1)=>⟨169,mk [(0,.ptr m 0),(3,.p (.lst (BE a))),(5,.ptr b5 0),(6,.ptr b6 0),(8,.ptr b8 0),(10,.vs o (BE (a.take ((f.arity:Int).toNat))).length cp),(11,.vs o1 (List.map FM (UC i)).length cp1),(32,.p (I ((a.take ((f.arity:Int).toNat)).length:Nat))),(33,.p (I (i:Int)))],[.vec o1 2 (List.map FM (UC i)) cp1,.vec o 5 (BE (a.take ((f.arity:Int).toNat))) cp,.box b8 [.p (I 0),.p (I 0),.p (.str ⟨#[]⟩),.p (.nils),.p (.nils)],.box b6 ((Ec f).map .p),.box b5 [.p (I gk),.p (I gi),.p (.str gn),.p (.lst (List.map Bz gl)),.p (.lst (BE gs))],.box m [.p (.lst (List.map Bh ds)),.p (I s)]],[]⟩) (fun(i,o1,cp1)=>(a.take f.arity.toNat).length - i) (fun(i,o1,cp1)=>i≤(a.take f.arity.toNat).length) ⟨0,none,0⟩ AP ?_ ?_
 ·exact BU ⟨we O,we O,we O,we O,we O,we O,we O,we O,we O,Ap⟩ (leH (is:=[0,1,2,3,4,5]) O (wl (oe O) (wl (oe O) (wl (oe O) (wl (oe O) (wl (oe O) (wl (oe O) (C3))))))))
 rintro⟨i,o1,cp1⟩ hC
 try simp only at hC
 have hi:=hC;refine Au Ay 1 [] O (As (Av O (fun c=>?_) (fun c=>?_)))
 ·(try simp only[sd,se] at c);refine A1 (As (A8 (Au Ay 2 [] O (A2 (Ax Ay 3 [] O (Aq O (Bl SM WI O O O O O) (Er O O (CK (i:=0) (rows':=List.map FM ([((i:Int),[])])) SM SM WI O O O O O O (Sw _) (by simp only[List.length_map,Qk,List.length_cons,List.length_nil];omega) (F3 (f:=FM) (UC i) ([((i:Int),[])]))) fun o2 cp2=>Ar Ay 1 [] O (A2 (Ar Ay 2 [] O ?_)))))))));refine⟨⟨i+1,o2,cp2⟩,AT,by omega,BU ⟨we rfl,we rfl,we rfl,we rfl,we rfl,we rfl,we (F5 (f:=FM) (UC i++([((i:Int),[])])) ((VV i).symm)),we rfl,we rfl,trivial⟩ (leH (is:=[0,1,2,3,4,5]) rfl (wl (FJ (f:=FM) (UC i++([((i:Int),[])])) ((VV i).symm)) (wl (oe rfl) (wl (oe rfl) (wl (oe rfl) (wl (oe rfl) (wl (oe rfl) (C3))))))))⟩
 (try simp only[sd,se] at c);refine Bf (Aw (Aq O (A0 Gv O O) (Aq O (Bu (i:=3) IY O O (Db _) (Cl _)) (BF O (A7 Wk O) fun b13=>Ar Ay 1 [0,1] O (As (A8 ?_))))));refine Bb (α:=Nat×Es×List Tm×List (Int×List Int)×Option Nat×Nat×Option Nat×Nat) (fun(k2,w,us,pl,o2,cp2,o3,cp3)=>⟨169,mk [(0,.ptr m 0),(3,.p (.lst (BE a))),(5,.ptr b5 0),(6,.ptr b6 0),(8,.ptr b8 0),(10,.vs o2 (BE us).length cp2),(11,.vs o3 (List.map FM pl).length cp3),(13,.ptr b13 0)],[.box b13 ((Ch w).map .p),.vec o3 2 (List.map FM pl) cp3,.vec o2 5 (BE us) cp2,.box b8 [.p (I 0),.p (I 0),.p (.str ⟨#[]⟩),.p (.nils),.p (.nils)],.box b6 ((Ec f).map .p),.box b5 [.p (I gk),.p (I gi),.p (.str gn),.p (.lst (List.map Bz gl)),.p (.lst (BE gs))],.box m [.p (.lst (List.map Bh ds)),.p (I s)]],[]⟩) (fun(k2,w,us,pl,o2,cp2,o3,cp3)=>k2) (fun(k2,w,us,pl,o2,cp2,o3,cp3)=>J9 ds B1 (E9 ds B1 n) (.mk gk gi gn gl gs:Tm) f.arity a k2 w us pl s=X∧ON w us∧hG a us pl w) ⟨n,f.tree,a.take f.arity.toNat,UC f.arity.toNat,o,cp,o1,cp1⟩ (⟨hX,hlf,hpw⟩) ?_ ?_
 ·exact BU ⟨we O,we O,we O,we O,we O,we O,we (F5 (f:=FM) (UC i) (by rw[show i=f.arity.toNat from by omega])),we O,Ap⟩ (leH (is:=[0,1,2,3,4,5,6]) O (wl (oe O) (wl (FJ (f:=FM) (UC i) (by rw[show i=f.arity.toNat from by omega])) (wl (oe O) (wl (oe O) (wl (oe O) (wl (oe O) (wl (oe O) (C3)))))))))
 rintro⟨k2,w,us,pl,o2,cp2,o3,cp3⟩ hC1
 try simp only at hC1
 obtain⟨hC1,hL,hW⟩:=hC1;obtain⟨k1,rfl⟩:=eo hC1 hns;refine As (Aw (Aq O (A0 FF O O) (Aq O (A3 (i:=0) DN O O (GZ _)) (Ar Ay 1 [] O (Av O (fun c1=>?_) (fun c1=>?_))))))
 ·(try simp only[sd,se] at c1);have hk1:=c1;refine A1 (A8 (As (As (BS [0,3,5,6,8,10,11,13] 56 (fun y=>y= .p (.bool ((decide ((w.var:Int)<(0:Int)))||(decide ((w.var:Int)≥((us.length:Nat):Int)))))) ?_ ?_))))
  ·refine A2 (Aq O (A0 FF O O) (Aq O (A3 (i:=0) DN O O (DE _)) (Ax Ay 2 [] O (BL 50 O (fun g1=>?_) (fun g1=>?_)))))
   ·(try simp only[sd,se] at g1);exact Ar Ay 6 [] O (⟨O,O,AK,AI,⟨O,O,O,O,O,O,O,O,Ap⟩⟩)
   (try simp only[sd,se] at g1);exact BB O (A0 FF O O) (BB O (A3 (i:=0) DN O O (DE _)) (BB O (BZ O) (BB O (KX Be O (BQ _)) (Ar Ay 2 [] O (⟨O,O,AK,AI,⟨O,O,O,O,O,O,O,O,Ap⟩⟩)))))
  rintro _ rfl;refine Av O (fun c2=>?_) (fun c2=>?_)
  ·(try simp only[sd,se] at c2);rw[gg hk1 (by simpa using c2)] at hC1;refine Au Ay 3 [3,0] O (BH (BR (i:=3) O) (Az (⟨O,_,_,⟨_,_,O,(A9 (i:=3) BY O O O),⟨_,_,O,O,O⟩⟩,(B4 (is:=[6]) O),?_⟩)));exact⟨⟨_,_⟩,DA hC1.symm,O,O⟩
  (try simp only[sd,se] at c2);have hcb:¬(w.var<0∨w.var≥(us.length:Int)):=by simpa using c2
  have hWl:=hW.len;have hLl:=hL.len;refine A1 (Aw (Ax Ay 2 [] O (Aq O (A3 (i:=0) DN O O (DE _)) (Mp (i:=1) O AY fun b hb=>?_))));subst hb;refine Aq O (Cv SM O O An AH) ?_;obtain⟨y,hy⟩:=A6 (l:=pl) (i:=(w.var:Int).toNat) AO;refine Aq O (Ef (i:=1) mY O O (QS hy)) (BF O (A7 WI O) fun b14=>Ar Ay 1 [0,1] O (Aw (Ax Ay 3 [] O (Aq O (A3 (i:=1) DN O O (DE _)) (Mp (i:=3) O AY fun b1 hb1=>?_)))));subst hb1;refine Aq O (Cv Be O O An AH) ?_;obtain⟨y1,hy1⟩:=A6 (l:=us) (i:=(w.var:Int).toNat) AO;refine Aq O (Ef (i:=3) BY O O (Bd hy1)) (Aq O (B9 [7] O (.inl ⟨O,O,O⟩) (QP m ds s y1 h2.g (hL.ok _ (List.mem_of_getElem? hy1))) ⟨_,_,O,O,O⟩ Am O (.inl O)) (Ax Ay 5 [] O (BF O (A7 JP O) fun b15=>Ar Ay 4 [0,1] O (As (Au Ay 2 [] O (Av O (fun c3=>?_) (fun c3=>?_)))))))
  ·(try simp only[sd,se] at c3);have hcn:=Ot c3;obtain⟨ha1,ha2,ha3,ha4⟩:=hW.at_ hy1 hy;obtain⟨ya,hya⟩:=A6 ha4;refine Aw (Ax Ay 3 [] O (Aq O (A3 (i:=2) DN O O (DE _)) (Aq O (Cv Be O O An AH) ?_)));obtain⟨y2,hy2⟩:=A6 (l:=us) (i:=(w.var:Int).toNat) AO;refine Aq O (Ef (i:=4) BY O O (Bd hy2)) ?_;have hyy:y2=y1:=Option.some.inj (hy2.symm.trans hy1);rw[cJ hk1 hcb hy2 hy (by rw[hyy];exact hcn)] at hC1;have hn0:=hns;rw[←hC1] at hn0;have hn1:=Iw hn0;refine De [8] O O O (.inl ⟨O,O,O⟩) (hT m y2 s h3 hn1) ⟨_,_,O,O,O⟩ Am (aw (we O) (aw (we O) (Eo))) (fun _ _ h=>(congrArg List.length h).trans O) ?_ ?_
   rotate_left
   ·intro e _ he;exact⟨O,_,List.nil_sublist _,⟨_,by rw[←hC1];exact Jt hn0 he,rfl⟩⟩
   rintro⟨q,n2⟩ _ hz rfl;rw[Ku hz] at hC1;refine Ax Ay 3 [] O (BF O (A7 Bw O) fun b19=>Ar Ay 2 [0,1] O (As (Au Ay 2 [] O (Av O (fun c4=>?_) (fun c4=>?_)))))
   ·(try simp only[sd,se] at c4);rw[Zi c4] at hC1;refine Au Ay 3 [6,0] O (BH (BR (i:=6) O) (Az (⟨O,_,_,⟨_,_,O,(A9 (i:=6) BY O O O),⟨_,_,O,O,O⟩⟩,(B4 (is:=[9]) O),?_⟩)));exact⟨⟨_,_⟩,DA hC1.symm,O,O⟩
   (try simp only[sd,se] at c4);obtain⟨z1,hz1,hz2⟩:=Zg (by rw[hC1];exact hns) c4 hya;rw[hz2] at hC1;refine A1 (Aw (Bq O (Nl O O O (.inl ⟨O,O,O⟩) (Kb a h8) (.inl O) fun o4 cp4=>Ar Ay 1 [] O (As (Lp (i:=0) O AY fun b2 hb2=>?_)))));subst hb2;refine Bt (fun k=>false) Dn (BP Ay 6 [3,3] O (BG O (fun _=>Cv Be O O An AH) Ap ?_));obtain⟨y3,hy3⟩:=A6 (l:=a) (i:=(y.1:Int).toNat) AO;refine CU (j:=0) O O O (fun H i hi=>Ef (i:=i) BY O hi (Bd hy3)) AB Ap (BP Ay 3 [3,1] O ?_);have hyy:=Option.some.inj (hy3.symm.trans hya);refine BG O (fun _=>BC O O (ik y.2.length y.2 y3 (q.getD Bc) z1 (Nat.le_refl _) (h9 _ (List.mem_of_getElem? hy3)) ha2 An (by rw[hyy];exact hz1)) O) Ap (BG O (fun _=>Cv Be O O An AH) Ap (F9 O O (EJ (i:=0) (j:=((y.1:Int).toNat)) BY O O O AM O (KV _) (BD _) (FP _) (Ss a ((y.1:Int).toNat) z1)) AB Ap (JJ O Aj (Aw (Ax Ay 2 [9] O (B2 (C5 (t:=91) (x:= .vs (some b2) (BE ((a).set ((y.1:Int).toNat) z1)).length cp4) (DL a (l':=(a).set ((y.1:Int).toNat) z1) Ao)) (B2 (C5 (t:=21) (x:= .vs (some b2) (BE ((a).set ((y.1:Int).toNat) z1)).length cp4) (DL a (l':=(a).set ((y.1:Int).toNat) z1) Ao)) ?_)))))));refine B2 (C5 (t:=92) (x:= .vs (some b2) (BE ((a).set ((y.1:Int).toNat) z1)).length cp4) (DL a (l':=(a).set ((y.1:Int).toNat) z1) Ao)) (B2 (C5 (t:=95) (x:= .vs (some b2) (BE ((a).set ((y.1:Int).toNat) z1)).length cp4) (DL a (l':=(a).set ((y.1:Int).toNat) z1) Ao)) (B2 (C5 (t:=106) (x:= .vs (some b2) (BE ((a).set ((y.1:Int).toNat) z1)).length cp4) (DL a (l':=(a).set ((y.1:Int).toNat) z1) Ao)) (B2 (Ce (i:=0) [91,21,92,95,106] O (Dx ⟨O,O,O,O,O,Ap⟩)) (Aq O (BC O O (EL (.mk gk gi gn gl gs:Tm) ((a).set ((y.1:Int).toNat) z1) AS) O) (Ar Ay 2 [6,1] O (Az (⟨O,_,_,⟨_,_,O,(A9 (i:=6) BY O O Ag),⟨_,_,O,O,O⟩⟩,(B4 (is:=[9]) O),?_⟩)))))));exact⟨⟨_,_⟩,DA hC1.symm,O,O⟩
  (try simp only[sd,se] at c3);obtain⟨ha1,ha2,ha3,ha4⟩:=hW.at_ hy1 hy;have hcs:=MT c3;have hcf:=Fi hcs;have hlo:=hcf.lo;have hhi:=hcf.hi;have hfl:=JO h2.g hcs;have hdf:=(h2.g.all _ hcf.mem).fx;refine A1 (As (As (Bt (fun k=>false) Dn (BP Ay 2 [2] O (CU (j:=0) O O O (fun H i hi=>A3 (i:=i) Hg O hi (B8 _)) AB Ap (BG O (fun _=>BZ O) Ap ?_))))));obtain⟨x,hx⟩:=A6 (l:=((CO ds y1).1).ctors) (i:=((CO ds y1).2.1:Int).toNat) An;refine BG O (fun _=>A4 HN O O An (ES hx) (D5 _)) Ap (BG O (fun _=>By Ik O O) Ap (BG O (fun _=>C6 Ln O (Fb _)) Ap (BG O (fun _=>BC O O (TK w x.name hL.tin.bl) O) Ap (Bj Ay 5 [2,1] O (Au Ay 2 [] O (Av O (fun c4=>?_) (fun c4=>?_)))))))
  ·(try simp only[sd,se] at c4);rw[lR hk1 hcb hy1 hy hcs (by rw[En,CW hx];exact WQ c4)] at hC1;refine Au Ay 3 [5,0] O (BH (BR (i:=5) O) (Az (⟨O,_,_,⟨_,_,O,(A9 (i:=5) BY O O O),⟨_,_,O,O,O⟩⟩,(B4 (is:=[8]) O),?_⟩)));exact⟨⟨_,_⟩,DA hC1.symm,O,O⟩
  (try simp only[sd,se] at c4);have hbs:=Wn c4;rw[ld hk1 hcb hy1 hy hcs (by rw[En,CW hx];exact hbs)] at hC1;refine A1 (Aw (Bq O (Aq O (BK Be O (BQ _)) (Ar Ay 1 [] O (A8 ?_)))));refine Bb (α:=Nat×Option Nat×Nat×Option Nat×Nat) (fun(i,o4,cp4,o5,cp5)=>⟨169,mk [(0,.ptr m 0),(3,.p (.lst (BE a))),(5,.ptr b5 0),(6,.ptr b6 0),(8,.ptr b8 0),(10,.vs o4 (BE (us++(CO ds y1).2.2.1.take i)).length cp4),(11,.vs o5 (List.map FM (pl++Ea y (CO ds y1).1.fixed i)).length cp5),(13,.ptr b13 0),(14,.ptr b14 0),(15,.ptr b15 0),(122,.p (.lst (BE ((CO ds y1).2.2.1)))),(123,.p (I (((CO ds y1).2.2.1).length:Nat))),(124,.p (I (i:Int)))],[.box b15 ((Bh ((CO ds y1).1)).map .p),.box b14 ((FM y).map .p),.box b13 ((Ch ((bT x.name w.branches).1)).map .p),.vec o5 2 (List.map FM (pl++Ea y (CO ds y1).1.fixed i)) cp5,.vec o4 5 (BE (us++(CO ds y1).2.2.1.take i)) cp4,.box b8 [.p (I 0),.p (I 0),.p (.str ⟨#[]⟩),.p (.nils),.p (.nils)],.box b6 ((Ec f).map .p),.box b5 [.p (I gk),.p (I gi),.p (.str gn),.p (.lst (List.map Bz gl)),.p (.lst (BE gs))],.box m [.p (.lst (List.map Bh ds)),.p (I s)]],[]⟩) (fun(i,o4,cp4,o5,cp5)=>(CO ds y1).2.2.1.length - i) (fun(i,o4,cp4,o5,cp5)=>i≤(CO ds y1).2.2.1.length) ⟨0,(some b1),cp2,(some b),cp3⟩ AP ?_ ?_
  ·exact BU ⟨we O,we O,we O,we O,we O,we (MF us Ao),we (F5 (f:=FM) pl (by simp[N7])),we O,we O,we O,we O,we O,we O,Ap⟩ (leH (is:=[0,1,2,3,4,5,6,7,8]) O (wl (oe O) (wl (oe O) (wl (oe O) (wl (FJ (f:=FM) pl (by simp[N7])) (wl (KA us Ao) (wl (oe O) (wl (oe O) (wl (oe O) (wl (oe O) (C3)))))))))))
  rintro⟨i,o4,cp4,o5,cp5⟩ hC2
  try simp only at hC2
  have hi:=hC2;refine Au Ay 1 [] O (As (Av O (fun c5=>?_) (fun c5=>?_)))
  ·(try simp only[sd,se] at c5);refine A1 (As (A8 (Aw (Bq O ?_))));obtain⟨x1,hx1⟩:=A6 (l:=(CO ds y1).2.2.1) (i:=i) An;refine Aq O (A4 Be O O An (Bd hx1) (BD _)) (Aq O (BM BY O (BD _)) (BF O (A7 Bw O) fun b23=>Ar Ay 2 [0,1] O (Aw (Ax Ay 2 [0] O ?_))));obtain⟨x1k,x1i,x1n,x1l,x1s⟩:=x1;refine Aq O (Bl Be Bw O O O O O) (Er O O (CK (i:=5) (rows':=BE [(.mk x1k x1i x1n x1l x1s:Tm)]) Be Be Bw O O O O O O (Bv _) (by have:=hL.len;have:=hW.len;simp only[BQ,Qk,Ks,List.length_take,List.length_map,List.length_cons,List.length_nil,List.length_append];omega) (Jf (us++(CO ds y1).2.2.1.take i) [(.mk x1k x1i x1n x1l x1s:Tm)])) fun o6 cp6=>Ar Ay 1 [] O (Bt (fun k=>Nat.beq k 5||Nat.beq k 14) Dn (BP Ay 5 [2,2] O ?_)));refine mI [(6,.free (.ptr b15 13)),(7,.read [.box b15 ((Bh ((CO ds y1).1)).map .p)] (.p (I (((CO ds y1).1).fixed)))),(8,.free (.p (I (i:Int)))),(9,.free (.p (I ((((CO ds y1).1).fixed:Int)+((i:Int):Int))))),(10,.free (.p (.lst (List.map Gl [((((CO ds y1).1).fixed:Int)+((i:Int):Int))]))))] O O O (.inl ⟨O,O,O⟩) (fY y.2 An) (.inl O) Aj fun o7 cp7=>⟨AB,Ap,?_⟩;refine BP Ay 1 [] O (CU (j:=2) O O O (fun H i hi=>A3 (i:=i) DN O hi (Cn _)) AB AN (BP Ay 2 [] O (BG O (fun _=>Bl Hh jJ O O O O O) AN (F9 O O (VX (i:=0) (rows':=List.map Gl [((((CO ds y1).1).fixed:Int)+((i:Int):Int))]) Hh Hh jJ O O O O O O (PD _) (by have:=hL.len;have:=hW.len;simp only[BQ,Qk,Ks,List.length_take,List.length_map,List.length_cons,List.length_nil,List.length_append];omega) (F3 (f:=Gl) y.2 [((((CO ds y1).1).fixed:Int)+((i:Int):Int))])) AB AN (BP Ay 1 [] O (BG O (fun _=>Bl SM WI O O O O O) AN ?_))))));refine Kn [] O O (CK (i:=4) (rows':=List.map FM ([(y.1,(y.2++[((((CO ds y1).1).fixed:Int)+((i:Int):Int))]))])) SM SM WI O O O O O O (Sw _) (by have:=hL.len;have:=hW.len;simp only[BQ,Qk,Ks,List.length_take,List.length_map,List.length_cons,List.length_nil,List.length_append];omega) (F3 (f:=FM) (pl++Ea y (CO ds y1).1.fixed i) ([(y.1,(y.2++[((((CO ds y1).1).fixed:Int)+((i:Int):Int))]))]))) Aj fun o8 cp8=>⟨AB,AN,?_⟩;refine Bj Ay 1 [] O (A2 (Ar Ay 2 [] O ?_))
   refine⟨⟨i+1,o6,cp6,o8,cp8⟩,AT,by omega,BU ⟨we rfl,we rfl,we rfl,we rfl,we rfl,we (MF (us++(CO ds y1).2.2.1.take i++[(.mk x1k x1i x1n x1l x1s:Tm)]) (by rw[Ro hx1,List.append_assoc])),we (F5 (f:=FM) (pl++Ea y (CO ds y1).1.fixed i++([(y.1,(y.2++[((((CO ds y1).1).fixed:Int)+((i:Int):Int))]))])) (by rw[OE,List.append_assoc])),we rfl,we rfl,we rfl,we rfl,we rfl,we rfl,trivial⟩ (leH (is:=[1,2,3,4,5,6,7,8,9]) rfl (wl (oe rfl) (wl (oe rfl) (wl (oe rfl) (wl (FJ (f:=FM) (pl++Ea y (CO ds y1).1.fixed i++([(y.1,(y.2++[((((CO ds y1).1).fixed:Int)+((i:Int):Int))]))])) (by rw[OE,List.append_assoc])) (wl (KA (us++(CO ds y1).2.2.1.take i++[(.mk x1k x1i x1n x1l x1s:Tm)]) (by rw[Ro hx1,List.append_assoc])) (wl (oe rfl) (wl (oe rfl) (wl (oe rfl) (wl (oe rfl) (C3)))))))))))⟩
  (try simp only[sd,se] at c5);refine Bf ?_;refine⟨⟨k1,(bT x.name w.branches).1,us++(CO ds y1).2.2.1,pl++Ea y (CO ds y1).1.fixed (CO ds y1).2.2.1.length,o4,cp4,o5,cp5⟩,AT,⟨hC1,hL.next h2.g (hL.ok _ (List.mem_of_getElem? hy1)) hcs hbs,hW.next h2.g hy1 hy hcs hbs hL.tok⟩,BU ⟨we O,we O,we O,we O,we O,we (MF (us++(CO ds y1).2.2.1.take i) (by rw[WT An])),we (F5 (f:=FM) (pl++Ea y (CO ds y1).1.fixed i) (by rw[show i=(CO ds y1).2.2.1.length from by omega])),we O,Ap⟩ (leH (is:=[2,3,4,5,6,7,8]) O (wl (oe O) (wl (FJ (f:=FM) (pl++Ea y (CO ds y1).1.fixed i) (by rw[show i=(CO ds y1).2.2.1.length from by omega])) (wl (KA (us++(CO ds y1).2.2.1.take i) (by rw[WT An])) (wl (oe O) (wl (oe O) (wl (oe O) (wl (oe O) (C3)))))))))⟩
 (try simp only[sd,se] at c1);have hk1:=c1;have hLl:=hL.len;rw[bg hk1] at hC1;refine Bf (Aw (Aq O (A0 FF O O) (Aq O (Bu (i:=0) BY O O (E1 _) (BD _)) (Ax Ay 2 [5] O (Aq O (BC O O (MW w.body gl (CM.1 (Ni hL.tok)).nd (CM.1 (Ni hL.tok)).vp (by have:=Fk (Ni hL.tok);omega) hgl.2.1 hgl.2.2.1) O) (Ax Ay 3 [] O (BF O (A7 Bw O) fun b24=>Ar Ay 2 [0,1] O (As (Au Ay 2 [] O (Av O (fun c2=>?_) (fun c2=>?_)))))))))))
 ·(try simp only[sd,se] at c2);rw[Kc (h:=(.mk gk gi gn gl gs:Tm)) c2] at hC1;refine Au Ay 3 [4,0] O (BH (BR (i:=4) O) (Az (⟨O,_,_,⟨_,_,O,(A9 (i:=4) BY O O O),⟨_,_,O,O,O⟩⟩,(B4 (is:=[7]) O),?_⟩)));exact⟨⟨_,_⟩,DA hC1.symm,O,O⟩
 (try simp only[sd,se] at c2);obtain⟨hb1,hb2,hb3,hb4⟩:=Ut (by rw[hC1];exact hns) c2;rw[hb4] at hC1;have hn3:=hns;rw[←hC1] at hn3;refine A1 (As (BH (Ce (i:=3) [10] O (Dx ⟨O,Ap⟩)) ?_));obtain⟨e,he⟩ | ⟨⟨z,n2⟩,hz⟩:=FK (JZ s (CJ ((Bn w.body gl).1) us.reverse 0))
 ·refine Iv ((fun _=> .p (.iface 122 .unit)) e) 3 [.val (.ptr m 0),.val (.agg ((BO ((Bn w.body gl).1)).map .p)),.val (.p (.lst (BE us))),.val (.p .any),.val (.p (.lst (BE a))),.val (.ptr b6 (0+6)),.val (.p (I f.arity)),.val (.p (.lst (BE (a.drop ((f.arity:Int).toNat))))),.val (.p .any),.val (.p .any),.val (.p .any)] Dn O Aj O Ap (fun _ _=>by exact⟨rfl,_,List.nil_sublist _,⟨_,by rw[←hC1];exact KD hn3 he,rfl⟩⟩) ?_;exact B7 O O (fun Bs=>BZ O) (B7 O O (fun Bs=>BT (i:=Bs.length+0) BY O (CX O) Ag) (B7 O O (fun Bs=>BZ O) (Kr (mkp:=(fun _=> .p (.iface 122 .unit))) (e:=e) [6] he O O (.inl ⟨O,O,O⟩) (Nu m ds s ((Bn w.body gl).1) us h3 hb1 hb2 An) ⟨_,_,O,O,O⟩ Am (aw (we O) (aw (we O) (aw (we O) (Eo)))) (B7 O O (fun Bs=>BZ O) (B7 O O (fun Bs=>A0 Gv O O) (B7 O O (fun Bs=>A3 (i:=Bs.length+4) DN O (CX O) (CL _)) (B7 O O (fun Bs=>CY (lo:=(f.arity:Int).toNat) Be O (CF (Bv _)) ⟨_,pI An⟩ O AQ (Nat.le_refl _) (Jo a ((f.arity:Int).toNat))) (C9 O O Aj (C9 O O Aj (C9 O O Aj K4))))))))))
 rw[KC hn3 hz] at hC1;refine ID [.box b24 ((BO ((Bn w.body gl).1)).map .p),.box b13 ((Ch w).map .p),.vec o3 2 (List.map FM pl) cp3,.box b8 [.p (I 0),.p (I 0),.p (.str ⟨#[]⟩),.p (.nils),.p (.nils)],.box b6 ((Ec f).map .p),.box b5 [.p (I gk),.p (I gi),.p (.str gn),.p (.lst (List.map Bz gl)),.p (.lst (BE gs))],.box m [.p (.lst (List.map Bh ds)),.p (I n2)]] 3 [.val (.ptr m 0),.val (.agg ((BO ((Bn w.body gl).1)).map .p)),.val (.p (.lst (BE us))),.val (.agg ((BO z).map .p)),.val (.p (.lst (BE a))),.val (.ptr b6 (0+6)),.val (.p (I f.arity)),.val (.p (.lst (BE (a.drop ((f.arity:Int).toNat))))),.val (.agg ((BO (apply z (a.drop ((f.arity:Int).toNat)))).map .p))] [.p .any,.p (.bool true)] [] Dn O Aj Aj Aj O ?_ ?_
 ·exact Ap
 refine Bk O O (fun Bs=>BZ O) (Fz O O O (fun Bs=>BT (i:=Bs.length+0) BY O (CX O) Ag) (fun Bs=>BT (i:=Bs.length+0) BY O (CX O) Ag) (Bk O O (fun Bs=>BZ O) (KB O (fun Bs=>Gx [6] O (.inl ⟨O,O,O⟩) (K6 hz (Nu m ds s ((Bn w.body gl).1) us h3 hb1 hb2 An)) ⟨_,_,O,O,O⟩ Am O (aw (we O) (aw (we O) (aw (we O) (Eo))))) (Bk O O (fun Bs=>BZ O) (Bk O O (fun Bs=>A0 Gv O O) (Fz O O O (fun Bs=>A3 (i:=Bs.length+4) DN O (CX O) (CL _)) (fun Bs=>A3 (i:=Bs.length+4) DN O (CX O) (CL _)) (Bk O O (fun Bs=>CY (lo:=(f.arity:Int).toNat) Be O (CF (Bv _)) ⟨_,pI An⟩ O AQ (Nat.le_refl _) (Jo a ((f.arity:Int).toNat))) ?_)))))));refine Bk O O (fun Bs=>BC O O (EL z (a.drop ((f.arity:Int).toNat)) AR) O) (J6 (Dv [.box b24 ((BO ((Bn w.body gl).1)).map .p),.box b13 ((Ch w).map .p),.vec o3 2 (List.map FM pl) cp3,.box b8 ((BO (apply z (a.drop ((f.arity:Int).toNat)))).map .p),.box b6 ((Ec f).map .p),.box b5 [.p (I gk),.p (I gi),.p (.str gn),.p (.lst (List.map Bz gl)),.p (.lst (BE gs))],.box m [.p (.lst (List.map Bh ds)),.p (I n2)]] O (Cd (i:=3) BY O O O Ag AW (FP _)) ?_));refine Dv [.box b24 ((BO ((Bn w.body gl).1)).map .p),.box b13 ((Ch w).map .p),.vec o3 2 (List.map FM pl) cp3,.box b8 ((BO (apply z (a.drop ((f.arity:Int).toNat)))).map .p),.box b6 ((Ec f).map .p),.box b5 [.p (I gk),.p (I gi),.p (.str gn),.p (.lst (List.map Bz gl)),.p (.lst (BE gs))],.box m [.p (.lst (List.map Bh ds)),.p (I n2)]] O (ED O) (J0 (Az (⟨O,_,_,⟨_,_,O,(A9 (i:=3) BY O O Ag),⟨_,_,O,O,O⟩⟩,(B4 (is:=[6]) O),?_⟩)));exact⟨⟨_,_⟩,DA hC1.symm,O,O⟩
end Go.Proofs.YtboammbpdaoojaaGreat
namespace Go.Eu
open Go.Abs
def KQ (E:List CH) {σ:Type}(S:Sys σ) (n:Nat) (h:Tm) (a:List Tm) (s:σ):Out (Option Tm×σ):=match K0 E h with
 | none=> .ok (none,s)
 | some x =>
  if x.kind=1 then Ep S (Cb E x.decl) h a s
  else if x.kind=5∧(a.length:Int) > CT (Cb E x.decl) then match DD E (a.getD (CT (Cb E x.decl)).toNat default) with
   | some _=>Ew E S (Cb E x.decl) h a (a.getD (CT (Cb E x.decl)).toNat default) s
   | none=>(E9 E S n s (a.getD (CT (Cb E x.decl)).toNat default)).bind fun r=>match r.1 with
    | none=> .ok (none,r.2)
    | some y=> .ok (some (apply h (a.set (CT (Cb E x.decl)).toNat y)),r.2)
  else if x.kind=6∧(a.length:Int)≥(Gc (Cb E x.decl) x.item).arity then
   J9 E S (E9 E S n) h (Gc (Cb E x.decl) x.item).arity a n (Gc (Cb E x.decl) x.item).tree (a.take (Gc (Cb E x.decl) x.item).arity.toNat) (UC (Gc (Cb E x.decl) x.item).arity.toNat) s
  else .ok (none,s)
section
variable {E:List CH}{σ:Type}{S:Sys σ}{n:Nat}{h:Tm}{a:List Tm}{s:σ}{d:CH}{x:Tm}
def k0 (h:Tm) (a:List Tm) (k:Nat) (r:Option Tm×σ):Out (Option Tm×σ):=match r.1 with
 | none=> .ok (none,r.2)
 | some y=> .ok (some (apply h (a.set k y)),r.2)
theorem kg {k:Nat}{r:Option Tm×σ}(hr:r.1.isSome=false):k0 h a k r= .ok (none,r.2):=by
 obtain⟨q,s⟩:=r;cases q with
 | none=>rfl
 | some x=>cases hr
theorem mL {k:Nat}{r:Option Tm×σ}(hr:r.1.isSome=true):k0 h a k r= .ok (some (apply h (a.set k (r.1.getD Bc))),r.2):=by
 obtain⟨q,s⟩:=r;cases q with
 | none=>cases hr
 | some x=>rfl
theorem dc (hu:Tj E h=false):KQ E S n h a s= .ok (none,s):=by
 unfold KQ;rw[C7,hu];simp
section
variable (hu:Tj E h=true) (hd:E[(Bp E h.name).1.decl.toNat]?=some d)
include hu hd
theorem iu (hk:(Bp E h.name).1.kind=1):KQ E S n h a s=Ep S d h a s:=by
 unfold KQ;rw[C7,hu,if_pos rfl];simp only[if_pos hk,Cb,CW hd]
theorem cm (hk:(Bp E h.name).1.kind=5) (hl:(a.length:Int)≤CT d):KQ E S n h a s= .ok (none,s):=by
 unfold KQ;rw[C7,hu,if_pos rfl];simp only[Cb,CW hd];rw[if_neg An,if_neg An,if_neg An]
theorem br (hk:(Bp E h.name).1.kind=5) (hl:¬(a.length:Int)≤CT d) (hx:a[(CT d).toNat]?=some x) {q:CH×Int×List Tm}(hc:DD E x=some q):KQ E S n h a s=Ew E S d h a x s:=by
 unfold KQ;rw[C7,hu,if_pos rfl];simp only[Cb,CW hd];rw[if_neg An,if_pos ⟨hk,by omega⟩,CW hx];simp only[hc]
theorem ft (hk:(Bp E h.name).1.kind=5) (hl:¬(a.length:Int)≤CT d) (hx:a[(CT d).toNat]?=some x) (hc:DD E x=none):KQ E S n h a s=(E9 E S n s x).bind (k0 h a (CT d).toNat):=by
 unfold KQ;rw[C7,hu,if_pos rfl];simp only[Cb,CW hd];rw[if_neg An,if_pos ⟨hk,by omega⟩,CW hx];simp only[hc];rfl
theorem hZ {f:G7}(hk:(Bp E h.name).1.kind=6) (hf:d.funs[(Bp E h.name).1.item.toNat]?=some f) (hl:f.arity≤(a.length:Int)):KQ E S n h a s=J9 E S (E9 E S n) h f.arity a n f.tree (a.take f.arity.toNat) (UC f.arity.toNat) s:=by
 unfold KQ;rw[C7,hu,if_pos rfl];simp only[Cb,CW hd,Gc,CW hf];rw[if_neg An,if_neg An,if_pos ⟨hk,by omega⟩]
theorem ej {f:G7}(hk:(Bp E h.name).1.kind=6) (hf:d.funs[(Bp E h.name).1.item.toNat]?=some f) (hl:¬f.arity≤(a.length:Int)):KQ E S n h a s= .ok (none,s):=by
 unfold KQ;rw[C7,hu,if_pos rfl];simp only[Cb,CW hd,Gc,CW hf];rw[if_neg An,if_neg An,if_neg An]
omit hd
theorem lu (h1:(Bp E h.name).1.kind≠1) (h5:(Bp E h.name).1.kind≠5) (h6:(Bp E h.name).1.kind≠6):KQ E S n h a s= .ok (none,s):=by
 unfold KQ;rw[C7,hu,if_pos rfl];simp only;rw[if_neg h1,if_neg An,if_neg An]
end
end
section
variable {E:List CH}{σ:Type}{S:Sys σ}{n:Nat}{t:Tm}{s:σ}{X:Out (Option Tm×σ)}
theorem cG (h:E9 E S n s t=X) (hX:X≠ .stuck):∃k,n=k+1:=by
 cases n with
 | zero=>rw[E9] at h;exact absurd h.symm hX
 | succ k=>exact⟨k,rfl⟩
theorem jF (h:E9 E S (n+1) s t=X) (hX:X≠ .stuck):okB t=true:=by
 rw[E9] at h;split at h
 ·exact absurd h.symm hX
 rename_i hc;simpa using hc
section
variable (ho:okB t=true)
include ho
theorem cN (hk:(BA t).1.kind=5) (hl:(BA t).2.length=0):E9 E S (n+1) s t= .ok (none,s):=by
 rw[E9,if_neg (by simp[ho]),if_pos hk,if_pos hl]
theorem ij {b:Tm}(hk:(BA t).1.kind=5) (hl:(BA t).2.length≠0) (hb:(BA t).1.kids[1]?=some b) :
  E9 E S (n+1) s t=S.put s (CJ b ((BA t).2.take 1) 0) fun x s'=> .ok (some (apply x ((BA t).2.drop 1)),s'):=by
 rw[E9,if_neg (by simp[ho]),if_pos hk,if_neg hl,N0,hb]
theorem ig {v b:Tm}(hk:(BA t).1.kind=11) (hv:(BA t).1.kids[1]?=some v) (hb:(BA t).1.kids[2]?=some b) :
  E9 E S (n+1) s t=S.put s (CJ b [v] 0) fun x s'=> .ok (some (apply x (BA t).2),s'):=by
 rw[E9,if_neg (by simp[ho]),if_neg An,if_pos hk,U2,hv,hb]
def lS (h:Tm) (a:List Tm) (r:Option Tm×σ):Out (Option Tm×σ):=match r.1 with
 | none=> .ok (none,r.2)
 | some x=> .ok (some (apply (Ip h.kind x) a),r.2)
theorem bp {p q:Tm}(hk:(BA t).1.kind=9∨(BA t).1.kind=10) (hp:(BA t).1.kids[0]?=some p) (h8:p.kind=8) (hq:p.kids[(1+(BA t).1.kind - 9).toNat]?=some q) :
  E9 E S (n+1) s t=S.put s (q,0) fun x s'=> .ok (some (apply x (BA t).2),s'):=by
 rw[E9,if_neg (by simp[ho]),if_neg An,if_neg An,if_pos hk,hp];simp only;rw[if_pos h8,My,hq]
theorem dy {p:Tm}(hk:(BA t).1.kind=9∨(BA t).1.kind=10) (hp:(BA t).1.kids[0]?=some p) (h8:p.kind≠8) :
  E9 E S (n+1) s t=(E9 E S n s p).bind (lS (BA t).1 (BA t).2):=by
 rw[E9,if_neg (by simp[ho]),if_neg An,if_neg An,if_pos hk,hp];simp only;rw[if_neg h8];rfl
theorem aU (hk:(BA t).1.kind=3):E9 E S (n+1) s t=KQ E S n (BA t).1 (BA t).2 s:=by
 rw[E9,if_neg (by simp[ho]),if_neg An,if_neg An,if_neg An,if_pos hk];rfl
theorem mH (h1:(BA t).1.kind≠5) (h2:(BA t).1.kind≠11) (h3:(BA t).1.kind≠9) (h4:(BA t).1.kind≠10) (h5:(BA t).1.kind≠3):E9 E S (n+1) s t= .ok (none,s):=by
 rw[E9,if_neg (by simp[ho]),if_neg h1,if_neg h2,if_neg An,if_neg h5]
end
theorem kZ {h:Tm}{a:List Tm}{r:Option Tm×σ}(hr:r.1.isSome=false):lS h a r= .ok (none,r.2):=by
 obtain⟨q,s⟩:=r;cases q with
 | none=>rfl
 | some x=>cases hr
theorem lE {h:Tm}{a:List Tm}{r:Option Tm×σ}(hr:r.1.isSome=true):lS h a r= .ok (some (apply (Ip h.kind (r.1.getD Bc)) a),r.2):=by
 obtain⟨q,s⟩:=r;cases q with
 | none=>cases hr
 | some x=>rfl
end
section
variable {E:List CH}{σ:Type}{S:Sys σ}{n:Nat}{t:Tm}{s:σ}{r:Tm×σ}{d:CH}{X:Out (Option Int×σ)}
noncomputable def Wr (E:List CH) (S:Sys σ) (n:Nat) (q:(Option (Tm×List Tm)×Tm)×σ):Out (Option Int×σ):=match q.1.1 with
 | some _=> .ok (none,q.2)
 | none=>if S.over q.2=false∧NV q.1.2 Bc=false then IU E S n q.2 q.1.2 else .ok (none,q.2)
noncomputable def Jc (E:List CH) (S:Sys σ) (n:Nat) (r:Tm×σ):Out (Option Int×σ) :=
 if (BA r.1).1.kind=12 then .ok (some (BA r.1).1.index,r.2)
  else if (BA r.1).1.kind=9∨(BA r.1).1.kind=10 then match (BA r.1).1.kids[0]? with
   | none=> .stuck
   | some p=>IU E S n r.2 p
  else if (BA r.1).1.kind=3 then match K0 E (BA r.1).1 with
   | none=> .ok (none,r.2)
   | some x =>
    if S.over r.2=true then .ok (none,r.2)
    else if x.kind=5∧((BA r.1).2.length:Int) > CT (Cb E x.decl) then IU E S n r.2 ((BA r.1).2.getD (CT (Cb E x.decl)).toNat default)
    else if x.kind=6∧((BA r.1).2.length:Int)≥(Gc (Cb E x.decl) x.item).arity then
     (Dp E S (EA E S n) n (Gc (Cb E x.decl) x.item).tree ((BA r.1).2.take (Gc (Cb E x.decl) x.item).arity.toNat) Bc r.2).bind (Wr E S n)
    else .ok (none,r.2)
  else .ok (none,r.2)
theorem fW (h:IU E S n s t=X) (hX:X≠ .stuck):∃k,n=k+1:=by
 cases n with
 | zero=>rw[IU] at h;exact absurd h.symm hX
 | succ k=>exact⟨k,rfl⟩
theorem Ue:IU E S (n+1) s t=(EA E S n s t).chk (Jc E S n):=by
 rw[IU];rfl
theorem S7 (hk:(BA r.1).1.kind=12):Jc E S n r= .ok (some (BA r.1).1.index,r.2):=by rw[Jc,if_pos hk]
theorem Zm {p:Tm}(hk:(BA r.1).1.kind=9∨(BA r.1).1.kind=10) (hp:(BA r.1).1.kids[0]?=some p):Jc E S n r=IU E S n r.2 p:=by
 rw[Jc,if_neg An,if_pos hk,hp]
theorem gT (h1:(BA r.1).1.kind≠12) (h2:(BA r.1).1.kind≠9) (h3:(BA r.1).1.kind≠10) (h4:(BA r.1).1.kind≠3):Jc E S n r= .ok (none,r.2):=by
 rw[Jc,if_neg h1,if_neg An,if_neg h4]
theorem Z3 (hk:(BA r.1).1.kind=3) (hu:Tj E (BA r.1).1=false∨S.over r.2=true):Jc E S n r= .ok (none,r.2):=by
 rw[Jc,if_neg An,if_neg An,if_pos hk,C7];rcases hu with hu | hu
 ·rw[hu];simp
 split
 ·rfl
 rw[if_pos hu]
section
variable (hk:(BA r.1).1.kind=3) (hu:Tj E (BA r.1).1=true) (ho:S.over r.2=false) (hd:E[(Bp E (BA r.1).1.name).1.decl.toNat]?=some d)
include hk hu ho
theorem Rl (h5:(Bp E (BA r.1).1.name).1.kind≠5) (h6:(Bp E (BA r.1).1.name).1.kind≠6):Jc E S n r= .ok (none,r.2):=by
 rw[Jc,if_neg An,if_neg An,if_pos hk,C7,hu,if_pos rfl];simp only;rw[if_neg (by simp[ho]),if_neg An,if_neg An]
include hd
theorem aK (h5:(Bp E (BA r.1).1.name).1.kind=5) (hl:((BA r.1).2.length:Int)≤CT d):Jc E S n r= .ok (none,r.2):=by
 rw[Jc,if_neg An,if_neg An,if_pos hk,C7,hu,if_pos rfl];simp only[Cb,CW hd];rw[if_neg (by simp[ho]),if_neg An,if_neg An]
theorem dw {x:Tm}(h5:(Bp E (BA r.1).1.name).1.kind=5) (hl:CT d<((BA r.1).2.length:Int)) (hx:(BA r.1).2[(CT d).toNat]?=some x):Jc E S n r=IU E S n r.2 x:=by
 rw[Jc,if_neg An,if_neg An,if_pos hk,C7,hu,if_pos rfl];simp only[Cb,CW hd];rw[if_neg (by simp[ho]),if_pos ⟨h5,by omega⟩,CW hx]
theorem ZY {f:G7}(h6:(Bp E (BA r.1).1.name).1.kind=6) (hf:d.funs[(Bp E (BA r.1).1.name).1.item.toNat]?=some f) (hl:¬f.arity≤((BA r.1).2.length:Int)):Jc E S n r= .ok (none,r.2):=by
 rw[Jc,if_neg An,if_neg An,if_pos hk,C7,hu,if_pos rfl];simp only[Cb,CW hd,Gc,CW hf];rw[if_neg (by simp[ho]),if_neg An,if_neg An]
theorem Vg {f:G7}(h6:(Bp E (BA r.1).1.name).1.kind=6) (hf:d.funs[(Bp E (BA r.1).1.name).1.item.toNat]?=some f) (hl:f.arity≤((BA r.1).2.length:Int)):Jc E S n r=(Dp E S (EA E S n) n f.tree ((BA r.1).2.take f.arity.toNat) Bc r.2).bind (Wr E S n):=by
 rw[Jc,if_neg An,if_neg An,if_pos hk,C7,hu,if_pos rfl];simp only[Cb,CW hd,Gc,CW hf];rw[if_neg (by simp[ho]),if_neg An,if_pos ⟨h6,by omega⟩]
end
theorem bD {q:(Option (Tm×List Tm)×Tm)×σ}(h:q.1.1.isSome=true∨S.over q.2=true∨NV q.1.2 Bc=true):Wr E S n q= .ok (none,q.2):=by
 obtain⟨⟨o,l⟩,s⟩:=q;unfold Wr;cases o with
 | some x=>rfl
 | none =>
  simp only at h ⊢;rw[if_neg];rintro⟨h1,h2⟩;rcases h with h | h | h
  ·cases h
  ·rw[h1] at h;cases h
  rw[h2] at h;cases h
theorem Y8 {q:(Option (Tm×List Tm)×Tm)×σ}(h1:q.1.1.isSome=false) (h2:S.over q.2=false) (h3:NV q.1.2 Bc=false):Wr E S n q=IU E S n q.2 q.1.2:=by
 obtain⟨⟨o,l⟩,s⟩:=q;unfold Wr;cases o with
 | some x=>cases h1
 | none=>simp only at h2 h3 ⊢;rw[if_pos ⟨h2,h3⟩]
end
section
variable {E:List CH}{σ:Type}{S:Sys σ}{n:Nat}{t:Es}{a:List Tm}{s:σ}
def ZZ (S:Sys σ) (q:(Option (Tm×List Tm)×Tm)×σ):Out (Option Tm×σ):=match q.1.1 with
 | none=> .ok (none,q.2)
 | some (b,vars)=>if okB b=false∨vars.all okB=false∨1125899906842624≤Ba vars then .stuck else S.put q.2 (CJ b vars.reverse 0) fun x s'=> .ok (some x,s')
theorem YE:Gn E S n t a s=(Dp E S (EA E S n) n t a Bc s).bind (ZZ S):=by rw[Gn];rfl
theorem e9 {q:(Option (Tm×List Tm)×Tm)×σ}(h:q.1.1.isSome=false):ZZ S q= .ok (none,q.2):=by
 obtain⟨⟨o,l⟩,s⟩:=q;cases o with
 | some x=>cases h
 | none=>rfl
theorem fH {q:(Option (Tm×List Tm)×Tm)×σ}(hs:ZZ S q≠ .stuck) (h:q.1.1.isSome=true):okB (JB q.1)=true∧(∀v∈LG q.1,okB v=true)∧Ba (LG q.1)<1125899906842624∧ZZ S q=S.put q.2 (CJ (JB q.1) (LG q.1).reverse 0) fun x s'=> .ok (some x,s'):=by
 obtain⟨⟨o,l⟩,s⟩:=q;cases o with
 | none=>cases h
 | some x =>
  obtain⟨b,vs⟩:=x;unfold ZZ at hs ⊢;simp only[JB,LG] at hs ⊢;split at hs
  ·exact absurd O hs
  rename_i hc;have hn:=hc;simp only[not_or,Bool.not_eq_false] at hc;exact⟨hc.1,fun v hv=>List.all_eq_true.1 hc.2.1 v hv,by omega,by rw[if_neg hn]⟩
end
end Go.Eu
namespace Go.Proofs.YtboammbpdaoojaaGreat
open Go.Abs Go.Eu
set_option maxHeartbeats 4000000 in
theorem U6:∀(n m:Nat) (ds:List CH) (s:Int) (g:Tm) (a:List Tm),(rR ds n)→(Gh ds)→(Gg s)→(okB g=true)→(a.length<549755813888)→(∀y∈a,okB y=true)→(KQ ds B1 n g a s≠ .stuck)→Bo Tryz.prog 81 [.ptr m 0,.agg ((BO g).map .p),.p (.lst (BE a))] [.box m [.p (.lst (List.map Bh ds)),.p (I s)]] (Km (fun(r:Option Tm×Int)=> .tup [TV (r.1.getD Bc),.p (.bool r.1.isSome)]) (fun _=> .p (.iface 122 .unit)) (fun r H'=>H'=[.box m [.p (.lst (List.map Bh ds)),.p (I r.2)]]) ((KQ ds B1 n g a s).ex)):=by
 intro n m ds s g a hT h2 h3 h4 h5 h6 hns;obtain⟨gk,gi,gn,gl,gs⟩:=g;have hgo:=CM.1 h4;have hgl:=hgo.nd;simp only[Nd,Dc] at hgl;generalize hC:KQ ds B1 n (.mk gk gi gn gl gs:Tm) a s=X at hns ⊢;refine A5 Tryz.func81 O r8 (n:=122) O O (Aw (BF O (BN O) fun b4=>BF O (A7 Bw O) fun b6=>Ar Ay 1 [] O (Aw (Ax Ay 2 [1] O (Aq O (B9 [2] O (.inl ⟨O,O,O⟩) (Ph m ds s (.mk gk gi gn gl gs:Tm) h2.g.env) ⟨_,_,O,O,O⟩ Am O (.inl O)) (Ax Ay 3 [] O (BF O (A7 Hw O) fun b8=>Ar Ay 2 [0,1] O (As (Au Ay 2 [] O (Av O (fun c=>?_) (fun c=>?_)))))))))))
 ·(try simp only[sd,se] at c);rw[dc c] at hC;refine Au Ay 3 [1,0] O (BH (BR (i:=1) O) (Az (⟨O,_,_,⟨_,_,O,(A9 (i:=1) BY O O O),⟨_,_,O,O,O⟩⟩,(B4 (is:=[3]) O),?_⟩)));exact⟨⟨_,_⟩,DA hC.symm,O,O⟩
 (try simp only[sd,se] at c);have hu:=c;obtain⟨ix,dd,e1,e2,e3,e4⟩:=Kk hu;have hde:=e2.decl;have hdg:=h2.g.all _ e3;have hel:=h2.g.env.len;have hil:=(List.getElem?_eq_some_iff.1 e1).1;have hfx:=hdg.fx;have hnr:=IH hdg;have hcl:=hdg.din.cl;have hfl:=hdg.din.fl;refine A1 (As (Bt (fun k=>Nat.beq k 8) Dn (BP Ay 5 [3] O (CU (j:=0) O O O (fun H i hi=>A3 (i:=i) DN O hi (DZ _)) AB Ap (BG O (fun _=>A4 HT O O An (D3 e4) (Cm _)) Ap (BG O (fun _=>BM FW O (Cm _)) Ap (Gi [] O O (A7 JP O) Aj fun b10=>⟨AB,Ap,?_⟩)))))));refine Bj Ay 1 [0,1] O (As (Aw (Aq O (A0 GH O O) (Aq O (A3 (i:=1) DN O O (Da _)) (Bg O (A8 (Au Ay 2 [] O (Av O (fun c1=>?_) (fun c1=>?_)))))))))
 ·(try simp only[sd,se] at c1);have hk1:=c1;refine Aw (Ax Ay 4 [1,3] O ?_);rw[iu hu e4 hk1] at hC;refine De [4] O O O (.inl ⟨O,O,O⟩) (Va m ds s ((Bp ds (.mk gk gi gn gl gs:Tm).name).1) (.mk gk gi gn gl gs:Tm) a dd h3 e4 An hdg h4 h5 (by rw[hC];exact hns)) ⟨_,_,O,O,O⟩ Am (aw (we O) (aw (we O) (aw (we O) (aw (we O) (Eo))))) (fun _ _ h=>(congrArg List.length h).trans O) ?_ ?_
  rotate_left
  ·intro e _ he;exact⟨O,_,List.nil_sublist _,⟨_,by rw[←hC];exact he,rfl⟩⟩
  rintro⟨q,n2⟩ _ hz rfl;have hfin:=hz;refine Ar Ay 4 [2,1] O (Az (⟨O,_,_,⟨_,_,O,(A9 (i:=2) BY O O Ag),⟨_,_,O,O,O⟩⟩,(B4 (is:=[4]) O),?_⟩));exact⟨⟨q,n2⟩,by rw[←hC];exact hfin,rfl,rfl⟩
 (try simp only[sd,se] at c1);have hk1:=c1;refine Au Ay 2 [] O (Av O (fun c2=>?_) (fun c2=>?_))
 ·(try simp only[sd,se] at c2);have hk5:=c2;refine Aw (Aq O (BT (i:=0) FW O O Ad) (Aq O (BC O O (Ox dd hdg.din hdg.fx) O) (Ar Ay 1 [] O (As (Aw (Bq O (Aq O (BK Be O (BQ _)) (Ar Ay 2 [] O (Av O (fun c3=>?_) (fun c3=>?_))))))))))
  ·(try simp only[sd,se] at c3);rw[cm hu e4 hk5 An] at hC;refine Au Ay 3 [2,0] O (BH (BR (i:=2) O) (Az (⟨O,_,_,⟨_,_,O,(A9 (i:=2) BY O O O),⟨_,_,O,O,O⟩⟩,(B4 (is:=[4]) O),?_⟩)));exact⟨⟨_,_⟩,DA hC.symm,O,O⟩
  (try simp only[sd,se] at c3);have hfew:¬(a.length:Int)≤CT dd:=by omega
  refine A1 (As (Aw (Ax Ay 3 [] O ?_)));obtain⟨x,hx⟩:=A6 (l:=a) (i:=(CT dd:Int).toNat) An;have hxo:=h6 _ (List.mem_of_getElem? hx);refine Aq O (A4 Be O O An (Bd hx) (BD _)) (Aq O (BM BY O (BD _)) (Aq O (B9 [4] O (.inl ⟨O,O,O⟩) (QP m ds s x h2.g hxo) ⟨_,_,O,O,O⟩ Am O (.inl O)) (Ax Ay 5 [] O (BF O (A7 JP O) fun b12=>Ar Ay 4 [0,1] O (Au Ay 1 [] O (Av O (fun c4=>?_) (fun c4=>?_)))))))
  ·(try simp only[sd,se] at c4);have hcs:=MT c4;rw[br hu e4 hk5 hfew hx hcs] at hC;refine As ?_;obtain⟨e,he⟩ | ⟨⟨q,n2⟩,hz⟩:=FK ((Ew ds B1 dd (.mk gk gi gn gl gs:Tm) a x s).ex)
   ·refine Iv ((fun _=> .p (.iface 122 .unit)) e) 8 [.val (.ptr m 0),.val (.agg ((Bh dd).map .p)),.val (.agg [.p (I gk),.p (I gi),.p (.str gn),.p (.lst (List.map Bz gl)),.p (.lst (BE gs))]),.val (.p (.lst (BE a))),.val (.p (.lst (BE a))),.val (.p (I (CT dd))),.val (.ref (BO x)),.val (.agg ((BO x).map .p)),.val (.p .any),.val (.p .any),.val (.p .any),.val (.p .any),.val (.p .any)] Dn O Aj O Ap (fun _ _=>by exact⟨rfl,_,List.nil_sublist _,⟨_,by rw[←hC];exact he,rfl⟩⟩) ?_;exact B7 O O (fun Bs=>BZ O) (B7 O O (fun Bs=>BT (i:=Bs.length+1) FW O (CX O) Ad) (B7 O O (fun Bs=>BT (i:=Bs.length+4) BY O (CX O) O) (B7 O O (fun Bs=>BZ O) (B7 O O (fun Bs=>BZ O) (B7 O O (fun Bs=>BZ O) (B7 O O (fun Bs=>A4 Be O O An (Bd hx) (BD _)) (B7 O O (fun Bs=>BM BY O (BD _)) (Kr (mkp:=(fun _=> .p (.iface 122 .unit))) (e:=e) [5] he O O (.inl ⟨O,O,O⟩) (UT m ds s dd (.mk gk gi gn gl gs:Tm) a x h3 h2.g hdg h4 h5 hxo An (by rw[hC];exact hns)) ⟨_,_,O,O,O⟩ Am (aw (we O) (aw (we O) (aw (we O) (aw (we O) (aw (we O) (Eo)))))) (C9 O O Aj (C9 O O Aj (C9 O O Aj (C9 O O Aj K4))))))))))))
   have hfin:=hz;refine ID [.box b12 ((Bh ((CO ds x).1)).map .p),.box b10 ((Bh dd).map .p),.box b8 ((DX ((Bp ds (.mk gk gi gn gl gs:Tm).name).1)).map .p),.box b6 [.p (I 0),.p (I 0),.p (.str ⟨#[]⟩),.p (.nils),.p (.nils)],.box b4 [.p (I gk),.p (I gi),.p (.str gn),.p (.lst (List.map Bz gl)),.p (.lst (BE gs))],.box m [.p (.lst (List.map Bh ds)),.p (I n2)]] 8 [.val (.ptr m 0),.val (.agg ((Bh dd).map .p)),.val (.agg [.p (I gk),.p (I gi),.p (.str gn),.p (.lst (List.map Bz gl)),.p (.lst (BE gs))]),.val (.p (.lst (BE a))),.val (.p (.lst (BE a))),.val (.p (I (CT dd))),.val (.ref (BO x)),.val (.agg ((BO x).map .p)),.val (.tup [.agg ((BO (q.getD Bc)).map .p),.p (.bool q.isSome)]),.val (.agg ((BO (q.getD Bc)).map .p)),.val (.p (.bool q.isSome))] [.p .any,.p (.bool q.isSome)] [] Dn O Aj Aj Aj O ?_ ?_
   ·exact Ap
   refine Bk O O (fun Bs=>BZ O) (Fz O O O (fun Bs=>BT (i:=Bs.length+1) FW O (CX O) Ad) (fun Bs=>BT (i:=Bs.length+1) FW O (CX O) Ad) (Fz O O O (fun Bs=>BT (i:=Bs.length+4) BY O (CX O) O) (fun Bs=>BT (i:=Bs.length+4) BY O (CX O) O) (Bk O O (fun Bs=>BZ O) (Bk O O (fun Bs=>BZ O) (Bk O O (fun Bs=>BZ O) (Bk O O (fun Bs=>A4 Be O O An (Bd hx) (BD _)) (Bk O O (fun Bs=>BM BY O (BD _)) (KB O (fun Bs=>Gx [5] O (.inl ⟨O,O,O⟩) (K6 hz (UT m ds s dd (.mk gk gi gn gl gs:Tm) a x h3 h2.g hdg h4 h5 hxo An (by rw[hC];exact hns))) ⟨_,_,O,O,O⟩ Am O (aw (we O) (aw (we O) (aw (we O) (aw (we O) (aw (we O) (Eo))))))) (Bk O O (fun Bs=>DR O O) ?_)))))))));refine Bk O O (fun Bs=>DR O O) (J6 (Dv [.box b12 ((Bh ((CO ds x).1)).map .p),.box b10 ((Bh dd).map .p),.box b8 ((DX ((Bp ds (.mk gk gi gn gl gs:Tm).name).1)).map .p),.box b6 ((BO (q.getD Bc)).map .p),.box b4 [.p (I gk),.p (I gi),.p (.str gn),.p (.lst (List.map Bz gl)),.p (.lst (BE gs))],.box m [.p (.lst (List.map Bh ds)),.p (I n2)]] O (Cd (i:=3) BY O O O Ag AW (FP _)) (Dv [.box b12 ((Bh ((CO ds x).1)).map .p),.box b10 ((Bh dd).map .p),.box b8 ((DX ((Bp ds (.mk gk gi gn gl gs:Tm).name).1)).map .p),.box b6 ((BO (q.getD Bc)).map .p),.box b4 [.p (I gk),.p (I gi),.p (.str gn),.p (.lst (List.map Bz gl)),.p (.lst (BE gs))],.box m [.p (.lst (List.map Bh ds)),.p (I n2)]] O (ED O) (J0 (Az ?_)))));refine⟨O,_,_,⟨_,_,O,(A9 (i:=3) BY O O Ag),⟨_,_,O,O,O⟩⟩,(B4 (is:=[5]) O),?_⟩;exact⟨⟨q,n2⟩,by rw[←hC];exact hfin,rfl,rfl⟩
  (try simp only[sd,se] at c4);have hcn:=Ot c4;refine A1 (Aw (Ax Ay 3 [] O (Aq O (A4 Be O O An (Bd hx) (BD _)) (Aq O (BM BY O (BD _)) ?_))));rw[ft hu e4 hk5 hfew hx hcn] at hC;have hn0:=hns;rw[←hC] at hn0;have hn1:=Iw hn0;refine De [5] O O O (.inl ⟨O,O,O⟩) (hT m x s h3 hn1) ⟨_,_,O,O,O⟩ Am (aw (we O) (aw (we O) (Eo))) (fun _ _ h=>(congrArg List.length h).trans O) ?_ ?_
  rotate_left
  ·intro e _ he;exact⟨O,_,List.nil_sublist _,⟨_,by rw[←hC];exact Jt hn0 he,rfl⟩⟩
  rintro⟨q,n2⟩ _ hz rfl;rw[Ku hz] at hC;refine Ax Ay 3 [] O (BF O (A7 Bw O) fun b16=>Ar Ay 2 [0,1] O (As (Au Ay 2 [] O (Av O (fun c5=>?_) (fun c5=>?_)))))
  ·(try simp only[sd,se] at c5);rw[kg c5] at hC;refine Au Ay 3 [4,0] O (BH (BR (i:=4) O) (Az (⟨O,_,_,⟨_,_,O,(A9 (i:=4) BY O O O),⟨_,_,O,O,O⟩⟩,(B4 (is:=[6]) O),?_⟩)));exact⟨⟨_,_⟩,DA hC.symm,O,O⟩
  (try simp only[sd,se] at c5);rw[mL c5] at hC;refine A1 (Aw (Bq O (Nl O O O (.inl ⟨O,O,O⟩) (Kb a h5) (.inl O) fun o cp=>Ar Ay 1 [] O (Aw (Ax Ay 3 [1] O (Mp (i:=0) O (by rw[BQ];omega) fun b hb=>?_))))));subst hb;refine Aq O (Cv Be O O An AX) (Aq O (EJ (i:=0) (j:=((CT dd:Int).toNat)) BY O O O AX O (KV _) (BD _) (FP _) (Ss a ((CT dd:Int).toNat) (q.getD Bc))) (Bg O (Aw (Ax Ay 2 [6] O (B2 (C5 (t:=93) (x:= .vs (some b) (BE ((a).set ((CT dd:Int).toNat) (q.getD Bc))).length cp) (DL a (l':=(a).set ((CT dd:Int).toNat) (q.getD Bc)) Ao)) (B2 (C5 (t:=18) (x:= .vs (some b) (BE ((a).set ((CT dd:Int).toNat) (q.getD Bc))).length cp) (DL a (l':=(a).set ((CT dd:Int).toNat) (q.getD Bc)) Ao)) (B2 (C5 (t:=94) (x:= .vs (some b) (BE ((a).set ((CT dd:Int).toNat) (q.getD Bc))).length cp) (DL a (l':=(a).set ((CT dd:Int).toNat) (q.getD Bc)) Ao)) ?_)))))));refine B2 (C5 (t:=99) (x:= .vs (some b) (BE ((a).set ((CT dd:Int).toNat) (q.getD Bc))).length cp) (DL a (l':=(a).set ((CT dd:Int).toNat) (q.getD Bc)) Ao)) (B2 (Ce (i:=0) [93,18,94,99] O (Dx ⟨O,O,O,O,Ap⟩)) (Aq O (BC O O (EL (.mk gk gi gn gl gs:Tm) ((a).set ((CT dd:Int).toNat) (q.getD Bc)) AS) O) (Ar Ay 2 [4,1] O (Az (⟨O,_,_,⟨_,_,O,(A9 (i:=4) BY O O Ag),⟨_,_,O,O,O⟩⟩,(B4 (is:=[6]) O),?_⟩)))));exact⟨⟨_,_⟩,DA hC.symm,O,O⟩
 (try simp only[sd,se] at c2);have hk5:=c2;refine Au Ay 2 [] O (Av O (fun c3=>?_) (fun c3=>?_))
 ·(try simp only[sd,se] at c3);have hk6:=c3;obtain⟨fk,ff,f1,f2⟩:=e2.func hk6;have hff:dd.funs[(Bp ds (Tm.mk gk gi gn gl gs).name).1.item.toNat]?=some ff:=by rw[f2];simpa using f1
  have hfm:=List.mem_of_getElem? hff;have hfa:=hdg.fu ff hfm;have hfi:=(List.getElem?_eq_some_iff.1 f1).1;refine Aw (Aq O (A0 Cz O O) (Aq O (A3 (i:=0) HY O O (CD _)) (Aq O (A0 GH O O) (Aq O (A3 (i:=1) DN O O (Fh _)) (Aq O (A4 GB O O An (EO hff) (DJ _)) (Aq O (BM Zn O (DJ _)) (BF O (A7 Vx O) fun b19=>Ar Ay 1 [0,1] O (Aw (Bq O (Aq O (BK Be O (BQ _)) (Aq O (A0 Gv O O) (Aq O (A3 (i:=0) DN O O (CL _)) (Ar Ay 1 [] O (Av O (fun c4=>?_) (fun c4=>?_)))))))))))))))
  ·(try simp only[sd,se] at c4);refine Aw (Ax Ay 4 [4,0] O ?_);rw[hZ hu e4 hk6 hff An] at hC;refine De [5] O O O (.inl ⟨O,O,O⟩) (Xk n m ds s (.mk gk gi gn gl gs:Tm) a dd ff hT h2 h3 e3 hfm An h4 h5 h6 (by rw[hC];exact hns)) ⟨_,_,O,O,O⟩ Am (aw (we O) (aw (we O) (aw (we O) (aw (we O) (Eo))))) (fun _ _ h=>(congrArg List.length h).trans O) ?_ ?_
   rotate_left
   ·intro e _ he;exact⟨O,_,List.nil_sublist _,⟨_,by rw[←hC];exact he,rfl⟩⟩
   rintro⟨q,n2⟩ _ hz rfl;have hfin:=hz;refine Ar Ay 4 [3,1] O (Az (⟨O,_,_,⟨_,_,O,(A9 (i:=3) BY O O Ag),⟨_,_,O,O,O⟩⟩,(B4 (is:=[5]) O),?_⟩));exact⟨⟨q,n2⟩,by rw[←hC];exact hfin,rfl,rfl⟩
  (try simp only[sd,se] at c4);rw[ej hu e4 hk6 hff An] at hC;refine A1 (Au Ay 3 [3,0] O (BH (BR (i:=3) O) (Az (⟨O,_,_,⟨_,_,O,(A9 (i:=3) BY O O O),⟨_,_,O,O,O⟩⟩,(B4 (is:=[5]) O),?_⟩))));exact⟨⟨_,_⟩,DA hC.symm,O,O⟩
 (try simp only[sd,se] at c3);have hk6:=c3;rw[lu hu hk1 hk5 hk6] at hC;refine A1 (Au Ay 3 [2,0] O (BH (BR (i:=2) O) (Az (⟨O,_,_,⟨_,_,O,(A9 (i:=2) BY O O O),⟨_,_,O,O,O⟩⟩,(B4 (is:=[4]) O),?_⟩))));exact⟨⟨_,_⟩,DA hC.symm,O,O⟩
set_option maxHeartbeats 4000000 in
theorem eS:∀(ds:List CH) (hE:Gh ds) (n:Nat),rR ds n:=by
 intro ds hE n
 induction n using Nat.strongRecOn with
 | ind n ih =>
  intro m t s hJ hns;obtain⟨k,rfl⟩:=cG rfl hns;generalize hC:E9 ds B1 (k+1) s t=X at hns ⊢;have hwo:=jF hC hns;have hsp:=WV hwo;have hsl:=hsp.len;have hss:=hsp.sz;have hsa:=hsp.asz;refine A5 Tryz.func44 O q8 (n:=90) O O (Aw (BF O (BN O) fun b3=>BF O (A7 Bw O) fun b4=>Ar Ay 1 [] O (Aw (Aq O (BT (i:=1) BY O O Ag) (Aq O (BC O O (ML t hsp.nd AZ) O) (Ax Ay 3 [] O (BF O (A7 Bw O) fun b6=>Ar Ay 2 [0,1] O (As (Aw (Aq O (A0 HO O O) ?_))))))))));generalize hz:(BA t).1=z;obtain⟨zk,zi,zn,zl,zs⟩:=z;have hzo:okB (.mk zk zi zn zl zs)=true:=hz▸hsp.head;have hzq:=hz;have hzl:=JM hzo;have hzn:=(CM.1 hzo).nd;refine Ar Ay 1 [0] O (A8 (Au Ay 2 [] O (Av O (fun c=>?_) (fun c=>?_))))
  ·(try simp only[sd,se] at c);have hk:=(congrArg Tm.kind hzq).trans c;refine Aw (Bq O (Aq O (BK Be O (BQ _)) (Ar Ay 1 [] O (Av O (fun c1=>?_) (fun c1=>?_)))))
   ·(try simp only[sd,se] at c1);refine As ?_;obtain⟨x,hx⟩:=A6 (l:=zs) (i:=1) An;obtain⟨x1,hx1⟩:=A6 (l:=(BA t).2) (i:=0) An;have hxo:=F6 hzo (i:=1) hx;have hx1o:=hsp.args _ (List.mem_of_getElem? hx1);rw[ij hwo hk An (by rw[hzq];exact hx),kG hx1] at hC;have hn3:=hns;rw[←hC] at hn3;obtain⟨e,he⟩ | ⟨⟨z1,n2⟩,hz⟩:=FK (JZ s (CJ x [x1] 0))
    ·refine Iv ((fun _=> .p (.iface 122 .unit)) e) 9 [.val (.ptr m 0),.val (.ptr b6 (0+4)),.val (.p (.lst (BE zs))),.val (.ref (BO x)),.val (.agg ((BO x).map .p)),.val (.p (.lst (BE ((BA t).2)))),.val (.ref (BO x1)),.val (.agg ((BO x1).map .p)),.val (.p (.lst (BE [x1]))),.val (.p .any),.val (.p (.lst (BE ((BA t).2)))),.val (.p (.lst (BE (((BA t).2).drop 1)))),.val (.p .any),.val (.p .any),.val (.p .any)] Dn O Aj O Ap (fun _ _=>by exact⟨rfl,_,List.nil_sublist _,⟨_,by rw[←hC];exact KD hn3 he,rfl⟩⟩) ?_;refine B7 O O (fun Bs=>BZ O) (B7 O O (fun Bs=>A0 HO O O) (B7 O O (fun Bs=>B5 (i:=Bs.length+0) Gj O (CX O) O) (B7 O O (fun Bs=>A4 Be O O An (Bd hx) (BD _)) (B7 O O (fun Bs=>BM BY O (BD _)) (B7 O O (fun Bs=>BZ O) (B7 O O (fun Bs=>A4 Be O O An (Bd hx1) (BD _)) (B7 O O (fun Bs=>BM BY O (BD _)) (B7 O O (fun Bs=>Bx (rows:=BE [x1]) Be Bw O O O O (CF (Bv _)) (FE _)) (Kr (mkp:=(fun _=> .p (.iface 122 .unit))) (e:=e) [3] he O O (.inl ⟨O,O,O⟩) (Kp m ds s x [x1] hJ hxo (ok_one hx1o) Jx) ⟨_,_,O,O,O⟩ Am (aw (we O) (aw (we O) (aw (we O) (Eo)))) (B7 O O (fun Bs=>BZ O) ?_))))))))));exact B7 O O (fun Bs=>CY (lo:=1) Be O (CF (Bv _)) ⟨_,O⟩ O AQ (Nat.le_refl _) (Jo ((BA t).2) 1)) (C9 O O Aj (C9 O O Aj (C9 O O Aj K4)))
    rw[KC hn3 hz] at hC;have hJ3:=(Q8 hJ hz).1;refine ID [.box b6 [.p (I zk),.p (I zi),.p (.str zn),.p (.lst (List.map Bz zl)),.p (.lst (BE zs))],.box b4 [.p (I 0),.p (I 0),.p (.str ⟨#[]⟩),.p (.nils),.p (.nils)],.box b3 ((BO t).map .p),.box m [.p (.lst (List.map Bh ds)),.p (I n2)]] 9 [.val (.ptr m 0),.val (.ptr b6 (0+4)),.val (.p (.lst (BE zs))),.val (.ref (BO x)),.val (.agg ((BO x).map .p)),.val (.p (.lst (BE ((BA t).2)))),.val (.ref (BO x1)),.val (.agg ((BO x1).map .p)),.val (.p (.lst (BE [x1]))),.val (.agg ((BO z1).map .p)),.val (.p (.lst (BE ((BA t).2)))),.val (.p (.lst (BE (((BA t).2).drop 1)))),.val (.agg ((BO (apply z1 (((BA t).2).drop 1))).map .p))] [.p .any,.p (.bool true)] [] Dn O Aj Aj Aj O ?_ ?_
    ·exact Ap
    refine Bk O O (fun Bs=>BZ O) (Bk O O (fun Bs=>A0 HO O O) (Fz O O O (fun Bs=>B5 (i:=Bs.length+0) Gj O (CX O) O) (fun Bs=>B5 (i:=Bs.length+0) Gj O (CX O) O) (Bk O O (fun Bs=>A4 Be O O An (Bd hx) (BD _)) (Bk O O (fun Bs=>BM BY O (BD _)) (Bk O O (fun Bs=>BZ O) (Bk O O (fun Bs=>A4 Be O O An (Bd hx1) (BD _)) (Bk O O (fun Bs=>BM BY O (BD _)) (Bk O O (fun Bs=>Bx (rows:=BE [x1]) Be Bw O O O O (CF (Bv _)) (FE _)) (KB O (fun Bs=>Gx [3] O (.inl ⟨O,O,O⟩) (K6 hz (Kp m ds s x [x1] hJ hxo (ok_one hx1o) Jx)) ⟨_,_,O,O,O⟩ Am O (aw (we O) (aw (we O) (aw (we O) (Eo))))) (Bk O O (fun Bs=>BZ O) ?_))))))))));refine Bk O O (fun Bs=>CY (lo:=1) Be O (CF (Bv _)) ⟨_,O⟩ O AQ (Nat.le_refl _) (Jo ((BA t).2) 1)) (Bk O O (fun Bs=>BC O O (EL z1 (((BA t).2).drop 1) AR) O) (J6 (Dv [.box b6 [.p (I zk),.p (I zi),.p (.str zn),.p (.lst (List.map Bz zl)),.p (.lst (BE zs))],.box b4 ((BO (apply z1 (((BA t).2).drop 1))).map .p),.box b3 ((BO t).map .p),.box m [.p (.lst (List.map Bh ds)),.p (I n2)]] O (Cd (i:=1) BY O O O Ag AW (FP _)) (Dv [.box b6 [.p (I zk),.p (I zi),.p (.str zn),.p (.lst (List.map Bz zl)),.p (.lst (BE zs))],.box b4 ((BO (apply z1 (((BA t).2).drop 1))).map .p),.box b3 ((BO t).map .p),.box m [.p (.lst (List.map Bh ds)),.p (I n2)]] O (ED O) (J0 (Az (⟨O,_,_,⟨_,_,O,(A9 (i:=1) BY O O Ag),⟨_,_,O,O,O⟩⟩,(B4 (is:=[3]) O),?_⟩)))))));exact⟨⟨_,_⟩,DA hC.symm,O,O⟩
   (try simp only[sd,se] at c1);rw[cN hwo hk An] at hC;refine A1 (Au Ay 3 [1,0] O (BH (BR (i:=1) O) (Az (⟨O,_,_,⟨_,_,O,(A9 (i:=1) BY O O O),⟨_,_,O,O,O⟩⟩,(B4 (is:=[3]) O),?_⟩))));exact⟨⟨_,_⟩,DA hC.symm,O,O⟩
  (try simp only[sd,se] at c);refine Au Ay 2 [] O (Av O (fun c1=>?_) (fun c1=>?_))
  ·(try simp only[sd,se] at c1);have hk:=(congrArg Tm.kind hzq).trans c1;refine As ?_;obtain⟨x,hx⟩:=A6 (l:=zs) (i:=2) An;obtain⟨x1,hx1⟩:=A6 (l:=zs) (i:=1) An;have hxo:=F6 hzo (i:=2) hx;have hx1o:=F6 hzo (i:=1) hx1;rw[ig hwo hk (by rw[hzq];exact hx1) (by rw[hzq];exact hx)] at hC;have hn3:=hns;rw[←hC] at hn3;obtain⟨e,he⟩ | ⟨⟨z1,n2⟩,hz⟩:=FK (JZ s (CJ x [x1] 0))
   ·refine Iv ((fun _=> .p (.iface 122 .unit)) e) 10 [.val (.ptr m 0),.val (.ptr b6 (0+4)),.val (.p (.lst (BE zs))),.val (.ref (BO x)),.val (.agg ((BO x).map .p)),.val (.ptr b6 (0+4)),.val (.p (.lst (BE zs))),.val (.ref (BO x1)),.val (.agg ((BO x1).map .p)),.val (.p (.lst (BE [x1]))),.val (.p .any),.val (.p (.lst (BE ((BA t).2)))),.val (.p .any),.val (.p .any),.val (.p .any)] Dn O Aj O Ap (fun _ _=>by exact⟨rfl,_,List.nil_sublist _,⟨_,by rw[←hC];exact KD hn3 he,rfl⟩⟩) ?_;refine B7 O O (fun Bs=>BZ O) (B7 O O (fun Bs=>A0 HO O O) (B7 O O (fun Bs=>B5 (i:=Bs.length+0) Gj O (CX O) O) (B7 O O (fun Bs=>A4 Be O O An (Bd hx) (BD _)) (B7 O O (fun Bs=>BM BY O (BD _)) (B7 O O (fun Bs=>A0 HO O O) (B7 O O (fun Bs=>B5 (i:=Bs.length+0) Gj O (CX O) O) (B7 O O (fun Bs=>A4 Be O O An (Bd hx1) (BD _)) (B7 O O (fun Bs=>BM BY O (BD _)) (B7 O O (fun Bs=>Bx (rows:=BE [x1]) Be Bw O O O O (CF (Bv _)) (FE _)) (Kr (mkp:=(fun _=> .p (.iface 122 .unit))) (e:=e) [3] he O O (.inl ⟨O,O,O⟩) (Kp m ds s x [x1] hJ hxo (ok_one hx1o) Jx) ⟨_,_,O,O,O⟩ Am (aw (we O) (aw (we O) (aw (we O) (Eo)))) ?_))))))))));exact B7 O O (fun Bs=>BZ O) (C9 O O Aj (C9 O O Aj (C9 O O Aj K4)))
   rw[KC hn3 hz] at hC;have hJ3:=(Q8 hJ hz).1;refine ID [.box b6 [.p (I zk),.p (I zi),.p (.str zn),.p (.lst (List.map Bz zl)),.p (.lst (BE zs))],.box b4 [.p (I 0),.p (I 0),.p (.str ⟨#[]⟩),.p (.nils),.p (.nils)],.box b3 ((BO t).map .p),.box m [.p (.lst (List.map Bh ds)),.p (I n2)]] 10 [.val (.ptr m 0),.val (.ptr b6 (0+4)),.val (.p (.lst (BE zs))),.val (.ref (BO x)),.val (.agg ((BO x).map .p)),.val (.ptr b6 (0+4)),.val (.p (.lst (BE zs))),.val (.ref (BO x1)),.val (.agg ((BO x1).map .p)),.val (.p (.lst (BE [x1]))),.val (.agg ((BO z1).map .p)),.val (.p (.lst (BE ((BA t).2)))),.val (.agg ((BO (apply z1 ((BA t).2))).map .p))] [.p .any,.p (.bool true)] [] Dn O Aj Aj Aj O ?_ ?_
   ·exact Ap
   refine Bk O O (fun Bs=>BZ O) (Bk O O (fun Bs=>A0 HO O O) (Fz O O O (fun Bs=>B5 (i:=Bs.length+0) Gj O (CX O) O) (fun Bs=>B5 (i:=Bs.length+0) Gj O (CX O) O) (Bk O O (fun Bs=>A4 Be O O An (Bd hx) (BD _)) (Bk O O (fun Bs=>BM BY O (BD _)) (Bk O O (fun Bs=>A0 HO O O) (Fz O O O (fun Bs=>B5 (i:=Bs.length+0) Gj O (CX O) O) (fun Bs=>B5 (i:=Bs.length+0) Gj O (CX O) O) (Bk O O (fun Bs=>A4 Be O O An (Bd hx1) (BD _)) (Bk O O (fun Bs=>BM BY O (BD _)) (Bk O O (fun Bs=>Bx (rows:=BE [x1]) Be Bw O O O O (CF (Bv _)) (FE _)) ?_)))))))));refine KB O (fun Bs=>Gx [3] O (.inl ⟨O,O,O⟩) (K6 hz (Kp m ds s x [x1] hJ hxo (ok_one hx1o) Jx)) ⟨_,_,O,O,O⟩ Am O (aw (we O) (aw (we O) (aw (we O) (Eo))))) (Bk O O (fun Bs=>BZ O) (Bk O O (fun Bs=>BC O O (EL z1 ((BA t).2) AR) O) (J6 (Dv [.box b6 [.p (I zk),.p (I zi),.p (.str zn),.p (.lst (List.map Bz zl)),.p (.lst (BE zs))],.box b4 ((BO (apply z1 ((BA t).2))).map .p),.box b3 ((BO t).map .p),.box m [.p (.lst (List.map Bh ds)),.p (I n2)]] O (Cd (i:=1) BY O O O Ag AW (FP _)) (Dv [.box b6 [.p (I zk),.p (I zi),.p (.str zn),.p (.lst (List.map Bz zl)),.p (.lst (BE zs))],.box b4 ((BO (apply z1 ((BA t).2))).map .p),.box b3 ((BO t).map .p),.box m [.p (.lst (List.map Bh ds)),.p (I n2)]] O (ED O) (J0 (Az ?_)))))));refine⟨O,_,_,⟨_,_,O,(A9 (i:=1) BY O O Ag),⟨_,_,O,O,O⟩⟩,(B4 (is:=[3]) O),?_⟩;exact⟨⟨_,_⟩,DA hC.symm,O,O⟩
  (try simp only[sd,se] at c1);refine As (Au Ay 2 [] O (BS [0,4,6,7,17] 51 (fun y=>y= .p (.bool (decide (zk=9∨zk=10)))) ?_ ?_))
  ·refine Av O (fun c2=>?_) (fun c2=>?_)
   ·(try simp only[sd,se] at c2);exact A1 (⟨O,O,(List.Sublist.refl _),(by refine pB (Bool.eq_iff_iff.2 ?_);simp only[beq_iff_eq,decide_eq_true_eq];omega),⟨O,O,O,O,O,Ap⟩⟩)
   (try simp only[sd,se] at c2);exact A2 (Ar Ay 2 [] O (⟨O,O,(List.Sublist.refl _),(by refine pB (Bool.eq_iff_iff.2 ?_);simp only[beq_iff_eq,decide_eq_true_eq];omega),⟨O,O,O,O,O,Ap⟩⟩))
  rintro _ rfl;refine Av O (fun c2=>?_) (fun c2=>?_)
  ·(try simp only[sd,se] at c2);have hk9:zk=9∨zk=10:=by simpa using c2
   refine Aw (Ax Ay 2 [0] O ?_);obtain⟨p,hp⟩:=A6 (l:=zs) (i:=0) An;refine Aq O (A4 Be O O An (Bd hp) (BD _)) (Aq O (BM BY O (BD _)) (BF O (A7 Bw O) fun b8=>Ar Ay 1 [0,1] O (As (Aw (Aq O (A0 HO O O) ?_)))));obtain⟨pk,pi,pn,pl,ps⟩:=p;have hpo:=F6 hzo (i:=0) hp;have hpl:=JM hpo;refine Ar Ay 2 [0] O (Av O (fun c3=>?_) (fun c3=>?_))
   ·(try simp only[sd,se] at c3);have hp8:=c3;refine Aw (Ax Ay 3 [1,0] O ?_);obtain⟨cq,hcq⟩:=A6 (l:=ps) (i:=(1+zk - 9).toNat) (by have:=hpl.2.2.2 hp8;omega);have hcqo:=F6 hpo (i:=(1+zk - 9).toNat) hcq;rw[bp hwo (by rw[hzq];exact hk9) (by rw[hzq];exact hp) (p:= .mk pk pi pn pl ps) hp8 (by rw[hzq];exact hcq)] at hC;have hn3:=hns;rw[←hC] at hn3;refine De [4] O O O (.inl ⟨O,O,O⟩) (ZB m ds s (.mk zk zi zn zl zs:Tm) (.mk pk pi pn pl ps:Tm) cq hJ hk9 hcq) ⟨_,_,O,O,O⟩ Am (aw (we O) (aw (we O) (aw (we O) (Eo)))) (fun _ _ h=>(congrArg List.length h).trans O) ?_ ?_
    rotate_left
    ·intro e _ he;exact⟨O,_,List.nil_sublist _,⟨_,by rw[←hC];exact KD hn3 he,rfl⟩⟩
    rintro⟨z1,n2⟩ _ hz rfl;rw[KC hn3 hz] at hC;refine Bq O (Aq O (BC O O (EL z1 ((BA t).2) AR) O) (Ar Ay 2 [2,1] O (Az (⟨O,_,_,⟨_,_,O,(A9 (i:=2) BY O O Ag),⟨_,_,O,O,O⟩⟩,(B4 (is:=[4]) O),?_⟩))));exact⟨⟨_,_⟩,DA hC.symm,O,O⟩
   (try simp only[sd,se] at c3);have hp8:=c3;refine A1 (Aw (Ax Ay 2 [0] O ?_));rw[dy hwo (by rw[hzq];exact hk9) (by rw[hzq];exact hp) (p:= .mk pk pi pn pl ps) hp8] at hC;have hn0:=hns;rw[←hC] at hn0;have hn1:=Iw hn0;refine De [4] O O O (.inl ⟨O,O,O⟩) (ih k An m (.mk pk pi pn pl ps:Tm) s hJ hn1) ⟨_,_,O,O,O⟩ Am (aw (we O) (aw (we O) (Eo))) (fun _ _ h=>(congrArg List.length h).trans O) ?_ ?_
   rotate_left
   ·intro e _ he;exact⟨O,_,List.nil_sublist _,⟨_,by rw[←hC];exact Jt hn0 he,rfl⟩⟩
   rintro⟨q,n2⟩ _ hz rfl;rw[Ku hz] at hC;refine Ax Ay 3 [] O (BF O (A7 Bw O) fun b9=>Ar Ay 2 [0,1] O (Au Ay 1 [] O (Av O (fun c4=>?_) (fun c4=>?_))))
   ·(try simp only[sd,se] at c4);rw[lE c4,hzq] at hC;refine Aw (Ax Ay 3 [2,0] O (Aq O (Bx (rows:=BE [(q.getD Bc)]) Be Bw O O O O (CF (Bv _)) (FE _)) (Ax Ay 2 [] O (Aq O (Gw O O (EL (.mk zk 0 ⟨#[]⟩ [] [(q.getD Bc)]:Tm) ((BA t).2) AR) (aw (Dt O) (aw (we O) (Eo)))) (Ar Ay 2 [3,1] O (Az (⟨O,_,_,⟨_,_,O,(A9 (i:=3) BY O O Ag),⟨_,_,O,O,O⟩⟩,(B4 (is:=[5]) O),?_⟩)))))));exact⟨⟨_,_⟩,DA hC.symm,O,O⟩
   (try simp only[sd,se] at c4);rw[kZ c4] at hC;refine A1 (Au Ay 3 [3,0] O (BH (BR (i:=3) O) (Az (⟨O,_,_,⟨_,_,O,(A9 (i:=3) BY O O O),⟨_,_,O,O,O⟩⟩,(B4 (is:=[5]) O),?_⟩))));exact⟨⟨_,_⟩,DA hC.symm,O,O⟩
  (try simp only[sd,se] at c2);refine Au Ay 2 [] O (Av O (fun c3=>?_) (fun c3=>?_))
  ·(try simp only[sd,se] at c3);have hk:=(congrArg Tm.kind hzq).trans c3;refine Aw (Ax Ay 3 [0] O ?_);rw[aU hwo hk,hzq] at hC;refine De [3] O O O (.inl ⟨O,O,O⟩) (U6 k m ds s (.mk zk zi zn zl zs:Tm) ((BA t).2) (ih k An) hE hJ hzo An hsp.args (by rw[hC];exact hns)) ⟨_,_,O,O,O⟩ Am (aw (we O) (aw (we O) (aw (we O) (Eo)))) (fun _ _ h=>(congrArg List.length h).trans O) ?_ ?_
   rotate_left
   ·intro e _ he;exact⟨O,_,List.nil_sublist _,⟨_,by rw[←hC];exact he,rfl⟩⟩
   rintro⟨q,n2⟩ _ hz rfl;have hfin:=hz;refine Ar Ay 4 [1,1] O (Az (⟨O,_,_,⟨_,_,O,(A9 (i:=1) BY O O Ag),⟨_,_,O,O,O⟩⟩,(B4 (is:=[3]) O),?_⟩));exact⟨⟨q,n2⟩,by rw[←hC];exact hfin,rfl,rfl⟩
  (try simp only[sd,se] at c3);rw[mH hwo (by rw[hzq];assumption) (by rw[hzq];assumption) (by rw[hzq];show ¬zk=9;omega) (by rw[hzq];show ¬zk=10;omega) (by rw[hzq];assumption)] at hC;refine A1 (Au Ay 3 [1,0] O (BH (BR (i:=1) O) (Az (⟨O,_,_,⟨_,_,O,(A9 (i:=1) BY O O O),⟨_,_,O,O,O⟩⟩,(B4 (is:=[3]) O),?_⟩))));exact⟨⟨_,_⟩,DA hC.symm,O,O⟩
end Go.Proofs.YtboammbpdaoojaaGreat
namespace Go.Eu
open Go.Abs
def eN (q:Tm):Bool:= !(decide ((size q:Int) > 4096)||decide (Et q > 200))
def US:Out (Option Tm×Int)→Tm×Bool×Int
 | .ok (some q,_)=>if eN q=true then (q,true,0) else (Bc,false,11)
 | .ok (none,_)=>(Bc,false,0)
 | _=>(Bc,false,11)
def LD:Out (Option Tm×Int)→Tm×Bool×Int
 | .ok (q,_)=>(q.getD Bc,q.isSome,0)
 | _=>(Bc,false,11)
def dJ:Out (Option Int×Int)→Int×Bool×Int
 | .ok (q,_)=>(q.getD 0,q.isSome,0)
 | _=>(0,false,11)
def m8 (o:Out (Option Tm×Int)):Prop:=∀q c,o= .ok (some q,c)→okB q=true
theorem tu {ak ai bk bi:Int}{an bn:ByteArray}{al bl:List CV}{a b:List Tm}(hl:bl.length=0) (hs:b.length=0):NV (Tm.mk ak ai an al a) (.mk bk bi bn bl b)=(((((ak==bk)&&(ai==bi))&&(an.toList==bn.toList))&&(decide (al.length=0)))&&(decide (a.length=0))):=by
 rw[List.length_eq_zero_iff] at hl hs;subst hl hs;rw[Bool.eq_iff_iff,IB];simp only[Tm.mk.injEq,Bool.and_eq_true,decide_eq_true_eq,beq_iff_eq,List.length_eq_zero_iff];constructor
 ·rintro⟨rfl,rfl,rfl,rfl,rfl⟩;exact⟨⟨⟨⟨rfl,rfl⟩,rfl⟩,rfl⟩,rfl⟩
 rintro⟨⟨⟨⟨h1,h2⟩,h3⟩,h4⟩,h5⟩;exact⟨h1,h2,Gu h3,h4,h5⟩
section
variable {o:Out (Option Tm×Int)}{q:Option Tm}{c e:Int}
theorem Q1 (h:m8 o) (hx:o.ex= .ok (q,c)):okB (q.getD Bc)=true:=by
 have h1:=HJ hx;cases q with
 | none=>decide
 | some x=>exact h x c h1
theorem RU (h:o.ex= .error e):US o=(Bc,false,11):=by cases o<;>first | rfl | cases h
theorem Ov (h:o.ex= .ok (q,c)) (hq:q.isSome=false):US o=(q.getD Bc,q.isSome,0):=by
 rw[HJ h];cases q with
 | none=>rfl
 | some x=>cases hq
theorem Li (h:o.ex= .ok (q,c)) (hq:q.isSome=true) (hf:(size (q.getD Bc):Int) > 4096∨Et (q.getD Bc) > 200):US o=(Bc,false,11):=by
 rw[HJ h];cases q with
 | none=>cases hq
 | some x =>
  have:eN x=false:=by
   simp only[Option.getD_some] at hf;unfold eN;simp only[Bool.not_eq_false',Bool.or_eq_true,decide_eq_true_eq];exact hf
  simp only[US,this,Bool.false_eq_true,if_false]
theorem SC (h:o.ex= .ok (q,c)) (hf:¬(q.isSome=true∧((size (q.getD Bc):Int) > 4096∨Et (q.getD Bc) > 200))):US o=(q.getD Bc,q.isSome,0):=by
 rw[HJ h];cases q with
 | none=>rfl
 | some x =>
  have:eN x=true:=by
   unfold eN;simp only[Option.isSome_some,Option.getD_some,true_and,not_or] at hf;simp only[Bool.not_eq_true',Bool.or_eq_false_iff,decide_eq_false_iff_not];exact hf
  simp only[US,this,if_true,Option.getD_some,Option.isSome_some]
theorem kv (h:o.ex= .error e):LD o=(Bc,false,11):=by cases o<;>first | rfl | cases h
theorem lO (h:o.ex= .ok (q,c)):LD o=(q.getD Bc,q.isSome,0):=by rw[HJ h];rfl
end
section
variable {o:Out (Option Int×Int)}{q:Option Int}{c e:Int}
theorem ll (h:o.ex= .error e):dJ o=(0,false,11):=by cases o<;>first | rfl | cases h
theorem kb (h:o.ex= .ok (q,c)):dJ o=(q.getD 0,q.isSome,0):=by rw[HJ h];rfl
end
section
variable {E:List CH}{σ:Type}{S:Sys σ}{W:σ→Tm→Out (Tm×σ)}
end
end Go.Eu
namespace Go.Proofs.YtboammbpdaoojaaGreat
open Go.Abs Go.Eu
theorem YX:∀(ds:List CH) (N m bt bo bk:Nat) (t:Tm) (s:Int),(Gh ds)→(Gg s)→(E9 ds B1 N s t≠ .stuck)→Bo Tryz.prog 43 [.ptr m 0,.ptr bt 0,.ptr bo 0,.ptr bk 0] [.box m [.p (.lst (List.map Bh ds)),.p (I s)],.box bt ((BO t).map .p),.box bo [.p (I 0),.p (I 0),.p (.str ⟨#[]⟩),.p (.nils),.p (.nils)],.box bk [.p (.bool false)]] (Km (fun(r:Option Tm×Int)=> .tup []) (fun _=> .p (.iface 122 .unit)) (fun r H'=>H'=[.box m [.p (.lst (List.map Bh ds)),.p (I r.2)],.box bt ((BO t).map .p),.box bo ((BO (r.1.getD Bc)).map .p),.box bk [.p (.bool r.1.isSome)]]) ((E9 ds B1 N s t).ex)):=by
 intro ds N m bt bo bk t s h1 h2 h3;refine A5 Tryz.func43 O rp (n:=11) O O (A2 (Ax Ay 2 [1] O (De [0] O O O (.inl ⟨O,O,O⟩) (eS ds h1 N m t s h2 h3) ⟨_,_,O,O,O⟩ Am (aw (we O) (aw (we O) (Eo))) (fun _ _ h=>(congrArg List.length h).trans O) ?_ ?_)))
 rotate_left
 ·intro e _ he;exact⟨O,_,List.nil_sublist _,⟨_,he,O⟩⟩
 rintro⟨q,n2⟩ _ hz rfl;refine Ar Ay 5 [2,1,3,0] O ⟨O,_,_,O,(B4 (is:=[0,1,2,3]) O),?_⟩;exact⟨⟨q,n2⟩,hz,O,O⟩
theorem iP:∀(ds:List CH) (N:Nat) (t:Tm),(Gh ds)→(E9 ds B1 N 20000 t≠ .stuck)→(m8 (E9 ds B1 N 20000 t))→EZ Tryz.prog 16 [.p (.lst (List.map Bh ds)),.agg ((BO t).map .p)] (.tup [.agg ((BO ((US (E9 ds B1 N 20000 t)).1)).map .p),.p (.bool ((US (E9 ds B1 N 20000 t)).2.1)),.p (I ((US (E9 ds B1 N 20000 t)).2.2))]):=by
 intro ds N t h1 h2 h3;refine A5 Tryz.func16 O sJ (n:=34) O O (Aw (BF O (BN O) fun b3=>BF O (A7 Bw O) fun b4=>Ar Ay 2 [] O (Aw (BF O (A7 Bw O) fun b7=>Bg O (Aw (BF O (A7 qY O) fun b8=>Ar Ay 1 [0,0] O (As ?_)))))));obtain⟨e,he⟩ | ⟨⟨q,n2⟩,ha⟩:=FK ((E9 ds B1 N 20000 t).ex)
 ·refine A2 (Ax Ay 2 [] O (QW [3,1,0] O O O (.inl ⟨O,O,O⟩) (O0 _ _ he (fun r=>r.2) (fun r=>[.box b3 ((BO t).map .p),.box b7 ((BO (r.1.getD Bc)).map .p),.box b8 [.p (.bool r.1.isSome)]]) 43 [.ptr b3 0,.ptr b7 0,.ptr b8 0] [.box b3 ((BO t).map .p),.box b7 [.p (I 0),.p (I 0),.p (.str ⟨#[]⟩),.p (.nils),.p (.nils)],.box b8 [.p (.bool false)]] ds (fun m=>YX ds N m b3 b7 b8 t 20000 h1 Ko h2)) ⟨_,_,O,O,⟨_,_,O,O,⟨_,_,O,O,O⟩⟩⟩ Am (DF _) (Ar Ay 1 [] O (As (Au Ay 15 [] O ?_)))));refine Av O (fun c=>by cases c) (fun c=>?_);refine A1 (As (Au Ay 2 [] O ?_));refine Av O (fun c1=>?_) (fun c1=>by cases c1);refine Au Ay 5 [0,0] O (BH (BR (i:=0) O) (Az (⟨O,_,_,⟨_,_,O,(A9 (i:=0) BY O O O),⟨_,_,O,O,⟨_,_,O,O,O⟩⟩⟩,(List.nil_sublist _),?_⟩)))
  all_goals exact⟨by show (.tup [.agg [.p (I 0),.p (I 0),.p (.str ⟨#[]⟩),.p (.lst []),.p (.lst [])],.p (.bool false),.p (I 11)]:AV)=_;first | (rw[RU he]<;>rfl) | (rw[Ov ha g]<;>rfl) | (rw[Li ha g]<;>first | rfl | omega) | (rw[SC ha]<;>first | rfl | (rintro⟨_,_ | _⟩<;>omega)),rfl⟩
 refine A2 (Ax Ay 2 [] O (Aq O (B9 [3,1,0] O (.inl ⟨O,O,O⟩) (Qi _ _ ha (fun r=>r.2) (fun r=>[.box b3 ((BO t).map .p),.box b7 ((BO (r.1.getD Bc)).map .p),.box b8 [.p (.bool r.1.isSome)]]) 43 [.ptr b3 0,.ptr b7 0,.ptr b8 0] [.box b3 ((BO t).map .p),.box b7 [.p (I 0),.p (I 0),.p (.str ⟨#[]⟩),.p (.nils),.p (.nils)],.box b8 [.p (.bool false)]] ds (fun m=>YX ds N m b3 b7 b8 t 20000 h1 Ko h2)) ⟨_,_,O,O,⟨_,_,O,O,⟨_,_,O,O,O⟩⟩⟩ Am O (.inl O)) (Ar Ay 1 [] O (As (Aw (Ax Ay 6 [0] O (BL 18 O (fun g=>?_) (fun g=>?_))))))))
 ·(try simp only[sd,se] at g);refine BB O (BT (i:=1) BY O O Ag) (BB O (BC O O (ZC (q.getD Bc) (CM.1 (Q1 h3 ha)).nd (by have:=Fk (Q1 h3 ha);omega)) O) (Ax Ay 2 [] O (BL 22 O (fun g1=>?_) (fun g1=>?_))))
  ·(try simp only[sd,se] at g1);refine Ar Ay 5 [] O ?_;refine Av O (fun c=>?_) (fun c=>by cases c);refine A2 (Ar Ay 1 [] O (As (Au Ay 2 [] O ?_)));refine Av O (fun c1=>?_) (fun c1=>by cases c1);refine Au Ay 5 [2,0] O (BH (BR (i:=2) O) (Az (⟨O,_,_,⟨_,_,O,(A9 (i:=2) BY O O O),⟨_,_,O,O,⟨_,_,O,O,O⟩⟩⟩,(List.nil_sublist _),?_⟩)))
   all_goals exact⟨by show (.tup [.agg [.p (I 0),.p (I 0),.p (.str ⟨#[]⟩),.p (.lst []),.p (.lst [])],.p (.bool false),.p (I 11)]:AV)=_;first | (rw[RU he]<;>rfl) | (rw[Ov ha g]<;>rfl) | (rw[Li ha g]<;>first | rfl | omega) | (rw[SC ha]<;>first | rfl | (rintro⟨_,_ | _⟩<;>omega)),rfl⟩
  (try simp only[sd,se] at g1);refine BB O (BT (i:=1) BY O O Ag) (BB O (BC O O (Wj _ (q.getD Bc) (Nat.le_refl _) (CM.1 (Q1 h3 ha)).nd) O) (Ar Ay 3 [] O (Av O (fun c=>?_) (fun c=>?_))))
  ·(try simp only[sd,se] at c);refine A2 (Ar Ay 1 [] O (As (Au Ay 2 [] O ?_)));refine Av O (fun c1=>?_) (fun c1=>by cases c1);refine Au Ay 5 [2,0] O (BH (BR (i:=2) O) (Az (⟨O,_,_,⟨_,_,O,(A9 (i:=2) BY O O O),⟨_,_,O,O,⟨_,_,O,O,O⟩⟩⟩,(List.nil_sublist _),?_⟩)))
   all_goals exact⟨by show (.tup [.agg [.p (I 0),.p (I 0),.p (.str ⟨#[]⟩),.p (.lst []),.p (.lst [])],.p (.bool false),.p (I 11)]:AV)=_;first | (rw[RU he]<;>rfl) | (rw[Ov ha g]<;>rfl) | (rw[Li ha g]<;>first | rfl | omega) | (rw[SC ha]<;>first | rfl | (rintro⟨_,_ | _⟩<;>omega)),rfl⟩
  (try simp only[sd,se] at c);refine A1 (As (Au Ay 2 [] O ?_));refine Av O (fun c1=>by cases c1) (fun c1=>?_);refine A1 (As (Bt (fun k=>false) Dn (Bj Ay 5 [1,0,2,1] O (Az (⟨O,_,_,⟨_,_,O,(A9 (i:=2) BY O O Ag),⟨_,_,O,O,⟨_,_,O,O,O⟩⟩⟩,(List.nil_sublist _),?_⟩)))))
  all_goals exact⟨by show (.tup [.agg ((BO (q.getD Bc)).map .p),.p (.bool q.isSome),.p (I 0)]:AV)=_;first | (rw[RU he]<;>rfl) | (rw[Ov ha g]<;>rfl) | (rw[Li ha g]<;>first | rfl | omega) | (rw[SC ha]<;>first | rfl | (rintro⟨_,_ | _⟩<;>omega)),rfl⟩
 (try simp only[sd,se] at g);refine Ar Ay 9 [] O ?_;refine Av O (fun c=>by cases c) (fun c=>?_);refine A1 (As (Au Ay 2 [] O ?_));refine Av O (fun c1=>by cases c1) (fun c1=>?_);refine A1 (As (Bt (fun k=>false) Dn (Bj Ay 5 [1,0,2,1] O (Az (⟨O,_,_,⟨_,_,O,(A9 (i:=2) BY O O Ag),⟨_,_,O,O,⟨_,_,O,O,O⟩⟩⟩,(List.nil_sublist _),?_⟩)))))
 all_goals exact⟨by show (.tup [.agg ((BO (q.getD Bc)).map .p),.p (.bool q.isSome),.p (I 0)]:AV)=_;first | (rw[RU he]<;>rfl) | (rw[Ov ha g]<;>rfl) | (rw[Li ha g]<;>first | rfl | omega) | (rw[SC ha]<;>first | rfl | (rintro⟨_,_ | _⟩<;>omega)),rfl⟩
theorem iK:∀(a b:List CV),(b.length=0)→EZ Tryz.prog 118 [.p (.lst (List.map Bz a)),.p (.lst (List.map Bz b)),.p (.fn 119)] (.p (.bool (decide (a.length=0)))):=by
 intro a b h1;refine A5 Tryz.func118 O p5 (n:=32) O O (Au Ay 1 [] O (As (Aw (Bq O (Aq O (BK EX O (List.length_map _)) (Bq O (Aq O (BK EX O (List.length_map _)) (Ar Ay 1 [] O (Av O (fun c=>?_) (fun c=>?_))))))))))
 ·(try simp only[sd,se] at c);refine Au Ay 1 [] O (Az (⟨O,_,_,⟨_,_,O,O,O⟩,(List.nil_sublist _),?_⟩))
  all_goals exact⟨pB (decide_eq_false An).symm,rfl⟩
 (try simp only[sd,se] at c);refine A1 (As (Aw (Bq O (Aq O (BK EX O (List.length_map _)) (Ar Ay 1 [] O (A8 (Bb (α:=Nat) (fun i=>⟨32,mk [(1,.p (.lst (List.map Bz b))),(2,.p (.fn 119)),(15,.p (.lst (List.map Bz a))),(16,.p (I (a.length:Nat))),(17,.p (I (i:Int)))],[],[]⟩) (fun i=>a.length - i) (fun i=>i≤a.length) 0 AP ?_ ?_)))))))
 ·exact BU ⟨we O,we O,we O,we O,we O,Ap⟩ (leH (is:=[]) O (C3))
 rintro i hC
 try simp only at hC
 have hi:=hC;refine Au Ay 1 [] O (As (Av O (fun c1=>?_) (fun c1=>?_)))
 ·(try simp only[sd,se] at c1);omega
 (try simp only[sd,se] at c1);refine Bf (Au Ay 1 [] O (Az (⟨O,_,_,⟨_,_,O,O,O⟩,(List.nil_sublist _),?_⟩)))
 all_goals exact⟨pB (decide_eq_true An).symm,rfl⟩
theorem iY:∀(a b:List Tm),(b.length=0)→EZ Tryz.prog 120 [.p (.lst (BE a)),.p (.lst (BE b)),.p (.fn 91)] (.p (.bool (decide (a.length=0)))):=by
 intro a b h1;refine A5 Tryz.func120 O oE (n:=32) O O (Au Ay 1 [] O (As (Aw (Bq O (Aq O (BK Be O (BQ _)) (Bq O (Aq O (BK Be O (BQ _)) (Ar Ay 1 [] O (Av O (fun c=>?_) (fun c=>?_))))))))))
 ·(try simp only[sd,se] at c);refine Au Ay 1 [] O (Az (⟨O,_,_,⟨_,_,O,O,O⟩,(List.nil_sublist _),?_⟩))
  all_goals exact⟨pB (decide_eq_false An).symm,rfl⟩
 (try simp only[sd,se] at c);refine A1 (As (Aw (Bq O (Aq O (BK Be O (BQ _)) (Ar Ay 1 [] O (A8 (Bb (α:=Nat) (fun i=>⟨32,mk [(1,.p (.lst (BE b))),(2,.p (.fn 91)),(15,.p (.lst (BE a))),(16,.p (I (a.length:Nat))),(17,.p (I (i:Int)))],[],[]⟩) (fun i=>a.length - i) (fun i=>i≤a.length) 0 AP ?_ ?_)))))))
 ·exact BU ⟨we O,we O,we O,we O,we O,Ap⟩ (leH (is:=[]) O (C3))
 rintro i hC
 try simp only at hC
 have hi:=hC;refine Au Ay 1 [] O (As (Av O (fun c1=>?_) (fun c1=>?_)))
 ·(try simp only[sd,se] at c1);omega
 (try simp only[sd,se] at c1);refine Bf (Au Ay 1 [] O (Az (⟨O,_,_,⟨_,_,O,O,O⟩,(List.nil_sublist _),?_⟩)))
 all_goals exact⟨pB (decide_eq_true An).symm,rfl⟩
theorem ju:∀(a b:Tm),(b.levels.length=0)→(b.kids.length=0)→EZ Tryz.prog 91 [.agg ((BO a).map .p),.agg ((BO b).map .p)] (.p (.bool (NV a b))):=by
 intro a b h1 h2;obtain⟨ak,ai,an,al,as1⟩:=a;obtain⟨bk,bi,bn,bl,bs⟩:=b;simp only[Tm.levels,Tm.kids] at h1 h2;refine A5 Tryz.func91 O rE (n:=38) O O (Aw (BF O (BN O) fun b2=>BF O (BN O) fun b3=>Ar Ay 1 [] O (As (BS [] 4 (fun y=>y= .p (.bool ((((((ak:Int)==(bk:Int))&&((ai:Int)==(bi:Int)))&&(an.toList==bn.toList))&&(decide (al.length=0)))&&(decide (as1.length=0))))) ?_ ?_))))
 ·refine A2 (Ax Ay 6 [1,0] O (BL 10 O (fun g=>?_) (fun g=>?_)))
  ·(try simp only[sd,se] at g);refine Ax Ay 7 [1,0] O (BL 17 O (fun g1=>?_) (fun g1=>?_))
   ·(try simp only[sd,se] at g1);refine Ax Ay 4 [1,0] O (BB O (Fu O O) (Ax Ay 2 [] O (BL 24 O (fun g2=>?_) (fun g2=>?_))))
    ·(try simp only[sd,se] at g2);refine Ax Ay 4 [1,0] O (BB O (BC O O (iK al bl h1) O) (Ax Ay 2 [] O (BL 31 O (fun g3=>?_) (fun g3=>?_))))
     ·(try simp only[sd,se] at g3);exact Ax Ay 4 [1,0] O (BB O (BC O O (iY as1 bs h2) O) (Ar Ay 2 [] O ⟨O,O,AK,AI,Ap⟩))
     (try simp only[sd,se] at g3);exact Ar Ay 7 [] O ⟨O,O,AK,AI,Ap⟩
    (try simp only[sd,se] at g2);exact Ar Ay 14 [] O ⟨O,O,AK,AI,Ap⟩
   (try simp only[sd,se] at g1);exact Ar Ay 21 [] O ⟨O,O,AK,AI,Ap⟩
  (try simp only[sd,se] at g);exact Ar Ay 28 [] O ⟨O,O,AK,AI,Ap⟩
 rintro _ rfl;refine Az (⟨O,_,_,⟨_,_,O,O,O⟩,(List.nil_sublist _),?_⟩)
 all_goals exact⟨by show (.p (.bool ((((((ak:Int)==(bk:Int))&&((ai:Int)==(bi:Int)))&&(an.toList==bn.toList))&&(decide (al.length=0)))&&(decide (as1.length=0)))):AV)=_;rw[tu h1 h2],rfl⟩
def ta (ds:List CH) (n:Nat):Prop:=∀(m:Nat) (t:Tm) (s:Int),Gg s→IU ds B1 n s t≠ .stuck→Bo Tryz.prog 53 [.ptr m 0,.agg ((BO t).map .p)] [.box m [.p (.lst (List.map Bh ds)),.p (I s)]] (Km (fun(r:Option Int×Int)=> .tup [.p (I (r.1.getD 0)),.p (.bool r.1.isSome)]) (fun _=> .p (.iface 122 .unit)) (fun r H'=>H'=[.box m [.p (.lst (List.map Bh ds)),.p (I r.2)]]) ((IU ds B1 n s t).ex))
set_option maxHeartbeats 4000000 in
theorem YG:∀(ds:List CH) (hE:Gh ds) (n:Nat),ta ds n:=by
 intro ds hE n
 induction n using Nat.strongRecOn with
 | ind n ih =>
  intro m t s hJ hns;have h2:=hE;obtain⟨k,rfl⟩:=fW rfl hns;generalize hC:IU ds B1 (k+1) s t=X at hns ⊢;rw[Ue] at hC;have hn0:=hns;rw[←hC] at hn0;have hn1:=T8 hn0;refine A5 Tryz.func53 O rH (n:=116) O O (Aw (BF O (BN O) fun b3=>Ar Ay 2 [] O (Aw (Ax Ay 2 [0] O (De [1] O O O (.inl ⟨O,O,O⟩) (MA ds hE k m t s hJ hn1) ⟨_,_,O,O,O⟩ Am (aw (we O) (aw (we O) (Eo))) (fun _ _ h=>(congrArg List.length h).trans O) ?_ ?_)))))
  rotate_left
  ·intro e _ he;exact⟨O,_,List.nil_sublist _,⟨_,by rw[←hC];exact Uf hn0 he,rfl⟩⟩
  rintro⟨pr,n2⟩ _ hz rfl;obtain⟨hr2,hr3⟩:=UI hn0 hz;rw[hr3] at hC;have hJ2:=QV hJ (HJ hz);have hsp:ml pr:=WV hr2;have hsl:=hsp.len;have hss:=hsp.sz;have hsa:=hsp.asz;refine Aq O (BC O O (ML pr hsp.nd AZ) O) (Ax Ay 3 [] O (BF O (A7 Bw O) fun b6=>Ar Ay 2 [0,1] O (As (Aw (Aq O (A0 HO O O) ?_)))));generalize hz:(BA pr).1=z;obtain⟨zk,zi,zn,zl,zs⟩:=z;have hzo:okB (.mk zk zi zn zl zs)=true:=hz▸hsp.head;have hzq:=hz;have hzl:=JM hzo;have hzn:=(CM.1 hzo).nd;refine Ar Ay 1 [0] O (A8 (Au Ay 2 [] O (Av O (fun c=>?_) (fun c=>?_))))
  ·(try simp only[sd,se] at c);have hk:=(congrArg Tm.kind hzq).trans c;rw[S7 (r:=(pr,n2)) hk,hzq] at hC;refine Au Ay 4 [0] O (Az (⟨O,_,_,⟨_,_,O,O,⟨_,_,O,O,O⟩⟩,(B4 (is:=[2]) O),?_⟩));exact⟨⟨_,_⟩,DA hC.symm,O,O⟩
  (try simp only[sd,se] at c);refine As (Au Ay 2 [] O (BS [0,6,7,25] 30 (fun y=>y= .p (.bool (decide (zk=9∨zk=10)))) ?_ ?_))
  ·refine Av O (fun c1=>?_) (fun c1=>?_)
   ·(try simp only[sd,se] at c1);exact A1 (⟨O,O,(List.Sublist.refl _),(by refine pB (Bool.eq_iff_iff.2 ?_);simp only[beq_iff_eq,decide_eq_true_eq];omega),⟨O,O,O,O,Ap⟩⟩)
   (try simp only[sd,se] at c1);exact A2 (Ar Ay 2 [] O (⟨O,O,(List.Sublist.refl _),(by refine pB (Bool.eq_iff_iff.2 ?_);simp only[beq_iff_eq,decide_eq_true_eq];omega),⟨O,O,O,O,Ap⟩⟩))
  rintro _ rfl;refine Av O (fun c1=>?_) (fun c1=>?_)
  ·(try simp only[sd,se] at c1);have hk9:zk=9∨zk=10:=by simpa using c1
   refine Aw (Ax Ay 3 [0] O ?_);obtain⟨x,hx⟩:=A6 (l:=zs) (i:=0) An;rw[Zm (r:=(pr,n2)) (by rw[hzq];exact hk9) (by rw[hzq];exact hx)] at hC;refine Aq O (A4 Be O O An (Bd hx) (BD _)) (Aq O (BM BY O (BD _)) (De [2] O O O (.inl ⟨O,O,O⟩) (ih k An m x n2 hJ2 (by rw[hC];exact hns)) ⟨_,_,O,O,O⟩ Am (aw (we O) (aw (we O) (Eo))) (fun _ _ h=>(congrArg List.length h).trans O) ?_ ?_))
   rotate_left
   ·intro e _ he;exact⟨O,_,List.nil_sublist _,⟨_,by rw[←hC];exact he,rfl⟩⟩
   rintro⟨q,n21⟩ _ hz1 rfl;have hfin:=hz1;refine Ar Ay 4 [] O (Az (⟨O,_,_,⟨_,_,O,O,⟨_,_,O,O,O⟩⟩,(B4 (is:=[2]) O),?_⟩));exact⟨⟨q,n21⟩,by rw[←hC];exact hfin,rfl,rfl⟩
  (try simp only[sd,se] at c1);refine Au Ay 2 [] O (Av O (fun c2=>?_) (fun c2=>?_))
  ·(try simp only[sd,se] at c2);have hk:=(congrArg Tm.kind hzq).trans c2;refine Aw (Ax Ay 2 [0] O (Aq O (B9 [2] O (.inl ⟨O,O,O⟩) (Ph m ds n2 (.mk zk zi zn zl zs:Tm) hE.g.env) ⟨_,_,O,O,O⟩ Am O (.inl O)) (Ax Ay 3 [] O (BF O (A7 Hw O) fun b8=>Ar Ay 2 [0,1] O (As (Au Ay 2 [] O (Av O (fun c3=>?_) (fun c3=>?_))))))))
   ·(try simp only[sd,se] at c3);rw[Z3 (r:=(pr,n2)) hk (.inl (by rw[hzq];exact c3))] at hC;refine Au Ay 2 [] O (Az (⟨O,_,_,⟨_,_,O,O,⟨_,_,O,O,O⟩⟩,(B4 (is:=[3]) O),?_⟩));exact⟨⟨_,_⟩,DA hC.symm,O,O⟩
   (try simp only[sd,se] at c3);have hu:=c3;obtain⟨ix,dd,e1,e2,e3,e4⟩:=Kk hu;have hde:=e2.decl;have hdg:=h2.g.all _ e3;have hel:=h2.g.env.len;have hil:=(List.getElem?_eq_some_iff.1 e1).1;have hfx:=hdg.fx;have hnr:=IH hdg;have hcl:=hdg.din.cl;have hfl:=hdg.din.fl;refine A1 (As (UF [.val (.ptr m 0),.val (.ptr m 0),.val (.ptr m (0+0)),.val (.p (.lst (List.map Bh ds))),.val (.ptr b8 (0+1)),.val (.p (I (((Bp ds (.mk zk zi zn zl zs:Tm).name).1).decl))),.val (.ref (Bh dd)),.val (.agg ((Bh dd).map .p)),.new [.p (I 0),.p (.str ⟨#[]⟩),.p (I 0),.p (I 0),.p (I 0),.p (.str ⟨#[]⟩),.p (.nils),.p (.nils),.p (I 0),.p (I 0),.p (.str ⟨#[]⟩),.p (.nils),.p (.nils),.p (I 0),.p (.nils),.p (I 0),.p (I 0),.p (I 0),.p (.str ⟨#[]⟩),.p (.nils),.p (.nils),.p (.nils),.p (.nils)]] Dn O Aj Aj (Dq O (fun Bs=>BZ O) (Dq O (fun Bs=>OW O) (Dq O (fun Bs=>A0 pV O O) (Dq O (fun Bs=>B5 (i:=Bs.length+3) dt O (CX O) O) (Dq O (fun Bs=>A0 GH O O) ?_)))))));refine Dq O (fun Bs=>A3 (i:=Bs.length+0) DN O (CX O) (DZ _)) (Dq O (fun Bs=>A4 HT O O An (D3 e4) (Cm _)) (Dq O (fun Bs=>BM FW O (Cm _)) (X4 O (fun Bs=>A7 JP O) fun b10=>YK ?_)))
   change AL _ _ _ 9 ⟨116,_,[.box b10 [.p (I 0),.p (.str ⟨#[]⟩),.p (I 0),.p (I 0),.p (I 0),.p (.str ⟨#[]⟩),.p (.nils),.p (.nils),.p (I 0),.p (I 0),.p (.str ⟨#[]⟩),.p (.nils),.p (.nils),.p (I 0),.p (.nils),.p (I 0),.p (I 0),.p (I 0),.p (.str ⟨#[]⟩),.p (.nils),.p (.nils),.p (.nils),.p (.nils)],.box b8 ((DX ((Bp ds (.mk zk zi zn zl zs:Tm).name).1)).map .p),.box b6 [.p (I zk),.p (I zi),.p (.str zn),.p (.lst (List.map Bz zl)),.p (.lst (BE zs))],.box b3 ((BO t).map .p),.box m [.p (.lst (List.map Bh ds)),.p (I n2)]],[]⟩ _
   refine Ar Ay 1 [0,1] O (Aw (Aq O (A0 GH O O) (Aq O (A3 (i:=1) DN O O (Da _)) (Bg O (A8 (Au Ay 2 [] O (Av O (fun c4=>?_) (fun c4=>?_))))))))
   ·(try simp only[sd,se] at c4);have hk5:=c4;refine Aw (Aq O (BT (i:=0) FW O O Ad) (Aq O (BC O O (Ox dd hdg.din hdg.fx) O) (Ar Ay 1 [] O (Aw (Bq O (Aq O (BK Be O (BQ _)) (Ar Ay 2 [] O (Av O (fun c5=>?_) (fun c5=>?_)))))))))
    ·(try simp only[sd,se] at c5);refine Aw (Ax Ay 3 [] O ?_);obtain⟨x,hx⟩:=A6 (l:=(BA pr).2) (i:=(CT dd:Int).toNat) An;rw[dw (r:=(pr,n2)) hk (by rw[hzq];exact hu) rfl (by rw[hzq];exact e4) (by rw[hzq];exact hk5) An hx] at hC;refine Aq O (A4 Be O O An (Bd hx) (BD _)) (Aq O (BM BY O (BD _)) (De [4] O O O (.inl ⟨O,O,O⟩) (ih k An m x n2 hJ2 (by rw[hC];exact hns)) ⟨_,_,O,O,O⟩ Am (aw (we O) (aw (we O) (Eo))) (fun _ _ h=>(congrArg List.length h).trans O) ?_ ?_))
     rotate_left
     ·intro e _ he;exact⟨O,_,List.nil_sublist _,⟨_,by rw[←hC];exact he,rfl⟩⟩
     rintro⟨q,n21⟩ _ hz1 rfl;have hfin:=hz1;refine Ar Ay 4 [] O (Az (⟨O,_,_,⟨_,_,O,O,⟨_,_,O,O,O⟩⟩,(B4 (is:=[4]) O),?_⟩));exact⟨⟨q,n21⟩,by rw[←hC];exact hfin,rfl,rfl⟩
    (try simp only[sd,se] at c5);rw[aK (r:=(pr,n2)) hk (by rw[hzq];exact hu) rfl (by rw[hzq];exact e4) (by rw[hzq];exact hk5) An] at hC;refine A1 (Au Ay 2 [] O (Az (⟨O,_,_,⟨_,_,O,O,⟨_,_,O,O,O⟩⟩,(B4 (is:=[4]) O),?_⟩)));exact⟨⟨_,_⟩,DA hC.symm,O,O⟩
   (try simp only[sd,se] at c4);have hk5:=c4;refine Au Ay 2 [] O (Av O (fun c5=>?_) (fun c5=>?_))
   ·(try simp only[sd,se] at c5);have hk6:=c5;obtain⟨fk,ff,f1,f2⟩:=e2.func hk6;have hff:dd.funs[(Bp ds (Tm.mk zk zi zn zl zs).name).1.item.toNat]?=some ff:=by rw[f2];simpa using f1
    have hfm:=List.mem_of_getElem? hff;have hfa:=hdg.fu ff hfm;have hfi:=(List.getElem?_eq_some_iff.1 f1).1;refine Aw (Aq O (A0 Cz O O) (Aq O (A3 (i:=0) HY O O (CD _)) (Aq O (A0 GH O O) (Aq O (A3 (i:=1) DN O O (Fh _)) (Aq O (A4 GB O O An (EO hff) (DJ _)) (Aq O (BM Zn O (DJ _)) (BF O (A7 Vx O) fun b12=>Ar Ay 1 [0,1] O (As (Aw (Bq O (Aq O (BK Be O (BQ _)) (Aq O (A0 Gv O O) (Aq O (A3 (i:=0) DN O O (CL _)) (Ar Ay 1 [] O (Av O (fun c6=>?_) (fun c6=>?_))))))))))))))))
    ·(try simp only[sd,se] at c6);rw[ZY (r:=(pr,n2)) hk (by rw[hzq];exact hu) rfl (by rw[hzq];exact e4) (by rw[hzq];exact hk6) (by rw[hzq];exact hff) (by show ¬ff.arity≤((BA pr).2.length:Int);omega)] at hC;refine Au Ay 2 [] O (Az (⟨O,_,_,⟨_,_,O,O,⟨_,_,O,O,O⟩⟩,(B4 (is:=[5]) O),?_⟩));exact⟨⟨_,_⟩,DA hC.symm,O,O⟩
    (try simp only[sd,se] at c6);refine A1 (As ?_);rw[Vg (r:=(pr,n2)) hk (by rw[hzq];exact hu) rfl (by rw[hzq];exact e4) (by rw[hzq];exact hk6) (by rw[hzq];exact hff) (by show ff.arity≤((BA pr).2.length:Int);omega)] at hC;have hn0b:=hns;rw[←hC] at hn0b;have hn2:=Iw hn0b;obtain⟨e,he⟩ | ⟨⟨q,n21⟩,hz1⟩:=FK ((Dp ds B1 (EA ds B1 k) k ff.tree (((BA pr).2).take ((ff.arity:Int).toNat)) Bc n2).ex)
    ·refine Iv ((fun _=> .p (.iface 122 .unit)) e) 7 [.val (.ptr m 0),.val (.ptr b12 (0+7)),.val (.agg ((Ch ff.tree).map .p)),.val (.p (.lst (BE ((BA pr).2)))),.val (.ptr b12 (0+6)),.val (.p (I ff.arity)),.val (.p (.lst (BE (((BA pr).2).take ((ff.arity:Int).toNat))))),.val (.p .any),.val (.p .any),.val (.p .any),.val (.p .any),.val (.p .any),.val (.p .any),.new [.p (I 0),.p (I 0),.p (.str ⟨#[]⟩),.p (.nils),.p (.nils)],.new [.p (I 0),.p (I 0),.p (.str ⟨#[]⟩),.p (.nils),.p (.nils)],.val (.p .any),.val (.p .any),.val (.p .any),.val (.p .any)] Dn O Aj O Ap (fun _ _=>by exact⟨rfl,_,List.nil_sublist _,⟨_,by rw[←hC];exact Jt hn0b he,rfl⟩⟩) ?_;refine B7 O O (fun Bs=>BZ O) (B7 O O (fun Bs=>A0 Gv O O) (B7 O O (fun Bs=>Bu (i:=Bs.length+0) IY O (CX O) (Db _) (Cl _)) (B7 O O (fun Bs=>BZ O) (B7 O O (fun Bs=>A0 Gv O O) (B7 O O (fun Bs=>A3 (i:=Bs.length+0) DN O (CX O) (CL _)) (B7 O O (fun Bs=>CY (lo:=0) (hi:=(ff.arity:Int).toNat) Be O (CF (Bv _)) O ⟨_,pI An⟩ (Nat.zero_le _) AQ (Mx ((BA pr).2) ((ff.arity:Int).toNat))) (Kr (mkp:=(fun _=> .p (.iface 122 .unit))) (e:=e) [5] he O O (.inl ⟨O,O,O⟩) (OJ k k m ds ff.tree (((BA pr).2).take ((ff.arity:Int).toNat)) n2 (MA ds hE k) hE.g hJ2 (QC hE e3 hfm hsp.args) hn2) ⟨_,_,O,O,O⟩ Am (aw (we O) (aw (we O) (aw (we O) (Eo)))) (C9 O O Aj (C9 O O Aj (C9 O O Aj ?_))))))))));exact C9 O O Aj (C9 O O Aj (U8 O O (fun Bs=>A7 Bw O) fun _=>U8 O O (fun Bs=>A7 Bw O) fun _=>C9 O O Aj (C9 O O Aj (C9 O O Aj (C9 O O Aj K4)))))
    rw[Ku hz1] at hC;have hJ3:=PO hJ2 (HJ hz1);refine ID [.box b12 ((Ec ff).map .p),.box b10 ((Bh dd).map .p),.box b8 ((DX ((Bp ds (.mk zk zi zn zl zs:Tm).name).1)).map .p),.box b6 [.p (I zk),.p (I zi),.p (.str zn),.p (.lst (List.map Bz zl)),.p (.lst (BE zs))],.box b3 ((BO t).map .p),.box m [.p (.lst (List.map Bh ds)),.p (I n21)]] 7 [.val (.ptr m 0),.val (.ptr b12 (0+7)),.val (.agg ((Ch ff.tree).map .p)),.val (.p (.lst (BE ((BA pr).2)))),.val (.ptr b12 (0+6)),.val (.p (I ff.arity)),.val (.p (.lst (BE (((BA pr).2).take ((ff.arity:Int).toNat))))),.val (.tup [.agg ((BO (JB q)).map .p),.p (.lst (BE (LG q))),.p (.bool q.1.isSome),.agg ((BO q.2).map .p)]),.val (.tup [.agg ((BO (JB q)).map .p),.p (.lst (BE (LG q))),.p (.bool q.1.isSome),.agg ((BO q.2).map .p)]),.val (.agg ((BO (JB q)).map .p)),.val (.p (.lst (BE (LG q)))),.val (.p (.bool q.1.isSome)),.val (.agg ((BO q.2).map .p)),.new [.p (I 0),.p (I 0),.p (.str ⟨#[]⟩),.p (.nils),.p (.nils)],.new [.p (I 0),.p (I 0),.p (.str ⟨#[]⟩),.p (.nils),.p (.nils)]] [.p .any,.p (.lst (BE (LG q))),.p (.bool q.1.isSome),.p .any] [10,11,12] Dn O Aj Aj Aj O ?_ ?_
    ·exact Ap
    refine Bk O O (fun Bs=>BZ O) (Bk O O (fun Bs=>A0 Gv O O) (Fz O O O (fun Bs=>Bu (i:=Bs.length+0) IY O (CX O) (Db _) (Cl _)) (fun Bs=>Bu (i:=Bs.length+0) IY O (CX O) (Db _) (Cl _)) (Bk O O (fun Bs=>BZ O) (Bk O O (fun Bs=>A0 Gv O O) (Fz O O O (fun Bs=>A3 (i:=Bs.length+0) DN O (CX O) (CL _)) (fun Bs=>A3 (i:=Bs.length+0) DN O (CX O) (CL _)) (Bk O O (fun Bs=>CY (lo:=0) (hi:=(ff.arity:Int).toNat) Be O (CF (Bv _)) O ⟨_,pI An⟩ (Nat.zero_le _) AQ (Mx ((BA pr).2) ((ff.arity:Int).toNat))) ?_))))));refine KB O (fun Bs=>Gx [5] O (.inl ⟨O,O,O⟩) (K6 hz1 (OJ k k m ds ff.tree (((BA pr).2).take ((ff.arity:Int).toNat)) n2 (MA ds hE k) hE.g hJ2 (QC hE e3 hfm hsp.args) hn2)) ⟨_,_,O,O,O⟩ Am O (aw (we O) (aw (we O) (aw (we O) (Eo))))) (Bk O O (fun Bs=>BZ O) (Bk O O (fun Bs=>DR O O) (Bk O O (fun Bs=>DR O O) (Bk O O (fun Bs=>DR O O) (Bk O O (fun Bs=>DR O O) (Pk O O (fun Bs=>A7 Bw O) fun b13=>Pk O O (fun Bs=>A7 Bw O) fun b16=>J6 ?_))))));refine Dv [.box b13 ((BO (JB q)).map .p),.box b16 [.p (I 0),.p (I 0),.p (.str ⟨#[]⟩),.p (.nils),.p (.nils)],.box b12 ((Ec ff).map .p),.box b10 ((Bh dd).map .p),.box b8 ((DX ((Bp ds (.mk zk zi zn zl zs:Tm).name).1)).map .p),.box b6 [.p (I zk),.p (I zi),.p (.str zn),.p (.lst (List.map Bz zl)),.p (.lst (BE zs))],.box b3 ((BO t).map .p),.box m [.p (.lst (List.map Bh ds)),.p (I n21)]] O (Cd (i:=0) BY O O O Ag AW (FP _)) ?_;refine Dv [.box b13 ((BO (JB q)).map .p),.box b16 [.p (I 0),.p (I 0),.p (.str ⟨#[]⟩),.p (.nils),.p (.nils)],.box b12 ((Ec ff).map .p),.box b10 ((Bh dd).map .p),.box b8 ((DX ((Bp ds (.mk zk zi zn zl zs:Tm).name).1)).map .p),.box b6 [.p (I zk),.p (I zi),.p (.str zn),.p (.lst (List.map Bz zl)),.p (.lst (BE zs))],.box b3 ((BO t).map .p),.box m [.p (.lst (List.map Bh ds)),.p (I n21)]] O (ED O) (Dv [.box b13 ((BO (JB q)).map .p),.box b16 [.p (I 0),.p (I 0),.p (.str ⟨#[]⟩),.p (.nils),.p (.nils)],.box b12 ((Ec ff).map .p),.box b10 ((Bh dd).map .p),.box b8 ((DX ((Bp ds (.mk zk zi zn zl zs:Tm).name).1)).map .p),.box b6 [.p (I zk),.p (I zi),.p (.str zn),.p (.lst (List.map Bz zl)),.p (.lst (BE zs))],.box b3 ((BO t).map .p),.box m [.p (.lst (List.map Bh ds)),.p (I n21)]] O (ED O) ?_)
    refine Dv [.box b13 ((BO (JB q)).map .p),.box b16 ((BO q.2).map .p),.box b12 ((Ec ff).map .p),.box b10 ((Bh dd).map .p),.box b8 ((DX ((Bp ds (.mk zk zi zn zl zs:Tm).name).1)).map .p),.box b6 [.p (I zk),.p (I zi),.p (.str zn),.p (.lst (List.map Bz zl)),.p (.lst (BE zs))],.box b3 ((BO t).map .p),.box m [.p (.lst (List.map Bh ds)),.p (I n21)]] O (Cd (i:=1) BY O O O Ag AW (FP _)) (J0 (As (BS [0,16] 110 (fun y=>y= .p (.bool ((!q.1.isSome)&&(!(NV q.2 Bc))))) ?_ ?_)))
    ·refine A2 (Ax Ay 3 [] O (BL 105 O (fun g=>?_) (fun g=>?_)))
     ·(try simp only[sd,se] at g);exact Ax Ay 2 [1] O (BB O (Gw O O (ju q.2 (.mk 0 0 ⟨#[]⟩ [] []:Tm) O O) (aw (we O) (aw (Dt O) (Eo)))) (Ar Ay 2 [] O (⟨O,O,AK,(by first | rfl | (refine pB ?_;rw[g];rfl)),⟨O,O,Ap⟩⟩)))
     (try simp only[sd,se] at g);exact Ar Ay 5 [] O (⟨O,O,AK,(by first | rfl | (refine pB ?_;rw[g];rfl)),⟨O,O,Ap⟩⟩)
    rintro _ rfl;refine Av O (fun c7=>?_) (fun c7=>?_)
    ·(try simp only[sd,se] at c7);rw[Y8 (by simpa using c7.1) rfl (by simpa using c7.2)] at hC;refine Aw (Ax Ay 2 [1] O (De [7] O O O (.inl ⟨O,O,O⟩) (ih k An m q.2 n21 hJ3 (by rw[hC];exact hns)) ⟨_,_,O,O,O⟩ Am (aw (we O) (aw (we O) (Eo))) (fun _ _ h=>(congrArg List.length h).trans O) ?_ ?_))
     rotate_left
     ·intro e _ he;exact⟨O,_,List.nil_sublist _,⟨_,by rw[←hC];exact he,rfl⟩⟩
     rintro⟨q1,n22⟩ _ hz2 rfl;have hfin:=hz2;refine Ar Ay 4 [] O (Az (⟨O,_,_,⟨_,_,O,O,⟨_,_,O,O,O⟩⟩,(B4 (is:=[7]) O),?_⟩));exact⟨⟨q1,n22⟩,by rw[←hC];exact hfin,rfl,rfl⟩
    (try simp only[sd,se] at c7);rw[bD (by by_cases hqs:q.1.isSome=true;exact .inl hqs;exact .inr (.inr (by simpa [hqs] using c7)))] at hC;refine A1 (Au Ay 2 [] O (Az (⟨O,_,_,⟨_,_,O,O,⟨_,_,O,O,O⟩⟩,(B4 (is:=[7]) O),?_⟩)));exact⟨⟨_,_⟩,DA hC.symm,O,O⟩
   (try simp only[sd,se] at c5);rw[Rl (r:=(pr,n2)) hk (by rw[hzq];exact hu) rfl (by rw[hzq];exact hk5) (by rw[hzq];exact c5)] at hC;refine A1 (Au Ay 2 [] O (Az (⟨O,_,_,⟨_,_,O,O,⟨_,_,O,O,O⟩⟩,(B4 (is:=[4]) O),?_⟩)));exact⟨⟨_,_⟩,DA hC.symm,O,O⟩
  (try simp only[sd,se] at c2);rw[gT (r:=(pr,n2)) (by rw[hzq];assumption) (by rw[hzq];show ¬zk=9;omega) (by rw[hzq];show ¬zk=10;omega) (by rw[hzq];assumption)] at hC;refine A1 (Au Ay 2 [] O (Az (⟨O,_,_,⟨_,_,O,O,⟨_,_,O,O,O⟩⟩,(B4 (is:=[2]) O),?_⟩)));exact⟨⟨_,_⟩,DA hC.symm,O,O⟩
theorem ea:∀(ds:List CH) (N m bt ba bo bk:Nat) (tr:Es) (a:List Tm) (s:Int),(Gh ds)→(Gg s)→(ON tr a)→(Gn ds B1 N tr a s≠ .stuck)→Bo Tryz.prog 60 [.ptr m 0,.ptr bt 0,.ptr ba 0,.ptr bo 0,.ptr bk 0] [.box m [.p (.lst (List.map Bh ds)),.p (I s)],.box bt ((Ch tr).map .p),.box ba [.p (.lst (BE a))],.box bo [.p (I 0),.p (I 0),.p (.str ⟨#[]⟩),.p (.nils),.p (.nils)],.box bk [.p (.bool false)]] (Km (fun(r:Option Tm×Int)=> .tup []) (fun _=> .p (.iface 122 .unit)) (fun r H'=>H'=[.box m [.p (.lst (List.map Bh ds)),.p (I r.2)],.box bt ((Ch tr).map .p),.box ba [.p (.lst (BE a))],.box bo ((BO (r.1.getD Bc)).map .p),.box bk [.p (.bool r.1.isSome)]]) ((Gn ds B1 N tr a s).ex)):=by
 intro ds N m bt ba bo bk tr a s h1 h2 h3 hns;generalize hC:Gn ds B1 N tr a s=X at hns ⊢;rw[YE] at hC;have hn0:=hns;rw[←hC] at hn0;have hn1:=Iw hn0;refine A5 Tryz.func60 O qq (n:=24) O O (Aw (Ax Ay 3 [1,2] O (De [0] O O O (.inl ⟨O,O,O⟩) (OJ N N m ds tr a s (MA ds h1 N) h1.g h2 h3 hn1) ⟨_,_,O,O,O⟩ Am (aw (we O) (aw (we O) (aw (we O) (Eo)))) (fun _ _ h=>(congrArg List.length h).trans O) ?_ ?_)))
 rotate_left
 ·intro e _ he;exact⟨O,_,List.nil_sublist _,⟨_,by rw[←hC];exact Jt hn0 he,rfl⟩⟩
 rintro⟨q,n2⟩ _ hz rfl;rw[Ku hz] at hC;have hJ2:=PO h2 (HJ hz);have hlo:=MN h1.g _ _ _ _ _ _ _ h3 (HJ hz);refine Ax Ay 5 [] O (BF O (A7 Bw O) fun b6=>BF O (A7 Bw O) fun b9=>Ar Ay 4 [1,1,0,1] O (Au Ay 1 [] O (Av O (fun c=>?_) (fun c=>?_))))
 ·(try simp only[sd,se] at c);obtain⟨hb1,hb2,hb3,hb4⟩:=fH (by rw[hC];exact hns) c;rw[hb4] at hC;have hn3:=hns;rw[←hC] at hn3;refine A2 (Ax Ay 3 [1] O (De [2] O O O (.inl ⟨O,O,O⟩) (Nu m ds n2 (JB q) (LG q) hJ2 hb1 hb2 An) ⟨_,_,O,O,O⟩ Am (aw (we O) (aw (we O) (aw (we O) (Eo)))) (fun _ _ h=>(congrArg List.length h).trans O) ?_ ?_))
  rotate_left
  ·intro e _ he;exact⟨O,_,List.nil_sublist _,⟨_,by rw[←hC];exact KD hn3 he,rfl⟩⟩
  rintro⟨z,n21⟩ _ hz1 rfl;rw[KC hn3 hz1] at hC;refine Ar Ay 2 [5,1,6,0] O ⟨O,_,_,O,(B4 (is:=[2,3,4,5,6]) O),?_⟩;exact⟨⟨_,_⟩,DA hC.symm,O,O⟩
 (try simp only[sd,se] at c);rw[e9 c] at hC;refine BH (BR (i:=5) O) (A1 ⟨O,_,_,O,(B4 (is:=[2,3,4,5,6]) O),?_⟩);exact⟨⟨_,_⟩,DA hC.symm,O,O⟩
theorem lC:∀(ds:List CH) (N:Nat) (tr:Es) (a:List Tm),(Gh ds)→(ON tr a)→(Gn ds B1 N tr a 20000≠ .stuck)→EZ Tryz.prog 27 [.p (.lst (List.map Bh ds)),.agg ((Ch tr).map .p),.p (.lst (BE a))] (.tup [.agg ((BO ((LD (Gn ds B1 N tr a 20000)).1)).map .p),.p (.bool ((LD (Gn ds B1 N tr a 20000)).2.1)),.p (I ((LD (Gn ds B1 N tr a 20000)).2.2))]):=by
 intro ds N tr a h1 h2 h3;refine A5 Tryz.func27 O sT (n:=21) O O (Aw (BF O (BN O) fun b4=>BF O (BN O) fun b5=>BF O (A7 Bw O) fun b6=>Ar Ay 2 [] O (Aw (BF O (A7 Bw O) fun b9=>Bg O (Aw (BF O (A7 qY O) fun b10=>Ar Ay 1 [0,0] O (As ?_)))))));obtain⟨e,he⟩ | ⟨⟨q,n2⟩,ha⟩:=FK ((Gn ds B1 N tr a 20000).ex)
 ·refine A2 (Ax Ay 2 [] O (QW [4,3,1,0] O O O (.inl ⟨O,O,O⟩) (O0 _ _ he (fun r=>r.2) (fun r=>[.box b4 ((Ch tr).map .p),.box b5 [.p (.lst (BE a))],.box b9 ((BO (r.1.getD Bc)).map .p),.box b10 [.p (.bool r.1.isSome)]]) 60 [.ptr b4 0,.ptr b5 0,.ptr b9 0,.ptr b10 0] [.box b4 ((Ch tr).map .p),.box b5 [.p (.lst (BE a))],.box b9 [.p (I 0),.p (I 0),.p (.str ⟨#[]⟩),.p (.nils),.p (.nils)],.box b10 [.p (.bool false)]] ds (fun m=>ea ds N m b4 b5 b9 b10 tr a 20000 h1 Ko h2 h3)) ⟨_,_,O,O,⟨_,_,O,O,⟨_,_,O,O,⟨_,_,O,O,O⟩⟩⟩⟩ Am (DF _) (Ar Ay 1 [] O (As (Au Ay 2 [] O ?_)))));refine Av O (fun c=>?_) (fun c=>by cases c);refine Au Ay 5 [0,0] O (BH (BR (i:=0) O) (Az (⟨O,_,_,⟨_,_,O,(A9 (i:=0) BY O O O),⟨_,_,O,O,⟨_,_,O,O,O⟩⟩⟩,(List.nil_sublist _),?_⟩)))
  all_goals exact⟨by show (.tup [.agg [.p (I 0),.p (I 0),.p (.str ⟨#[]⟩),.p (.lst []),.p (.lst [])],.p (.bool false),.p (I 11)]:AV)=_;rw[kv he];rfl,rfl⟩
 refine A2 (Ax Ay 2 [] O (Aq O (B9 [4,3,1,0] O (.inl ⟨O,O,O⟩) (Qi _ _ ha (fun r=>r.2) (fun r=>[.box b4 ((Ch tr).map .p),.box b5 [.p (.lst (BE a))],.box b9 ((BO (r.1.getD Bc)).map .p),.box b10 [.p (.bool r.1.isSome)]]) 60 [.ptr b4 0,.ptr b5 0,.ptr b9 0,.ptr b10 0] [.box b4 ((Ch tr).map .p),.box b5 [.p (.lst (BE a))],.box b9 [.p (I 0),.p (I 0),.p (.str ⟨#[]⟩),.p (.nils),.p (.nils)],.box b10 [.p (.bool false)]] ds (fun m=>ea ds N m b4 b5 b9 b10 tr a 20000 h1 Ko h2 h3)) ⟨_,_,O,O,⟨_,_,O,O,⟨_,_,O,O,⟨_,_,O,O,O⟩⟩⟩⟩ Am O (.inl O)) (Ar Ay 1 [] O (As (Au Ay 2 [] O ?_)))));refine Av O (fun c=>by cases c) (fun c=>?_);refine A1 (As (Bt (fun k=>false) Dn (Bj Ay 5 [1,0,2,1] O (Az (⟨O,_,_,⟨_,_,O,(A9 (i:=2) BY O O Ag),⟨_,_,O,O,⟨_,_,O,O,O⟩⟩⟩,(List.nil_sublist _),?_⟩)))))
 all_goals exact⟨by show (.tup [.agg ((BO (q.getD Bc)).map .p),.p (.bool q.isSome),.p (I 0)]:AV)=_;rw[lO ha],rfl⟩
theorem fy:∀(ds:List CH) (N m bt bo bk:Nat) (t:Tm) (s:Int),(Gh ds)→(Gg s)→(IU ds B1 N s t≠ .stuck)→Bo Tryz.prog 52 [.ptr m 0,.ptr bt 0,.ptr bo 0,.ptr bk 0] [.box m [.p (.lst (List.map Bh ds)),.p (I s)],.box bt ((BO t).map .p),.box bo [.p (I 0)],.box bk [.p (.bool false)]] (Km (fun(r:Option Int×Int)=> .tup []) (fun _=> .p (.iface 122 .unit)) (fun r H'=>H'=[.box m [.p (.lst (List.map Bh ds)),.p (I r.2)],.box bt ((BO t).map .p),.box bo [.p (I (r.1.getD 0))],.box bk [.p (.bool r.1.isSome)]]) ((IU ds B1 N s t).ex)):=by
 intro ds N m bt bo bk t s h1 h2 h3;refine A5 Tryz.func52 O sN (n:=11) O O (A2 (Ax Ay 2 [1] O (De [0] O O O (.inl ⟨O,O,O⟩) (YG ds h1 N m t s h2 h3) ⟨_,_,O,O,O⟩ Am (aw (we O) (aw (we O) (Eo))) (fun _ _ h=>(congrArg List.length h).trans O) ?_ ?_)))
 rotate_left
 ·intro e _ he;exact⟨O,_,List.nil_sublist _,⟨_,he,O⟩⟩
 rintro⟨q,n2⟩ _ hz rfl;refine Ar Ay 5 [2,0,3,0] O ⟨O,_,_,O,(B4 (is:=[0,1,2,3]) O),?_⟩;exact⟨⟨q,n2⟩,hz,O,O⟩
theorem bq:∀(ds:List CH) (N:Nat) (t:Tm),(Gh ds)→(IU ds B1 N 20000 t≠ .stuck)→EZ Tryz.prog 18 [.p (.lst (List.map Bh ds)),.agg ((BO t).map .p)] (.tup [.p (I ((dJ (IU ds B1 N 20000 t)).1)),.p (.bool ((dJ (IU ds B1 N 20000 t)).2.1)),.p (I ((dJ (IU ds B1 N 20000 t)).2.2))]):=by
 intro ds N t h1 h2;refine A5 Tryz.func18 O sg (n:=18) O O (Aw (BF O (BN O) fun b3=>Ar Ay 3 [] O (Aw (BF O (A7 jJ O) fun b7=>BF O (A7 qY O) fun b8=>Ar Ay 2 [1,0,0,0] O (As ?_)))));obtain⟨e,he⟩ | ⟨⟨q,n2⟩,ha⟩:=FK ((IU ds B1 N 20000 t).ex)
 ·refine A2 (Ax Ay 2 [] O (QW [2,1,0] O O O (.inl ⟨O,O,O⟩) (O0 _ _ he (fun r=>r.2) (fun r=>[.box b3 ((BO t).map .p),.box b7 [.p (I (r.1.getD 0))],.box b8 [.p (.bool r.1.isSome)]]) 52 [.ptr b3 0,.ptr b7 0,.ptr b8 0] [.box b3 ((BO t).map .p),.box b7 [.p (I 0)],.box b8 [.p (.bool false)]] ds (fun m=>fy ds N m b3 b7 b8 t 20000 h1 Ko h2)) ⟨_,_,O,O,⟨_,_,O,O,⟨_,_,O,O,O⟩⟩⟩ Am (DF _) (Ar Ay 1 [] O (As (Au Ay 2 [] O ?_)))));refine Av O (fun c=>?_) (fun c=>by cases c);refine Au Ay 4 [] O (Az (⟨O,_,_,⟨_,_,O,O,⟨_,_,O,O,⟨_,_,O,O,O⟩⟩⟩,(List.nil_sublist _),?_⟩))
  all_goals exact⟨by show (.tup [.p (I 0),.p (.bool false),.p (I 11)]:AV)=_;rw[ll he],rfl⟩
 refine A2 (Ax Ay 2 [] O (Aq O (B9 [2,1,0] O (.inl ⟨O,O,O⟩) (Qi _ _ ha (fun r=>r.2) (fun r=>[.box b3 ((BO t).map .p),.box b7 [.p (I (r.1.getD 0))],.box b8 [.p (.bool r.1.isSome)]]) 52 [.ptr b3 0,.ptr b7 0,.ptr b8 0] [.box b3 ((BO t).map .p),.box b7 [.p (I 0)],.box b8 [.p (.bool false)]] ds (fun m=>fy ds N m b3 b7 b8 t 20000 h1 Ko h2)) ⟨_,_,O,O,⟨_,_,O,O,⟨_,_,O,O,O⟩⟩⟩ Am O (.inl O)) (Ar Ay 1 [] O (As (Au Ay 2 [] O ?_)))));refine Av O (fun c=>by cases c) (fun c=>?_);refine A1 (As (Bt (fun k=>false) Dn (Bj Ay 5 [1,0] O (Az (⟨O,_,_,⟨_,_,O,O,⟨_,_,O,O,⟨_,_,O,O,O⟩⟩⟩,(List.nil_sublist _),?_⟩)))))
 all_goals exact⟨by show (.tup [.p (I (q.getD 0)),.p (.bool q.isSome),.p (I 0)]:AV)=_;rw[kb ha],rfl⟩
def uT (ds:List CH) (n:Nat):Prop:=∀(b:Nat) (t:Tm) (c c2:EP) (q:Option Tm),E9 ds DU n c t= .ok (q,c2)→Bo Tryz.prog 17 [.p (.lst (List.map Bh ds)),.agg ((BO t).map .p),.ptr b 0] [.box b ((II c).map .p)] (GU (.tup [TV (q.getD Bc),.p (.bool q.isSome)]) [.box b ((II c2).map .p)])
theorem aR:Bo Tryz.prog 13 [] [] (dg (fun b=> .ptr b 0) ((II NB).map .p)):=by
 refine A5 Tryz.func13 O re (n:=3) O O (Au Ay 1 [] O (Aw (Aq O (CP qj sA O) (BF O (BN O) fun b2=>Ar Ay 1 [] O (Az (⟨O,_,_,⟨_,_,O,O,O⟩,(B4 (is:=[0]) O),?_⟩))))));exact⟨_,O,O⟩
theorem jm:∀(ds:List CH) (n b:Nat) (tr:Es) (a:List Tm) (c c2:EP) (q:Option Tm),(Gh ds)→(ON tr a)→(Gn ds DU n tr a c= .ok (q,c2))→Bo Tryz.prog 28 [.p (.lst (List.map Bh ds)),.agg ((Ch tr).map .p),.p (.lst (BE a)),.ptr b 0] [.box b ((II c).map .p)] (GU (.tup [.agg ((BO (q.getD Bc)).map .p),.p (.bool q.isSome)]) [.box b ((II c2).map .p)]):=by
 intro ds n b tr a c c2 q h1 h2 hC;rw[YE] at hC;obtain⟨⟨lq,d3⟩,hl1,hl2⟩:=Iy hC;have hlo:=MN h1.g _ _ _ _ _ _ _ h2 hl1;refine A5 Tryz.func28 O rW (n:=40) O O (Aw (BF O (BN O) fun b5=>BF O (A7 Bw O) fun b8=>Ar Ay 1 [] O (Aw (Ax Ay 4 [1] O (Aq O (B9 [2] O (.inl ⟨O,O,O⟩) (VH n n ds tr a b c d3 lq (dx ds h1 n) h1.g h2 hl1) ⟨_,_,O,O,O⟩ Am O (.inl O)) (Ax Ay 5 [] O (BF O (A7 Bw O) fun b10=>BF O (A7 Bw O) fun b13=>Ar Ay 4 [1,1,0,1] O (As (Au Ay 2 [] O (Av O (fun c1=>?_) (fun c1=>?_)))))))))))
 ·(try simp only[sd,se] at c1);rw[e9 (q:=(lq,d3)) (by simpa using c1)] at hl2;cases hl2;refine Au Ay 3 [2,0] O (BH (BR (i:=2) O) (Az (⟨O,_,_,⟨_,_,O,(A9 (i:=2) BY O O O),⟨_,_,O,O,O⟩⟩,(B4 (is:=[4]) O),?_⟩)))
  all_goals exact⟨rfl,rfl⟩
 (try simp only[sd,se] at c1);obtain⟨hb1,hb2,hb3,hb4⟩:=fH (q:=(lq,d3)) (by rw[hl2];simp) (by simpa using c1);simp only at hb1 hb2 hb3;rw[hb4] at hl2;obtain⟨hpo,hpe⟩:=Jz (h:=(by rw[hl2];simp));rw[hpe] at hl2;cases hl2;refine A1 (As (Bt (fun k=>Nat.beq k 7) Dn (BP Ay 2 [1] O (BG O (fun _=>BC O O (OF (LG lq) AZ) O) Ap (BG O (fun _=>BC O O (N2 (JB lq) ((LG lq).reverse) (by have:=Fk hb1;omega) (CM.1 hb1).nd (Ej (YH hb2)).1 (by rw[PS];omega)) O) Ap (BP Ay 3 [] O (Gi [] O O (A7 Bw O) Aj fun b14=>⟨AB,Ap,?_⟩)))))));refine Bj Ay 2 [0,1] O (Aw (Ax Ay 3 [0] O (Aq O (B9 [5] O (.inl ⟨O,O,O⟩) (HA b d3 ((CJ (JB lq) ((LG lq).reverse) 0).1) ((CJ (JB lq) ((LG lq).reverse) 0).2) (CM.1 hpo).nd) ⟨_,_,O,O,O⟩ Am O (.inl O)) (Ar Ay 2 [3,1] O (Az (⟨O,_,_,⟨_,_,O,(A9 (i:=3) BY O O Ag),⟨_,_,O,O,O⟩⟩,(B4 (is:=[5]) O),?_⟩))))))
 all_goals exact⟨rfl,rfl⟩
end Go.Proofs.YtboammbpdaoojaaGreat
namespace Go.Eu
open Go.Abs
mutual
theorem dX {vars m:Int}(hv:vars≤549755813888):∀(t:Tm) (d:Int),wf vars m d t→0≤d→d+size t≤1073741824→Vp t
 | .mk k i n l ks,d,h,h0,h1=>by
  simp only[wf,size] at h h1;exact⟨fun e=>by have:=h.2.2.2.1 e;omega,Y0 hv ks k d 0 h.2.2.2.2.2 h0 An⟩
theorem Y0 {vars m:Int}(hv:vars≤549755813888):∀(ts:List Tm) (k d:Int) (j:Nat),gZ vars m k d j ts→0≤d→d+1+Ba ts≤1073741824→Sy ts
 | [],k,d,j,h,h0,h1=>trivial
 | t::ts,k,d,j,h,h0,h1=>by
  have:=C0 k j;simp only[gZ,Ba] at h h1;have:=size_pos t;exact⟨dX hv t _ h.1 An An,Y0 hv ts k d (j+1) h.2 h0 An⟩
end
theorem ct {t:Tm}{vars m:Int}(hn:Nd t) (hs:size t<1000000) (hv:vars≤549755813888) (h:wf (max vars 0) m 0 t):okB t=true :=
 CM.2 ⟨hn,kO t 0 h,dX An t 0 h An An,by omega⟩
def Y6 (d:CH):Prop:=(d.kind≠1→d.kind≠2→d.value=Bc)∧(d.kind≠3→d.recs.rules.length=0∧d.fixed=0)∧(d.kind≠4→d.funs.length=0)
def UE (d:CH):Prop:=0≤d.fixed∧(∀f∈d.funs,1≤f.arity∧f.arity≤16)∧(d.kind=3→d.fixed≤1000000)
def eC (d:CH):Prop:=(d.kind=1∨d.kind=2→okB d.value=true)∧(d.kind=3→∀t∈d.recs.rules,okB t=true)∧(d.kind=4→∀f∈d.funs,FC f.tree)
theorem qJ {d:CH}(h:Ns d) (hk:0≤d.kind∧d.kind≤4) (hu:Y6 d) (hc:UE d) (ht:eC d):DG d:=by
 obtain⟨u1,u2,u3⟩:=hu;obtain⟨c1,c2,c3⟩:=hc;obtain⟨t1,t2,t3⟩:=ht;refine⟨h,⟨c1,?_⟩,?_,?_,fun f hf=>⟨(c2 f hf).1,(c2 f hf).2,?_⟩⟩
 ·by_cases h3:d.kind=3
  ·exact c3 h3
  rw[(u2 h3).2];omega
 ·by_cases h1:d.kind=1∨d.kind=2
  ·exact t1 h1
  rw[u1 An An];exact IL
 ·by_cases h3:d.kind=3
  ·exact t2 h3
  intro t ht;rw[List.length_eq_zero_iff.1 (u2 h3).1] at ht;cases ht
 by_cases h4:d.kind=4
 ·exact t3 h4 f hf
 rw[List.length_eq_zero_iff.1 (u3 h4)] at hf;cases hf
def TJ (d:CH):Prop:=size d.value≤400∧(∀t∈d.recs.rules,size t≤400)∧∀f∈d.funs,Dl f.tree≤50
theorem iD {ds:List CH}(h:Je ds) (hf:∀d∈ds,TJ d):Gh ds:=⟨h,fun d hd=>(hf d hd).1,fun d hd=>(hf d hd).2.1,fun d hd=>(hf d hd).2.2⟩
theorem RD {n:Nat}:∀{l:List GQ},(∀x∈l,Dl x.tree≤n)→K5 l≤n
 | [],_=>by simp[K5]
 | .mk c a t::l,h=>by
  have h1:=h (.mk c a t) Ao;have h2:=RD (n:=n) (l:=l) fun x hx=>h x (by simp[hx]);simp only[K5,YO,GQ.tree] at *;omega
theorem Z5 {n:Nat}{t:Es}(h:∀x∈t.branches,Dl x.tree≤n):Dl t≤n+1:=by
 obtain⟨k,b,v,l⟩:=t;have h1:=RD (n:=n) (l:=l) h;simp only[Dl];omega
theorem Tq:∀{l:List GQ},(∀x∈l,FC x.tree)→Ru l
 | [],_=>trivial
 | .mk c a t::l,h=>⟨h (.mk c a t) Ao,Tq fun x hx=>h x (by simp[hx])⟩
theorem Rc {t:Es}(h0:okB t.body=true) (h:∀x∈t.branches,FC x.tree):FC t:=by
 obtain⟨k,b,v,l⟩:=t;exact⟨h0,Tq h⟩
theorem W9 {t:Es}(h0:NV t.body Bc=true) (h:t.branches.length=0):FC t :=
 Rc (by rw[IB.1 h0];exact IL) (fun x hx=>by rw[List.length_eq_zero_iff.1 h] at hx;cases hx)
theorem IE {α:Type}{p:α→Prop}{l:List α}{n:Nat}(hn:l.length≤n) (h:∀j,j<n→∀x,l[j]?=some x→p x):∀x∈l,p x:=fun x hx=>by
 obtain⟨j,hj⟩:=List.mem_iff_getElem?.1 hx;exact h j (by have:=(List.getElem?_eq_some_iff.1 hj).1;omega) x hj
theorem aj {ds:List CH}{i:Nat}(h:G1 ds) (hC:∀j,j<i→∀x,ds[j]?=some x→DG x):Je (ds.take i) :=
 ⟨h.take i,fun d hd=>by
  obtain⟨j,hj⟩:=List.mem_iff_getElem?.1 hd;have hlt:=(List.getElem?_eq_some_iff.1 hj).1;rw[List.length_take] at hlt;rw[List.getElem?_take_of_lt An] at hj;exact hC j An d hj⟩
theorem mG {α:Type}{l:List α}(h:l.length=0) {p:α→Prop}:∀x∈l,p x:=fun x hx=>by
 rw[List.length_eq_zero_iff.1 h] at hx;cases hx
theorem iV {t:Es}{dp:Int}(hd:dp≤40) (h:∀x∈t.branches,(Dl x.tree:Int)≤42 - (dp+1)):(Dl t:Int)≤42 - dp:=by
 have:=Z5 (n:=(42 - (dp+1)).toNat) (t:=t) fun x hx=>by have:=h x hx;omega
 omega
theorem P9 {t:Tm}(h:UW t) (hs:Ek t≤400):size t≤400:=by
 have h1:=OB (t:=t) (by have:=h.sz;omega);omega
theorem dz {d:CH}(h:Ns d) (hv:Ek d.value≤400) (hr:∀t∈d.recs.rules,Ek t≤400) (hf:∀f∈d.funs,(Dl f.tree:Int)≤42 - 0):TJ d :=
 ⟨P9 h.vl hv,fun t ht=>P9 (h.rs t ht) (hr t ht),fun f hm=>by have:=hf f hm;omega⟩
structure ez (ds:List CH) (l:List Tm):Prop where
 env:Gh ds
 ok:∀t∈l,okB t=true
 sz:Ba l≤60
 few:ds.length≤70
theorem dV {ds:List CH}{l:List Tm}(hn:ET l 60 0≤60) (hg:XK l∧∀t∈l,okB t=true) (he:Gh ds∧ds.length≤70):ez ds l :=
 ⟨he.1,hg.2,by have:=Ws hg.1 An hn;omega,he.2⟩
theorem au {l:List Tm}(h:XK l):l.length<1000000:=by
 have:=h.sz;have:=Fe l;omega
theorem XA {l:List Tm}(h:XK l∧∀t∈l,okB t=true):∀x∈l,okB x=true∧size x<1000000:=fun x hx =>
 ⟨h.2 x hx,by have:=h.1.sz;have:=Fx hx;omega⟩
end Go.Eu
namespace Go.Proofs.YtboammbpdaoojaaGreat
open Go.Abs Go.Eu
theorem Wy:∀(d:CH),(Ns d)→(0≤d.kind∧d.kind≤4)→F7 Tryz.prog 133 [.agg ((Bh d).map .p)] (fun v=>∃bb:Bool,v= .p (.bool bb)∧(bb=true→Y6 d)):=by
 intro d h1 h2;refine A5 Tryz.func133 O nM (n:=87) O O (Aw (BF O (BN O) fun b1=>Ar Ay 1 [] O (As (BS [1] 3 (fun y=>y= .p (.bool ((((d.recs.params:Int)==(0:Int))&&(NV d.recs.type Bc))&&(((d.recs.rules.length:Nat):Int)==(0:Int))))) ?_ ?_))))
 ·refine A2 (Ax Ay 2 [] O (Aq O (A3 (i:=0) DN O O (Dd _)) (Ax Ay 2 [] O (BL 9 O (fun g=>?_) (fun g=>?_)))))
  ·(try simp only[sd,se] at g);refine Ax Ay 2 [] O (BB O (Bu (i:=0) BY O O (Ev _) (BD _)) (BB O (BC O O (KI d.recs.type (by first | exact h1.rt.nd | exact h1.vl.nd | exact h1.ty.nd)) O) (Ax Ay 2 [] O (BL 15 O (fun g1=>?_) (fun g1=>?_)))))
   ·(try simp only[sd,se] at g1);exact Ax Ay 2 [] O (BB O (A3 (i:=0) Gj O O (Ck _)) (BB O (BK Be O (BQ _)) (Ar Ay 3 [] O (⟨O,O,AK,AI,⟨O,Ap⟩⟩))))
   (try simp only[sd,se] at g1);exact Ar Ay 7 [] O (⟨O,O,AK,AI,⟨O,Ap⟩⟩)
  (try simp only[sd,se] at g);exact Ar Ay 13 [] O (⟨O,O,AK,AI,⟨O,Ap⟩⟩)
 rintro _ rfl;refine As (BS [1] 4 (fun y=>y= .p (.bool ((((d.fixed:Int)==(0:Int))&&(((d.ctors.length:Nat):Int)==(0:Int)))&&((((d.recs.params:Int)==(0:Int))&&(NV d.recs.type Bc))&&(((d.recs.rules.length:Nat):Int)==(0:Int)))))) ?_ ?_)
 ·refine A2 (Aq O (A0 Cz O O) (Aq O (A3 (i:=0) DN O O (Cn _)) (Ax Ay 2 [] O (BL 25 O (fun g=>?_) (fun g=>?_)))))
  ·(try simp only[sd,se] at g);refine BB O (A0 Cz O O) (BB O (A3 (i:=0) Hg O O (B8 _)) (BB O (BK HN O (List.length_map _)) (Ax Ay 3 [] O (BL 31 O (fun g1=>?_) (fun g1=>?_)))))
   ·(try simp only[sd,se] at g1);exact Ar Ay 3 [] O (⟨O,O,AK,AI,⟨O,Ap⟩⟩)
   (try simp only[sd,se] at g1);exact Ar Ay 3 [] O (⟨O,O,AK,AI,⟨O,Ap⟩⟩)
  (try simp only[sd,se] at g);exact Ar Ay 9 [] O (⟨O,O,AK,AI,⟨O,Ap⟩⟩)
 rintro _ rfl;refine As (Aw (Aq O (A0 Cz O O) (Aq O (A3 (i:=0) DN O O (D2 _)) (Bg O (A8 (Au Ay 2 [] O (Av O (fun c=>?_) (fun c=>?_))))))))
 ·(try simp only[sd,se] at c);refine As (BS [] 2 (fun y=>y= .p (.bool (((NV d.value Bc)&&((((d.fixed:Int)==(0:Int))&&(((d.ctors.length:Nat):Int)==(0:Int)))&&((((d.recs.params:Int)==(0:Int))&&(NV d.recs.type Bc))&&(((d.recs.rules.length:Nat):Int)==(0:Int)))))&&(((d.funs.length:Nat):Int)==(0:Int))))) ?_ ?_)
  ·refine A2 (Aq O (A0 Cz O O) (Aq O (Bu (i:=0) BY O O (FA _) (BD _)) (Aq O (BC O O (KI d.value (by first | exact h1.rt.nd | exact h1.vl.nd | exact h1.ty.nd)) O) (Bq O (BL 41 O (fun g=>?_) (fun g=>?_))))))
   ·(try simp only[sd,se] at g);refine Ax Ay 3 [] O (BL 44 O (fun g1=>?_) (fun g1=>?_))
    ·(try simp only[sd,se] at g1);exact BB O (A0 Cz O O) (BB O (A3 (i:=0) HY O O (CD _)) (BB O (BK GB O (List.length_map _)) (Ar Ay 3 [] O ⟨O,O,AK,AI,Ap⟩)))
    (try simp only[sd,se] at g1);exact Ar Ay 6 [] O ⟨O,O,AK,AI,Ap⟩
   (try simp only[sd,se] at g);exact Ar Ay 9 [] O ⟨O,O,AK,AI,Ap⟩
  rintro _ rfl;refine Az (⟨O,_,_,⟨_,_,O,O,O⟩,(List.nil_sublist _),?_⟩)
  all_goals exact⟨⟨_,rfl,fun h=>by simp only[Bool.and_eq_true,beq_iff_eq,decide_eq_true_eq,IB] at h;refine⟨fun _ _=>?_,fun _=>⟨?_,?_⟩,fun _=>?_⟩<;>first | omega | (simp_all;done)⟩,rfl⟩
 (try simp only[sd,se] at c);refine As (Au Ay 2 [] O (BS [1,4,35] 50 (fun y=>y= .p (.bool (decide (d.kind=1∨d.kind=2)))) ?_ ?_))
 ·refine Av O (fun c1=>?_) (fun c1=>?_)
  ·(try simp only[sd,se] at c1);exact A1 (⟨O,O,(List.Sublist.refl _),(by refine pB (Bool.eq_iff_iff.2 ?_);simp only[beq_iff_eq,decide_eq_true_eq];omega),⟨O,O,O,Ap⟩⟩)
  (try simp only[sd,se] at c1);exact A2 (Ar Ay 2 [] O (⟨O,O,(List.Sublist.refl _),(by refine pB (Bool.eq_iff_iff.2 ?_);simp only[beq_iff_eq,decide_eq_true_eq];omega),⟨O,O,O,Ap⟩⟩))
 rintro _ rfl;refine Av O (fun c1=>?_) (fun c1=>?_)
 ·(try simp only[sd,se] at c1);refine As (BS [] 2 (fun y=>y= .p (.bool (((((d.fixed:Int)==(0:Int))&&(((d.ctors.length:Nat):Int)==(0:Int)))&&((((d.recs.params:Int)==(0:Int))&&(NV d.recs.type Bc))&&(((d.recs.rules.length:Nat):Int)==(0:Int))))&&(((d.funs.length:Nat):Int)==(0:Int))))) ?_ ?_)
  ·refine A2 (Ax Ay 2 [] O (BL 54 O (fun g=>?_) (fun g=>?_)))
   ·(try simp only[sd,se] at g);exact BB O (A0 Cz O O) (BB O (A3 (i:=0) HY O O (CD _)) (BB O (BK GB O (List.length_map _)) (Ar Ay 3 [] O ⟨O,O,AK,AI,Ap⟩)))
   (try simp only[sd,se] at g);exact Ar Ay 6 [] O ⟨O,O,AK,AI,Ap⟩
  rintro _ rfl;refine Az (⟨O,_,_,⟨_,_,O,O,O⟩,(List.nil_sublist _),?_⟩)
  all_goals exact⟨⟨_,rfl,fun h=>by simp only[Bool.and_eq_true,beq_iff_eq,decide_eq_true_eq,IB] at h;refine⟨fun _ _=>?_,fun _=>⟨?_,?_⟩,fun _=>?_⟩<;>first | omega | (simp_all;done)⟩,rfl⟩
 (try simp only[sd,se] at c1);refine Au Ay 2 [] O (Av O (fun c2=>?_) (fun c2=>?_))
 ·(try simp only[sd,se] at c2);refine As (BS [] 2 (fun y=>y= .p (.bool ((NV d.value Bc)&&(((d.funs.length:Nat):Int)==(0:Int))))) ?_ ?_)
  ·refine A2 (Aq O (A0 Cz O O) (Aq O (Bu (i:=0) BY O O (FA _) (BD _)) (Aq O (BC O O (KI d.value (by first | exact h1.rt.nd | exact h1.vl.nd | exact h1.ty.nd)) O) (Bq O (BL 65 O (fun g=>?_) (fun g=>?_))))))
   ·(try simp only[sd,se] at g);exact BB O (A0 Cz O O) (BB O (A3 (i:=0) HY O O (CD _)) (BB O (BK GB O (List.length_map _)) (Ar Ay 3 [] O ⟨O,O,AK,AI,Ap⟩)))
   (try simp only[sd,se] at g);exact Ar Ay 6 [] O ⟨O,O,AK,AI,Ap⟩
  rintro _ rfl;refine Az (⟨O,_,_,⟨_,_,O,O,O⟩,(List.nil_sublist _),?_⟩)
  all_goals exact⟨⟨_,rfl,fun h=>by simp only[Bool.and_eq_true,beq_iff_eq,decide_eq_true_eq,IB] at h;refine⟨fun _ _=>?_,fun _=>⟨?_,?_⟩,fun _=>?_⟩<;>first | omega | (simp_all;done)⟩,rfl⟩
 (try simp only[sd,se] at c2);refine A1 (As (BS [] 2 (fun y=>∃q:Bool,y= .p (.bool q)∧(q=true→NV d.value Bc=true∧d.fixed=0∧d.recs.rules.length=0)) ?_ ?_))
 ·refine A2 (Aq O (A0 Cz O O) (Aq O (A3 (i:=0) Ln O O (DH _)) (Aq O (Fu O O) (Bq O (BL 74 O (fun g=>?_) (fun g=>?_))))))
  ·(try simp only[sd,se] at g);refine BB O (A0 Cz O O) (BB O (Bu (i:=0) BY O O (E2 _) (BD _)) (BB O (BC O O (KI d.type (by first | exact h1.rt.nd | exact h1.vl.nd | exact h1.ty.nd)) O) (Ax Ay 2 [] O (BL 79 O (fun g1=>?_) (fun g1=>?_)))))
   ·(try simp only[sd,se] at g1);refine BB O (A0 Cz O O) (BB O (Bu (i:=0) BY O O (FA _) (BD _)) (BB O (BC O O (KI d.value (by first | exact h1.rt.nd | exact h1.vl.nd | exact h1.ty.nd)) O) (Ax Ay 2 [] O (BL 84 O (fun g2=>?_) (fun g2=>?_)))))
    ·(try simp only[sd,se] at g2);refine Ar Ay 3 [] O ?_;exact⟨rfl,rfl,AK,(by refine⟨_,rfl,fun h=>?_⟩;first | (exact absurd h Am) | (refine⟨by simpa using Ak,?_,?_⟩<;>(simp only[Bool.and_eq_true,beq_iff_eq,decide_eq_true_eq] at h;omega))),trivial⟩
    (try simp only[sd,se] at g2);refine Ar Ay 3 [] O ?_;exact⟨rfl,rfl,AK,(by refine⟨_,rfl,fun h=>?_⟩;first | (exact absurd h Am) | (refine⟨by simpa using Ak,?_,?_⟩<;>(simp only[Bool.and_eq_true,beq_iff_eq,decide_eq_true_eq] at h;omega))),trivial⟩
   (try simp only[sd,se] at g1);refine Ar Ay 8 [] O ?_;exact⟨rfl,rfl,AK,(by refine⟨_,rfl,fun h=>?_⟩;first | (exact absurd h Am) | (refine⟨by simpa using Ak,?_,?_⟩<;>(simp only[Bool.and_eq_true,beq_iff_eq,decide_eq_true_eq] at h;omega))),trivial⟩
  (try simp only[sd,se] at g);refine Ar Ay 13 [] O ?_;exact⟨rfl,rfl,AK,(by refine⟨_,rfl,fun h=>?_⟩;first | (exact absurd h Am) | (refine⟨by simpa using Ak,?_,?_⟩<;>(simp only[Bool.and_eq_true,beq_iff_eq,decide_eq_true_eq] at h;omega))),trivial⟩
 rintro _ ⟨q,rfl,hq⟩;refine Az (⟨O,_,_,⟨_,_,O,O,O⟩,(List.nil_sublist _),?_⟩)
 all_goals exact⟨⟨_,rfl,fun h=>by obtain⟨q1,q2,q3⟩:=hq h;rw[IB] at q1;exact⟨fun _ _=>q1,fun _=>⟨q3,q2⟩,fun _=>by omega⟩⟩,rfl⟩
theorem QE:∀(t:Tm),(UW t)→F7 Tryz.prog 171 [.agg ((BO t).map .p)] (fun v=>∃e:Int,v= .p (I e)∧0≤e∧e≤size t):=by
 intro t h1;have hsz:=h1.sz;refine A5 Tryz.func171 O od (n:=20) O O (Aw (BF O (BN O) fun b1=>Ar Ay 1 [] O (Au Ay 1 [] O (As (A8 ?_)))));refine Bb (α:=Tm×Int) (fun(y,m)=>⟨20,mk [(1,.ptr b1 0),(3,.p (I m))],[.box b1 ((BO y).map .p)],[]⟩) (fun(y,m)=>size y) (fun(y,m)=>Nd y∧0≤m∧m+size y≤size t) ⟨t,0⟩ (⟨h1.nd,by omega,by omega⟩) ?_ ?_
 ·exact BU ⟨we O,we O,Ap⟩ (leH (is:=[0]) O (wl (oe O) (C3)))
 rintro⟨y,m⟩ hC
 try simp only at hC
 obtain⟨hC,hm0,hm1⟩:=hC;refine As (As ?_);obtain⟨yk,yi,yn,yl,ys⟩:=y;refine BS [1,3] 12 (fun y=>y= .p (.bool (((yk:Int)==(6:Int))&&(((ys.length:Nat):Int)==(2:Int))))) ?_ ?_
 ·refine A2 (Ax Ay 4 [0] O (BL 7 O (fun g=>?_) (fun g=>?_)))
  ·(try simp only[sd,se] at g);exact Ax Ay 2 [0] O (BB O (BK Be O (BQ _)) (Ar Ay 2 [] O (⟨O,O,AK,AI,⟨O,O,Ap⟩⟩)))
  (try simp only[sd,se] at g);exact Ar Ay 5 [] O (⟨O,O,AK,AI,⟨O,O,Ap⟩⟩)
 rintro _ rfl;refine Av O (fun c=>?_) (fun c=>?_)
 ·(try simp only[sd,se] at c);refine A1 (A8 (Au Ay 3 [] O (A2 (Ax Ay 2 [0] O ?_))));obtain⟨x,hx⟩:=A6 (l:=ys) (i:=1) (by first | omega | (simp at c;omega));refine Aq O (A4 Be O O An (Bd hx) (BD _)) (Ar Ay 2 [0,1] O ?_);refine⟨⟨x,(m:Int)+(1:Int)⟩,(by have:=Cc hx;simp only[size];omega),⟨DQ hC.2.2.2.2.1 hx,by omega,by have:=Cc hx;simp only[size] at hm1;omega⟩,BU ⟨we rfl,we rfl,trivial⟩ (leH (is:=[0]) rfl (wl (oe rfl) (C3)))⟩
 (try simp only[sd,se] at c);refine Bf (Au Ay 2 [] O (Az (⟨O,_,_,⟨_,_,O,O,O⟩,(List.nil_sublist _),?_⟩)))
 all_goals exact⟨⟨_,rfl,by omega,by simp only[size] at hm1;omega⟩,rfl⟩
theorem Tw:∀(d:CH),(Ns d)→F7 Tryz.prog 150 [.agg ((Bh d).map .p)] (fun v=>∃bb:Bool,v= .p (.bool bb)∧(bb=true→d.fixed≤1000000)):=by
 intro d h1;have hcl:=h1.cl;have hts:=h1.ty.sz;refine A5 Tryz.func150 O qH (n:=32) O O (Aw (BF O (BN O) fun b1=>Ar Ay 1 [] O (As (Bt (fun k=>Nat.beq k 2) Dn (BG O (fun _=>A0 Cz O O) Ap (CU (j:=0) O O O (fun H i hi=>Bu (i:=i) BY O hi (E2 _) (BD _)) AB Ap ?_))))));refine J2 [(3,.free (.ptr b1 13)),(4,.read [.box b1 ((Bh d).map .p)] (.p (I d.fixed)))] O O (CA O O (QE d.type h1.ty) (.inl O)) Aj (⟨_,0,O,by omega,by omega⟩) AB ?_;rintro _ ⟨e,rfl,he0,he1⟩;refine⟨Ap,?_⟩;refine BP Ay 1 [] O (CU (j:=0) O O O (fun H i hi=>A3 (i:=i) DN O hi (Cn _)) AB AN (Bj Ay 2 [] O (As (Au Ay 1 [] O (A8 ?_)))));refine Bb (α:=Nat×Bool) (fun(i,b)=>⟨32,mk [(1,.ptr b1 0),(3,.p (.bool b)),(4,.p (I (i:Int)))],[.box b1 ((Bh d).map .p)],[]⟩) (fun(i,b)=>d.ctors.length - i) (fun(i,b)=>i≤d.ctors.length∧(b=true→d.fixed≤1000000)) ⟨0,(decide ((e:Int)≥(d.fixed:Int)))⟩ (⟨by omega,fun h=>by simp only[decide_eq_true_eq] at h;omega⟩) ?_ ?_
 ·exact BU ⟨we O,we O,we O,Ap⟩ (leH (is:=[0]) O (wl (oe O) (C3)))
 rintro⟨i,b⟩ hC
 try simp only at hC
 obtain⟨hi,hC⟩:=hC;refine As (Aw (Ax Ay 2 [] O (Aq O (A3 (i:=0) Hg O O (B8 _)) (Aq O (BK HN O (List.length_map _)) (Ar Ay 1 [] O (Av O (fun c=>?_) (fun c=>?_)))))))
 ·(try simp only[sd,se] at c);refine A1 (As (A8 (BS [1,4] 3 (fun y=>∃q:Bool,y= .p (.bool q)∧(q=true→b=true)) ?_ ?_)))
  ·refine Bt (fun k=>Nat.beq k 8) Dn (BP Ay 2 [] O (Du 19 O (fun g=>?_) (fun g=>?_)))
   ·(try simp only[sd,se] at g);refine CZ O (fun _=>A0 Cz O O) Ap (Lz (i:=0) O O O O O (fun H i hi=>A3 (i:=i) Hg O hi (B8 _)) AB Ap (CZ O (fun _=>BZ O) Ap ?_));obtain⟨x,hx⟩:=A6 (l:=d.ctors) (i:=i) An;refine CZ O (fun _=>A4 HN O O An (ES hx) (D5 _)) Ap (CZ O (fun _=>By Ik O O) Ap (CZ O (fun _=>DC BY O (E4 _) (BD _)) Ap ?_));refine iM [(9,.free (.ptr b1 13)),(10,.read [.box b1 ((Bh d).map .p)] (.p (I d.fixed)))] O O O O (CA O O (QE x.type (h1.cs _ (List.mem_of_getElem? hx)).ty) (.inl O)) Aj (⟨_,0,O,by omega,by omega⟩) AB ?_;rintro _ ⟨e1,rfl,he01,he11⟩;refine⟨Ap,?_⟩;exact BP Ay 1 [] O (Lz (i:=0) O O O O O (fun H i hi=>A3 (i:=i) DN O hi (Cn _)) AB AN (Bj Ay 3 [] O (⟨O,O,AK,(by refine⟨_,rfl,fun h=>?_⟩;first | (exact absurd h Am) | assumption),⟨O,O,Ap⟩⟩)))
   (try simp only[sd,se] at g);exact BP Ay 6 [] O (bz O O O O AN (Bj Ay 5 [] O (⟨O,O,AK,(by refine⟨_,rfl,fun h=>?_⟩;first | (exact absurd h Am) | assumption),⟨O,O,Ap⟩⟩)))
  rintro _ ⟨q,rfl,hq⟩;refine A2 (Ar Ay 3 [] O (⟨⟨i+1,q⟩,AT,⟨by omega,fun h=>hC (hq h)⟩,BU ⟨we rfl,we rfl,we rfl,trivial⟩ (leH (is:=[0]) rfl (wl (oe rfl) (C3)))⟩))
 (try simp only[sd,se] at c);refine Bf (Au Ay 2 [] O (Az (⟨O,_,_,⟨_,_,O,O,O⟩,(List.nil_sublist _),?_⟩)))
 all_goals exact⟨⟨_,rfl,hC⟩,rfl⟩
end Go.Proofs.YtboammbpdaoojaaGreat
