/- Part of the proofs: an abstract program logic, plain models and contracts of functions. -/
import Derived.Test.YtboammbpdaoojaaGreatPh
import Derived.Test.YtboammbpdaoojaaGreatPd
import Derived.Test.YtboammbpdaoojaaGreatPb
import Derived.Test.YtboammbpdaoojaaGreatPg
set_option linter.unusedVariables false
set_option linter.unusedSimpArgs false
set_option maxRecDepth 100000
namespace Go.Eu
open Go.Abs
section
variable {E:List CX}
def LW (W:Int→Tm→Out (Tm×Int)):Prop:=∀l t r l' k,0≤k→W l t= .ok (r,l')→W (l+k) t= .ok (r,l'+k)
structure Exit (E:List CX) (n:Nat) (l:Int) (a:Tm) (l':Int):Prop where
 many:CN.many (BH a).2.length=false
 lam:(BH a).1.kind=5→(BH a).2.length=0
 lt:(BH a).1.kind≠11
 proj:(BH a).1.kind=9∨(BH a).1.kind=10→∃p,(BH a).1=Hd (BH a).1.kind p∧okB p=true∧p.kind≠8∧FF E CN n l p= .ok (p,l')∧a=apply (BH a).1 (BH a).2
 con:(BH a).1.kind=3→Fk E CN (FF E CN n) n (BH a).1 (BH a).2 l= .ok (none,l')
 oth:(BH a).1.kind≠9→(BH a).1.kind≠10→(BH a).1.kind≠3→l'=l
end
def lW {α:Type}:Out α→Int
 | .ok _=>0
 | _=>11
def lP {α:Type}(z:α):Out (α×Int)→α
 | .ok (a,_)=>a
 | _=>z
section
variable {α:Type}{o:Out (α×Int)}{a:α×Int}{z:α}{e:Int}
theorem mI (h:o.ex= .ok a):lW o=0:=by rw[Ij h];rfl
theorem lU (h:o.ex= .error e):lW o=11:=by cases o<;>first | rfl | cases h
theorem mD (h:o.ex= .ok a):lP z o=a.1:=by rw[Ij h];rfl
theorem mO (h:o.ex= .error e):lP z o=z:=by cases o<;>first | rfl | cases h
end
theorem NP:G0 20000:=⟨by omega,by omega⟩
end Go.Eu
namespace Go.Proofs.YtboammbpdaoojaaGreat
open Go.Abs Go.Eu
theorem de:∀(ds:List CX) (N m bt bo:Nat) (t:Tm) (s:Int),(Gz ds)→(G0 s)→(FF ds CN N s t≠ .stuck)→B2 Tryz.prog 38 [.ptr m 0,.ptr bt 0,.ptr bo 0] [.box m [.p (.lst (List.map Bu ds)),.p (I s)],.box bt ((Bb t).map .p),.box bo [.p (I 0),.p (I 0),.p (.str ⟨#[]⟩),.p (.nils),.p (.nils)]] (Kq (fun(r:Tm×Int)=> .tup []) (fun _=> .p (.iface 122 .unit)) (fun r H'=>H'=[.box m [.p (.lst (List.map Bu ds)),.p (I r.2)],.box bt ((Bb t).map .p),.box bo ((Bb r.1).map .p)]) ((FF ds CN N s t).ex)):=by
 intro ds N m bt bo t s h1 h2 h3;refine BF Tryz.func38 O sr (n:=7) O O (BC (A5 A7 2 [1] O (D6 [0] O O O (.inl ⟨O,O,O⟩) (OA ds h1 N m t s h2 h3) ⟨_,_,O,O,O⟩ Aw (aw (we O) (aw (we O) (FM))) (fun _ _ h=>(congrArg List.length h).trans O) ?_ ?_)))
 rotate_left
 ·intro e _ he;exact⟨O,_,List.nil_sublist _,⟨_,he,O⟩⟩
 rintro⟨z,n2⟩ _ hz rfl;refine A1 A7 1 [2,1] O ⟨O,_,_,O,(CC (is:=[0,1,2]) O),?_⟩;exact⟨⟨z,n2⟩,hz,O,O⟩
theorem Ue:∀(ds:List CX) (N:Nat) (t:Tm),(Gz ds)→(FF ds CN N 20000 t≠ .stuck)→Ep Tryz.prog 12 [.p (.lst (List.map Bu ds)),.agg ((Bb t).map .p)] (.tup [.agg ((Bb (lP Bp (FF ds CN N 20000 t))).map .p),.p (I (lW (FF ds CN N 20000 t)))]):=by
 intro ds N t h1 h2;refine BF Tryz.func12 O rN (n:=16) O O (A6 (BO O (Ba O) fun b3=>BO O (BG B4 O) fun b4=>A1 A7 1 [] O (A6 (BO O (BG B4 O) fun b6=>Bq O (A2 ?_)))));obtain⟨e,he⟩ | ⟨⟨z,n2⟩,ha⟩:=GG ((FF ds CN N 20000 t).ex)
 ·refine BC (A5 A7 2 [] O (U8 [2,0] O O O (.inl ⟨O,O,O⟩) (SN _ _ he (fun r=>r.2) (fun r=>[.box b3 ((Bb t).map .p),.box b6 ((Bb r.1).map .p)]) 38 [.ptr b3 0,.ptr b6 0] [.box b3 ((Bb t).map .p),.box b6 [.p (I 0),.p (I 0),.p (.str ⟨#[]⟩),.p (.nils),.p (.nils)]] ds (fun m=>de ds N m b3 b6 t 20000 h1 NP h2)) ⟨_,_,O,O,⟨_,_,O,O,O⟩⟩ Aw (Dg _) (A1 A7 1 [] O (A2 (A3 A7 2 [] O ?_)))));refine A4 O (fun c=>?_) (fun c=>by cases c);refine A3 A7 4 [0,0] O (BQ (Bd (i:=0) O) (A9 (⟨O,_,_,⟨_,_,O,(BI (i:=0) Bg O O O),⟨_,_,O,O,O⟩⟩,(List.nil_sublist _),?_⟩)))
  all_goals exact⟨by show (.tup [.agg [.p (I 0),.p (I 0),.p (.str ⟨#[]⟩),.p (.lst []),.p (.lst [])],.p (I 11)]:AV)=_;rw[mO he,lU he];rfl,rfl⟩
 refine BC (A5 A7 2 [] O (A0 O (CF [2,0] O (.inl ⟨O,O,O⟩) (VA _ _ ha (fun r=>r.2) (fun r=>[.box b3 ((Bb t).map .p),.box b6 ((Bb r.1).map .p)]) 38 [.ptr b3 0,.ptr b6 0] [.box b3 ((Bb t).map .p),.box b6 [.p (I 0),.p (I 0),.p (.str ⟨#[]⟩),.p (.nils),.p (.nils)]] ds (fun m=>de ds N m b3 b6 t 20000 h1 NP h2)) ⟨_,_,O,O,⟨_,_,O,O,O⟩⟩ Aw O (.inl O)) (A1 A7 1 [] O (A2 (A3 A7 2 [] O ?_)))));refine A4 O (fun c=>by cases c) (fun c=>?_);refine BA (A3 A7 3 [0,1,1] O (A9 (⟨O,_,_,⟨_,_,O,(BI (i:=1) Bg O O Ap),⟨_,_,O,O,O⟩⟩,(List.nil_sublist _),?_⟩)))
 all_goals exact⟨by show (.tup [.agg ((Bb z).map .p),.p (I 0)]:AV)=_;rw[mD ha,mI ha],rfl⟩
end Go.Proofs.YtboammbpdaoojaaGreat
namespace Go.Eu
open Go.Abs
def DT (p:Int×List Int):List PV:=[I p.1,.lst (p.2.map FT)]
theorem ZM (p:Int×List Int):EZ 2 (DT p):=⟨rfl,by simp[DT]⟩
theorem UB (l:List (Int×List Int)):∀r∈l.map DT,EZ 2 r:=Gh ZM l
theorem T7 (l:List (Int×List Int)):∀r∈l.map DT,EZ 2 r:=Gh ZM l
theorem Rf {t x z:Tm}{ps:List Int}{p:Int}(h:Gq t ps x=some z) (hp:ps[0]?=some p):p.toNat<(BH t).2.length:=by
 cases ps with
 | nil=>simp at hp
 | cons q qs =>
  simp at hp;subst hp;rw[Gq] at h;rcases Nat.lt_or_ge q.toNat (BH t).2.length with hl | hl
  ·exact hl
  rw[List.getElem?_eq_none hl] at h;cases h
theorem Tp {t x z y:Tm}{ps:List Int}{p:Int}(h:Gq t ps x=some z) (hp:ps[0]?=some p) (hy:(BH t).2[p.toNat]?=some y):∃w,Gq y (ps.drop 1) x=some w∧apply (BH t).1 ((BH t).2.set p.toNat w)=z:=by
 cases ps with
 | nil=>simp at hp
 | cons q qs =>
  simp at hp;subst hp;rw[Gq,hy] at h;simp only[Option.map_eq_some_iff] at h;obtain⟨w,h1,h2⟩:=h;exact⟨w,h1,h2⟩
theorem XE {t x z:Tm}{ps:List Int}(h:Gq t ps x=some z) (hp:ps.length=0):x=z:=by
 cases ps with
 | nil=>rw[Gq] at h;cases h;rfl
 | cons q qs=>simp at hp
theorem UN {t x z:Tm}{ps:List Int}(h:Gq t ps x=some z) (hp:ps.length≠0):0<(BH t).2.length:=by
 cases ps with
 | nil=>simp at hp
 | cons q qs=>have:=Rf (p:=q) h rfl;omega
end Go.Eu
namespace Go.Proofs.YtboammbpdaoojaaGreat
open Go.Abs Go.Eu
theorem dT:∀(l:List Int),(l.length<549755813888)→B2 Tryz.prog 143 [.p (.lst (List.map FT l))] [] (bh (fun v=>v) 1 (List.map FT l)):=by
 intro l h1;refine BF Tryz.func143 O nB (n:=8) O O (A3 A7 1 [] O (A2 (A6 (B3 O (D2 O O (M3 Fp O O) ?_)))));rintro _ ⟨q,rfl,hq⟩;refine Bq O (A4 O (fun c=>?_) (fun c=>?_))
 ·(try simp only[sd,se] at c);refine A3 A7 1 [] O (BQ (DS (t:=2) (sz:=1) O) (A9 (⟨O,_,_,⟨_,_,O,O,O⟩,(CC (is:=[0]) O),?_⟩)));rw[show l=[] by simpa using hq c]
  all_goals exact⟨_,_,rfl,rfl⟩
 (try simp only[sd,se] at c);refine BA (A6 (Qy O O (LN Fp) fun b5 cp=>B3 O (EN O O (CE (i:=0) (rows':=List.map FT l) Fp Fp cH O O O O O O (JM _) (by simp only[List.length_map,List.length_nil];omega) (FX (f:=FT) [] l)) fun o cp1=>A1 A7 1 [] O (A9 (⟨O,_,_,⟨_,_,O,O,O⟩,(CC (is:=[0]) O),?_⟩)))))
 all_goals exact⟨_,_,rfl,rfl⟩
theorem _root_.Go.Aa {α:Prop}(h:α:=by simp only[Dq,List.length_set];omega):α:=h
theorem _root_.Go.Ab {α:Prop}(h:α:=by simp only[List.length_drop];omega):α:=h
theorem _root_.Go.Ag {α:Prop}(h:α:=by first | omega | assumption):α:=h
theorem j2:∀(n:Nat) (ps:List Int) (t x z:Tm),(ps.length≤n)→(okB t=true)→(∀p∈ps,0≤p)→(ps.length<1000000)→(Gq t ps x=some z)→Ep Tryz.prog 142 [.agg ((Bb t).map .p),.p (.lst (List.map FT ps)),.agg ((Bb x).map .p)] (.agg ((Bb z).map .p)):=by
 intro n
 induction n using Nat.strongRecOn with
 | ind n ih =>
  intro ps t x z h0 h1 h3 h4 h5;have hsp:=Rp h1;have hsl:=hsp.len;have hss:=hsp.sz;refine BF Tryz.func142 O pz (n:=39) O O (A6 (BO O (Ba O) fun b3=>BO O (Ba O) fun b5=>BO O (BG B4 O) fun b6=>Bq O (A2 (A6 (B3 O (A0 O (BT Fp O (List.length_map _)) (A1 A7 1 [] O (A4 O (fun c=>?_) (fun c=>?_)))))))))
  ·(try simp only[sd,se] at c);refine A3 A7 2 [1,0,1] O (A9 (⟨O,_,_,⟨_,_,O,(BI (i:=0) Bg O O Ap),O⟩,(List.nil_sublist _),?_⟩))
   all_goals exact⟨by show (.agg ((Bb x).map .p):AV)=_;rw[XE h5 Ax],rfl⟩
  (try simp only[sd,se] at c);refine BA (A6 (A0 O (Bf (i:=2) Bg O O Ap) (A0 O (BL O O (MC t hsp.nd Ai) O) (A5 A7 3 [] O (BO O (BG B4 O) fun b7=>A1 A7 2 [0,1] O (A6 (B3 O (NO O O O (.inl ⟨O,O,O⟩) (KX ((BH t).2) hsp.len) (.inl O) fun o cp=>A1 A7 1 [] O (A2 (Ib (i:=0) O (by have hxl:=UN h5 Ax;rw[Bc];omega) fun b hb=>?_))))))))));subst hb;refine B0 (fun k=>false) Dt (BZ A7 2 [] O ?_);obtain⟨x1,hx1⟩:=BE (l:=ps) (i:=0) Ax;have hx0:=h3 _ (List.mem_of_getElem? hx1);have hxl:=Rf h5 hx1;refine BP O (fun _=>BD Fp O O Ax (Jh hx1) (O)) Az (BZ A7 3 [] O (BP O (fun _=>BD Fp O O Ax (Jh hx1) (O)) Az (BP O (fun _=>E9 DO O) Az (BP O (fun _=>Cg Bk O O Ax Af) Az ?_))));obtain⟨y,hy⟩:=BE (l:=((BH t).2)) (i:=(x1:Int).toNat) Ag;refine CY (j:=0) O O O (fun H i hi=>Da (i:=i) Bg O hi (Bj hy)) AB Az (BP O (fun _=>Bi O) Az (BP O (fun _=>Cc (lo:=1) Fp O (CM (JM _)) ⟨_,O⟩ O AX (Nat.le_refl _) (eX (f:=FT) ps 1)) Az (BZ A7 1 [3] O ?_)));obtain⟨z1,e1,e2⟩:=Tp h5 hx1 hy;refine BP rfl (fun _=>BL rfl rfl (ih (n - 1) Ax (ps.drop 1) y x z1 Ab (hsp.args _ (List.mem_of_getElem? hy)) (fun p hp=>h3 p (List.mem_of_mem_drop hp)) Ab e1) rfl) trivial (BP O (fun _=>Cg Bk O O Ax Af) Az (FH O O (Dj (i:=0) (j:=((x1:Int).toNat)) Bg O O O Af O (Ht _) (BM _) (FD _) (Ow ((BH t).2) ((x1:Int).toNat) z1)) AB Az (Hg O As (A6 (A5 A7 2 [1] O (Bx (Cj (t:=20) (x:= .vs (some b) (BN ((((BH t).2)).set ((x1:Int).toNat) z1)).length cp) (Cn ((BH t).2) (l':=(((BH t).2)).set ((x1:Int).toNat) z1) Ay)) (Bx (Cj (t:=9) (x:= .vs (some b) (BN ((((BH t).2)).set ((x1:Int).toNat) z1)).length cp) (Cn ((BH t).2) (l':=(((BH t).2)).set ((x1:Int).toNat) z1) Ay)) ?_)))))))
  refine Bx (Cj (t:=21) (x:= .vs (some b) (BN ((((BH t).2)).set ((x1:Int).toNat) z1)).length cp) (Cn ((BH t).2) (l':=(((BH t).2)).set ((x1:Int).toNat) z1) Ay)) (Bx (Cj (t:=25) (x:= .vs (some b) (BN ((((BH t).2)).set ((x1:Int).toNat) z1)).length cp) (Cn ((BH t).2) (l':=(((BH t).2)).set ((x1:Int).toNat) z1) Ay)) (Bx (Cj (t:=37) (x:= .vs (some b) (BN ((((BH t).2)).set ((x1:Int).toNat) z1)).length cp) (Cn ((BH t).2) (l':=(((BH t).2)).set ((x1:Int).toNat) z1) Ay)) (Bx (Cf (i:=0) [20,9,21,25,37] O (Ds ⟨O,O,O,O,O,Az⟩)) (A0 O (BL O O (Ec ((BH t).1) ((((BH t).2)).set ((x1:Int).toNat) z1) Aa) O) (A1 A7 1 [1,1] O (A9 (⟨O,_,_,⟨_,_,O,(BI (i:=1) Bg O O Ap),O⟩,(List.nil_sublist _),?_⟩)))))))
  all_goals exact⟨by show (.agg ((Bb (apply ((BH t).1) ((((BH t).2)).set ((x1:Int).toNat) z1))).map .p):AV)=_;rw[e2],rfl⟩
end Go.Proofs.YtboammbpdaoojaaGreat
namespace Go.Eu
open Go.Abs
def O2 (n:Nat):List (Int×List Int):=(List.range n).map fun i:Nat=>((i:Int),[])
theorem Oc (n:Nat):O2 (n+1)=O2 n++[((n:Int),[])]:=by simp[O2,List.range_succ]
theorem MP (n:Nat):(O2 n).length=n:=by simp[O2]
theorem JF (a:Int×List Int) (fx:Int):De a fx 0=[]:=rfl
theorem JD (a:Int×List Int) (fx:Int) (n:Nat):De a fx (n+1)=De a fx n++[(a.1,a.2++[fx+(n:Int)])]:=by simp[De,List.range_succ]
theorem IL {α:Type}{l:List α}{i:Nat}{x:α}(h:l[i]?=some x):l.take (i+1)=l.take i++[x]:=by rw[List.take_add_one,h];rfl
theorem Ou {α:Type}{l:List α}{i:Nat}(h:l.length≤i):l.take i=l:=List.take_of_length_le h
theorem Kv {w:FY}(h:Fz w):okB w.body=true:=by
 obtain⟨k,b,v,l⟩:=w;simp only[Fz] at h;exact h.1
structure gq (a us:List Tm) (pl:List (Int×List Int)) (w:FY):Prop where
 ok:X5 a us pl
 nn:∀p∈pl,0≤p.1∧(∀q∈p.2,0≤q)∧p.2.length+EC w≤1000
theorem gq.len {a us:List Tm}{pl:List (Int×List Int)}{w:FY}(h:gq a us pl w):pl.length=us.length:=h.ok.len
theorem Vo (a:List Tm) (n:Nat) (w:FY) (hn:n≤a.length) (hd:EC w≤1000):gq a (a.take n) (O2 n) w:=by
 refine⟨PE a n hn,fun p hp=>?_⟩;obtain⟨i,_,rfl⟩:=List.mem_map.1 hp;exact⟨by simp,by simp,by simp;omega⟩
theorem gq.next {E:List CX}{a us f:List Tm}{pl:List (Int×List Int)}{w q:FY}(h:gq a us pl w) (hE:KB E) {i:Nat}{v:Tm}{p:Int×List Int}{d:CX}{j:Int}{nm:ByteArray}(hv:us[i]?=some v) (hp:pl[i]?=some p) (hc:DQ E v=some (d,j,f)) (hb:C3 nm w.branches=some q) (ho:Fz w):gq a (us++f) (pl++De p d.fixed f.length) q:=by
 have hcf:=Ek hc;obtain⟨b1,b2⟩:=X8 hb ho;have hfx:=(hE.all d hcf.mem).fx.1;have hmore:=h.ok.more hv hp hfx;rw[←hcf.fs] at hmore;obtain⟨n1,n2,n3⟩:=h.nn p (List.mem_of_getElem? hp);refine⟨hmore,fun r hr=>?_⟩;rcases List.mem_append.1 hr with hr | hr
 ·obtain⟨m1,m2,m3⟩:=h.nn r hr;exact⟨m1,m2,by omega⟩
 obtain⟨k,_,rfl⟩:=List.mem_map.1 hr;refine⟨n1,fun q hq=>?_,by simp only[List.length_append,List.length_cons,List.length_nil];omega⟩;rcases List.mem_append.1 hq with hq | hq
 ·exact n2 q hq
 have:=List.mem_singleton.1 hq;omega
theorem gq.at_ {a us:List Tm}{pl:List (Int×List Int)}{w:FY}(h:gq a us pl w) {i:Nat}{v:Tm}{p:Int×List Int}(hv:us[i]?=some v) (hp:pl[i]?=some p):0≤p.1∧(∀q∈p.2,0≤q)∧p.2.length≤1000∧p.1.toNat<a.length:=by
 obtain⟨n1,n2,n3⟩:=h.nn p (List.mem_of_getElem? hp);obtain⟨j,path,y,h1,h2,h3⟩:=h.ok.at_ i v hv;rw[hp] at h1;cases h1;exact⟨n1,n2,by omega,(List.getElem?_eq_some_iff.1 h2).1⟩
section
variable {E:List CX}{σ:Type}{S:Sys σ}{T:σ→Tm→Out (Option Tm×σ)}{h:Tm}{ar:Int}{a us:List Tm}{n:Nat}{t:FY}{pl:List (Int×List Int)}{s:σ}{x:Tm}{p:Int×List Int}
def dK (h:Tm) (a:List Tm) (p:Int×List Int) (r:Option Tm×σ):Out (Option Tm×σ):=match r.1 with
 | none=> .ok (none,r.2)
 | some x=>match Gq (a.getD p.1.toNat default) p.2 x with
  | none=> .stuck
  | some y=> .ok (some (apply h (a.set p.1.toNat y)),r.2)
theorem WH {X:Out (Option Tm×σ)}(e:GX E S T h ar a n t us pl s=X) (hX:X≠ .stuck):∃k,n=k+1:=by
 cases n with
 | zero=>rw[GX] at e;exact absurd e.symm hX
 | succ k=>exact⟨k,rfl⟩
theorem XD (hk:t.kind≠1):GX E S T h ar a (n+1) t us pl s=Gr S h t.body us (a.drop ar.toNat) s:=by rw[GX,if_neg hk]
theorem Zi (hk:t.kind=1) (hb:t.var<0∨t.var≥(us.length:Int)):GX E S T h ar a (n+1) t us pl s= .ok (none,s):=by rw[GX,if_pos hk,if_pos hb]
theorem Ws (hk:t.kind=1) (hb:¬(t.var<0∨t.var≥(us.length:Int))) (hx:us[t.var.toNat]?=some x) (hp:pl[t.var.toNat]?=some p) (hc:DQ E x=none):GX E S T h ar a (n+1) t us pl s=(T s x).bind (dK h a p):=by
 rw[GX,if_pos hk,if_neg hb,CI hx,CI hp,hc];rfl
theorem gZ {d:CX}{j:Int}{f:List Tm}(hk:t.kind=1) (hb:¬(t.var<0∨t.var≥(us.length:Int))) (hx:us[t.var.toNat]?=some x) (hp:pl[t.var.toNat]?=some p) (hc:DQ E x=some (d,j,f)) (hbr:C3 (El d j).name t.branches=none):GX E S T h ar a (n+1) t us pl s= .ok (none,s):=by
 rw[GX,if_pos hk,if_neg hb,CI hx,CI hp,hc];simp only[hbr]
theorem fB {d:CX}{j:Int}{f:List Tm}{t':FY}(hk:t.kind=1) (hb:¬(t.var<0∨t.var≥(us.length:Int))) (hx:us[t.var.toNat]?=some x) (hp:pl[t.var.toNat]?=some p) (hc:DQ E x=some (d,j,f)) (hbr:C3 (El d j).name t.branches=some t'):GX E S T h ar a (n+1) t us pl s=GX E S T h ar a n t' (us++f) (pl++De p d.fixed f.length) s:=by
 rw[GX,if_pos hk,if_neg hb,CI hx,CI hp,hc];simp only[hbr]
theorem S0 {r:Option Tm×σ}(hr:r.1.isSome=false):dK h a p r= .ok (none,r.2):=by
 obtain⟨q,s⟩:=r;cases q with
 | none=>rfl
 | some x=>cases hr
theorem UK {r:Option Tm×σ}{y:Tm}(hs:dK h a p r≠ .stuck) (hr:r.1.isSome=true) (hy:a[p.1.toNat]?=some y):∃z,Gq y p.2 (r.1.getD Bp)=some z∧dK h a p r= .ok (some (apply h (a.set p.1.toNat z)),r.2):=by
 obtain⟨q,s⟩:=r;cases q with
 | none=>cases hr
 | some x =>
  unfold dK at hs ⊢;simp only at hs ⊢;rw[CI hy] at hs ⊢;cases hz:Gq y p.2 x with
  | none=>rw[hz] at hs;exact absurd rfl hs
  | some z=>exact⟨z,hz,rfl⟩
end
end Go.Eu
namespace Go.Proofs.YtboammbpdaoojaaGreat
open Go.Abs Go.Eu
def ri (ds:List CX) (n:Nat):Prop:=∀(m:Nat) (t:Tm) (s:Int),G0 s→DY ds CN n s t≠ .stuck→B2 Tryz.prog 44 [.ptr m 0,.agg ((Bb t).map .p)] [.box m [.p (.lst (List.map Bu ds)),.p (I s)]] (Kq (fun(r:Option Tm×Int)=> .tup [TV (r.1.getD Bp),.p (.bool r.1.isSome)]) (fun _=> .p (.iface 122 .unit)) (fun r H'=>H'=[.box m [.p (.lst (List.map Bu ds)),.p (I r.2)]]) ((DY ds CN n s t).ex))
theorem _root_.Go.AO {α:Prop}(h:α:=by simp only[List.length_map,MP,List.length_cons,List.length_nil];omega):α:=h
set_option maxHeartbeats 4000000 in
theorem X2:∀(n m:Nat) (ds:List CX) (s:Int) (g:Tm) (a:List Tm) (d:CX) (f:Hi),(ri ds n)→(Gz ds)→(G0 s)→(d∈ds)→(f∈d.funs)→(f.arity≤a.length)→(okB g=true)→(a.length<549755813888)→(∀y∈a,okB y=true)→(GX ds CN (DY ds CN n) g f.arity a n f.tree (a.take f.arity.toNat) (O2 f.arity.toNat) s≠ .stuck)→B2 Tryz.prog 111 [.ptr m 0,.agg ((Bb g).map .p),.agg ((FJ f).map .p),.p (.lst (BN a))] [.box m [.p (.lst (List.map Bu ds)),.p (I s)]] (Kq (fun(r:Option Tm×Int)=> .tup [TV (r.1.getD Bp),.p (.bool r.1.isSome)]) (fun _=> .p (.iface 122 .unit)) (fun r H'=>H'=[.box m [.p (.lst (List.map Bu ds)),.p (I r.2)]]) ((GX ds CN (DY ds CN n) g f.arity a n f.tree (a.take f.arity.toNat) (O2 f.arity.toNat) s).ex)):=by
 intro n m ds s g a d f hT h2 h3 h4 h5 h6 h7 h8 h9 hns;obtain⟨gk,gi,gn,gl,gs⟩:=g;have hgo:=CJ.1 h7;have hgl:=hgo.nd;simp only[Nd,Dq] at hgl;have hfu:=(h2.g.all _ h4).fu _ h5;have hdp:=h2.fu _ h4 _ h5;have hlf:=OQ h2 h4 h5 h9;have htl:(a.take f.arity.toNat).length=f.arity.toNat:=by rw[List.length_take];omega
 have hpw:=Vo a f.arity.toNat f.tree Ax Ax;generalize hX:GX ds CN (DY ds CN n) (.mk gk gi gn gl gs:Tm) f.arity a n f.tree (a.take f.arity.toNat) (O2 f.arity.toNat) s=X at hns ⊢;refine BF Tryz.func111 O p5 (n:=169) O O (A6 (BO O (Ba O) fun b5=>BO O (Ba O) fun b6=>BO O (BG B4 O) fun b8=>A1 A7 1 [] O (A6 (A5 A7 2 [] O (A0 O (BB (i:=1) DO O O (CU _)) (A0 O (Cc (lo:=0) (hi:=(f.arity:Int).toNat) Bk O (CM (B1 _)) O ⟨_,pI Ax⟩ (Nat.zero_le _) AX (M1 a ((f.arity:Int).toNat))) (NO O O O (.inl ⟨O,O,O⟩) (KX (a.take ((f.arity:Int).toNat)) (by simp only[List.length_take];omega)) (.inl O) fun o cp=>A1 A7 1 [] O (A6 (L8 O (Bx (DS (t:=11) (sz:=2) O) (Bq O (A2 (A6 (B3 O (A0 O (Jf Bk O (Bc _)) (A1 A7 1 [] O (BJ ?_)))))))))))))))));refine Bn (α:=Nat×Option Nat×Nat) (fun(i,o1,cp1)=>⟨169,mk [(0,.ptr m 0),(3,.p (.lst (BN a))),(5,.ptr b5 0),(6,.ptr b6 0),(8,.ptr b8 0),(10,.vs o (BN (a.take ((f.arity:Int).toNat))).length cp),(11,.vs o1 (List.map DT (O2 i)).length cp1),(32,.p (I ((a.take ((f.arity:Int).toNat)).length:Nat))),(33,.p (I (i:Int)))],[.vec o1 2 (List.map DT (O2 i)) cp1,.vec o 5 (BN (a.take ((f.arity:Int).toNat))) cp,.box b8 [.p (I 0),.p (I 0),.p (.str ⟨#[]⟩),.p (.nils),.p (.nils)],.box b6 ((FJ f).map .p),.box b5 [.p (I gk),.p (I gi),.p (.str gn),.p (.lst (List.map B9 gl)),.p (.lst (BN gs))],.box m [.p (.lst (List.map Bu ds)),.p (I s)]],[]⟩) (fun(i,o1,cp1)=>(a.take f.arity.toNat).length - i) (fun(i,o1,cp1)=>i≤(a.take f.arity.toNat).length) ⟨0,none,0⟩ AW ?_ ?_
 ·exact Bh ⟨we O,we O,we O,we O,we O,we O,we O,we O,we O,Az⟩ (leH (is:=[0,1,2,3,4,5]) O (wl (oe O) (wl (oe O) (wl (oe O) (wl (oe O) (wl (oe O) (wl (oe O) (DJ))))))))
 rintro⟨i,o1,cp1⟩ hC
 try simp only at hC
 have hi:=hC;refine A3 A7 1 [] O (A2 (A4 O (fun c=>?_) (fun c=>?_)))
 ·(try simp only[sd,se] at c);refine BA (A2 (BJ (A3 A7 2 [] O (BC (A5 A7 3 [] O (A0 O (Br RG VZ O O O O O) (EN O O (CE (i:=0) (rows':=List.map DT ([((i:Int),[])])) RG RG VZ O O O O O O (UB _) AO (FX (f:=DT) (O2 i) ([((i:Int),[])]))) fun o2 cp2=>A1 A7 1 [] O (BC (A1 A7 2 [] O ?_)))))))));refine⟨⟨i+1,o2,cp2⟩,Ac,by omega,Bh ⟨we rfl,we rfl,we rfl,we rfl,we rfl,we rfl,we (FI (f:=DT) (O2 i++([((i:Int),[])])) ((Oc i).symm)),we rfl,we rfl,trivial⟩ (leH (is:=[0,1,2,3,4,5]) rfl (wl (Ei (f:=DT) (O2 i++([((i:Int),[])])) ((Oc i).symm)) (wl (oe rfl) (wl (oe rfl) (wl (oe rfl) (wl (oe rfl) (wl (oe rfl) (DJ))))))))⟩
 (try simp only[sd,se] at c);refine Bo (A6 (A0 O (A8 Gw O O) (A0 O (B6 (i:=3) JJ O O (D5 _) (Cy _)) (BO O (BG Sk O) fun b13=>A1 A7 1 [0,1] O (A2 (BJ ?_))))));refine Bn (α:=Nat×FY×List Tm×List (Int×List Int)×Option Nat×Nat×Option Nat×Nat) (fun(k2,w,us,pl,o2,cp2,o3,cp3)=>⟨169,mk [(0,.ptr m 0),(3,.p (.lst (BN a))),(5,.ptr b5 0),(6,.ptr b6 0),(8,.ptr b8 0),(10,.vs o2 (BN us).length cp2),(11,.vs o3 (List.map DT pl).length cp3),(13,.ptr b13 0)],[.box b13 ((C5 w).map .p),.vec o3 2 (List.map DT pl) cp3,.vec o2 5 (BN us) cp2,.box b8 [.p (I 0),.p (I 0),.p (.str ⟨#[]⟩),.p (.nils),.p (.nils)],.box b6 ((FJ f).map .p),.box b5 [.p (I gk),.p (I gi),.p (.str gn),.p (.lst (List.map B9 gl)),.p (.lst (BN gs))],.box m [.p (.lst (List.map Bu ds)),.p (I s)]],[]⟩) (fun(k2,w,us,pl,o2,cp2,o3,cp3)=>k2) (fun(k2,w,us,pl,o2,cp2,o3,cp3)=>GX ds CN (DY ds CN n) (.mk gk gi gn gl gs:Tm) f.arity a k2 w us pl s=X∧SD w us∧gq a us pl w) ⟨n,f.tree,a.take f.arity.toNat,O2 f.arity.toNat,o,cp,o1,cp1⟩ (⟨hX,hlf,hpw⟩) ?_ ?_
 ·exact Bh ⟨we O,we O,we O,we O,we O,we O,we (FI (f:=DT) (O2 i) (by rw[show i=f.arity.toNat from by omega])),we O,Az⟩ (leH (is:=[0,1,2,3,4,5,6]) O (wl (oe O) (wl (Ei (f:=DT) (O2 i) (by rw[show i=f.arity.toNat from by omega])) (wl (oe O) (wl (oe O) (wl (oe O) (wl (oe O) (wl (oe O) (DJ)))))))))
 rintro⟨k2,w,us,pl,o2,cp2,o3,cp3⟩ hC1
 try simp only at hC1
 obtain⟨hC1,hL,hW⟩:=hC1;obtain⟨k1,rfl⟩:=WH hC1 hns;refine A2 (A6 (A0 O (A8 FK O O) (A0 O (BB (i:=0) DO O O (F6 _)) (A1 A7 1 [] O (A4 O (fun c1=>?_) (fun c1=>?_))))))
 ·(try simp only[sd,se] at c1);have hk1:=c1;refine BA (BJ (A2 (A2 (Be [0,3,5,6,8,10,11,13] 56 (fun y=>y= .p (.bool ((decide ((w.var:Int)<(0:Int)))||(decide ((w.var:Int)≥((us.length:Nat):Int)))))) ?_ ?_))))
  ·refine BC (A0 O (A8 FK O O) (A0 O (BB (i:=0) DO O O (C0 _)) (A5 A7 2 [] O (BY 50 O (fun g1=>?_) (fun g1=>?_)))))
   ·(try simp only[sd,se] at g1);exact A1 A7 6 [] O (⟨O,O,AP,AJ,⟨O,O,O,O,O,O,O,O,Az⟩⟩)
   (try simp only[sd,se] at g1);exact BK O (A8 FK O O) (BK O (BB (i:=0) DO O O (C0 _)) (BK O (Bi O) (BK O (Jf Bk O (Bc _)) (A1 A7 2 [] O (⟨O,O,AP,AJ,⟨O,O,O,O,O,O,O,O,Az⟩⟩)))))
  rintro _ rfl;refine A4 O (fun c2=>?_) (fun c2=>?_)
  ·(try simp only[sd,se] at c2);rw[Zi hk1 (by simpa using c2)] at hC1;refine A3 A7 3 [3,0] O (BQ (Bd (i:=3) O) (A9 (⟨O,_,_,⟨_,_,O,(BI (i:=3) Bg O O O),⟨_,_,O,O,O⟩⟩,(CC (is:=[6]) O),?_⟩)));exact⟨⟨_,_⟩,DX hC1.symm,O,O⟩
  (try simp only[sd,se] at c2);have hcb:¬(w.var<0∨w.var≥(us.length:Int)):=by simpa using c2
  have hWl:=hW.len;have hLl:=hL.len;refine BA (A6 (A5 A7 2 [] O (A0 O (BB (i:=0) DO O O (C0 _)) (Ju (i:=1) O Ah fun b hb=>?_))));subst hb;refine A0 O (Cg RG O O Ax AI) ?_;obtain⟨y,hy⟩:=BE (l:=pl) (i:=(w.var:Int).toNat) AT;refine A0 O (Da (i:=1) pR O O (N9 hy)) (BO O (BG VZ O) fun b14=>A1 A7 1 [0,1] O (A6 (A5 A7 3 [] O (A0 O (BB (i:=1) DO O O (C0 _)) (Ju (i:=3) O Ah fun b1 hb1=>?_)))));subst hb1;refine A0 O (Cg Bk O O Ax AI) ?_;obtain⟨y1,hy1⟩:=BE (l:=us) (i:=(w.var:Int).toNat) AT;refine A0 O (Da (i:=3) Bg O O (Bj hy1)) (A0 O (CF [7] O (.inl ⟨O,O,O⟩) (QV m ds s y1 h2.g (hL.ok _ (List.mem_of_getElem? hy1))) ⟨_,_,O,O,O⟩ Aw O (.inl O)) (A5 A7 5 [] O (BO O (BG Iz O) fun b15=>A1 A7 4 [0,1] O (A2 (A3 A7 2 [] O (A4 O (fun c3=>?_) (fun c3=>?_)))))))
  ·(try simp only[sd,se] at c3);have hcn:=Kt c3;obtain⟨ha1,ha2,ha3,ha4⟩:=hW.at_ hy1 hy;obtain⟨ya,hya⟩:=BE ha4;refine A6 (A5 A7 3 [] O (A0 O (BB (i:=2) DO O O (C0 _)) (A0 O (Cg Bk O O Ax AI) ?_)));obtain⟨y2,hy2⟩:=BE (l:=us) (i:=(w.var:Int).toNat) AT;refine A0 O (Da (i:=4) Bg O O (Bj hy2)) ?_;have hyy:y2=y1:=Option.some.inj (hy2.symm.trans hy1);rw[Ws hk1 hcb hy2 hy (by rw[hyy];exact hcn)] at hC1;have hn0:=hns;rw[←hC1] at hn0;have hn1:=Jo hn0;refine D6 [8] O O O (.inl ⟨O,O,O⟩) (hT m y2 s h3 hn1) ⟨_,_,O,O,O⟩ Aw (aw (we O) (aw (we O) (FM))) (fun _ _ h=>(congrArg List.length h).trans O) ?_ ?_
   rotate_left
   ·intro e _ he;exact⟨O,_,List.nil_sublist _,⟨_,by rw[←hC1];exact LI hn0 he,rfl⟩⟩
   rintro⟨q,n2⟩ _ hz rfl;rw[Mc hz] at hC1;refine A5 A7 3 [] O (BO O (BG B4 O) fun b19=>A1 A7 2 [0,1] O (A2 (A3 A7 2 [] O (A4 O (fun c4=>?_) (fun c4=>?_)))))
   ·(try simp only[sd,se] at c4);rw[S0 c4] at hC1;refine A3 A7 3 [6,0] O (BQ (Bd (i:=6) O) (A9 (⟨O,_,_,⟨_,_,O,(BI (i:=6) Bg O O O),⟨_,_,O,O,O⟩⟩,(CC (is:=[9]) O),?_⟩)));exact⟨⟨_,_⟩,DX hC1.symm,O,O⟩
   (try simp only[sd,se] at c4);obtain⟨z1,hz1,hz2⟩:=UK (by rw[hC1];exact hns) c4 hya;rw[hz2] at hC1;refine BA (A6 (B3 O (NO O O O (.inl ⟨O,O,O⟩) (KX a h8) (.inl O) fun o4 cp4=>A1 A7 1 [] O (A2 (Ib (i:=0) O Ah fun b2 hb2=>?_)))));subst hb2;refine B0 (fun k=>false) Dt (BZ A7 6 [3,3] O (BP O (fun _=>Cg Bk O O Ax AI) Az ?_));obtain⟨y3,hy3⟩:=BE (l:=a) (i:=(y.1:Int).toNat) AT;refine CY (j:=0) O O O (fun H i hi=>Da (i:=i) Bg O hi (Bj hy3)) AB Az (BZ A7 3 [3,1] O ?_);have hyy:=Option.some.inj (hy3.symm.trans hya);refine BP O (fun _=>BL O O (j2 y.2.length y.2 y3 (q.getD Bp) z1 (Nat.le_refl _) (h9 _ (List.mem_of_getElem? hy3)) ha2 Ax (by rw[hyy];exact hz1)) O) Az (BP O (fun _=>Cg Bk O O Ax AI) Az (FH O O (Dj (i:=0) (j:=((y.1:Int).toNat)) Bg O O O AQ O (Ht _) (BM _) (FD _) (Ow a ((y.1:Int).toNat) z1)) AB Az (Hg O As (A6 (A5 A7 2 [9] O (Bx (Cj (t:=91) (x:= .vs (some b2) (BN ((a).set ((y.1:Int).toNat) z1)).length cp4) (Cn a (l':=(a).set ((y.1:Int).toNat) z1) Ay)) (Bx (Cj (t:=21) (x:= .vs (some b2) (BN ((a).set ((y.1:Int).toNat) z1)).length cp4) (Cn a (l':=(a).set ((y.1:Int).toNat) z1) Ay)) ?_)))))));refine Bx (Cj (t:=92) (x:= .vs (some b2) (BN ((a).set ((y.1:Int).toNat) z1)).length cp4) (Cn a (l':=(a).set ((y.1:Int).toNat) z1) Ay)) (Bx (Cj (t:=95) (x:= .vs (some b2) (BN ((a).set ((y.1:Int).toNat) z1)).length cp4) (Cn a (l':=(a).set ((y.1:Int).toNat) z1) Ay)) (Bx (Cj (t:=106) (x:= .vs (some b2) (BN ((a).set ((y.1:Int).toNat) z1)).length cp4) (Cn a (l':=(a).set ((y.1:Int).toNat) z1) Ay)) (Bx (Cf (i:=0) [91,21,92,95,106] O (Ds ⟨O,O,O,O,O,Az⟩)) (A0 O (BL O O (Ec (.mk gk gi gn gl gs:Tm) ((a).set ((y.1:Int).toNat) z1) Aa) O) (A1 A7 2 [6,1] O (A9 (⟨O,_,_,⟨_,_,O,(BI (i:=6) Bg O O Ap),⟨_,_,O,O,O⟩⟩,(CC (is:=[9]) O),?_⟩)))))));exact⟨⟨_,_⟩,DX hC1.symm,O,O⟩
  (try simp only[sd,se] at c3);obtain⟨ha1,ha2,ha3,ha4⟩:=hW.at_ hy1 hy;have hcs:=Jv c3;have hcf:=Ek hcs;have hlo:=hcf.lo;have hhi:=hcf.hi;have hfl:=Ir h2.g hcs;have hdf:=(h2.g.all _ hcf.mem).fx;refine BA (A2 (A2 (B0 (fun k=>false) Dt (BZ A7 2 [2] O (CY (j:=0) O O O (fun H i hi=>BB (i:=i) HY O hi (CH _)) AB Az (BP O (fun _=>Bi O) Az ?_))))));obtain⟨x,hx⟩:=BE (l:=((CA ds y1).1).ctors) (i:=((CA ds y1).2.1:Int).toNat) Ax;refine BP O (fun _=>BD HN O O Ax (EU hx) (D8 _)) Az (BP O (fun _=>B7 Iq O O) Az (BP O (fun _=>DA Lg O (FQ _)) Az (BP O (fun _=>BL O O (TI w x.name hL.tin.bl) O) Az (Bt A7 5 [2,1] O (A3 A7 2 [] O (A4 O (fun c4=>?_) (fun c4=>?_)))))))
  ·(try simp only[sd,se] at c4);rw[gZ hk1 hcb hy1 hy hcs (by rw[El,CI hx];exact WY c4)] at hC1;refine A3 A7 3 [5,0] O (BQ (Bd (i:=5) O) (A9 (⟨O,_,_,⟨_,_,O,(BI (i:=5) Bg O O O),⟨_,_,O,O,O⟩⟩,(CC (is:=[8]) O),?_⟩)));exact⟨⟨_,_⟩,DX hC1.symm,O,O⟩
  (try simp only[sd,se] at c4);have hbs:=VY c4;rw[fB hk1 hcb hy1 hy hcs (by rw[El,CI hx];exact hbs)] at hC1;refine BA (A6 (B3 O (A0 O (BT Bk O (Bc _)) (A1 A7 1 [] O (BJ ?_)))));refine Bn (α:=Nat×Option Nat×Nat×Option Nat×Nat) (fun(i,o4,cp4,o5,cp5)=>⟨169,mk [(0,.ptr m 0),(3,.p (.lst (BN a))),(5,.ptr b5 0),(6,.ptr b6 0),(8,.ptr b8 0),(10,.vs o4 (BN (us++(CA ds y1).2.2.1.take i)).length cp4),(11,.vs o5 (List.map DT (pl++De y (CA ds y1).1.fixed i)).length cp5),(13,.ptr b13 0),(14,.ptr b14 0),(15,.ptr b15 0),(122,.p (.lst (BN ((CA ds y1).2.2.1)))),(123,.p (I (((CA ds y1).2.2.1).length:Nat))),(124,.p (I (i:Int)))],[.box b15 ((Bu ((CA ds y1).1)).map .p),.box b14 ((DT y).map .p),.box b13 ((C5 ((cK x.name w.branches).1)).map .p),.vec o5 2 (List.map DT (pl++De y (CA ds y1).1.fixed i)) cp5,.vec o4 5 (BN (us++(CA ds y1).2.2.1.take i)) cp4,.box b8 [.p (I 0),.p (I 0),.p (.str ⟨#[]⟩),.p (.nils),.p (.nils)],.box b6 ((FJ f).map .p),.box b5 [.p (I gk),.p (I gi),.p (.str gn),.p (.lst (List.map B9 gl)),.p (.lst (BN gs))],.box m [.p (.lst (List.map Bu ds)),.p (I s)]],[]⟩) (fun(i,o4,cp4,o5,cp5)=>(CA ds y1).2.2.1.length - i) (fun(i,o4,cp4,o5,cp5)=>i≤(CA ds y1).2.2.1.length) ⟨0,(some b1),cp2,(some b),cp3⟩ AW ?_ ?_
  ·exact Bh ⟨we O,we O,we O,we O,we O,we (IA us Ay),we (FI (f:=DT) pl (by simp[JF])),we O,we O,we O,we O,we O,we O,Az⟩ (leH (is:=[0,1,2,3,4,5,6,7,8]) O (wl (oe O) (wl (oe O) (wl (oe O) (wl (Ei (f:=DT) pl (by simp[JF])) (wl (HR us Ay) (wl (oe O) (wl (oe O) (wl (oe O) (wl (oe O) (DJ)))))))))))
  rintro⟨i,o4,cp4,o5,cp5⟩ hC2
  try simp only at hC2
  have hi:=hC2;refine A3 A7 1 [] O (A2 (A4 O (fun c5=>?_) (fun c5=>?_)))
  ·(try simp only[sd,se] at c5);refine BA (A2 (BJ (A6 (B3 O ?_))));obtain⟨x1,hx1⟩:=BE (l:=(CA ds y1).2.2.1) (i:=i) Ax;refine A0 O (BD Bk O O Ax (Bj hx1) (BM _)) (A0 O (BU Bg O (BM _)) (BO O (BG B4 O) fun b23=>A1 A7 2 [0,1] O (A6 (A5 A7 2 [0] O ?_))));obtain⟨x1k,x1i,x1n,x1l,x1s⟩:=x1;refine A0 O (Br Bk B4 O O O O O) (EN O O (CE (i:=5) (rows':=BN [(.mk x1k x1i x1n x1l x1s:Tm)]) Bk Bk B4 O O O O O O (B1 _) (by have:=hL.len;have:=hW.len;simp only[Bc,MP,H9,List.length_take,List.length_map,List.length_cons,List.length_nil,List.length_append];omega) (Hk (us++(CA ds y1).2.2.1.take i) [(.mk x1k x1i x1n x1l x1s:Tm)])) fun o6 cp6=>A1 A7 1 [] O (B0 (fun k=>Nat.beq k 5||Nat.beq k 14) Dt (BZ A7 5 [2,2] O ?_)));refine lg [(6,.free (.ptr b15 13)),(7,.read [.box b15 ((Bu ((CA ds y1).1)).map .p)] (.p (I (((CA ds y1).1).fixed)))),(8,.free (.p (I (i:Int)))),(9,.free (.p (I ((((CA ds y1).1).fixed:Int)+((i:Int):Int))))),(10,.free (.p (.lst (List.map FT [((((CA ds y1).1).fixed:Int)+((i:Int):Int))]))))] O O O (.inl ⟨O,O,O⟩) (dT y.2 Ax) (.inl O) As fun o7 cp7=>⟨AB,Az,?_⟩;refine BZ A7 1 [] O (CY (j:=2) O O O (fun H i hi=>BB (i:=i) DO O hi (Cv _)) AB AR (BZ A7 2 [] O (BP O (fun _=>Br Fp cH O O O O O) AR (FH O O (WA (i:=0) (rows':=List.map FT [((((CA ds y1).1).fixed:Int)+((i:Int):Int))]) Fp Fp cH O O O O O O (JM _) (by have:=hL.len;have:=hW.len;simp only[Bc,MP,H9,List.length_take,List.length_map,List.length_cons,List.length_nil,List.length_append];omega) (FX (f:=FT) y.2 [((((CA ds y1).1).fixed:Int)+((i:Int):Int))])) AB AR (BZ A7 1 [] O (BP O (fun _=>Br RG VZ O O O O O) AR ?_))))));refine JZ [] O O (CE (i:=4) (rows':=List.map DT ([(y.1,(y.2++[((((CA ds y1).1).fixed:Int)+((i:Int):Int))]))])) RG RG VZ O O O O O O (UB _) (by have:=hL.len;have:=hW.len;simp only[Bc,MP,H9,List.length_take,List.length_map,List.length_cons,List.length_nil,List.length_append];omega) (FX (f:=DT) (pl++De y (CA ds y1).1.fixed i) ([(y.1,(y.2++[((((CA ds y1).1).fixed:Int)+((i:Int):Int))]))]))) As fun o8 cp8=>⟨AB,AR,?_⟩;refine Bt A7 1 [] O (BC (A1 A7 2 [] O ?_))
   refine⟨⟨i+1,o6,cp6,o8,cp8⟩,Ac,by omega,Bh ⟨we rfl,we rfl,we rfl,we rfl,we rfl,we (IA (us++(CA ds y1).2.2.1.take i++[(.mk x1k x1i x1n x1l x1s:Tm)]) (by rw[IL hx1,List.append_assoc])),we (FI (f:=DT) (pl++De y (CA ds y1).1.fixed i++([(y.1,(y.2++[((((CA ds y1).1).fixed:Int)+((i:Int):Int))]))])) (by rw[JD,List.append_assoc])),we rfl,we rfl,we rfl,we rfl,we rfl,we rfl,trivial⟩ (leH (is:=[1,2,3,4,5,6,7,8,9]) rfl (wl (oe rfl) (wl (oe rfl) (wl (oe rfl) (wl (Ei (f:=DT) (pl++De y (CA ds y1).1.fixed i++([(y.1,(y.2++[((((CA ds y1).1).fixed:Int)+((i:Int):Int))]))])) (by rw[JD,List.append_assoc])) (wl (HR (us++(CA ds y1).2.2.1.take i++[(.mk x1k x1i x1n x1l x1s:Tm)]) (by rw[IL hx1,List.append_assoc])) (wl (oe rfl) (wl (oe rfl) (wl (oe rfl) (wl (oe rfl) (DJ)))))))))))⟩
  (try simp only[sd,se] at c5);refine Bo ?_;refine⟨⟨k1,(cK x.name w.branches).1,us++(CA ds y1).2.2.1,pl++De y (CA ds y1).1.fixed (CA ds y1).2.2.1.length,o4,cp4,o5,cp5⟩,Ac,⟨hC1,hL.next h2.g (hL.ok _ (List.mem_of_getElem? hy1)) hcs hbs,hW.next h2.g hy1 hy hcs hbs hL.tok⟩,Bh ⟨we O,we O,we O,we O,we O,we (IA (us++(CA ds y1).2.2.1.take i) (by rw[Ou Ax])),we (FI (f:=DT) (pl++De y (CA ds y1).1.fixed i) (by rw[show i=(CA ds y1).2.2.1.length from by omega])),we O,Az⟩ (leH (is:=[2,3,4,5,6,7,8]) O (wl (oe O) (wl (Ei (f:=DT) (pl++De y (CA ds y1).1.fixed i) (by rw[show i=(CA ds y1).2.2.1.length from by omega])) (wl (HR (us++(CA ds y1).2.2.1.take i) (by rw[Ou Ax])) (wl (oe O) (wl (oe O) (wl (oe O) (wl (oe O) (DJ)))))))))⟩
 (try simp only[sd,se] at c1);have hk1:=c1;have hLl:=hL.len;rw[XD hk1] at hC1;refine Bo (A6 (A0 O (A8 FK O O) (A0 O (B6 (i:=0) Bg O O (Ew _) (BM _)) (A5 A7 2 [5] O (A0 O (BL O O (MT w.body gl (CJ.1 (Kv hL.tok)).nd (CJ.1 (Kv hL.tok)).vp (by have:=FA (Kv hL.tok);omega) hgl.2.1 hgl.2.2.1) O) (A5 A7 3 [] O (BO O (BG B4 O) fun b24=>A1 A7 2 [0,1] O (A2 (A3 A7 2 [] O (A4 O (fun c2=>?_) (fun c2=>?_)))))))))))
 ·(try simp only[sd,se] at c2);rw[JU (h:=(.mk gk gi gn gl gs:Tm)) c2] at hC1;refine A3 A7 3 [4,0] O (BQ (Bd (i:=4) O) (A9 (⟨O,_,_,⟨_,_,O,(BI (i:=4) Bg O O O),⟨_,_,O,O,O⟩⟩,(CC (is:=[7]) O),?_⟩)));exact⟨⟨_,_⟩,DX hC1.symm,O,O⟩
 (try simp only[sd,se] at c2);obtain⟨hb1,hb2,hb3,hb4⟩:=QZ (by rw[hC1];exact hns) c2;rw[hb4] at hC1;have hn3:=hns;rw[←hC1] at hn3;refine BA (A2 (BQ (Cf (i:=3) [10] O (Ds ⟨O,Az⟩)) ?_));obtain⟨e,he⟩ | ⟨⟨z,n2⟩,hz⟩:=GG (Jg s (CT ((By w.body gl).1) us.reverse 0))
 ·refine JE ((fun _=> .p (.iface 122 .unit)) e) 3 [.val (.ptr m 0),.val (.agg ((Bb ((By w.body gl).1)).map .p)),.val (.p (.lst (BN us))),.val (.p .any),.val (.p (.lst (BN a))),.val (.ptr b6 (0+6)),.val (.p (I f.arity)),.val (.p (.lst (BN (a.drop ((f.arity:Int).toNat))))),.val (.p .any),.val (.p .any),.val (.p .any)] Dt O As O Az (fun _ _=>by exact⟨rfl,_,List.nil_sublist _,⟨_,by rw[←hC1];exact Km hn3 he,rfl⟩⟩) ?_;exact CK O O (fun Bs=>Bi O) (CK O O (fun Bs=>Bf (i:=Bs.length+0) Bg O (Ck O) Ap) (CK O O (fun Bs=>Bi O) (K8 (mkp:=(fun _=> .p (.iface 122 .unit))) (e:=e) [6] he O O (.inl ⟨O,O,O⟩) (Qu m ds s ((By w.body gl).1) us h3 hb1 hb2 Ax) ⟨_,_,O,O,O⟩ Aw (aw (we O) (aw (we O) (aw (we O) (FM)))) (CK O O (fun Bs=>Bi O) (CK O O (fun Bs=>A8 Gw O O) (CK O O (fun Bs=>BB (i:=Bs.length+4) DO O (Ck O) (CU _)) (CK O O (fun Bs=>Cc (lo:=(f.arity:Int).toNat) Bk O (CM (B1 _)) ⟨_,pI Ax⟩ O AX (Nat.le_refl _) (I6 a ((f.arity:Int).toNat))) (DP O O As (DP O O As (DP O O As LD))))))))))
 rw[K3 hn3 hz] at hC1;refine IU [.box b24 ((Bb ((By w.body gl).1)).map .p),.box b13 ((C5 w).map .p),.vec o3 2 (List.map DT pl) cp3,.box b8 [.p (I 0),.p (I 0),.p (.str ⟨#[]⟩),.p (.nils),.p (.nils)],.box b6 ((FJ f).map .p),.box b5 [.p (I gk),.p (I gi),.p (.str gn),.p (.lst (List.map B9 gl)),.p (.lst (BN gs))],.box m [.p (.lst (List.map Bu ds)),.p (I n2)]] 3 [.val (.ptr m 0),.val (.agg ((Bb ((By w.body gl).1)).map .p)),.val (.p (.lst (BN us))),.val (.agg ((Bb z).map .p)),.val (.p (.lst (BN a))),.val (.ptr b6 (0+6)),.val (.p (I f.arity)),.val (.p (.lst (BN (a.drop ((f.arity:Int).toNat))))),.val (.agg ((Bb (apply z (a.drop ((f.arity:Int).toNat)))).map .p))] [.p .any,.p (.bool true)] [] Dt O As As As O ?_ ?_
 ·exact Az
 refine Bz O O (fun Bs=>Bi O) (GL O O O (fun Bs=>Bf (i:=Bs.length+0) Bg O (Ck O) Ap) (fun Bs=>Bf (i:=Bs.length+0) Bg O (Ck O) Ap) (Bz O O (fun Bs=>Bi O) (J6 O (fun Bs=>G3 [6] O (.inl ⟨O,O,O⟩) (Kz hz (Qu m ds s ((By w.body gl).1) us h3 hb1 hb2 Ax)) ⟨_,_,O,O,O⟩ Aw O (aw (we O) (aw (we O) (aw (we O) (FM))))) (Bz O O (fun Bs=>Bi O) (Bz O O (fun Bs=>A8 Gw O O) (GL O O O (fun Bs=>BB (i:=Bs.length+4) DO O (Ck O) (CU _)) (fun Bs=>BB (i:=Bs.length+4) DO O (Ck O) (CU _)) (Bz O O (fun Bs=>Cc (lo:=(f.arity:Int).toNat) Bk O (CM (B1 _)) ⟨_,pI Ax⟩ O AX (Nat.le_refl _) (I6 a ((f.arity:Int).toNat))) ?_)))))));refine Bz O O (fun Bs=>BL O O (Ec z (a.drop ((f.arity:Int).toNat)) AZ) O) (KH (EB [.box b24 ((Bb ((By w.body gl).1)).map .p),.box b13 ((C5 w).map .p),.vec o3 2 (List.map DT pl) cp3,.box b8 ((Bb (apply z (a.drop ((f.arity:Int).toNat)))).map .p),.box b6 ((FJ f).map .p),.box b5 [.p (I gk),.p (I gi),.p (.str gn),.p (.lst (List.map B9 gl)),.p (.lst (BN gs))],.box m [.p (.lst (List.map Bu ds)),.p (I n2)]] O (Cq (i:=3) Bg O O O Ap Ae (FD _)) ?_));refine EB [.box b24 ((Bb ((By w.body gl).1)).map .p),.box b13 ((C5 w).map .p),.vec o3 2 (List.map DT pl) cp3,.box b8 ((Bb (apply z (a.drop ((f.arity:Int).toNat)))).map .p),.box b6 ((FJ f).map .p),.box b5 [.p (I gk),.p (I gi),.p (.str gn),.p (.lst (List.map B9 gl)),.p (.lst (BN gs))],.box m [.p (.lst (List.map Bu ds)),.p (I n2)]] O (EY O) (J7 (A9 (⟨O,_,_,⟨_,_,O,(BI (i:=3) Bg O O Ap),⟨_,_,O,O,O⟩⟩,(CC (is:=[6]) O),?_⟩)));exact⟨⟨_,_⟩,DX hC1.symm,O,O⟩
end Go.Proofs.YtboammbpdaoojaaGreat
namespace Go.Eu
open Go.Abs
def Jl (E:List CX) {σ:Type}(S:Sys σ) (n:Nat) (h:Tm) (a:List Tm) (s:σ):Out (Option Tm×σ):=match LJ E h with
 | none=> .ok (none,s)
 | some x =>
  if x.kind=1 then FB S (Cl E x.decl) h a s
  else if x.kind=5∧(a.length:Int) > CQ (Cl E x.decl) then match DQ E (a.getD (CQ (Cl E x.decl)).toNat default) with
   | some _=>FG E S (Cl E x.decl) h a (a.getD (CQ (Cl E x.decl)).toNat default) s
   | none=>(DY E S n s (a.getD (CQ (Cl E x.decl)).toNat default)).bind fun r=>match r.1 with
    | none=> .ok (none,r.2)
    | some y=> .ok (some (apply h (a.set (CQ (Cl E x.decl)).toNat y)),r.2)
  else if x.kind=6∧(a.length:Int)≥(FL (Cl E x.decl) x.item).arity then
   GX E S (DY E S n) h (FL (Cl E x.decl) x.item).arity a n (FL (Cl E x.decl) x.item).tree (a.take (FL (Cl E x.decl) x.item).arity.toNat) (O2 (FL (Cl E x.decl) x.item).arity.toNat) s
  else .ok (none,s)
section
variable {E:List CX}{σ:Type}{S:Sys σ}{n:Nat}{h:Tm}{a:List Tm}{s:σ}{d:CX}{x:Tm}
def mG (h:Tm) (a:List Tm) (k:Nat) (r:Option Tm×σ):Out (Option Tm×σ):=match r.1 with
 | none=> .ok (none,r.2)
 | some y=> .ok (some (apply h (a.set k y)),r.2)
theorem fQ {k:Nat}{r:Option Tm×σ}(hr:r.1.isSome=false):mG h a k r= .ok (none,r.2):=by
 obtain⟨q,s⟩:=r;cases q with
 | none=>rfl
 | some x=>cases hr
theorem dy {k:Nat}{r:Option Tm×σ}(hr:r.1.isSome=true):mG h a k r= .ok (some (apply h (a.set k (r.1.getD Bp))),r.2):=by
 obtain⟨q,s⟩:=r;cases q with
 | none=>cases hr
 | some x=>rfl
theorem Vt (hu:Tg E h=false):Jl E S n h a s= .ok (none,s):=by
 unfold Jl;rw[Cz,hu];simp
section
variable (hu:Tg E h=true) (hd:E[(Bw E h.name).1.decl.toNat]?=some d)
include hu hd
theorem ZJ (hk:(Bw E h.name).1.kind=1):Jl E S n h a s=FB S d h a s:=by
 unfold Jl;rw[Cz,hu,if_pos rfl];simp only[if_pos hk,Cl,CI hd]
theorem df (hk:(Bw E h.name).1.kind=5) (hl:(a.length:Int)≤CQ d):Jl E S n h a s= .ok (none,s):=by
 unfold Jl;rw[Cz,hu,if_pos rfl];simp only[Cl,CI hd];rw[if_neg Ax,if_neg Ax,if_neg Ax]
theorem V3 (hk:(Bw E h.name).1.kind=5) (hl:¬(a.length:Int)≤CQ d) (hx:a[(CQ d).toNat]?=some x) {q:CX×Int×List Tm}(hc:DQ E x=some q):Jl E S n h a s=FG E S d h a x s:=by
 unfold Jl;rw[Cz,hu,if_pos rfl];simp only[Cl,CI hd];rw[if_neg Ax,if_pos ⟨hk,by omega⟩,CI hx];simp only[hc]
theorem Wi (hk:(Bw E h.name).1.kind=5) (hl:¬(a.length:Int)≤CQ d) (hx:a[(CQ d).toNat]?=some x) (hc:DQ E x=none):Jl E S n h a s=(DY E S n s x).bind (mG h a (CQ d).toNat):=by
 unfold Jl;rw[Cz,hu,if_pos rfl];simp only[Cl,CI hd];rw[if_neg Ax,if_pos ⟨hk,by omega⟩,CI hx];simp only[hc];rfl
theorem Yv {f:Hi}(hk:(Bw E h.name).1.kind=6) (hf:d.funs[(Bw E h.name).1.item.toNat]?=some f) (hl:f.arity≤(a.length:Int)):Jl E S n h a s=GX E S (DY E S n) h f.arity a n f.tree (a.take f.arity.toNat) (O2 f.arity.toNat) s:=by
 unfold Jl;rw[Cz,hu,if_pos rfl];simp only[Cl,CI hd,FL,CI hf];rw[if_neg Ax,if_neg Ax,if_pos ⟨hk,by omega⟩]
theorem cf {f:Hi}(hk:(Bw E h.name).1.kind=6) (hf:d.funs[(Bw E h.name).1.item.toNat]?=some f) (hl:¬f.arity≤(a.length:Int)):Jl E S n h a s= .ok (none,s):=by
 unfold Jl;rw[Cz,hu,if_pos rfl];simp only[Cl,CI hd,FL,CI hf];rw[if_neg Ax,if_neg Ax,if_neg Ax]
theorem gH (h1:(Bw E h.name).1.kind≠1) (h5:¬((Bw E h.name).1.kind=5∧(a.length:Int) > CQ d)) (h6:¬((Bw E h.name).1.kind=6∧(a.length:Int)≥(FL d (Bw E h.name).1.item).arity)):Jl E S n h a s= .ok (none,s):=by
 unfold Jl;rw[Cz,hu,if_pos rfl];simp only[Cl,CI hd];rw[if_neg h1,if_neg h5,if_neg h6]
omit hd
theorem lX (h1:(Bw E h.name).1.kind≠1) (h5:(Bw E h.name).1.kind≠5) (h6:(Bw E h.name).1.kind≠6):Jl E S n h a s= .ok (none,s):=by
 unfold Jl;rw[Cz,hu,if_pos rfl];simp only;rw[if_neg h1,if_neg Ax,if_neg Ax]
end
end
section
variable {E:List CX}{σ:Type}{S:Sys σ}{n:Nat}{t:Tm}{s:σ}{X:Out (Option Tm×σ)}
theorem WN (h:DY E S n s t=X) (hX:X≠ .stuck):∃k,n=k+1:=by
 cases n with
 | zero=>rw[DY] at h;exact absurd h.symm hX
 | succ k=>exact⟨k,rfl⟩
theorem ZD (h:DY E S (n+1) s t=X) (hX:X≠ .stuck):okB t=true:=by
 rw[DY] at h;split at h
 ·exact absurd h.symm hX
 rename_i hc;simpa using hc
section
variable (ho:okB t=true)
include ho
theorem WW (hk:(BH t).1.kind=5) (hl:(BH t).2.length=0):DY E S (n+1) s t= .ok (none,s):=by
 rw[DY,if_neg (by simp[ho]),if_pos hk,if_pos hl]
theorem ZK {b:Tm}(hk:(BH t).1.kind=5) (hl:(BH t).2.length≠0) (hb:(BH t).1.kids[1]?=some b) :
  DY E S (n+1) s t=S.put s (CT b ((BH t).2.take 1) 0) fun x s'=> .ok (some (apply x ((BH t).2.drop 1)),s'):=by
 rw[DY,if_neg (by simp[ho]),if_pos hk,if_neg hl,L1,hb]
theorem ZX {v b:Tm}(hk:(BH t).1.kind=11) (hv:(BH t).1.kids[1]?=some v) (hb:(BH t).1.kids[2]?=some b) :
  DY E S (n+1) s t=S.put s (CT b [v] 0) fun x s'=> .ok (some (apply x (BH t).2),s'):=by
 rw[DY,if_neg (by simp[ho]),if_neg Ax,if_pos hk,Q2,hv,hb]
def mL (h:Tm) (a:List Tm) (r:Option Tm×σ):Out (Option Tm×σ):=match r.1 with
 | none=> .ok (none,r.2)
 | some x=> .ok (some (apply (Hd h.kind x) a),r.2)
theorem We {p q:Tm}(hk:(BH t).1.kind=9∨(BH t).1.kind=10) (hp:(BH t).1.kids[0]?=some p) (h8:p.kind=8) (hq:p.kids[(1+(BH t).1.kind - 9).toNat]?=some q) :
  DY E S (n+1) s t=S.put s (q,0) fun x s'=> .ok (some (apply x (BH t).2),s'):=by
 rw[DY,if_neg (by simp[ho]),if_neg Ax,if_neg Ax,if_pos hk,hp];simp only;rw[if_pos h8,LP,hq]
theorem V4 {p:Tm}(hk:(BH t).1.kind=9∨(BH t).1.kind=10) (hp:(BH t).1.kids[0]?=some p) (h8:p.kind≠8) :
  DY E S (n+1) s t=(DY E S n s p).bind (mL (BH t).1 (BH t).2):=by
 rw[DY,if_neg (by simp[ho]),if_neg Ax,if_neg Ax,if_pos hk,hp];simp only;rw[if_neg h8];rfl
theorem T8 (hk:(BH t).1.kind=3):DY E S (n+1) s t=Jl E S n (BH t).1 (BH t).2 s:=by
 rw[DY,if_neg (by simp[ho]),if_neg Ax,if_neg Ax,if_neg Ax,if_pos hk];rfl
theorem fm (h1:(BH t).1.kind≠5) (h2:(BH t).1.kind≠11) (h3:(BH t).1.kind≠9) (h4:(BH t).1.kind≠10) (h5:(BH t).1.kind≠3):DY E S (n+1) s t= .ok (none,s):=by
 rw[DY,if_neg (by simp[ho]),if_neg h1,if_neg h2,if_neg Ax,if_neg h5]
end
theorem fh {h:Tm}{a:List Tm}{r:Option Tm×σ}(hr:r.1.isSome=false):mL h a r= .ok (none,r.2):=by
 obtain⟨q,s⟩:=r;cases q with
 | none=>rfl
 | some x=>cases hr
theorem eo {h:Tm}{a:List Tm}{r:Option Tm×σ}(hr:r.1.isSome=true):mL h a r= .ok (some (apply (Hd h.kind (r.1.getD Bp)) a),r.2):=by
 obtain⟨q,s⟩:=r;cases q with
 | none=>cases hr
 | some x=>rfl
end
section
variable {E:List CX}{σ:Type}{S:Sys σ}{n:Nat}{t:Tm}{s:σ}{r:Tm×σ}{d:CX}{X:Out (Option Int×σ)}
noncomputable def Ww (E:List CX) (S:Sys σ) (n:Nat) (q:(Option (Tm×List Tm)×Tm)×σ):Out (Option Int×σ):=match q.1.1 with
 | some _=> .ok (none,q.2)
 | none=>if S.over q.2=false∧Nk q.1.2 Bp=false then Ii E S n q.2 q.1.2 else .ok (none,q.2)
noncomputable def Jn (E:List CX) (S:Sys σ) (n:Nat) (r:Tm×σ):Out (Option Int×σ) :=
 if (BH r.1).1.kind=12 then .ok (some (BH r.1).1.index,r.2)
  else if (BH r.1).1.kind=9∨(BH r.1).1.kind=10 then match (BH r.1).1.kids[0]? with
   | none=> .stuck
   | some p=>Ii E S n r.2 p
  else if (BH r.1).1.kind=3 then match LJ E (BH r.1).1 with
   | none=> .ok (none,r.2)
   | some x =>
    if S.over r.2=true then .ok (none,r.2)
    else if x.kind=5∧((BH r.1).2.length:Int) > CQ (Cl E x.decl) then Ii E S n r.2 ((BH r.1).2.getD (CQ (Cl E x.decl)).toNat default)
    else if x.kind=6∧((BH r.1).2.length:Int)≥(FL (Cl E x.decl) x.item).arity then
     (E4 E S (FF E S n) n (FL (Cl E x.decl) x.item).tree ((BH r.1).2.take (FL (Cl E x.decl) x.item).arity.toNat) Bp r.2).bind (Ww E S n)
    else .ok (none,r.2)
  else .ok (none,r.2)
theorem dJ (h:Ii E S n s t=X) (hX:X≠ .stuck):∃k,n=k+1:=by
 cases n with
 | zero=>rw[Ii] at h;exact absurd h.symm hX
 | succ k=>exact⟨k,rfl⟩
theorem VS:Ii E S (n+1) s t=(FF E S n s t).chk (Jn E S n):=by
 rw[Ii];rfl
theorem S3 (hk:(BH r.1).1.kind=12):Jn E S n r= .ok (some (BH r.1).1.index,r.2):=by rw[Jn,if_pos hk]
theorem az {p:Tm}(hk:(BH r.1).1.kind=9∨(BH r.1).1.kind=10) (hp:(BH r.1).1.kids[0]?=some p):Jn E S n r=Ii E S n r.2 p:=by
 rw[Jn,if_neg Ax,if_pos hk,hp]
theorem jl (h1:(BH r.1).1.kind≠12) (h2:(BH r.1).1.kind≠9) (h3:(BH r.1).1.kind≠10) (h4:(BH r.1).1.kind≠3):Jn E S n r= .ok (none,r.2):=by
 rw[Jn,if_neg h1,if_neg Ax,if_neg h4]
theorem bO (hk:(BH r.1).1.kind=3) (hu:Tg E (BH r.1).1=false∨S.over r.2=true):Jn E S n r= .ok (none,r.2):=by
 rw[Jn,if_neg Ax,if_neg Ax,if_pos hk,Cz];rcases hu with hu | hu
 ·rw[hu];simp
 split
 ·rfl
 rw[if_pos hu]
section
variable (hk:(BH r.1).1.kind=3) (hu:Tg E (BH r.1).1=true) (ho:S.over r.2=false) (hd:E[(Bw E (BH r.1).1.name).1.decl.toNat]?=some d)
include hk hu ho
theorem RS (h5:(Bw E (BH r.1).1.name).1.kind≠5) (h6:(Bw E (BH r.1).1.name).1.kind≠6):Jn E S n r= .ok (none,r.2):=by
 rw[Jn,if_neg Ax,if_neg Ax,if_pos hk,Cz,hu,if_pos rfl];simp only;rw[if_neg (by simp[ho]),if_neg Ax,if_neg Ax]
include hd
theorem aA (h5:(Bw E (BH r.1).1.name).1.kind=5) (hl:((BH r.1).2.length:Int)≤CQ d):Jn E S n r= .ok (none,r.2):=by
 rw[Jn,if_neg Ax,if_neg Ax,if_pos hk,Cz,hu,if_pos rfl];simp only[Cl,CI hd];rw[if_neg (by simp[ho]),if_neg Ax,if_neg Ax]
theorem ga {x:Tm}(h5:(Bw E (BH r.1).1.name).1.kind=5) (hl:CQ d<((BH r.1).2.length:Int)) (hx:(BH r.1).2[(CQ d).toNat]?=some x):Jn E S n r=Ii E S n r.2 x:=by
 rw[Jn,if_neg Ax,if_neg Ax,if_pos hk,Cz,hu,if_pos rfl];simp only[Cl,CI hd];rw[if_neg (by simp[ho]),if_pos ⟨h5,by omega⟩,CI hx]
theorem bL {f:Hi}(h6:(Bw E (BH r.1).1.name).1.kind=6) (hf:d.funs[(Bw E (BH r.1).1.name).1.item.toNat]?=some f) (hl:¬f.arity≤((BH r.1).2.length:Int)):Jn E S n r= .ok (none,r.2):=by
 rw[Jn,if_neg Ax,if_neg Ax,if_pos hk,Cz,hu,if_pos rfl];simp only[Cl,CI hd,FL,CI hf];rw[if_neg (by simp[ho]),if_neg Ax,if_neg Ax]
theorem Vr {f:Hi}(h6:(Bw E (BH r.1).1.name).1.kind=6) (hf:d.funs[(Bw E (BH r.1).1.name).1.item.toNat]?=some f) (hl:f.arity≤((BH r.1).2.length:Int)):Jn E S n r=(E4 E S (FF E S n) n f.tree ((BH r.1).2.take f.arity.toNat) Bp r.2).bind (Ww E S n):=by
 rw[Jn,if_neg Ax,if_neg Ax,if_pos hk,Cz,hu,if_pos rfl];simp only[Cl,CI hd,FL,CI hf];rw[if_neg (by simp[ho]),if_neg Ax,if_pos ⟨h6,by omega⟩]
end
theorem aL {q:(Option (Tm×List Tm)×Tm)×σ}(h:q.1.1.isSome=true∨S.over q.2=true∨Nk q.1.2 Bp=true):Ww E S n q= .ok (none,q.2):=by
 obtain⟨⟨o,l⟩,s⟩:=q;unfold Ww;cases o with
 | some x=>rfl
 | none =>
  simp only at h ⊢;rw[if_neg];rintro⟨h1,h2⟩;rcases h with h | h | h
  ·cases h
  ·rw[h1] at h;cases h
  rw[h2] at h;cases h
theorem Y9 {q:(Option (Tm×List Tm)×Tm)×σ}(h1:q.1.1.isSome=false) (h2:S.over q.2=false) (h3:Nk q.1.2 Bp=false):Ww E S n q=Ii E S n q.2 q.1.2:=by
 obtain⟨⟨o,l⟩,s⟩:=q;unfold Ww;cases o with
 | some x=>cases h1
 | none=>simp only at h2 h3 ⊢;rw[if_pos ⟨h2,h3⟩]
end
section
variable {E:List CX}{σ:Type}{S:Sys σ}{n:Nat}{t:FY}{a:List Tm}{s:σ}
def uG (S:Sys σ) (q:(Option (Tm×List Tm)×Tm)×σ):Out (Option Tm×σ):=match q.1.1 with
 | none=> .ok (none,q.2)
 | some (b,vars)=>if okB b=false∨vars.all okB=false∨1125899906842624≤Bl vars then .stuck else S.put q.2 (CT b vars.reverse 0) fun x s'=> .ok (some x,s')
end
end Go.Eu
namespace Go.Proofs.YtboammbpdaoojaaGreat
open Go.Abs Go.Eu
set_option maxHeartbeats 4000000 in
theorem U4:∀(n m:Nat) (ds:List CX) (s:Int) (g:Tm) (a:List Tm),(ri ds n)→(Gz ds)→(G0 s)→(okB g=true)→(a.length<549755813888)→(∀y∈a,okB y=true)→(Jl ds CN n g a s≠ .stuck)→B2 Tryz.prog 81 [.ptr m 0,.agg ((Bb g).map .p),.p (.lst (BN a))] [.box m [.p (.lst (List.map Bu ds)),.p (I s)]] (Kq (fun(r:Option Tm×Int)=> .tup [TV (r.1.getD Bp),.p (.bool r.1.isSome)]) (fun _=> .p (.iface 122 .unit)) (fun r H'=>H'=[.box m [.p (.lst (List.map Bu ds)),.p (I r.2)]]) ((Jl ds CN n g a s).ex)):=by
 intro n m ds s g a hT h2 h3 h4 h5 h6 hns;obtain⟨gk,gi,gn,gl,gs⟩:=g;have hgo:=CJ.1 h4;have hgl:=hgo.nd;simp only[Nd,Dq] at hgl;generalize hC:Jl ds CN n (.mk gk gi gn gl gs:Tm) a s=X at hns ⊢;refine BF Tryz.func81 O qo (n:=122) O O (A6 (BO O (Ba O) fun b4=>BO O (BG B4 O) fun b6=>A1 A7 1 [] O (A6 (A5 A7 2 [1] O (A0 O (CF [2] O (.inl ⟨O,O,O⟩) (PA m ds s (.mk gk gi gn gl gs:Tm) h2.g.env) ⟨_,_,O,O,O⟩ Aw O (.inl O)) (A5 A7 3 [] O (BO O (BG Hw O) fun b8=>A1 A7 2 [0,1] O (A2 (A3 A7 2 [] O (A4 O (fun c=>?_) (fun c=>?_)))))))))))
 ·(try simp only[sd,se] at c);rw[Vt c] at hC;refine A3 A7 3 [1,0] O (BQ (Bd (i:=1) O) (A9 (⟨O,_,_,⟨_,_,O,(BI (i:=1) Bg O O O),⟨_,_,O,O,O⟩⟩,(CC (is:=[3]) O),?_⟩)));exact⟨⟨_,_⟩,DX hC.symm,O,O⟩
 (try simp only[sd,se] at c);have hu:=c;obtain⟨ix,dd,e1,e2,e3,e4⟩:=JV hu;have hde:=e2.decl;have hdg:=h2.g.all _ e3;have hel:=h2.g.env.len;have hil:=(List.getElem?_eq_some_iff.1 e1).1;have hfx:=hdg.fx;have hnr:=Ia hdg;have hcl:=hdg.din.cl;have hfl:=hdg.din.fl;refine BA (A2 (B0 (fun k=>Nat.beq k 8) Dt (BZ A7 5 [3] O (CY (j:=0) O O O (fun H i hi=>BB (i:=i) DO O hi (DZ _)) AB Az (BP O (fun _=>BD Hz O O Ax (EG e4) (Cx _)) Az (BP O (fun _=>BU Fg O (Cx _)) Az (GA [] O O (BG Iz O) As fun b10=>⟨AB,Az,?_⟩)))))));refine Bt A7 1 [0,1] O (A2 (A6 (A0 O (A8 Fv O O) (A0 O (BB (i:=1) DO O O (DK _)) (Bq O (BJ (A3 A7 2 [] O (A4 O (fun c1=>?_) (fun c1=>?_)))))))))
 ·(try simp only[sd,se] at c1);have hk1:=c1;refine A6 (A5 A7 4 [1,3] O ?_);rw[ZJ hu e4 hk1] at hC;refine D6 [4] O O O (.inl ⟨O,O,O⟩) (XK m ds s ((Bw ds (.mk gk gi gn gl gs:Tm).name).1) (.mk gk gi gn gl gs:Tm) a dd h3 e4 Ax hdg h4 h5 (by rw[hC];exact hns)) ⟨_,_,O,O,O⟩ Aw (aw (we O) (aw (we O) (aw (we O) (aw (we O) (FM))))) (fun _ _ h=>(congrArg List.length h).trans O) ?_ ?_
  rotate_left
  ·intro e _ he;exact⟨O,_,List.nil_sublist _,⟨_,by rw[←hC];exact he,rfl⟩⟩
  rintro⟨q,n2⟩ _ hz rfl;have hfin:=hz;refine A1 A7 4 [2,1] O (A9 (⟨O,_,_,⟨_,_,O,(BI (i:=2) Bg O O Ap),⟨_,_,O,O,O⟩⟩,(CC (is:=[4]) O),?_⟩));exact⟨⟨q,n2⟩,by rw[←hC];exact hfin,rfl,rfl⟩
 (try simp only[sd,se] at c1);have hk1:=c1;refine A3 A7 2 [] O (A4 O (fun c2=>?_) (fun c2=>?_))
 ·(try simp only[sd,se] at c2);have hk5:=c2;refine A6 (A0 O (Bf (i:=0) Fg O O Am) (A0 O (BL O O (OM dd hdg.din hdg.fx) O) (A1 A7 1 [] O (A2 (A6 (B3 O (A0 O (BT Bk O (Bc _)) (A1 A7 2 [] O (A4 O (fun c3=>?_) (fun c3=>?_))))))))))
  ·(try simp only[sd,se] at c3);rw[df hu e4 hk5 Ax] at hC;refine A3 A7 3 [2,0] O (BQ (Bd (i:=2) O) (A9 (⟨O,_,_,⟨_,_,O,(BI (i:=2) Bg O O O),⟨_,_,O,O,O⟩⟩,(CC (is:=[4]) O),?_⟩)));exact⟨⟨_,_⟩,DX hC.symm,O,O⟩
  (try simp only[sd,se] at c3);have hfew:¬(a.length:Int)≤CQ dd:=by omega
  refine BA (A2 (A6 (A5 A7 3 [] O ?_)));obtain⟨x,hx⟩:=BE (l:=a) (i:=(CQ dd:Int).toNat) Ax;have hxo:=h6 _ (List.mem_of_getElem? hx);refine A0 O (BD Bk O O Ax (Bj hx) (BM _)) (A0 O (BU Bg O (BM _)) (A0 O (CF [4] O (.inl ⟨O,O,O⟩) (QV m ds s x h2.g hxo) ⟨_,_,O,O,O⟩ Aw O (.inl O)) (A5 A7 5 [] O (BO O (BG Iz O) fun b12=>A1 A7 4 [0,1] O (A3 A7 1 [] O (A4 O (fun c4=>?_) (fun c4=>?_)))))))
  ·(try simp only[sd,se] at c4);have hcs:=Jv c4;rw[V3 hu e4 hk5 hfew hx hcs] at hC;refine A2 ?_;obtain⟨e,he⟩ | ⟨⟨q,n2⟩,hz⟩:=GG ((FG ds CN dd (.mk gk gi gn gl gs:Tm) a x s).ex)
   ·refine JE ((fun _=> .p (.iface 122 .unit)) e) 8 [.val (.ptr m 0),.val (.agg ((Bu dd).map .p)),.val (.agg [.p (I gk),.p (I gi),.p (.str gn),.p (.lst (List.map B9 gl)),.p (.lst (BN gs))]),.val (.p (.lst (BN a))),.val (.p (.lst (BN a))),.val (.p (I (CQ dd))),.val (.ref (Bb x)),.val (.agg ((Bb x).map .p)),.val (.p .any),.val (.p .any),.val (.p .any),.val (.p .any),.val (.p .any)] Dt O As O Az (fun _ _=>by exact⟨rfl,_,List.nil_sublist _,⟨_,by rw[←hC];exact he,rfl⟩⟩) ?_;exact CK O O (fun Bs=>Bi O) (CK O O (fun Bs=>Bf (i:=Bs.length+1) Fg O (Ck O) Am) (CK O O (fun Bs=>Bf (i:=Bs.length+4) Bg O (Ck O) O) (CK O O (fun Bs=>Bi O) (CK O O (fun Bs=>Bi O) (CK O O (fun Bs=>Bi O) (CK O O (fun Bs=>BD Bk O O Ax (Bj hx) (BM _)) (CK O O (fun Bs=>BU Bg O (BM _)) (K8 (mkp:=(fun _=> .p (.iface 122 .unit))) (e:=e) [5] he O O (.inl ⟨O,O,O⟩) (Uk m ds s dd (.mk gk gi gn gl gs:Tm) a x h3 h2.g hdg h4 h5 hxo Ax (by rw[hC];exact hns)) ⟨_,_,O,O,O⟩ Aw (aw (we O) (aw (we O) (aw (we O) (aw (we O) (aw (we O) (FM)))))) (DP O O As (DP O O As (DP O O As (DP O O As LD))))))))))))
   have hfin:=hz;refine IU [.box b12 ((Bu ((CA ds x).1)).map .p),.box b10 ((Bu dd).map .p),.box b8 ((Dn ((Bw ds (.mk gk gi gn gl gs:Tm).name).1)).map .p),.box b6 [.p (I 0),.p (I 0),.p (.str ⟨#[]⟩),.p (.nils),.p (.nils)],.box b4 [.p (I gk),.p (I gi),.p (.str gn),.p (.lst (List.map B9 gl)),.p (.lst (BN gs))],.box m [.p (.lst (List.map Bu ds)),.p (I n2)]] 8 [.val (.ptr m 0),.val (.agg ((Bu dd).map .p)),.val (.agg [.p (I gk),.p (I gi),.p (.str gn),.p (.lst (List.map B9 gl)),.p (.lst (BN gs))]),.val (.p (.lst (BN a))),.val (.p (.lst (BN a))),.val (.p (I (CQ dd))),.val (.ref (Bb x)),.val (.agg ((Bb x).map .p)),.val (.tup [.agg ((Bb (q.getD Bp)).map .p),.p (.bool q.isSome)]),.val (.agg ((Bb (q.getD Bp)).map .p)),.val (.p (.bool q.isSome))] [.p .any,.p (.bool q.isSome)] [] Dt O As As As O ?_ ?_
   ·exact Az
   refine Bz O O (fun Bs=>Bi O) (GL O O O (fun Bs=>Bf (i:=Bs.length+1) Fg O (Ck O) Am) (fun Bs=>Bf (i:=Bs.length+1) Fg O (Ck O) Am) (GL O O O (fun Bs=>Bf (i:=Bs.length+4) Bg O (Ck O) O) (fun Bs=>Bf (i:=Bs.length+4) Bg O (Ck O) O) (Bz O O (fun Bs=>Bi O) (Bz O O (fun Bs=>Bi O) (Bz O O (fun Bs=>Bi O) (Bz O O (fun Bs=>BD Bk O O Ax (Bj hx) (BM _)) (Bz O O (fun Bs=>BU Bg O (BM _)) (J6 O (fun Bs=>G3 [5] O (.inl ⟨O,O,O⟩) (Kz hz (Uk m ds s dd (.mk gk gi gn gl gs:Tm) a x h3 h2.g hdg h4 h5 hxo Ax (by rw[hC];exact hns))) ⟨_,_,O,O,O⟩ Aw O (aw (we O) (aw (we O) (aw (we O) (aw (we O) (aw (we O) (FM))))))) (Bz O O (fun Bs=>Dk O O) ?_)))))))));refine Bz O O (fun Bs=>Dk O O) (KH (EB [.box b12 ((Bu ((CA ds x).1)).map .p),.box b10 ((Bu dd).map .p),.box b8 ((Dn ((Bw ds (.mk gk gi gn gl gs:Tm).name).1)).map .p),.box b6 ((Bb (q.getD Bp)).map .p),.box b4 [.p (I gk),.p (I gi),.p (.str gn),.p (.lst (List.map B9 gl)),.p (.lst (BN gs))],.box m [.p (.lst (List.map Bu ds)),.p (I n2)]] O (Cq (i:=3) Bg O O O Ap Ae (FD _)) (EB [.box b12 ((Bu ((CA ds x).1)).map .p),.box b10 ((Bu dd).map .p),.box b8 ((Dn ((Bw ds (.mk gk gi gn gl gs:Tm).name).1)).map .p),.box b6 ((Bb (q.getD Bp)).map .p),.box b4 [.p (I gk),.p (I gi),.p (.str gn),.p (.lst (List.map B9 gl)),.p (.lst (BN gs))],.box m [.p (.lst (List.map Bu ds)),.p (I n2)]] O (EY O) (J7 (A9 ?_)))));refine⟨O,_,_,⟨_,_,O,(BI (i:=3) Bg O O Ap),⟨_,_,O,O,O⟩⟩,(CC (is:=[5]) O),?_⟩;exact⟨⟨q,n2⟩,by rw[←hC];exact hfin,rfl,rfl⟩
  (try simp only[sd,se] at c4);have hcn:=Kt c4;refine BA (A6 (A5 A7 3 [] O (A0 O (BD Bk O O Ax (Bj hx) (BM _)) (A0 O (BU Bg O (BM _)) ?_))));rw[Wi hu e4 hk5 hfew hx hcn] at hC;have hn0:=hns;rw[←hC] at hn0;have hn1:=Jo hn0;refine D6 [5] O O O (.inl ⟨O,O,O⟩) (hT m x s h3 hn1) ⟨_,_,O,O,O⟩ Aw (aw (we O) (aw (we O) (FM))) (fun _ _ h=>(congrArg List.length h).trans O) ?_ ?_
  rotate_left
  ·intro e _ he;exact⟨O,_,List.nil_sublist _,⟨_,by rw[←hC];exact LI hn0 he,rfl⟩⟩
  rintro⟨q,n2⟩ _ hz rfl;rw[Mc hz] at hC;refine A5 A7 3 [] O (BO O (BG B4 O) fun b16=>A1 A7 2 [0,1] O (A2 (A3 A7 2 [] O (A4 O (fun c5=>?_) (fun c5=>?_)))))
  ·(try simp only[sd,se] at c5);rw[fQ c5] at hC;refine A3 A7 3 [4,0] O (BQ (Bd (i:=4) O) (A9 (⟨O,_,_,⟨_,_,O,(BI (i:=4) Bg O O O),⟨_,_,O,O,O⟩⟩,(CC (is:=[6]) O),?_⟩)));exact⟨⟨_,_⟩,DX hC.symm,O,O⟩
  (try simp only[sd,se] at c5);rw[dy c5] at hC;refine BA (A6 (B3 O (NO O O O (.inl ⟨O,O,O⟩) (KX a h5) (.inl O) fun o cp=>A1 A7 1 [] O (A6 (A5 A7 3 [1] O (Ju (i:=0) O (by rw[Bc];omega) fun b hb=>?_))))));subst hb;refine A0 O (Cg Bk O O Ax Af) (A0 O (Dj (i:=0) (j:=((CQ dd:Int).toNat)) Bg O O O Af O (Ht _) (BM _) (FD _) (Ow a ((CQ dd:Int).toNat) (q.getD Bp))) (Bq O (A6 (A5 A7 2 [6] O (Bx (Cj (t:=93) (x:= .vs (some b) (BN ((a).set ((CQ dd:Int).toNat) (q.getD Bp))).length cp) (Cn a (l':=(a).set ((CQ dd:Int).toNat) (q.getD Bp)) Ay)) (Bx (Cj (t:=18) (x:= .vs (some b) (BN ((a).set ((CQ dd:Int).toNat) (q.getD Bp))).length cp) (Cn a (l':=(a).set ((CQ dd:Int).toNat) (q.getD Bp)) Ay)) (Bx (Cj (t:=94) (x:= .vs (some b) (BN ((a).set ((CQ dd:Int).toNat) (q.getD Bp))).length cp) (Cn a (l':=(a).set ((CQ dd:Int).toNat) (q.getD Bp)) Ay)) ?_)))))));refine Bx (Cj (t:=99) (x:= .vs (some b) (BN ((a).set ((CQ dd:Int).toNat) (q.getD Bp))).length cp) (Cn a (l':=(a).set ((CQ dd:Int).toNat) (q.getD Bp)) Ay)) (Bx (Cf (i:=0) [93,18,94,99] O (Ds ⟨O,O,O,O,Az⟩)) (A0 O (BL O O (Ec (.mk gk gi gn gl gs:Tm) ((a).set ((CQ dd:Int).toNat) (q.getD Bp)) Aa) O) (A1 A7 2 [4,1] O (A9 (⟨O,_,_,⟨_,_,O,(BI (i:=4) Bg O O Ap),⟨_,_,O,O,O⟩⟩,(CC (is:=[6]) O),?_⟩)))));exact⟨⟨_,_⟩,DX hC.symm,O,O⟩
 (try simp only[sd,se] at c2);have hk5:=c2;refine A3 A7 2 [] O (A4 O (fun c3=>?_) (fun c3=>?_))
 ·(try simp only[sd,se] at c3);have hk6:=c3;obtain⟨fk,ff,f1,f2⟩:=e2.func hk6;have hff:dd.funs[(Bw ds (Tm.mk gk gi gn gl gs).name).1.item.toNat]?=some ff:=by rw[f2];simpa using f1
  have hfm:=List.mem_of_getElem? hff;have hfa:=hdg.fu ff hfm;have hfi:=(List.getElem?_eq_some_iff.1 f1).1;refine A6 (A0 O (A8 DD O O) (A0 O (BB (i:=0) HW O O (CP _)) (A0 O (A8 Fv O O) (A0 O (BB (i:=1) DO O O (E2 _)) (A0 O (BD Gy O O Ax (ET hff) (DV _)) (A0 O (BU e7 O (DV _)) (BO O (BG bW O) fun b19=>A1 A7 1 [0,1] O (A6 (B3 O (A0 O (BT Bk O (Bc _)) (A0 O (A8 Gw O O) (A0 O (BB (i:=0) DO O O (CU _)) (A1 A7 1 [] O (A4 O (fun c4=>?_) (fun c4=>?_)))))))))))))))
  ·(try simp only[sd,se] at c4);refine A6 (A5 A7 4 [4,0] O ?_);rw[Yv hu e4 hk6 hff Ax] at hC;refine D6 [5] O O O (.inl ⟨O,O,O⟩) (X2 n m ds s (.mk gk gi gn gl gs:Tm) a dd ff hT h2 h3 e3 hfm Ax h4 h5 h6 (by rw[hC];exact hns)) ⟨_,_,O,O,O⟩ Aw (aw (we O) (aw (we O) (aw (we O) (aw (we O) (FM))))) (fun _ _ h=>(congrArg List.length h).trans O) ?_ ?_
   rotate_left
   ·intro e _ he;exact⟨O,_,List.nil_sublist _,⟨_,by rw[←hC];exact he,rfl⟩⟩
   rintro⟨q,n2⟩ _ hz rfl;have hfin:=hz;refine A1 A7 4 [3,1] O (A9 (⟨O,_,_,⟨_,_,O,(BI (i:=3) Bg O O Ap),⟨_,_,O,O,O⟩⟩,(CC (is:=[5]) O),?_⟩));exact⟨⟨q,n2⟩,by rw[←hC];exact hfin,rfl,rfl⟩
  (try simp only[sd,se] at c4);rw[cf hu e4 hk6 hff Ax] at hC;refine BA (A3 A7 3 [3,0] O (BQ (Bd (i:=3) O) (A9 (⟨O,_,_,⟨_,_,O,(BI (i:=3) Bg O O O),⟨_,_,O,O,O⟩⟩,(CC (is:=[5]) O),?_⟩))));exact⟨⟨_,_⟩,DX hC.symm,O,O⟩
 (try simp only[sd,se] at c3);have hk6:=c3;rw[lX hu hk1 hk5 hk6] at hC;refine BA (A3 A7 3 [2,0] O (BQ (Bd (i:=2) O) (A9 (⟨O,_,_,⟨_,_,O,(BI (i:=2) Bg O O O),⟨_,_,O,O,O⟩⟩,(CC (is:=[4]) O),?_⟩))));exact⟨⟨_,_⟩,DX hC.symm,O,O⟩
set_option maxHeartbeats 4000000 in
theorem gO:∀(ds:List CX) (hE:Gz ds) (n:Nat),ri ds n:=by
 intro ds hE n
 induction n using Nat.strongRecOn with
 | ind n ih =>
  intro m t s hJ hns;obtain⟨k,rfl⟩:=WN rfl hns;generalize hC:DY ds CN (k+1) s t=X at hns ⊢;have hwo:=ZD hC hns;have hsp:=Rp hwo;have hsl:=hsp.len;have hss:=hsp.sz;have hsa:=hsp.asz;refine BF Tryz.func44 O qw (n:=90) O O (A6 (BO O (Ba O) fun b3=>BO O (BG B4 O) fun b4=>A1 A7 1 [] O (A6 (A0 O (Bf (i:=1) Bg O O Ap) (A0 O (BL O O (MC t hsp.nd Ai) O) (A5 A7 3 [] O (BO O (BG B4 O) fun b6=>A1 A7 2 [0,1] O (A2 (A6 (A0 O (A8 HA O O) ?_))))))))));generalize hz:(BH t).1=z;obtain⟨zk,zi,zn,zl,zs⟩:=z;have hzo:okB (.mk zk zi zn zl zs)=true:=hz▸hsp.head;have hzq:=hz;have hzl:=Hr hzo;have hzn:=(CJ.1 hzo).nd;refine A1 A7 1 [0] O (BJ (A3 A7 2 [] O (A4 O (fun c=>?_) (fun c=>?_))))
  ·(try simp only[sd,se] at c);have hk:=(congrArg Tm.kind hzq).trans c;refine A6 (B3 O (A0 O (BT Bk O (Bc _)) (A1 A7 1 [] O (A4 O (fun c1=>?_) (fun c1=>?_)))))
   ·(try simp only[sd,se] at c1);refine A2 ?_;obtain⟨x,hx⟩:=BE (l:=zs) (i:=1) Ax;obtain⟨x1,hx1⟩:=BE (l:=(BH t).2) (i:=0) Ax;have hxo:=E0 hzo (i:=1) hx;have hx1o:=hsp.args _ (List.mem_of_getElem? hx1);rw[ZK hwo hk Ax (by rw[hzq];exact hx),kh hx1] at hC;have hn3:=hns;rw[←hC] at hn3;obtain⟨e,he⟩ | ⟨⟨z1,n2⟩,hz⟩:=GG (Jg s (CT x [x1] 0))
    ·refine JE ((fun _=> .p (.iface 122 .unit)) e) 9 [.val (.ptr m 0),.val (.ptr b6 (0+4)),.val (.p (.lst (BN zs))),.val (.ref (Bb x)),.val (.agg ((Bb x).map .p)),.val (.p (.lst (BN ((BH t).2)))),.val (.ref (Bb x1)),.val (.agg ((Bb x1).map .p)),.val (.p (.lst (BN [x1]))),.val (.p .any),.val (.p (.lst (BN ((BH t).2)))),.val (.p (.lst (BN (((BH t).2).drop 1)))),.val (.p .any),.val (.p .any),.val (.p .any)] Dt O As O Az (fun _ _=>by exact⟨rfl,_,List.nil_sublist _,⟨_,by rw[←hC];exact Km hn3 he,rfl⟩⟩) ?_;refine CK O O (fun Bs=>Bi O) (CK O O (fun Bs=>A8 HA O O) (CK O O (fun Bs=>CG (i:=Bs.length+0) Gu O (Ck O) O) (CK O O (fun Bs=>BD Bk O O Ax (Bj hx) (BM _)) (CK O O (fun Bs=>BU Bg O (BM _)) (CK O O (fun Bs=>Bi O) (CK O O (fun Bs=>BD Bk O O Ax (Bj hx1) (BM _)) (CK O O (fun Bs=>BU Bg O (BM _)) (CK O O (fun Bs=>B8 (rows:=BN [x1]) Bk B4 O O O O (CM (B1 _)) (FR _)) (K8 (mkp:=(fun _=> .p (.iface 122 .unit))) (e:=e) [3] he O O (.inl ⟨O,O,O⟩) (Ky m ds s x [x1] hJ hxo (ok_one hx1o) J4) ⟨_,_,O,O,O⟩ Aw (aw (we O) (aw (we O) (aw (we O) (FM)))) (CK O O (fun Bs=>Bi O) ?_))))))))));exact CK O O (fun Bs=>Cc (lo:=1) Bk O (CM (B1 _)) ⟨_,O⟩ O AX (Nat.le_refl _) (I6 ((BH t).2) 1)) (DP O O As (DP O O As (DP O O As LD)))
    rw[K3 hn3 hz] at hC;have hJ3:=(SH hJ hz).1;refine IU [.box b6 [.p (I zk),.p (I zi),.p (.str zn),.p (.lst (List.map B9 zl)),.p (.lst (BN zs))],.box b4 [.p (I 0),.p (I 0),.p (.str ⟨#[]⟩),.p (.nils),.p (.nils)],.box b3 ((Bb t).map .p),.box m [.p (.lst (List.map Bu ds)),.p (I n2)]] 9 [.val (.ptr m 0),.val (.ptr b6 (0+4)),.val (.p (.lst (BN zs))),.val (.ref (Bb x)),.val (.agg ((Bb x).map .p)),.val (.p (.lst (BN ((BH t).2)))),.val (.ref (Bb x1)),.val (.agg ((Bb x1).map .p)),.val (.p (.lst (BN [x1]))),.val (.agg ((Bb z1).map .p)),.val (.p (.lst (BN ((BH t).2)))),.val (.p (.lst (BN (((BH t).2).drop 1)))),.val (.agg ((Bb (apply z1 (((BH t).2).drop 1))).map .p))] [.p .any,.p (.bool true)] [] Dt O As As As O ?_ ?_
    ·exact Az
    refine Bz O O (fun Bs=>Bi O) (Bz O O (fun Bs=>A8 HA O O) (GL O O O (fun Bs=>CG (i:=Bs.length+0) Gu O (Ck O) O) (fun Bs=>CG (i:=Bs.length+0) Gu O (Ck O) O) (Bz O O (fun Bs=>BD Bk O O Ax (Bj hx) (BM _)) (Bz O O (fun Bs=>BU Bg O (BM _)) (Bz O O (fun Bs=>Bi O) (Bz O O (fun Bs=>BD Bk O O Ax (Bj hx1) (BM _)) (Bz O O (fun Bs=>BU Bg O (BM _)) (Bz O O (fun Bs=>B8 (rows:=BN [x1]) Bk B4 O O O O (CM (B1 _)) (FR _)) (J6 O (fun Bs=>G3 [3] O (.inl ⟨O,O,O⟩) (Kz hz (Ky m ds s x [x1] hJ hxo (ok_one hx1o) J4)) ⟨_,_,O,O,O⟩ Aw O (aw (we O) (aw (we O) (aw (we O) (FM))))) (Bz O O (fun Bs=>Bi O) ?_))))))))));refine Bz O O (fun Bs=>Cc (lo:=1) Bk O (CM (B1 _)) ⟨_,O⟩ O AX (Nat.le_refl _) (I6 ((BH t).2) 1)) (Bz O O (fun Bs=>BL O O (Ec z1 (((BH t).2).drop 1) AZ) O) (KH (EB [.box b6 [.p (I zk),.p (I zi),.p (.str zn),.p (.lst (List.map B9 zl)),.p (.lst (BN zs))],.box b4 ((Bb (apply z1 (((BH t).2).drop 1))).map .p),.box b3 ((Bb t).map .p),.box m [.p (.lst (List.map Bu ds)),.p (I n2)]] O (Cq (i:=1) Bg O O O Ap Ae (FD _)) (EB [.box b6 [.p (I zk),.p (I zi),.p (.str zn),.p (.lst (List.map B9 zl)),.p (.lst (BN zs))],.box b4 ((Bb (apply z1 (((BH t).2).drop 1))).map .p),.box b3 ((Bb t).map .p),.box m [.p (.lst (List.map Bu ds)),.p (I n2)]] O (EY O) (J7 (A9 (⟨O,_,_,⟨_,_,O,(BI (i:=1) Bg O O Ap),⟨_,_,O,O,O⟩⟩,(CC (is:=[3]) O),?_⟩)))))));exact⟨⟨_,_⟩,DX hC.symm,O,O⟩
   (try simp only[sd,se] at c1);rw[WW hwo hk Ax] at hC;refine BA (A3 A7 3 [1,0] O (BQ (Bd (i:=1) O) (A9 (⟨O,_,_,⟨_,_,O,(BI (i:=1) Bg O O O),⟨_,_,O,O,O⟩⟩,(CC (is:=[3]) O),?_⟩))));exact⟨⟨_,_⟩,DX hC.symm,O,O⟩
  (try simp only[sd,se] at c);refine A3 A7 2 [] O (A4 O (fun c1=>?_) (fun c1=>?_))
  ·(try simp only[sd,se] at c1);have hk:=(congrArg Tm.kind hzq).trans c1;refine A2 ?_;obtain⟨x,hx⟩:=BE (l:=zs) (i:=2) Ax;obtain⟨x1,hx1⟩:=BE (l:=zs) (i:=1) Ax;have hxo:=E0 hzo (i:=2) hx;have hx1o:=E0 hzo (i:=1) hx1;rw[ZX hwo hk (by rw[hzq];exact hx1) (by rw[hzq];exact hx)] at hC;have hn3:=hns;rw[←hC] at hn3;obtain⟨e,he⟩ | ⟨⟨z1,n2⟩,hz⟩:=GG (Jg s (CT x [x1] 0))
   ·refine JE ((fun _=> .p (.iface 122 .unit)) e) 10 [.val (.ptr m 0),.val (.ptr b6 (0+4)),.val (.p (.lst (BN zs))),.val (.ref (Bb x)),.val (.agg ((Bb x).map .p)),.val (.ptr b6 (0+4)),.val (.p (.lst (BN zs))),.val (.ref (Bb x1)),.val (.agg ((Bb x1).map .p)),.val (.p (.lst (BN [x1]))),.val (.p .any),.val (.p (.lst (BN ((BH t).2)))),.val (.p .any),.val (.p .any),.val (.p .any)] Dt O As O Az (fun _ _=>by exact⟨rfl,_,List.nil_sublist _,⟨_,by rw[←hC];exact Km hn3 he,rfl⟩⟩) ?_;refine CK O O (fun Bs=>Bi O) (CK O O (fun Bs=>A8 HA O O) (CK O O (fun Bs=>CG (i:=Bs.length+0) Gu O (Ck O) O) (CK O O (fun Bs=>BD Bk O O Ax (Bj hx) (BM _)) (CK O O (fun Bs=>BU Bg O (BM _)) (CK O O (fun Bs=>A8 HA O O) (CK O O (fun Bs=>CG (i:=Bs.length+0) Gu O (Ck O) O) (CK O O (fun Bs=>BD Bk O O Ax (Bj hx1) (BM _)) (CK O O (fun Bs=>BU Bg O (BM _)) (CK O O (fun Bs=>B8 (rows:=BN [x1]) Bk B4 O O O O (CM (B1 _)) (FR _)) (K8 (mkp:=(fun _=> .p (.iface 122 .unit))) (e:=e) [3] he O O (.inl ⟨O,O,O⟩) (Ky m ds s x [x1] hJ hxo (ok_one hx1o) J4) ⟨_,_,O,O,O⟩ Aw (aw (we O) (aw (we O) (aw (we O) (FM)))) ?_))))))))));exact CK O O (fun Bs=>Bi O) (DP O O As (DP O O As (DP O O As LD)))
   rw[K3 hn3 hz] at hC;have hJ3:=(SH hJ hz).1;refine IU [.box b6 [.p (I zk),.p (I zi),.p (.str zn),.p (.lst (List.map B9 zl)),.p (.lst (BN zs))],.box b4 [.p (I 0),.p (I 0),.p (.str ⟨#[]⟩),.p (.nils),.p (.nils)],.box b3 ((Bb t).map .p),.box m [.p (.lst (List.map Bu ds)),.p (I n2)]] 10 [.val (.ptr m 0),.val (.ptr b6 (0+4)),.val (.p (.lst (BN zs))),.val (.ref (Bb x)),.val (.agg ((Bb x).map .p)),.val (.ptr b6 (0+4)),.val (.p (.lst (BN zs))),.val (.ref (Bb x1)),.val (.agg ((Bb x1).map .p)),.val (.p (.lst (BN [x1]))),.val (.agg ((Bb z1).map .p)),.val (.p (.lst (BN ((BH t).2)))),.val (.agg ((Bb (apply z1 ((BH t).2))).map .p))] [.p .any,.p (.bool true)] [] Dt O As As As O ?_ ?_
   ·exact Az
   refine Bz O O (fun Bs=>Bi O) (Bz O O (fun Bs=>A8 HA O O) (GL O O O (fun Bs=>CG (i:=Bs.length+0) Gu O (Ck O) O) (fun Bs=>CG (i:=Bs.length+0) Gu O (Ck O) O) (Bz O O (fun Bs=>BD Bk O O Ax (Bj hx) (BM _)) (Bz O O (fun Bs=>BU Bg O (BM _)) (Bz O O (fun Bs=>A8 HA O O) (GL O O O (fun Bs=>CG (i:=Bs.length+0) Gu O (Ck O) O) (fun Bs=>CG (i:=Bs.length+0) Gu O (Ck O) O) (Bz O O (fun Bs=>BD Bk O O Ax (Bj hx1) (BM _)) (Bz O O (fun Bs=>BU Bg O (BM _)) (Bz O O (fun Bs=>B8 (rows:=BN [x1]) Bk B4 O O O O (CM (B1 _)) (FR _)) ?_)))))))));refine J6 O (fun Bs=>G3 [3] O (.inl ⟨O,O,O⟩) (Kz hz (Ky m ds s x [x1] hJ hxo (ok_one hx1o) J4)) ⟨_,_,O,O,O⟩ Aw O (aw (we O) (aw (we O) (aw (we O) (FM))))) (Bz O O (fun Bs=>Bi O) (Bz O O (fun Bs=>BL O O (Ec z1 ((BH t).2) AZ) O) (KH (EB [.box b6 [.p (I zk),.p (I zi),.p (.str zn),.p (.lst (List.map B9 zl)),.p (.lst (BN zs))],.box b4 ((Bb (apply z1 ((BH t).2))).map .p),.box b3 ((Bb t).map .p),.box m [.p (.lst (List.map Bu ds)),.p (I n2)]] O (Cq (i:=1) Bg O O O Ap Ae (FD _)) (EB [.box b6 [.p (I zk),.p (I zi),.p (.str zn),.p (.lst (List.map B9 zl)),.p (.lst (BN zs))],.box b4 ((Bb (apply z1 ((BH t).2))).map .p),.box b3 ((Bb t).map .p),.box m [.p (.lst (List.map Bu ds)),.p (I n2)]] O (EY O) (J7 (A9 ?_)))))));refine⟨O,_,_,⟨_,_,O,(BI (i:=1) Bg O O Ap),⟨_,_,O,O,O⟩⟩,(CC (is:=[3]) O),?_⟩;exact⟨⟨_,_⟩,DX hC.symm,O,O⟩
  (try simp only[sd,se] at c1);refine A2 (A3 A7 2 [] O (Be [0,4,6,7,17] 51 (fun y=>y= .p (.bool (decide (zk=9∨zk=10)))) ?_ ?_))
  ·refine A4 O (fun c2=>?_) (fun c2=>?_)
   ·(try simp only[sd,se] at c2);exact BA (⟨O,O,(List.Sublist.refl _),(by refine pB (Bool.eq_iff_iff.2 ?_);simp only[beq_iff_eq,decide_eq_true_eq];omega),⟨O,O,O,O,O,Az⟩⟩)
   (try simp only[sd,se] at c2);exact BC (A1 A7 2 [] O (⟨O,O,(List.Sublist.refl _),(by refine pB (Bool.eq_iff_iff.2 ?_);simp only[beq_iff_eq,decide_eq_true_eq];omega),⟨O,O,O,O,O,Az⟩⟩))
  rintro _ rfl;refine A4 O (fun c2=>?_) (fun c2=>?_)
  ·(try simp only[sd,se] at c2);have hk9:zk=9∨zk=10:=by simpa using c2
   refine A6 (A5 A7 2 [0] O ?_);obtain⟨p,hp⟩:=BE (l:=zs) (i:=0) Ax;refine A0 O (BD Bk O O Ax (Bj hp) (BM _)) (A0 O (BU Bg O (BM _)) (BO O (BG B4 O) fun b8=>A1 A7 1 [0,1] O (A2 (A6 (A0 O (A8 HA O O) ?_)))));obtain⟨pk,pi,pn,pl,ps⟩:=p;have hpo:=E0 hzo (i:=0) hp;have hpl:=Hr hpo;refine A1 A7 2 [0] O (A4 O (fun c3=>?_) (fun c3=>?_))
   ·(try simp only[sd,se] at c3);have hp8:=c3;refine A6 (A5 A7 3 [1,0] O ?_);obtain⟨cq,hcq⟩:=BE (l:=ps) (i:=(1+zk - 9).toNat) (by have:=hpl.2.2.2 hp8;omega);have hcqo:=E0 hpo (i:=(1+zk - 9).toNat) hcq;rw[We hwo (by rw[hzq];exact hk9) (by rw[hzq];exact hp) (p:= .mk pk pi pn pl ps) hp8 (by rw[hzq];exact hcq)] at hC;have hn3:=hns;rw[←hC] at hn3;refine D6 [4] O O O (.inl ⟨O,O,O⟩) (Zz m ds s (.mk zk zi zn zl zs:Tm) (.mk pk pi pn pl ps:Tm) cq hJ hk9 hcq) ⟨_,_,O,O,O⟩ Aw (aw (we O) (aw (we O) (aw (we O) (FM)))) (fun _ _ h=>(congrArg List.length h).trans O) ?_ ?_
    rotate_left
    ·intro e _ he;exact⟨O,_,List.nil_sublist _,⟨_,by rw[←hC];exact Km hn3 he,rfl⟩⟩
    rintro⟨z1,n2⟩ _ hz rfl;rw[K3 hn3 hz] at hC;refine B3 O (A0 O (BL O O (Ec z1 ((BH t).2) AZ) O) (A1 A7 2 [2,1] O (A9 (⟨O,_,_,⟨_,_,O,(BI (i:=2) Bg O O Ap),⟨_,_,O,O,O⟩⟩,(CC (is:=[4]) O),?_⟩))));exact⟨⟨_,_⟩,DX hC.symm,O,O⟩
   (try simp only[sd,se] at c3);have hp8:=c3;refine BA (A6 (A5 A7 2 [0] O ?_));rw[V4 hwo (by rw[hzq];exact hk9) (by rw[hzq];exact hp) (p:= .mk pk pi pn pl ps) hp8] at hC;have hn0:=hns;rw[←hC] at hn0;have hn1:=Jo hn0;refine D6 [4] O O O (.inl ⟨O,O,O⟩) (ih k Ax m (.mk pk pi pn pl ps:Tm) s hJ hn1) ⟨_,_,O,O,O⟩ Aw (aw (we O) (aw (we O) (FM))) (fun _ _ h=>(congrArg List.length h).trans O) ?_ ?_
   rotate_left
   ·intro e _ he;exact⟨O,_,List.nil_sublist _,⟨_,by rw[←hC];exact LI hn0 he,rfl⟩⟩
   rintro⟨q,n2⟩ _ hz rfl;rw[Mc hz] at hC;refine A5 A7 3 [] O (BO O (BG B4 O) fun b9=>A1 A7 2 [0,1] O (A3 A7 1 [] O (A4 O (fun c4=>?_) (fun c4=>?_))))
   ·(try simp only[sd,se] at c4);rw[eo c4,hzq] at hC;refine A6 (A5 A7 3 [2,0] O (A0 O (B8 (rows:=BN [(q.getD Bp)]) Bk B4 O O O O (CM (B1 _)) (FR _)) (A5 A7 2 [] O (A0 O (GR O O (Ec (.mk zk 0 ⟨#[]⟩ [] [(q.getD Bp)]:Tm) ((BH t).2) AZ) (aw (Dv O) (aw (we O) (FM)))) (A1 A7 2 [3,1] O (A9 (⟨O,_,_,⟨_,_,O,(BI (i:=3) Bg O O Ap),⟨_,_,O,O,O⟩⟩,(CC (is:=[5]) O),?_⟩)))))));exact⟨⟨_,_⟩,DX hC.symm,O,O⟩
   (try simp only[sd,se] at c4);rw[fh c4] at hC;refine BA (A3 A7 3 [3,0] O (BQ (Bd (i:=3) O) (A9 (⟨O,_,_,⟨_,_,O,(BI (i:=3) Bg O O O),⟨_,_,O,O,O⟩⟩,(CC (is:=[5]) O),?_⟩))));exact⟨⟨_,_⟩,DX hC.symm,O,O⟩
  (try simp only[sd,se] at c2);refine A3 A7 2 [] O (A4 O (fun c3=>?_) (fun c3=>?_))
  ·(try simp only[sd,se] at c3);have hk:=(congrArg Tm.kind hzq).trans c3;refine A6 (A5 A7 3 [0] O ?_);rw[T8 hwo hk,hzq] at hC;refine D6 [3] O O O (.inl ⟨O,O,O⟩) (U4 k m ds s (.mk zk zi zn zl zs:Tm) ((BH t).2) (ih k Ax) hE hJ hzo Ax hsp.args (by rw[hC];exact hns)) ⟨_,_,O,O,O⟩ Aw (aw (we O) (aw (we O) (aw (we O) (FM)))) (fun _ _ h=>(congrArg List.length h).trans O) ?_ ?_
   rotate_left
   ·intro e _ he;exact⟨O,_,List.nil_sublist _,⟨_,by rw[←hC];exact he,rfl⟩⟩
   rintro⟨q,n2⟩ _ hz rfl;have hfin:=hz;refine A1 A7 4 [1,1] O (A9 (⟨O,_,_,⟨_,_,O,(BI (i:=1) Bg O O Ap),⟨_,_,O,O,O⟩⟩,(CC (is:=[3]) O),?_⟩));exact⟨⟨q,n2⟩,by rw[←hC];exact hfin,rfl,rfl⟩
  (try simp only[sd,se] at c3);rw[fm hwo (by rw[hzq];assumption) (by rw[hzq];assumption) (by rw[hzq];show ¬zk=9;omega) (by rw[hzq];show ¬zk=10;omega) (by rw[hzq];assumption)] at hC;refine BA (A3 A7 3 [1,0] O (BQ (Bd (i:=1) O) (A9 (⟨O,_,_,⟨_,_,O,(BI (i:=1) Bg O O O),⟨_,_,O,O,O⟩⟩,(CC (is:=[3]) O),?_⟩))));exact⟨⟨_,_⟩,DX hC.symm,O,O⟩
end Go.Proofs.YtboammbpdaoojaaGreat
namespace Go.Eu
open Go.Abs
def XN (q:Tm):Bool:= !(decide ((size q:Int) > 4096)||decide (En q > 200))
def Ie:Out (Option Tm×Int)→Tm×Bool×Int
 | .ok (some q,_)=>if XN q=true then (q,true,0) else (Bp,false,11)
 | .ok (none,_)=>(Bp,false,0)
 | _=>(Bp,false,11)
def uX:Out (Option Tm×Int)→Tm×Bool×Int
 | .ok (q,_)=>(q.getD Bp,q.isSome,0)
 | _=>(Bp,false,11)
def cu:Out (Option Int×Int)→Int×Bool×Int
 | .ok (q,_)=>(q.getD 0,q.isSome,0)
 | _=>(0,false,11)
def lR (o:Out (Option Tm×Int)):Prop:=∀q c,o= .ok (some q,c)→okB q=true
theorem uZ {ak ai bk bi:Int}{an bn:ByteArray}{al bl:List Ci}{a b:List Tm}(hl:bl.length=0) (hs:b.length=0):Nk (Tm.mk ak ai an al a) (.mk bk bi bn bl b)=(((((ak==bk)&&(ai==bi))&&(an.toList==bn.toList))&&(decide (al.length=0)))&&(decide (a.length=0))):=by
 rw[List.length_eq_zero_iff] at hl hs;subst hl hs;rw[Bool.eq_iff_iff,IV];simp only[Tm.mk.injEq,Bool.and_eq_true,decide_eq_true_eq,beq_iff_eq,List.length_eq_zero_iff];constructor
 ·rintro⟨rfl,rfl,rfl,rfl,rfl⟩;exact⟨⟨⟨⟨rfl,rfl⟩,rfl⟩,rfl⟩,rfl⟩
 rintro⟨⟨⟨⟨h1,h2⟩,h3⟩,h4⟩,h5⟩;exact⟨h1,h2,G7 h3,h4,h5⟩
section
variable {o:Out (Option Tm×Int)}{q:Option Tm}{c e:Int}
theorem SU (h:lR o) (hx:o.ex= .ok (q,c)):okB (q.getD Bp)=true:=by
 have h1:=Ij hx;cases q with
 | none=>decide
 | some x=>exact h x c h1
theorem RE (h:o.ex= .error e):Ie o=(Bp,false,11):=by cases o<;>first | rfl | cases h
theorem OL (h:o.ex= .ok (q,c)) (hq:q.isSome=false):Ie o=(q.getD Bp,q.isSome,0):=by
 rw[Ij h];cases q with
 | none=>rfl
 | some x=>cases hq
theorem Lz (h:o.ex= .ok (q,c)) (hq:q.isSome=true) (hf:(size (q.getD Bp):Int) > 4096∨En (q.getD Bp) > 200):Ie o=(Bp,false,11):=by
 rw[Ij h];cases q with
 | none=>cases hq
 | some x =>
  have:XN x=false:=by
   simp only[Option.getD_some] at hf;unfold XN;simp only[Bool.not_eq_false',Bool.or_eq_true,decide_eq_true_eq];exact hf
  simp only[Ie,this,Bool.false_eq_true,if_false]
theorem Qz (h:o.ex= .ok (q,c)) (hf:¬(q.isSome=true∧((size (q.getD Bp):Int) > 4096∨En (q.getD Bp) > 200))):Ie o=(q.getD Bp,q.isSome,0):=by
 rw[Ij h];cases q with
 | none=>rfl
 | some x =>
  have:XN x=true:=by
   unfold XN;simp only[Option.isSome_some,Option.getD_some,true_and,not_or] at hf;simp only[Bool.not_eq_true',Bool.or_eq_false_iff,decide_eq_false_iff_not];exact hf
  simp only[Ie,this,if_true,Option.getD_some,Option.isSome_some]
end
section
variable {o:Out (Option Int×Int)}{q:Option Int}{c e:Int}
theorem lk (h:o.ex= .error e):cu o=(0,false,11):=by cases o<;>first | rfl | cases h
theorem lf (h:o.ex= .ok (q,c)):cu o=(q.getD 0,q.isSome,0):=by rw[Ij h];rfl
end
section
variable {E:List CX}{σ:Type}{S:Sys σ}{W:σ→Tm→Out (Tm×σ)}
end
end Go.Eu
namespace Go.Proofs.YtboammbpdaoojaaGreat
open Go.Abs Go.Eu
theorem ZQ:∀(ds:List CX) (N m bt bo bk:Nat) (t:Tm) (s:Int),(Gz ds)→(G0 s)→(DY ds CN N s t≠ .stuck)→B2 Tryz.prog 43 [.ptr m 0,.ptr bt 0,.ptr bo 0,.ptr bk 0] [.box m [.p (.lst (List.map Bu ds)),.p (I s)],.box bt ((Bb t).map .p),.box bo [.p (I 0),.p (I 0),.p (.str ⟨#[]⟩),.p (.nils),.p (.nils)],.box bk [.p (.bool false)]] (Kq (fun(r:Option Tm×Int)=> .tup []) (fun _=> .p (.iface 122 .unit)) (fun r H'=>H'=[.box m [.p (.lst (List.map Bu ds)),.p (I r.2)],.box bt ((Bb t).map .p),.box bo ((Bb (r.1.getD Bp)).map .p),.box bk [.p (.bool r.1.isSome)]]) ((DY ds CN N s t).ex)):=by
 intro ds N m bt bo bk t s h1 h2 h3;refine BF Tryz.func43 O r5 (n:=11) O O (BC (A5 A7 2 [1] O (D6 [0] O O O (.inl ⟨O,O,O⟩) (gO ds h1 N m t s h2 h3) ⟨_,_,O,O,O⟩ Aw (aw (we O) (aw (we O) (FM))) (fun _ _ h=>(congrArg List.length h).trans O) ?_ ?_)))
 rotate_left
 ·intro e _ he;exact⟨O,_,List.nil_sublist _,⟨_,he,O⟩⟩
 rintro⟨q,n2⟩ _ hz rfl;refine A1 A7 5 [2,1,3,0] O ⟨O,_,_,O,(CC (is:=[0,1,2,3]) O),?_⟩;exact⟨⟨q,n2⟩,hz,O,O⟩
theorem ZB:∀(ds:List CX) (N:Nat) (t:Tm),(Gz ds)→(DY ds CN N 20000 t≠ .stuck)→(lR (DY ds CN N 20000 t))→Ep Tryz.prog 16 [.p (.lst (List.map Bu ds)),.agg ((Bb t).map .p)] (.tup [.agg ((Bb ((Ie (DY ds CN N 20000 t)).1)).map .p),.p (.bool ((Ie (DY ds CN N 20000 t)).2.1)),.p (I ((Ie (DY ds CN N 20000 t)).2.2))]):=by
 intro ds N t h1 h2 h3;refine BF Tryz.func16 O qi (n:=34) O O (A6 (BO O (Ba O) fun b3=>BO O (BG B4 O) fun b4=>A1 A7 2 [] O (A6 (BO O (BG B4 O) fun b7=>Bq O (A6 (BO O (BG tK O) fun b8=>A1 A7 1 [0,0] O (A2 ?_)))))));obtain⟨e,he⟩ | ⟨⟨q,n2⟩,ha⟩:=GG ((DY ds CN N 20000 t).ex)
 ·refine BC (A5 A7 2 [] O (U8 [3,1,0] O O O (.inl ⟨O,O,O⟩) (SN _ _ he (fun r=>r.2) (fun r=>[.box b3 ((Bb t).map .p),.box b7 ((Bb (r.1.getD Bp)).map .p),.box b8 [.p (.bool r.1.isSome)]]) 43 [.ptr b3 0,.ptr b7 0,.ptr b8 0] [.box b3 ((Bb t).map .p),.box b7 [.p (I 0),.p (I 0),.p (.str ⟨#[]⟩),.p (.nils),.p (.nils)],.box b8 [.p (.bool false)]] ds (fun m=>ZQ ds N m b3 b7 b8 t 20000 h1 NP h2)) ⟨_,_,O,O,⟨_,_,O,O,⟨_,_,O,O,O⟩⟩⟩ Aw (Dg _) (A1 A7 1 [] O (A2 (A3 A7 15 [] O ?_)))));refine A4 O (fun c=>by cases c) (fun c=>?_);refine BA (A2 (A3 A7 2 [] O ?_));refine A4 O (fun c1=>?_) (fun c1=>by cases c1);refine A3 A7 5 [0,0] O (BQ (Bd (i:=0) O) (A9 (⟨O,_,_,⟨_,_,O,(BI (i:=0) Bg O O O),⟨_,_,O,O,⟨_,_,O,O,O⟩⟩⟩,(List.nil_sublist _),?_⟩)))
  all_goals exact⟨by show (.tup [.agg [.p (I 0),.p (I 0),.p (.str ⟨#[]⟩),.p (.lst []),.p (.lst [])],.p (.bool false),.p (I 11)]:AV)=_;first | (rw[RE he]<;>rfl) | (rw[OL ha g]<;>rfl) | (rw[Lz ha g]<;>first | rfl | omega) | (rw[Qz ha]<;>first | rfl | (rintro⟨_,_ | _⟩<;>omega)),rfl⟩
 refine BC (A5 A7 2 [] O (A0 O (CF [3,1,0] O (.inl ⟨O,O,O⟩) (VA _ _ ha (fun r=>r.2) (fun r=>[.box b3 ((Bb t).map .p),.box b7 ((Bb (r.1.getD Bp)).map .p),.box b8 [.p (.bool r.1.isSome)]]) 43 [.ptr b3 0,.ptr b7 0,.ptr b8 0] [.box b3 ((Bb t).map .p),.box b7 [.p (I 0),.p (I 0),.p (.str ⟨#[]⟩),.p (.nils),.p (.nils)],.box b8 [.p (.bool false)]] ds (fun m=>ZQ ds N m b3 b7 b8 t 20000 h1 NP h2)) ⟨_,_,O,O,⟨_,_,O,O,⟨_,_,O,O,O⟩⟩⟩ Aw O (.inl O)) (A1 A7 1 [] O (A2 (A6 (A5 A7 6 [0] O (BY 18 O (fun g=>?_) (fun g=>?_))))))))
 ·(try simp only[sd,se] at g);refine BK O (Bf (i:=1) Bg O O Ap) (BK O (BL O O (ZS (q.getD Bp) (CJ.1 (SU h3 ha)).nd (by have:=FA (SU h3 ha);omega)) O) (A5 A7 2 [] O (BY 22 O (fun g1=>?_) (fun g1=>?_))))
  ·(try simp only[sd,se] at g1);refine A1 A7 5 [] O ?_;refine A4 O (fun c=>?_) (fun c=>by cases c);refine BC (A1 A7 1 [] O (A2 (A3 A7 2 [] O ?_)));refine A4 O (fun c1=>?_) (fun c1=>by cases c1);refine A3 A7 5 [2,0] O (BQ (Bd (i:=2) O) (A9 (⟨O,_,_,⟨_,_,O,(BI (i:=2) Bg O O O),⟨_,_,O,O,⟨_,_,O,O,O⟩⟩⟩,(List.nil_sublist _),?_⟩)))
   all_goals exact⟨by show (.tup [.agg [.p (I 0),.p (I 0),.p (.str ⟨#[]⟩),.p (.lst []),.p (.lst [])],.p (.bool false),.p (I 11)]:AV)=_;first | (rw[RE he]<;>rfl) | (rw[OL ha g]<;>rfl) | (rw[Lz ha g]<;>first | rfl | omega) | (rw[Qz ha]<;>first | rfl | (rintro⟨_,_ | _⟩<;>omega)),rfl⟩
  (try simp only[sd,se] at g1);refine BK O (Bf (i:=1) Bg O O Ap) (BK O (BL O O (Wf _ (q.getD Bp) (Nat.le_refl _) (CJ.1 (SU h3 ha)).nd) O) (A1 A7 3 [] O (A4 O (fun c=>?_) (fun c=>?_))))
  ·(try simp only[sd,se] at c);refine BC (A1 A7 1 [] O (A2 (A3 A7 2 [] O ?_)));refine A4 O (fun c1=>?_) (fun c1=>by cases c1);refine A3 A7 5 [2,0] O (BQ (Bd (i:=2) O) (A9 (⟨O,_,_,⟨_,_,O,(BI (i:=2) Bg O O O),⟨_,_,O,O,⟨_,_,O,O,O⟩⟩⟩,(List.nil_sublist _),?_⟩)))
   all_goals exact⟨by show (.tup [.agg [.p (I 0),.p (I 0),.p (.str ⟨#[]⟩),.p (.lst []),.p (.lst [])],.p (.bool false),.p (I 11)]:AV)=_;first | (rw[RE he]<;>rfl) | (rw[OL ha g]<;>rfl) | (rw[Lz ha g]<;>first | rfl | omega) | (rw[Qz ha]<;>first | rfl | (rintro⟨_,_ | _⟩<;>omega)),rfl⟩
  (try simp only[sd,se] at c);refine BA (A2 (A3 A7 2 [] O ?_));refine A4 O (fun c1=>by cases c1) (fun c1=>?_);refine BA (A2 (B0 (fun k=>false) Dt (Bt A7 5 [1,0,2,1] O (A9 (⟨O,_,_,⟨_,_,O,(BI (i:=2) Bg O O Ap),⟨_,_,O,O,⟨_,_,O,O,O⟩⟩⟩,(List.nil_sublist _),?_⟩)))))
  all_goals exact⟨by show (.tup [.agg ((Bb (q.getD Bp)).map .p),.p (.bool q.isSome),.p (I 0)]:AV)=_;first | (rw[RE he]<;>rfl) | (rw[OL ha g]<;>rfl) | (rw[Lz ha g]<;>first | rfl | omega) | (rw[Qz ha]<;>first | rfl | (rintro⟨_,_ | _⟩<;>omega)),rfl⟩
 (try simp only[sd,se] at g);refine A1 A7 9 [] O ?_;refine A4 O (fun c=>by cases c) (fun c=>?_);refine BA (A2 (A3 A7 2 [] O ?_));refine A4 O (fun c1=>by cases c1) (fun c1=>?_);refine BA (A2 (B0 (fun k=>false) Dt (Bt A7 5 [1,0,2,1] O (A9 (⟨O,_,_,⟨_,_,O,(BI (i:=2) Bg O O Ap),⟨_,_,O,O,⟨_,_,O,O,O⟩⟩⟩,(List.nil_sublist _),?_⟩)))))
 all_goals exact⟨by show (.tup [.agg ((Bb (q.getD Bp)).map .p),.p (.bool q.isSome),.p (I 0)]:AV)=_;first | (rw[RE he]<;>rfl) | (rw[OL ha g]<;>rfl) | (rw[Lz ha g]<;>first | rfl | omega) | (rw[Qz ha]<;>first | rfl | (rintro⟨_,_ | _⟩<;>omega)),rfl⟩
theorem jM:∀(a b:List Ci),(b.length=0)→Ep Tryz.prog 118 [.p (.lst (List.map B9 a)),.p (.lst (List.map B9 b)),.p (.fn 119)] (.p (.bool (decide (a.length=0)))):=by
 intro a b h1;refine BF Tryz.func118 O ni (n:=32) O O (A3 A7 1 [] O (A2 (A6 (B3 O (A0 O (BT Em O (List.length_map _)) (B3 O (A0 O (BT Em O (List.length_map _)) (A1 A7 1 [] O (A4 O (fun c=>?_) (fun c=>?_))))))))))
 ·(try simp only[sd,se] at c);refine A3 A7 1 [] O (A9 (⟨O,_,_,⟨_,_,O,O,O⟩,(List.nil_sublist _),?_⟩))
  all_goals exact⟨pB (decide_eq_false Ax).symm,rfl⟩
 (try simp only[sd,se] at c);refine BA (A2 (A6 (B3 O (A0 O (BT Em O (List.length_map _)) (A1 A7 1 [] O (BJ (Bn (α:=Nat) (fun i=>⟨32,mk [(1,.p (.lst (List.map B9 b))),(2,.p (.fn 119)),(15,.p (.lst (List.map B9 a))),(16,.p (I (a.length:Nat))),(17,.p (I (i:Int)))],[],[]⟩) (fun i=>a.length - i) (fun i=>i≤a.length) 0 AW ?_ ?_)))))))
 ·exact Bh ⟨we O,we O,we O,we O,we O,Az⟩ (leH (is:=[]) O (DJ))
 rintro i hC
 try simp only at hC
 have hi:=hC;refine A3 A7 1 [] O (A2 (A4 O (fun c1=>?_) (fun c1=>?_)))
 ·(try simp only[sd,se] at c1);omega
 (try simp only[sd,se] at c1);refine Bo (A3 A7 1 [] O (A9 (⟨O,_,_,⟨_,_,O,O,O⟩,(List.nil_sublist _),?_⟩)))
 all_goals exact⟨pB (decide_eq_true Ax).symm,rfl⟩
theorem hP:∀(a b:List Tm),(b.length=0)→Ep Tryz.prog 120 [.p (.lst (BN a)),.p (.lst (BN b)),.p (.fn 91)] (.p (.bool (decide (a.length=0)))):=by
 intro a b h1;refine BF Tryz.func120 O po (n:=32) O O (A3 A7 1 [] O (A2 (A6 (B3 O (A0 O (BT Bk O (Bc _)) (B3 O (A0 O (BT Bk O (Bc _)) (A1 A7 1 [] O (A4 O (fun c=>?_) (fun c=>?_))))))))))
 ·(try simp only[sd,se] at c);refine A3 A7 1 [] O (A9 (⟨O,_,_,⟨_,_,O,O,O⟩,(List.nil_sublist _),?_⟩))
  all_goals exact⟨pB (decide_eq_false Ax).symm,rfl⟩
 (try simp only[sd,se] at c);refine BA (A2 (A6 (B3 O (A0 O (BT Bk O (Bc _)) (A1 A7 1 [] O (BJ (Bn (α:=Nat) (fun i=>⟨32,mk [(1,.p (.lst (BN b))),(2,.p (.fn 91)),(15,.p (.lst (BN a))),(16,.p (I (a.length:Nat))),(17,.p (I (i:Int)))],[],[]⟩) (fun i=>a.length - i) (fun i=>i≤a.length) 0 AW ?_ ?_)))))))
 ·exact Bh ⟨we O,we O,we O,we O,we O,Az⟩ (leH (is:=[]) O (DJ))
 rintro i hC
 try simp only at hC
 have hi:=hC;refine A3 A7 1 [] O (A2 (A4 O (fun c1=>?_) (fun c1=>?_)))
 ·(try simp only[sd,se] at c1);omega
 (try simp only[sd,se] at c1);refine Bo (A3 A7 1 [] O (A9 (⟨O,_,_,⟨_,_,O,O,O⟩,(List.nil_sublist _),?_⟩)))
 all_goals exact⟨pB (decide_eq_true Ax).symm,rfl⟩
theorem je:∀(a b:Tm),(b.levels.length=0)→(b.kids.length=0)→Ep Tryz.prog 91 [.agg ((Bb a).map .p),.agg ((Bb b).map .p)] (.p (.bool (Nk a b))):=by
 intro a b h1 h2;obtain⟨ak,ai,an,al,as1⟩:=a;obtain⟨bk,bi,bn,bl,bs⟩:=b;simp only[Tm.levels,Tm.kids] at h1 h2;refine BF Tryz.func91 O rI (n:=38) O O (A6 (BO O (Ba O) fun b2=>BO O (Ba O) fun b3=>A1 A7 1 [] O (A2 (Be [] 4 (fun y=>y= .p (.bool ((((((ak:Int)==(bk:Int))&&((ai:Int)==(bi:Int)))&&(an.toList==bn.toList))&&(decide (al.length=0)))&&(decide (as1.length=0))))) ?_ ?_))))
 ·refine BC (A5 A7 6 [1,0] O (BY 10 O (fun g=>?_) (fun g=>?_)))
  ·(try simp only[sd,se] at g);refine A5 A7 7 [1,0] O (BY 17 O (fun g1=>?_) (fun g1=>?_))
   ·(try simp only[sd,se] at g1);refine A5 A7 4 [1,0] O (BK O (GJ O O) (A5 A7 2 [] O (BY 24 O (fun g2=>?_) (fun g2=>?_))))
    ·(try simp only[sd,se] at g2);refine A5 A7 4 [1,0] O (BK O (BL O O (jM al bl h1) O) (A5 A7 2 [] O (BY 31 O (fun g3=>?_) (fun g3=>?_))))
     ·(try simp only[sd,se] at g3);exact A5 A7 4 [1,0] O (BK O (BL O O (hP as1 bs h2) O) (A1 A7 2 [] O ⟨O,O,AP,AJ,Az⟩))
     (try simp only[sd,se] at g3);exact A1 A7 7 [] O ⟨O,O,AP,AJ,Az⟩
    (try simp only[sd,se] at g2);exact A1 A7 14 [] O ⟨O,O,AP,AJ,Az⟩
   (try simp only[sd,se] at g1);exact A1 A7 21 [] O ⟨O,O,AP,AJ,Az⟩
  (try simp only[sd,se] at g);exact A1 A7 28 [] O ⟨O,O,AP,AJ,Az⟩
 rintro _ rfl;refine A9 (⟨O,_,_,⟨_,_,O,O,O⟩,(List.nil_sublist _),?_⟩)
 all_goals exact⟨by show (.p (.bool ((((((ak:Int)==(bk:Int))&&((ai:Int)==(bi:Int)))&&(an.toList==bn.toList))&&(decide (al.length=0)))&&(decide (as1.length=0)))):AV)=_;rw[uZ h1 h2],rfl⟩
def tx (ds:List CX) (n:Nat):Prop:=∀(m:Nat) (t:Tm) (s:Int),G0 s→Ii ds CN n s t≠ .stuck→B2 Tryz.prog 53 [.ptr m 0,.agg ((Bb t).map .p)] [.box m [.p (.lst (List.map Bu ds)),.p (I s)]] (Kq (fun(r:Option Int×Int)=> .tup [.p (I (r.1.getD 0)),.p (.bool r.1.isSome)]) (fun _=> .p (.iface 122 .unit)) (fun r H'=>H'=[.box m [.p (.lst (List.map Bu ds)),.p (I r.2)]]) ((Ii ds CN n s t).ex))
set_option maxHeartbeats 4000000 in
theorem Yp:∀(ds:List CX) (hE:Gz ds) (n:Nat),tx ds n:=by
 intro ds hE n
 induction n using Nat.strongRecOn with
 | ind n ih =>
  intro m t s hJ hns;have h2:=hE;obtain⟨k,rfl⟩:=dJ rfl hns;generalize hC:Ii ds CN (k+1) s t=X at hns ⊢;rw[VS] at hC;have hn0:=hns;rw[←hC] at hn0;have hn1:=VQ hn0;refine BF Tryz.func53 O sK (n:=116) O O (A6 (BO O (Ba O) fun b3=>A1 A7 2 [] O (A6 (A5 A7 2 [0] O (D6 [1] O O O (.inl ⟨O,O,O⟩) (OA ds hE k m t s hJ hn1) ⟨_,_,O,O,O⟩ Aw (aw (we O) (aw (we O) (FM))) (fun _ _ h=>(congrArg List.length h).trans O) ?_ ?_)))))
  rotate_left
  ·intro e _ he;exact⟨O,_,List.nil_sublist _,⟨_,by rw[←hC];exact Ur hn0 he,rfl⟩⟩
  rintro⟨pr,n2⟩ _ hz rfl;obtain⟨hr2,hr3⟩:=VH hn0 hz;rw[hr3] at hC;have hJ2:=Qm hJ (Ij hz);have hsp:p8 pr:=Rp hr2;have hsl:=hsp.len;have hss:=hsp.sz;have hsa:=hsp.asz;refine A0 O (BL O O (MC pr hsp.nd Ai) O) (A5 A7 3 [] O (BO O (BG B4 O) fun b6=>A1 A7 2 [0,1] O (A2 (A6 (A0 O (A8 HA O O) ?_)))));generalize hz:(BH pr).1=z;obtain⟨zk,zi,zn,zl,zs⟩:=z;have hzo:okB (.mk zk zi zn zl zs)=true:=hz▸hsp.head;have hzq:=hz;have hzl:=Hr hzo;have hzn:=(CJ.1 hzo).nd;refine A1 A7 1 [0] O (BJ (A3 A7 2 [] O (A4 O (fun c=>?_) (fun c=>?_))))
  ·(try simp only[sd,se] at c);have hk:=(congrArg Tm.kind hzq).trans c;rw[S3 (r:=(pr,n2)) hk,hzq] at hC;refine A3 A7 4 [0] O (A9 (⟨O,_,_,⟨_,_,O,O,⟨_,_,O,O,O⟩⟩,(CC (is:=[2]) O),?_⟩));exact⟨⟨_,_⟩,DX hC.symm,O,O⟩
  (try simp only[sd,se] at c);refine A2 (A3 A7 2 [] O (Be [0,6,7,25] 30 (fun y=>y= .p (.bool (decide (zk=9∨zk=10)))) ?_ ?_))
  ·refine A4 O (fun c1=>?_) (fun c1=>?_)
   ·(try simp only[sd,se] at c1);exact BA (⟨O,O,(List.Sublist.refl _),(by refine pB (Bool.eq_iff_iff.2 ?_);simp only[beq_iff_eq,decide_eq_true_eq];omega),⟨O,O,O,O,Az⟩⟩)
   (try simp only[sd,se] at c1);exact BC (A1 A7 2 [] O (⟨O,O,(List.Sublist.refl _),(by refine pB (Bool.eq_iff_iff.2 ?_);simp only[beq_iff_eq,decide_eq_true_eq];omega),⟨O,O,O,O,Az⟩⟩))
  rintro _ rfl;refine A4 O (fun c1=>?_) (fun c1=>?_)
  ·(try simp only[sd,se] at c1);have hk9:zk=9∨zk=10:=by simpa using c1
   refine A6 (A5 A7 3 [0] O ?_);obtain⟨x,hx⟩:=BE (l:=zs) (i:=0) Ax;rw[az (r:=(pr,n2)) (by rw[hzq];exact hk9) (by rw[hzq];exact hx)] at hC;refine A0 O (BD Bk O O Ax (Bj hx) (BM _)) (A0 O (BU Bg O (BM _)) (D6 [2] O O O (.inl ⟨O,O,O⟩) (ih k Ax m x n2 hJ2 (by rw[hC];exact hns)) ⟨_,_,O,O,O⟩ Aw (aw (we O) (aw (we O) (FM))) (fun _ _ h=>(congrArg List.length h).trans O) ?_ ?_))
   rotate_left
   ·intro e _ he;exact⟨O,_,List.nil_sublist _,⟨_,by rw[←hC];exact he,rfl⟩⟩
   rintro⟨q,n21⟩ _ hz1 rfl;have hfin:=hz1;refine A1 A7 4 [] O (A9 (⟨O,_,_,⟨_,_,O,O,⟨_,_,O,O,O⟩⟩,(CC (is:=[2]) O),?_⟩));exact⟨⟨q,n21⟩,by rw[←hC];exact hfin,rfl,rfl⟩
  (try simp only[sd,se] at c1);refine A3 A7 2 [] O (A4 O (fun c2=>?_) (fun c2=>?_))
  ·(try simp only[sd,se] at c2);have hk:=(congrArg Tm.kind hzq).trans c2;refine A6 (A5 A7 2 [0] O (A0 O (CF [2] O (.inl ⟨O,O,O⟩) (PA m ds n2 (.mk zk zi zn zl zs:Tm) hE.g.env) ⟨_,_,O,O,O⟩ Aw O (.inl O)) (A5 A7 3 [] O (BO O (BG Hw O) fun b8=>A1 A7 2 [0,1] O (A2 (A3 A7 2 [] O (A4 O (fun c3=>?_) (fun c3=>?_))))))))
   ·(try simp only[sd,se] at c3);rw[bO (r:=(pr,n2)) hk (.inl (by rw[hzq];exact c3))] at hC;refine A3 A7 2 [] O (A9 (⟨O,_,_,⟨_,_,O,O,⟨_,_,O,O,O⟩⟩,(CC (is:=[3]) O),?_⟩));exact⟨⟨_,_⟩,DX hC.symm,O,O⟩
   (try simp only[sd,se] at c3);have hu:=c3;obtain⟨ix,dd,e1,e2,e3,e4⟩:=JV hu;have hde:=e2.decl;have hdg:=h2.g.all _ e3;have hel:=h2.g.env.len;have hil:=(List.getElem?_eq_some_iff.1 e1).1;have hfx:=hdg.fx;have hnr:=Ia hdg;have hcl:=hdg.din.cl;have hfl:=hdg.din.fl;refine BA (A2 (UO [.val (.ptr m 0),.val (.ptr m 0),.val (.ptr m (0+0)),.val (.p (.lst (List.map Bu ds))),.val (.ptr b8 (0+1)),.val (.p (I (((Bw ds (.mk zk zi zn zl zs:Tm).name).1).decl))),.val (.ref (Bu dd)),.val (.agg ((Bu dd).map .p)),.new [.p (I 0),.p (.str ⟨#[]⟩),.p (I 0),.p (I 0),.p (I 0),.p (.str ⟨#[]⟩),.p (.nils),.p (.nils),.p (I 0),.p (I 0),.p (.str ⟨#[]⟩),.p (.nils),.p (.nils),.p (I 0),.p (.nils),.p (I 0),.p (I 0),.p (I 0),.p (.str ⟨#[]⟩),.p (.nils),.p (.nils),.p (.nils),.p (.nils)]] Dt O As As (D7 O (fun Bs=>Bi O) (D7 O (fun Bs=>O1 O) (D7 O (fun Bs=>A8 qA O O) (D7 O (fun Bs=>CG (i:=Bs.length+3) dz O (Ck O) O) (D7 O (fun Bs=>A8 Fv O O) ?_)))))));refine D7 O (fun Bs=>BB (i:=Bs.length+0) DO O (Ck O) (DZ _)) (D7 O (fun Bs=>BD Hz O O Ax (EG e4) (Cx _)) (D7 O (fun Bs=>BU Fg O (Cx _)) (YA O (fun Bs=>BG Iz O) fun b10=>YV ?_)))
   change AL _ _ _ 9 ⟨116,_,[.box b10 [.p (I 0),.p (.str ⟨#[]⟩),.p (I 0),.p (I 0),.p (I 0),.p (.str ⟨#[]⟩),.p (.nils),.p (.nils),.p (I 0),.p (I 0),.p (.str ⟨#[]⟩),.p (.nils),.p (.nils),.p (I 0),.p (.nils),.p (I 0),.p (I 0),.p (I 0),.p (.str ⟨#[]⟩),.p (.nils),.p (.nils),.p (.nils),.p (.nils)],.box b8 ((Dn ((Bw ds (.mk zk zi zn zl zs:Tm).name).1)).map .p),.box b6 [.p (I zk),.p (I zi),.p (.str zn),.p (.lst (List.map B9 zl)),.p (.lst (BN zs))],.box b3 ((Bb t).map .p),.box m [.p (.lst (List.map Bu ds)),.p (I n2)]],[]⟩ _
   refine A1 A7 1 [0,1] O (A6 (A0 O (A8 Fv O O) (A0 O (BB (i:=1) DO O O (DK _)) (Bq O (BJ (A3 A7 2 [] O (A4 O (fun c4=>?_) (fun c4=>?_))))))))
   ·(try simp only[sd,se] at c4);have hk5:=c4;refine A6 (A0 O (Bf (i:=0) Fg O O Am) (A0 O (BL O O (OM dd hdg.din hdg.fx) O) (A1 A7 1 [] O (A6 (B3 O (A0 O (BT Bk O (Bc _)) (A1 A7 2 [] O (A4 O (fun c5=>?_) (fun c5=>?_)))))))))
    ·(try simp only[sd,se] at c5);refine A6 (A5 A7 3 [] O ?_);obtain⟨x,hx⟩:=BE (l:=(BH pr).2) (i:=(CQ dd:Int).toNat) Ax;rw[ga (r:=(pr,n2)) hk (by rw[hzq];exact hu) rfl (by rw[hzq];exact e4) (by rw[hzq];exact hk5) Ax hx] at hC;refine A0 O (BD Bk O O Ax (Bj hx) (BM _)) (A0 O (BU Bg O (BM _)) (D6 [4] O O O (.inl ⟨O,O,O⟩) (ih k Ax m x n2 hJ2 (by rw[hC];exact hns)) ⟨_,_,O,O,O⟩ Aw (aw (we O) (aw (we O) (FM))) (fun _ _ h=>(congrArg List.length h).trans O) ?_ ?_))
     rotate_left
     ·intro e _ he;exact⟨O,_,List.nil_sublist _,⟨_,by rw[←hC];exact he,rfl⟩⟩
     rintro⟨q,n21⟩ _ hz1 rfl;have hfin:=hz1;refine A1 A7 4 [] O (A9 (⟨O,_,_,⟨_,_,O,O,⟨_,_,O,O,O⟩⟩,(CC (is:=[4]) O),?_⟩));exact⟨⟨q,n21⟩,by rw[←hC];exact hfin,rfl,rfl⟩
    (try simp only[sd,se] at c5);rw[aA (r:=(pr,n2)) hk (by rw[hzq];exact hu) rfl (by rw[hzq];exact e4) (by rw[hzq];exact hk5) Ax] at hC;refine BA (A3 A7 2 [] O (A9 (⟨O,_,_,⟨_,_,O,O,⟨_,_,O,O,O⟩⟩,(CC (is:=[4]) O),?_⟩)));exact⟨⟨_,_⟩,DX hC.symm,O,O⟩
   (try simp only[sd,se] at c4);have hk5:=c4;refine A3 A7 2 [] O (A4 O (fun c5=>?_) (fun c5=>?_))
   ·(try simp only[sd,se] at c5);have hk6:=c5;obtain⟨fk,ff,f1,f2⟩:=e2.func hk6;have hff:dd.funs[(Bw ds (Tm.mk zk zi zn zl zs).name).1.item.toNat]?=some ff:=by rw[f2];simpa using f1
    have hfm:=List.mem_of_getElem? hff;have hfa:=hdg.fu ff hfm;have hfi:=(List.getElem?_eq_some_iff.1 f1).1;refine A6 (A0 O (A8 DD O O) (A0 O (BB (i:=0) HW O O (CP _)) (A0 O (A8 Fv O O) (A0 O (BB (i:=1) DO O O (E2 _)) (A0 O (BD Gy O O Ax (ET hff) (DV _)) (A0 O (BU e7 O (DV _)) (BO O (BG bW O) fun b12=>A1 A7 1 [0,1] O (A2 (A6 (B3 O (A0 O (BT Bk O (Bc _)) (A0 O (A8 Gw O O) (A0 O (BB (i:=0) DO O O (CU _)) (A1 A7 1 [] O (A4 O (fun c6=>?_) (fun c6=>?_))))))))))))))))
    ·(try simp only[sd,se] at c6);rw[bL (r:=(pr,n2)) hk (by rw[hzq];exact hu) rfl (by rw[hzq];exact e4) (by rw[hzq];exact hk6) (by rw[hzq];exact hff) (by show ¬ff.arity≤((BH pr).2.length:Int);omega)] at hC;refine A3 A7 2 [] O (A9 (⟨O,_,_,⟨_,_,O,O,⟨_,_,O,O,O⟩⟩,(CC (is:=[5]) O),?_⟩));exact⟨⟨_,_⟩,DX hC.symm,O,O⟩
    (try simp only[sd,se] at c6);refine BA (A2 ?_);rw[Vr (r:=(pr,n2)) hk (by rw[hzq];exact hu) rfl (by rw[hzq];exact e4) (by rw[hzq];exact hk6) (by rw[hzq];exact hff) (by show ff.arity≤((BH pr).2.length:Int);omega)] at hC;have hn0b:=hns;rw[←hC] at hn0b;have hn2:=Jo hn0b;obtain⟨e,he⟩ | ⟨⟨q,n21⟩,hz1⟩:=GG ((E4 ds CN (FF ds CN k) k ff.tree (((BH pr).2).take ((ff.arity:Int).toNat)) Bp n2).ex)
    ·refine JE ((fun _=> .p (.iface 122 .unit)) e) 7 [.val (.ptr m 0),.val (.ptr b12 (0+7)),.val (.agg ((C5 ff.tree).map .p)),.val (.p (.lst (BN ((BH pr).2)))),.val (.ptr b12 (0+6)),.val (.p (I ff.arity)),.val (.p (.lst (BN (((BH pr).2).take ((ff.arity:Int).toNat))))),.val (.p .any),.val (.p .any),.val (.p .any),.val (.p .any),.val (.p .any),.val (.p .any),.new [.p (I 0),.p (I 0),.p (.str ⟨#[]⟩),.p (.nils),.p (.nils)],.new [.p (I 0),.p (I 0),.p (.str ⟨#[]⟩),.p (.nils),.p (.nils)],.val (.p .any),.val (.p .any),.val (.p .any),.val (.p .any)] Dt O As O Az (fun _ _=>by exact⟨rfl,_,List.nil_sublist _,⟨_,by rw[←hC];exact LI hn0b he,rfl⟩⟩) ?_;refine CK O O (fun Bs=>Bi O) (CK O O (fun Bs=>A8 Gw O O) (CK O O (fun Bs=>B6 (i:=Bs.length+0) JJ O (Ck O) (D5 _) (Cy _)) (CK O O (fun Bs=>Bi O) (CK O O (fun Bs=>A8 Gw O O) (CK O O (fun Bs=>BB (i:=Bs.length+0) DO O (Ck O) (CU _)) (CK O O (fun Bs=>Cc (lo:=0) (hi:=(ff.arity:Int).toNat) Bk O (CM (B1 _)) O ⟨_,pI Ax⟩ (Nat.zero_le _) AX (M1 ((BH pr).2) ((ff.arity:Int).toNat))) (K8 (mkp:=(fun _=> .p (.iface 122 .unit))) (e:=e) [5] he O O (.inl ⟨O,O,O⟩) (Qj k k m ds ff.tree (((BH pr).2).take ((ff.arity:Int).toNat)) n2 (OA ds hE k) hE.g hJ2 (OQ hE e3 hfm hsp.args) hn2) ⟨_,_,O,O,O⟩ Aw (aw (we O) (aw (we O) (aw (we O) (FM)))) (DP O O As (DP O O As (DP O O As ?_))))))))));exact DP O O As (DP O O As (Ua O O (fun Bs=>BG B4 O) fun _=>Ua O O (fun Bs=>BG B4 O) fun _=>DP O O As (DP O O As (DP O O As (DP O O As LD)))))
    rw[Mc hz1] at hC;have hJ3:=TF hJ2 (Ij hz1);refine IU [.box b12 ((FJ ff).map .p),.box b10 ((Bu dd).map .p),.box b8 ((Dn ((Bw ds (.mk zk zi zn zl zs:Tm).name).1)).map .p),.box b6 [.p (I zk),.p (I zi),.p (.str zn),.p (.lst (List.map B9 zl)),.p (.lst (BN zs))],.box b3 ((Bb t).map .p),.box m [.p (.lst (List.map Bu ds)),.p (I n21)]] 7 [.val (.ptr m 0),.val (.ptr b12 (0+7)),.val (.agg ((C5 ff.tree).map .p)),.val (.p (.lst (BN ((BH pr).2)))),.val (.ptr b12 (0+6)),.val (.p (I ff.arity)),.val (.p (.lst (BN (((BH pr).2).take ((ff.arity:Int).toNat))))),.val (.tup [.agg ((Bb (KR q)).map .p),.p (.lst (BN (Nq q))),.p (.bool q.1.isSome),.agg ((Bb q.2).map .p)]),.val (.tup [.agg ((Bb (KR q)).map .p),.p (.lst (BN (Nq q))),.p (.bool q.1.isSome),.agg ((Bb q.2).map .p)]),.val (.agg ((Bb (KR q)).map .p)),.val (.p (.lst (BN (Nq q)))),.val (.p (.bool q.1.isSome)),.val (.agg ((Bb q.2).map .p)),.new [.p (I 0),.p (I 0),.p (.str ⟨#[]⟩),.p (.nils),.p (.nils)],.new [.p (I 0),.p (I 0),.p (.str ⟨#[]⟩),.p (.nils),.p (.nils)]] [.p .any,.p (.lst (BN (Nq q))),.p (.bool q.1.isSome),.p .any] [10,11,12] Dt O As As As O ?_ ?_
    ·exact Az
    refine Bz O O (fun Bs=>Bi O) (Bz O O (fun Bs=>A8 Gw O O) (GL O O O (fun Bs=>B6 (i:=Bs.length+0) JJ O (Ck O) (D5 _) (Cy _)) (fun Bs=>B6 (i:=Bs.length+0) JJ O (Ck O) (D5 _) (Cy _)) (Bz O O (fun Bs=>Bi O) (Bz O O (fun Bs=>A8 Gw O O) (GL O O O (fun Bs=>BB (i:=Bs.length+0) DO O (Ck O) (CU _)) (fun Bs=>BB (i:=Bs.length+0) DO O (Ck O) (CU _)) (Bz O O (fun Bs=>Cc (lo:=0) (hi:=(ff.arity:Int).toNat) Bk O (CM (B1 _)) O ⟨_,pI Ax⟩ (Nat.zero_le _) AX (M1 ((BH pr).2) ((ff.arity:Int).toNat))) ?_))))));refine J6 O (fun Bs=>G3 [5] O (.inl ⟨O,O,O⟩) (Kz hz1 (Qj k k m ds ff.tree (((BH pr).2).take ((ff.arity:Int).toNat)) n2 (OA ds hE k) hE.g hJ2 (OQ hE e3 hfm hsp.args) hn2)) ⟨_,_,O,O,O⟩ Aw O (aw (we O) (aw (we O) (aw (we O) (FM))))) (Bz O O (fun Bs=>Bi O) (Bz O O (fun Bs=>Dk O O) (Bz O O (fun Bs=>Dk O O) (Bz O O (fun Bs=>Dk O O) (Bz O O (fun Bs=>Dk O O) (PD O O (fun Bs=>BG B4 O) fun b13=>PD O O (fun Bs=>BG B4 O) fun b16=>KH ?_))))));refine EB [.box b13 ((Bb (KR q)).map .p),.box b16 [.p (I 0),.p (I 0),.p (.str ⟨#[]⟩),.p (.nils),.p (.nils)],.box b12 ((FJ ff).map .p),.box b10 ((Bu dd).map .p),.box b8 ((Dn ((Bw ds (.mk zk zi zn zl zs:Tm).name).1)).map .p),.box b6 [.p (I zk),.p (I zi),.p (.str zn),.p (.lst (List.map B9 zl)),.p (.lst (BN zs))],.box b3 ((Bb t).map .p),.box m [.p (.lst (List.map Bu ds)),.p (I n21)]] O (Cq (i:=0) Bg O O O Ap Ae (FD _)) ?_;refine EB [.box b13 ((Bb (KR q)).map .p),.box b16 [.p (I 0),.p (I 0),.p (.str ⟨#[]⟩),.p (.nils),.p (.nils)],.box b12 ((FJ ff).map .p),.box b10 ((Bu dd).map .p),.box b8 ((Dn ((Bw ds (.mk zk zi zn zl zs:Tm).name).1)).map .p),.box b6 [.p (I zk),.p (I zi),.p (.str zn),.p (.lst (List.map B9 zl)),.p (.lst (BN zs))],.box b3 ((Bb t).map .p),.box m [.p (.lst (List.map Bu ds)),.p (I n21)]] O (EY O) (EB [.box b13 ((Bb (KR q)).map .p),.box b16 [.p (I 0),.p (I 0),.p (.str ⟨#[]⟩),.p (.nils),.p (.nils)],.box b12 ((FJ ff).map .p),.box b10 ((Bu dd).map .p),.box b8 ((Dn ((Bw ds (.mk zk zi zn zl zs:Tm).name).1)).map .p),.box b6 [.p (I zk),.p (I zi),.p (.str zn),.p (.lst (List.map B9 zl)),.p (.lst (BN zs))],.box b3 ((Bb t).map .p),.box m [.p (.lst (List.map Bu ds)),.p (I n21)]] O (EY O) ?_)
    refine EB [.box b13 ((Bb (KR q)).map .p),.box b16 ((Bb q.2).map .p),.box b12 ((FJ ff).map .p),.box b10 ((Bu dd).map .p),.box b8 ((Dn ((Bw ds (.mk zk zi zn zl zs:Tm).name).1)).map .p),.box b6 [.p (I zk),.p (I zi),.p (.str zn),.p (.lst (List.map B9 zl)),.p (.lst (BN zs))],.box b3 ((Bb t).map .p),.box m [.p (.lst (List.map Bu ds)),.p (I n21)]] O (Cq (i:=1) Bg O O O Ap Ae (FD _)) (J7 (A2 (Be [0,16] 110 (fun y=>y= .p (.bool ((!q.1.isSome)&&(!(Nk q.2 Bp))))) ?_ ?_)))
    ·refine BC (A5 A7 3 [] O (BY 105 O (fun g=>?_) (fun g=>?_)))
     ·(try simp only[sd,se] at g);exact A5 A7 2 [1] O (BK O (GR O O (je q.2 (.mk 0 0 ⟨#[]⟩ [] []:Tm) O O) (aw (we O) (aw (Dv O) (FM)))) (A1 A7 2 [] O (⟨O,O,AP,(by first | rfl | (refine pB ?_;rw[g];rfl)),⟨O,O,Az⟩⟩)))
     (try simp only[sd,se] at g);exact A1 A7 5 [] O (⟨O,O,AP,(by first | rfl | (refine pB ?_;rw[g];rfl)),⟨O,O,Az⟩⟩)
    rintro _ rfl;refine A4 O (fun c7=>?_) (fun c7=>?_)
    ·(try simp only[sd,se] at c7);rw[Y9 (by simpa using c7.1) rfl (by simpa using c7.2)] at hC;refine A6 (A5 A7 2 [1] O (D6 [7] O O O (.inl ⟨O,O,O⟩) (ih k Ax m q.2 n21 hJ3 (by rw[hC];exact hns)) ⟨_,_,O,O,O⟩ Aw (aw (we O) (aw (we O) (FM))) (fun _ _ h=>(congrArg List.length h).trans O) ?_ ?_))
     rotate_left
     ·intro e _ he;exact⟨O,_,List.nil_sublist _,⟨_,by rw[←hC];exact he,rfl⟩⟩
     rintro⟨q1,n22⟩ _ hz2 rfl;have hfin:=hz2;refine A1 A7 4 [] O (A9 (⟨O,_,_,⟨_,_,O,O,⟨_,_,O,O,O⟩⟩,(CC (is:=[7]) O),?_⟩));exact⟨⟨q1,n22⟩,by rw[←hC];exact hfin,rfl,rfl⟩
    (try simp only[sd,se] at c7);rw[aL (by by_cases hqs:q.1.isSome=true;exact .inl hqs;exact .inr (.inr (by simpa [hqs] using c7)))] at hC;refine BA (A3 A7 2 [] O (A9 (⟨O,_,_,⟨_,_,O,O,⟨_,_,O,O,O⟩⟩,(CC (is:=[7]) O),?_⟩)));exact⟨⟨_,_⟩,DX hC.symm,O,O⟩
   (try simp only[sd,se] at c5);rw[RS (r:=(pr,n2)) hk (by rw[hzq];exact hu) rfl (by rw[hzq];exact hk5) (by rw[hzq];exact c5)] at hC;refine BA (A3 A7 2 [] O (A9 (⟨O,_,_,⟨_,_,O,O,⟨_,_,O,O,O⟩⟩,(CC (is:=[4]) O),?_⟩)));exact⟨⟨_,_⟩,DX hC.symm,O,O⟩
  (try simp only[sd,se] at c2);rw[jl (r:=(pr,n2)) (by rw[hzq];assumption) (by rw[hzq];show ¬zk=9;omega) (by rw[hzq];show ¬zk=10;omega) (by rw[hzq];assumption)] at hC;refine BA (A3 A7 2 [] O (A9 (⟨O,_,_,⟨_,_,O,O,⟨_,_,O,O,O⟩⟩,(CC (is:=[2]) O),?_⟩)));exact⟨⟨_,_⟩,DX hC.symm,O,O⟩
theorem ei:∀(ds:List CX) (N m bt bo bk:Nat) (t:Tm) (s:Int),(Gz ds)→(G0 s)→(Ii ds CN N s t≠ .stuck)→B2 Tryz.prog 52 [.ptr m 0,.ptr bt 0,.ptr bo 0,.ptr bk 0] [.box m [.p (.lst (List.map Bu ds)),.p (I s)],.box bt ((Bb t).map .p),.box bo [.p (I 0)],.box bk [.p (.bool false)]] (Kq (fun(r:Option Int×Int)=> .tup []) (fun _=> .p (.iface 122 .unit)) (fun r H'=>H'=[.box m [.p (.lst (List.map Bu ds)),.p (I r.2)],.box bt ((Bb t).map .p),.box bo [.p (I (r.1.getD 0))],.box bk [.p (.bool r.1.isSome)]]) ((Ii ds CN N s t).ex)):=by
 intro ds N m bt bo bk t s h1 h2 h3;refine BF Tryz.func52 O qu (n:=11) O O (BC (A5 A7 2 [1] O (D6 [0] O O O (.inl ⟨O,O,O⟩) (Yp ds h1 N m t s h2 h3) ⟨_,_,O,O,O⟩ Aw (aw (we O) (aw (we O) (FM))) (fun _ _ h=>(congrArg List.length h).trans O) ?_ ?_)))
 rotate_left
 ·intro e _ he;exact⟨O,_,List.nil_sublist _,⟨_,he,O⟩⟩
 rintro⟨q,n2⟩ _ hz rfl;refine A1 A7 5 [2,0,3,0] O ⟨O,_,_,O,(CC (is:=[0,1,2,3]) O),?_⟩;exact⟨⟨q,n2⟩,hz,O,O⟩
theorem dr:∀(ds:List CX) (N:Nat) (t:Tm),(Gz ds)→(Ii ds CN N 20000 t≠ .stuck)→Ep Tryz.prog 18 [.p (.lst (List.map Bu ds)),.agg ((Bb t).map .p)] (.tup [.p (I ((cu (Ii ds CN N 20000 t)).1)),.p (.bool ((cu (Ii ds CN N 20000 t)).2.1)),.p (I ((cu (Ii ds CN N 20000 t)).2.2))]):=by
 intro ds N t h1 h2;refine BF Tryz.func18 O rv (n:=18) O O (A6 (BO O (Ba O) fun b3=>A1 A7 3 [] O (A6 (BO O (BG cH O) fun b7=>BO O (BG tK O) fun b8=>A1 A7 2 [1,0,0,0] O (A2 ?_)))));obtain⟨e,he⟩ | ⟨⟨q,n2⟩,ha⟩:=GG ((Ii ds CN N 20000 t).ex)
 ·refine BC (A5 A7 2 [] O (U8 [2,1,0] O O O (.inl ⟨O,O,O⟩) (SN _ _ he (fun r=>r.2) (fun r=>[.box b3 ((Bb t).map .p),.box b7 [.p (I (r.1.getD 0))],.box b8 [.p (.bool r.1.isSome)]]) 52 [.ptr b3 0,.ptr b7 0,.ptr b8 0] [.box b3 ((Bb t).map .p),.box b7 [.p (I 0)],.box b8 [.p (.bool false)]] ds (fun m=>ei ds N m b3 b7 b8 t 20000 h1 NP h2)) ⟨_,_,O,O,⟨_,_,O,O,⟨_,_,O,O,O⟩⟩⟩ Aw (Dg _) (A1 A7 1 [] O (A2 (A3 A7 2 [] O ?_)))));refine A4 O (fun c=>?_) (fun c=>by cases c);refine A3 A7 4 [] O (A9 (⟨O,_,_,⟨_,_,O,O,⟨_,_,O,O,⟨_,_,O,O,O⟩⟩⟩,(List.nil_sublist _),?_⟩))
  all_goals exact⟨by show (.tup [.p (I 0),.p (.bool false),.p (I 11)]:AV)=_;rw[lk he],rfl⟩
 refine BC (A5 A7 2 [] O (A0 O (CF [2,1,0] O (.inl ⟨O,O,O⟩) (VA _ _ ha (fun r=>r.2) (fun r=>[.box b3 ((Bb t).map .p),.box b7 [.p (I (r.1.getD 0))],.box b8 [.p (.bool r.1.isSome)]]) 52 [.ptr b3 0,.ptr b7 0,.ptr b8 0] [.box b3 ((Bb t).map .p),.box b7 [.p (I 0)],.box b8 [.p (.bool false)]] ds (fun m=>ei ds N m b3 b7 b8 t 20000 h1 NP h2)) ⟨_,_,O,O,⟨_,_,O,O,⟨_,_,O,O,O⟩⟩⟩ Aw O (.inl O)) (A1 A7 1 [] O (A2 (A3 A7 2 [] O ?_)))));refine A4 O (fun c=>by cases c) (fun c=>?_);refine BA (A2 (B0 (fun k=>false) Dt (Bt A7 5 [1,0] O (A9 (⟨O,_,_,⟨_,_,O,O,⟨_,_,O,O,⟨_,_,O,O,O⟩⟩⟩,(List.nil_sublist _),?_⟩)))))
 all_goals exact⟨by show (.tup [.p (I (q.getD 0)),.p (.bool q.isSome),.p (I 0)]:AV)=_;rw[lf ha],rfl⟩
theorem _root_.Go.AN {α:Prop}(h:α:=by simp only[Bc,List.length_append,List.nil_append,List.length_nil];omega):α:=h
theorem cz:∀(n:Nat) (ps:List Int) (t x z:Tm),(ps.length≤n)→(okB t=true)→(∀p∈ps,0≤p)→(ps.length<1000000)→(Gq t ps x=some z)→Ep Tryz.prog 86 [.agg ((Bb t).map .p),.p (.lst (List.map FT ps)),.agg ((Bb x).map .p)] (.agg ((Bb z).map .p)):=by
 intro n
 induction n using Nat.strongRecOn with
 | ind n ih =>
  intro ps t x z h0 h1 h3 h4 h5;have hsp:=Rp h1;have hsl:=hsp.len;have hss:=hsp.sz;refine BF Tryz.func86 O sF (n:=40) O O (A6 (BO O (Ba O) fun b3=>BO O (Ba O) fun b5=>BO O (BG B4 O) fun b6=>Bq O (A2 (A6 (B3 O (A0 O (BT Fp O (List.length_map _)) (A1 A7 1 [] O (A4 O (fun c=>?_) (fun c=>?_)))))))))
  ·(try simp only[sd,se] at c);refine A3 A7 2 [1,0,1] O (A9 (⟨O,_,_,⟨_,_,O,(BI (i:=0) Bg O O Ap),O⟩,(List.nil_sublist _),?_⟩))
   all_goals exact⟨by show (.agg ((Bb x).map .p):AV)=_;rw[XE h5 Ax],rfl⟩
  (try simp only[sd,se] at c);refine BA (A6 (A0 O (Bf (i:=2) Bg O O Ap) (A0 O (BL O O (Nu _ t (Nat.le_refl _) Ai) O) (A5 A7 3 [] O (BO O (BG B4 O) fun b7=>A1 A7 2 [0,1] O (A6 (L8 O (Bx (DS (t:=9) (sz:=5) O) (Bq O (A6 (A5 A7 2 [] O (EN O O (CE (i:=0) (rows':=BN ((BH t).2)) Bk Bk B4 O O O O O O (B1 _) AY (Hk [] ((BH t).2))) fun o cp=>A1 A7 1 [] O (A2 (Ib (i:=0) O (by have hxl:=UN h5 Ax;simp only[Bc,List.length_append,List.nil_append,List.length_nil];omega) fun b hb=>?_))))))))))))));subst hb;refine B0 (fun k=>false) Dt (BZ A7 2 [] O ?_);obtain⟨x1,hx1⟩:=BE (l:=ps) (i:=0) Ax;have hx0:=h3 _ (List.mem_of_getElem? hx1);have hxl:=Rf h5 hx1;refine BP O (fun _=>BD Fp O O Ax (Jh hx1) (O)) Az (BZ A7 3 [] O (BP O (fun _=>BD Fp O O Ax (Jh hx1) (O)) Az (BP O (fun _=>E9 DO O) Az (BP O (fun _=>Cg Bk O O Ax AN) Az ?_))));obtain⟨y,hy⟩:=BE (l:=((BH t).2)) (i:=(x1:Int).toNat) Ag;refine CY (j:=0) O O O (fun H i hi=>Da (i:=i) Bg O hi (Bj hy)) AB Az (BP O (fun _=>Bi O) Az (BP O (fun _=>Cc (lo:=1) Fp O (CM (JM _)) ⟨_,O⟩ O AX (Nat.le_refl _) (eX (f:=FT) ps 1)) Az (BZ A7 1 [3] O ?_)));obtain⟨z1,e1,e2⟩:=Tp h5 hx1 hy;refine BP rfl (fun _=>BL rfl rfl (ih (n - 1) Ax (ps.drop 1) y x z1 Ab (hsp.args _ (List.mem_of_getElem? hy)) (fun p hp=>h3 p (List.mem_of_mem_drop hp)) Ab e1) rfl) trivial (BP O (fun _=>Cg Bk O O Ax AN) Az (FH O O (Dj (i:=0) (j:=((x1:Int).toNat)) Bg O O O AN O (Ht _) (BM _) (FD _) (Ow ((BH t).2) ((x1:Int).toNat) z1)) AB Az (Hg O As (A6 (A5 A7 2 [1] O (Bx (Cj (t:=9) (x:= .vs (some b) (BN ((((BH t).2)).set ((x1:Int).toNat) z1)).length cp) (Cn ((BH t).2) (l':=(((BH t).2)).set ((x1:Int).toNat) z1) Ay)) (Bx (Cj (t:=21) (x:= .vs (some b) (BN ((((BH t).2)).set ((x1:Int).toNat) z1)).length cp) (Cn ((BH t).2) (l':=(((BH t).2)).set ((x1:Int).toNat) z1) Ay)) ?_)))))))
  refine Bx (Cj (t:=22) (x:= .vs (some b) (BN ((((BH t).2)).set ((x1:Int).toNat) z1)).length cp) (Cn ((BH t).2) (l':=(((BH t).2)).set ((x1:Int).toNat) z1) Ay)) (Bx (Cj (t:=26) (x:= .vs (some b) (BN ((((BH t).2)).set ((x1:Int).toNat) z1)).length cp) (Cn ((BH t).2) (l':=(((BH t).2)).set ((x1:Int).toNat) z1) Ay)) (Bx (Cj (t:=38) (x:= .vs (some b) (BN ((((BH t).2)).set ((x1:Int).toNat) z1)).length cp) (Cn ((BH t).2) (l':=(((BH t).2)).set ((x1:Int).toNat) z1) Ay)) (Bx (Cf (i:=0) [9,21,22,26,38] O (Ds ⟨O,O,O,O,O,Az⟩)) (A0 O (BL O O (EH ((BH t).1) ((((BH t).2)).set ((x1:Int).toNat) z1) Aa) O) (A1 A7 1 [1,1] O (A9 (⟨O,_,_,⟨_,_,O,(BI (i:=1) Bg O O Ap),O⟩,(List.nil_sublist _),?_⟩)))))))
  all_goals exact⟨by show (.agg ((Bb (apply ((BH t).1) ((((BH t).2)).set ((x1:Int).toNat) z1))).map .p):AV)=_;rw[e2],rfl⟩
theorem _root_.Go.AK {α:Prop}(h:α:=by simp only[List.length_map,List.length_nil,List.length_cons,List.length_append];omega):α:=h
theorem db:∀(l:List Int) (n:Int),(l.length<549755813888)→Ep Tryz.prog 88 [.p (.lst (List.map FT l)),.p (I n)] (.p (.lst (List.map FT (l++[n])))):=by
 intro l n h1;refine BF Tryz.func88 O qk (n:=12) O O (A3 A7 1 [] O (A6 (L8 O (Bx (DS (t:=5) (sz:=1) O) (Bq O (A6 (A5 A7 2 [] O (EN O O (CE (i:=0) (rows':=List.map FT l) Fp Fp cH O O O O O O (JM _) AK (FX (f:=FT) [] l)) fun o cp=>B3 O (A0 O (Br Fp cH O O O O O) (EN O O (CE (i:=0) (rows':=List.map FT [n]) Fp Fp cH O O O O O O (JM _) AK (FX (f:=FT) l [n])) fun o1 cp1=>A1 A7 1 [] O (BQ (Cf (i:=0) [4,11] O (Ds ⟨O,O,Az⟩)) (A9 (⟨O,_,_,⟨_,_,O,O,O⟩,(List.nil_sublist _),?_⟩)))))))))))))
 all_goals exact⟨rfl,rfl⟩
def tZ (ds:List CX) (n:Nat):Prop:=∀(b:Nat) (t:Tm) (c c2:EK) (q:Option Tm),DY ds Dh n c t= .ok (q,c2)→B2 Tryz.prog 17 [.p (.lst (List.map Bu ds)),.agg ((Bb t).map .p),.ptr b 0] [.box b ((He c).map .p)] (Gj (.tup [TV (q.getD Bp),.p (.bool q.isSome)]) [.box b ((He c2).map .p)])
theorem _root_.Go.AG {α:Prop}(h:α:=by simp only[Bc,List.length_append,List.nil_append,List.length_nil,List.length_map];omega):α:=h
set_option maxHeartbeats 4000000 in
theorem XO:∀(n:Nat) (ds:List CX) (g:Tm) (f:Hi) (a:List Tm) (d:CX) (b:Nat) (c c2:EK) (q:Option Tm),(tZ ds n)→(Gz ds)→(d∈ds)→(f∈d.funs)→(f.arity≤a.length)→(okB g=true)→(a.length<549755813888)→(∀y∈a,okB y=true)→(GX ds Dh (DY ds Dh n) g f.arity a n f.tree (a.take f.arity.toNat) (O2 f.arity.toNat) c= .ok (q,c2))→B2 Tryz.prog 51 [.p (.lst (List.map Bu ds)),.agg ((Bb g).map .p),.agg ((FJ f).map .p),.p (.lst (BN a)),.ptr b 0] [.box b ((He c).map .p)] (Gj (.tup [.agg ((Bb (q.getD Bp)).map .p),.p (.bool q.isSome)]) [.box b ((He c2).map .p)]):=by
 intro n ds g f a d b c c2 q hT h2 h4 h5 h6 h7 h8 h9 hX;obtain⟨gk,gi,gn,gl,gs⟩:=g;have hgo:=CJ.1 h7;have hgl:=hgo.nd;simp only[Nd,Dq] at hgl;have hfu:=(h2.g.all _ h4).fu _ h5;have hdp:=h2.fu _ h4 _ h5;have hlf:=OQ h2 h4 h5 h9;have htl:(a.take f.arity.toNat).length=f.arity.toNat:=by rw[List.length_take];omega
 have hpw:=Vo a f.arity.toNat f.tree Ax Ax;refine BF Tryz.func51 O rH (n:=183) O O (A6 (BO O (Ba O) fun b6=>BO O (Ba O) fun b7=>BO O (BG B4 O) fun b10=>A1 A7 1 [] O (A6 (L8 O (Bx (DS (t:=12) (sz:=5) O) (Bq O (A6 (L8 O (Bx (DS (t:=13) (sz:=2) O) (Bq O (A2 (A3 A7 1 [] O (BJ ?_)))))))))))));refine Bn (α:=Nat×Option Nat×Nat×Option Nat×Nat) (fun(i,o,cp,o1,cp1)=>⟨183,mk [(0,.p (.lst (List.map Bu ds))),(3,.p (.lst (BN a))),(4,.ptr b 0),(6,.ptr b6 0),(7,.ptr b7 0),(10,.ptr b10 0),(12,.vs o (BN (a.take i)).length cp),(13,.vs o1 (List.map DT (O2 i)).length cp1),(14,.p (I (i:Int)))],[.vec o1 2 (List.map DT (O2 i)) cp1,.vec o 5 (BN (a.take i)) cp,.box b10 [.p (I 0),.p (I 0),.p (.str ⟨#[]⟩),.p (.nils),.p (.nils)],.box b7 ((FJ f).map .p),.box b6 [.p (I gk),.p (I gi),.p (.str gn),.p (.lst (List.map B9 gl)),.p (.lst (BN gs))],.box b ((He c).map .p)],[]⟩) (fun(i,o,cp,o1,cp1)=>(a.take f.arity.toNat).length - i) (fun(i,o,cp,o1,cp1)=>i≤(a.take f.arity.toNat).length) ⟨0,none,0,none,0⟩ AW ?_ ?_
 ·exact Bh ⟨we O,we O,we O,we O,we O,we O,we O,we O,we O,Az⟩ (leH (is:=[0,1,2,3,4,5]) O (wl (oe O) (wl (oe O) (wl (oe O) (wl (oe O) (wl (oe O) (wl (oe O) (DJ))))))))
 rintro⟨i,o,cp,o1,cp1⟩ hC
 try simp only at hC
 have hi:=hC;refine A2 (A6 (A5 A7 2 [] O (A0 O (BB (i:=3) DO O O (CU _)) (A1 A7 1 [] O (A4 O (fun c1=>?_) (fun c1=>?_))))))
 ·(try simp only[sd,se] at c1);refine BA (A2 (BJ (BC (A5 A7 3 [] O ?_))));obtain⟨x,hx⟩:=BE (l:=a) (i:=i) Ax;refine A0 O (BD Bk O O Ax (Bj hx) (BM _)) (A0 O (BU Bg O (BM _)) ?_);obtain⟨xk,xi,xn,xl,xs⟩:=x;refine A0 O (Br Bk B4 O O O O O) (EN O O (CE (i:=1) (rows':=BN [(.mk xk xi xn xl xs:Tm)]) Bk Bk B4 O O O O O O (B1 _) (by simp only[Bc,List.length_take,List.length_cons,List.length_nil];omega) (Hk (a.take i) [(.mk xk xi xn xl xs:Tm)])) fun o2 cp2=>A5 A7 3 [] O (A0 O (Br RX XS O O O O O) (EN O O (CE (i:=0) (rows':=List.map DT ([((i:Int),[])])) RX RX XS O O O O O O (T7 _) AO (FX (f:=DT) (O2 i) ([((i:Int),[])]))) fun o3 cp3=>A1 A7 2 [] O (BC (A1 A7 3 [] O ?_)))));refine⟨⟨i+1,o2,cp2,o3,cp3⟩,Ac,by omega,Bh ⟨we rfl,we rfl,we rfl,we rfl,we rfl,we rfl,we (IA (a.take i++[(.mk xk xi xn xl xs:Tm)]) ((IL hx).symm)),we (FI (f:=DT) (O2 i++([((i:Int),[])])) ((Oc i).symm)),we rfl,trivial⟩ (leH (is:=[0,1,2,3,4,5]) rfl (wl (Ei (f:=DT) (O2 i++([((i:Int),[])])) ((Oc i).symm)) (wl (HR (a.take i++[(.mk xk xi xn xl xs:Tm)]) ((IL hx).symm)) (wl (oe rfl) (wl (oe rfl) (wl (oe rfl) (wl (oe rfl) (DJ))))))))⟩
 (try simp only[sd,se] at c1);refine Bo (A6 (A0 O (A8 Gw O O) (A0 O (B6 (i:=3) JJ O O (D5 _) (Cy _)) (BO O (BG Sk O) fun b15=>A1 A7 1 [0,1] O (A2 (BJ ?_))))));refine Bn (α:=Nat×FY×List Tm×List (Int×List Int)×Option Nat×Nat×Option Nat×Nat) (fun(k2,w,us,pl,o2,cp2,o3,cp3)=>⟨183,mk [(0,.p (.lst (List.map Bu ds))),(3,.p (.lst (BN a))),(4,.ptr b 0),(6,.ptr b6 0),(7,.ptr b7 0),(10,.ptr b10 0),(12,.vs o2 (BN us).length cp2),(13,.vs o3 (List.map DT pl).length cp3),(15,.ptr b15 0)],[.box b15 ((C5 w).map .p),.vec o3 2 (List.map DT pl) cp3,.vec o2 5 (BN us) cp2,.box b10 [.p (I 0),.p (I 0),.p (.str ⟨#[]⟩),.p (.nils),.p (.nils)],.box b7 ((FJ f).map .p),.box b6 [.p (I gk),.p (I gi),.p (.str gn),.p (.lst (List.map B9 gl)),.p (.lst (BN gs))],.box b ((He c).map .p)],[]⟩) (fun(k2,w,us,pl,o2,cp2,o3,cp3)=>k2) (fun(k2,w,us,pl,o2,cp2,o3,cp3)=>GX ds Dh (DY ds Dh n) (.mk gk gi gn gl gs:Tm) f.arity a k2 w us pl c= .ok (q,c2)∧SD w us∧gq a us pl w) ⟨n,f.tree,a.take f.arity.toNat,O2 f.arity.toNat,o,cp,o1,cp1⟩ (⟨hX,hlf,hpw⟩) ?_ ?_
 ·exact Bh ⟨we O,we O,we O,we O,we O,we O,we (IA (a.take i) (by rw[show i=f.arity.toNat from by omega])),we (FI (f:=DT) (O2 i) (by rw[show i=f.arity.toNat from by omega])),we O,Az⟩ (leH (is:=[0,1,2,3,4,5,6]) O (wl (oe O) (wl (Ei (f:=DT) (O2 i) (by rw[show i=f.arity.toNat from by omega])) (wl (HR (a.take i) (by rw[show i=f.arity.toNat from by omega])) (wl (oe O) (wl (oe O) (wl (oe O) (wl (oe O) (DJ)))))))))
 rintro⟨k2,w,us,pl,o2,cp2,o3,cp3⟩ hC1
 try simp only at hC1
 obtain⟨hC1,hL,hW⟩:=hC1;obtain⟨k1,rfl⟩:=WH hC1 Ay;refine A2 (A6 (A0 O (A8 FK O O) (A0 O (BB (i:=0) DO O O (F6 _)) (A1 A7 1 [] O (A4 O (fun c3=>?_) (fun c3=>?_))))))
 ·(try simp only[sd,se] at c3);have hk1:=c3;refine BA (BJ (A2 (A2 (Be [0,3,4,6,7,10,12,13,15] 61 (fun y=>y= .p (.bool ((decide ((w.var:Int)<(0:Int)))||(decide ((w.var:Int)≥((us.length:Nat):Int)))))) ?_ ?_))))
  ·refine BC (A0 O (A8 FK O O) (A0 O (BB (i:=0) DO O O (C0 _)) (A5 A7 2 [] O (BY 55 O (fun g1=>?_) (fun g1=>?_)))))
   ·(try simp only[sd,se] at g1);exact A1 A7 6 [] O (⟨O,O,AP,AJ,⟨O,O,O,O,O,O,O,O,O,Az⟩⟩)
   (try simp only[sd,se] at g1);exact BK O (A8 FK O O) (BK O (BB (i:=0) DO O O (C0 _)) (BK O (Bi O) (BK O (Jf Bk O (Bc _)) (A1 A7 2 [] O (⟨O,O,AP,AJ,⟨O,O,O,O,O,O,O,O,O,Az⟩⟩)))))
  rintro _ rfl;refine A4 O (fun c4=>?_) (fun c4=>?_)
  ·(try simp only[sd,se] at c4);have hq:=(Zi hk1 (by simpa using c4)).symm.trans hC1;cases hq;refine A3 A7 3 [3,0] O (BQ (Bd (i:=3) O) (A9 (⟨O,_,_,⟨_,_,O,(BI (i:=3) Bg O O O),⟨_,_,O,O,O⟩⟩,(CC (is:=[6]) O),?_⟩)))
   all_goals exact⟨rfl,rfl⟩
  (try simp only[sd,se] at c4);have hcb:¬(w.var<0∨w.var≥(us.length:Int)):=by simpa using c4
  have hWl:=hW.len;have hLl:=hL.len;refine BA (A6 (A5 A7 2 [] O (A0 O (BB (i:=0) DO O O (C0 _)) (Ju (i:=1) O AG fun b1 hb=>?_))));subst hb;refine A0 O (Cg RX O O Ax AG) ?_;obtain⟨y,hy⟩:=BE (l:=pl) (i:=(w.var:Int).toNat) Ag;refine A0 O (Da (i:=1) pU O O (N9 hy)) (BO O (BG XS O) fun b16=>A1 A7 1 [0,1] O (A6 (A5 A7 3 [] O (A0 O (BB (i:=1) DO O O (C0 _)) (Ju (i:=3) O AG fun b2 hb1=>?_)))));subst hb1;refine A0 O (Cg Bk O O Ax AG) ?_;obtain⟨y1,hy1⟩:=BE (l:=us) (i:=(w.var:Int).toNat) Ag;refine A0 O (Da (i:=3) Bg O O (Bj hy1)) (A0 O (BL O O (OX ds y1 h2.g (hL.ok _ (List.mem_of_getElem? hy1))) O) (A5 A7 5 [] O (BO O (BG Iz O) fun b17=>A1 A7 4 [0,1] O (A2 (A3 A7 2 [] O (A4 O (fun c5=>?_) (fun c5=>?_)))))))
  ·(try simp only[sd,se] at c5);have hcn:=Kt c5;obtain⟨ha1,ha2,ha3,ha4⟩:=hW.at_ hy1 hy;obtain⟨ya,hya⟩:=BE ha4;refine A6 (A5 A7 3 [] O (A0 O (BB (i:=2) DO O O (C0 _)) (A0 O (Cg Bk O O Ax AG) ?_)));obtain⟨y2,hy2⟩:=BE (l:=us) (i:=(w.var:Int).toNat) Ag;refine A0 O (Da (i:=4) Bg O O (Bj hy2)) (B3 O ?_);have hyy:y2=y1:=Option.some.inj (hy2.symm.trans hy1);obtain⟨⟨sq,d2⟩,hs1,hs2⟩:=GN ((Ws hk1 hcb hy2 hy (by rw[hyy];exact hcn)).symm.trans hC1);refine A0 O (CF [8] O (.inl ⟨O,O,O⟩) (hT b y2 c d2 sq hs1) ⟨_,_,O,O,O⟩ Aw O (.inl O)) (A5 A7 3 [] O (BO O (BG B4 O) fun b21=>A1 A7 2 [0,1] O (A2 (A3 A7 2 [] O (A4 O (fun c6=>?_) (fun c6=>?_))))))
   ·(try simp only[sd,se] at c6);rw[S0 c6] at hs2;cases hs2;refine A3 A7 3 [6,0] O (BQ (Bd (i:=6) O) (A9 (⟨O,_,_,⟨_,_,O,(BI (i:=6) Bg O O O),⟨_,_,O,O,O⟩⟩,(CC (is:=[9]) O),?_⟩)))
    all_goals exact⟨rfl,rfl⟩
   (try simp only[sd,se] at c6);obtain⟨z1,hz1,hz2⟩:=UK (by rw[hs2];simp) c6 hya;rw[hz2] at hs2;cases hs2;refine BA (A6 (L8 O (Bx (DS (t:=23) (sz:=5) O) (Bq O (A6 (A5 A7 2 [] O (EN O O (CE (i:=0) (rows':=BN a) Bk Bk B4 O O O O O O (B1 _) AY (Hk [] a)) fun o4 cp4=>A1 A7 1 [] O (A2 (Ib (i:=0) O AG fun b3 hb2=>?_)))))))));subst hb2;refine B0 (fun k=>false) Dt (BZ A7 6 [3,3] O (BP O (fun _=>Cg Bk O O Ax AG) Az ?_));obtain⟨y3,hy3⟩:=BE (l:=a) (i:=(y.1:Int).toNat) Ag;refine CY (j:=0) O O O (fun H i hi=>Da (i:=i) Bg O hi (Bj hy3)) AB Az (BZ A7 3 [3,1] O ?_);have hyy:=Option.some.inj (hy3.symm.trans hya);refine BP O (fun _=>BL O O (cz y.2.length y.2 y3 (sq.getD Bp) z1 (Nat.le_refl _) (h9 _ (List.mem_of_getElem? hy3)) ha2 Ax (by rw[hyy];exact hz1)) O) Az (BP O (fun _=>Cg Bk O O Ax AG) Az (FH O O (Dj (i:=0) (j:=((y.1:Int).toNat)) Bg O O O AN O (Ht _) (BM _) (FD _) (Ow a ((y.1:Int).toNat) z1)) AB Az (Hg O As (A6 (A5 A7 2 [9] O (Bx (Cj (t:=23) (x:= .vs (some b3) (BN ((a).set ((y.1:Int).toNat) z1)).length cp4) (Cn a (l':=(a).set ((y.1:Int).toNat) z1) Ay)) (Bx (Cj (t:=98) (x:= .vs (some b3) (BN ((a).set ((y.1:Int).toNat) z1)).length cp4) (Cn a (l':=(a).set ((y.1:Int).toNat) z1) Ay)) ?_)))))));refine Bx (Cj (t:=99) (x:= .vs (some b3) (BN ((a).set ((y.1:Int).toNat) z1)).length cp4) (Cn a (l':=(a).set ((y.1:Int).toNat) z1) Ay)) (Bx (Cj (t:=102) (x:= .vs (some b3) (BN ((a).set ((y.1:Int).toNat) z1)).length cp4) (Cn a (l':=(a).set ((y.1:Int).toNat) z1) Ay)) (Bx (Cj (t:=113) (x:= .vs (some b3) (BN ((a).set ((y.1:Int).toNat) z1)).length cp4) (Cn a (l':=(a).set ((y.1:Int).toNat) z1) Ay)) (Bx (Cf (i:=0) [23,98,99,102,113] O (Ds ⟨O,O,O,O,O,Az⟩)) (A0 O (BL O O (EH (.mk gk gi gn gl gs:Tm) ((a).set ((y.1:Int).toNat) z1) Aa) O) (A1 A7 2 [6,1] O (A9 (⟨O,_,_,⟨_,_,O,(BI (i:=6) Bg O O Ap),⟨_,_,O,O,O⟩⟩,(CC (is:=[9]) O),?_⟩)))))))
   all_goals exact⟨rfl,rfl⟩
  (try simp only[sd,se] at c5);obtain⟨ha1,ha2,ha3,ha4⟩:=hW.at_ hy1 hy;have hcs:=Jv c5;have hcf:=Ek hcs;have hlo:=hcf.lo;have hhi:=hcf.hi;have hfl:=Ir h2.g hcs;have hdf:=(h2.g.all _ hcf.mem).fx;refine BA (A2 (B0 (fun k=>Nat.beq k 11) Dt (BZ A7 2 [2] O (CY (j:=0) O O O (fun H i hi=>BB (i:=i) HY O hi (CH _)) AB Az (BP O (fun _=>Bi O) Az ?_)))));obtain⟨x,hx⟩:=BE (l:=((CA ds y1).1).ctors) (i:=((CA ds y1).2.1:Int).toNat) Ax;refine BP O (fun _=>BD HN O O Ax (EU hx) (D8 _)) Az (BP O (fun _=>B7 Iq O O) Az (BP O (fun _=>DA Lg O (FQ _)) Az (BP O (fun _=>BL O O (Tz w x.name hL.tin.bl) O) Az (BZ A7 3 [] O (GA [] O O (BG Sk O) As fun b24=>⟨AB,Az,?_⟩)))));refine Bt A7 2 [0,1] O (A2 (A3 A7 2 [] O (A4 O (fun c6=>?_) (fun c6=>?_))))
  ·(try simp only[sd,se] at c6);have hq:=(gZ hk1 hcb hy1 hy hcs (by rw[El,CI hx];exact WO c6)).symm.trans hC1;cases hq;refine A3 A7 3 [6,0] O (BQ (Bd (i:=6) O) (A9 (⟨O,_,_,⟨_,_,O,(BI (i:=6) Bg O O O),⟨_,_,O,O,O⟩⟩,(CC (is:=[9]) O),?_⟩)))
   all_goals exact⟨rfl,rfl⟩
  (try simp only[sd,se] at c6);have hbs:=Wl c6;rw[fB hk1 hcb hy1 hy hcs (by rw[El,CI hx];exact hbs)] at hC1;refine BA (A3 A7 2 [0,3,1] O (A3 A7 1 [] O (BJ ?_)));refine Bn (α:=Nat×Option Nat×Nat×Option Nat×Nat) (fun(i,o4,cp4,o5,cp5)=>⟨183,mk [(0,.p (.lst (List.map Bu ds))),(3,.p (.lst (BN a))),(4,.ptr b 0),(6,.ptr b6 0),(7,.ptr b7 0),(10,.ptr b10 0),(12,.vs o4 (BN (us++(CA ds y1).2.2.1.take i)).length cp4),(13,.vs o5 (List.map DT (pl++De y (CA ds y1).1.fixed i)).length cp5),(15,.ptr b15 0),(16,.ptr b16 0),(17,.ptr b17 0),(19,.p (.lst (BN ((CA ds y1).2.2.1)))),(25,.p (I (i:Int)))],[.box b17 ((Bu ((CA ds y1).1)).map .p),.box b16 ((DT y).map .p),.box b15 ((C5 ((XR x.name w.branches).1)).map .p),.vec o5 2 (List.map DT (pl++De y (CA ds y1).1.fixed i)) cp5,.vec o4 5 (BN (us++(CA ds y1).2.2.1.take i)) cp4,.box b10 [.p (I 0),.p (I 0),.p (.str ⟨#[]⟩),.p (.nils),.p (.nils)],.box b7 ((FJ f).map .p),.box b6 [.p (I gk),.p (I gi),.p (.str gn),.p (.lst (List.map B9 gl)),.p (.lst (BN gs))],.box b ((He c).map .p)],[]⟩) (fun(i,o4,cp4,o5,cp5)=>(CA ds y1).2.2.1.length - i) (fun(i,o4,cp4,o5,cp5)=>i≤(CA ds y1).2.2.1.length) ⟨0,(some b2),cp2,(some b1),cp3⟩ AW ?_ ?_
  ·exact Bh ⟨we O,we O,we O,we O,we O,we O,we (IA us Ay),we (FI (f:=DT) pl (by simp[JF])),we O,we O,we O,we O,we O,Az⟩ (leH (is:=[1,2,3,4,5,6,7,8,9]) O (wl (oe O) (wl (oe O) (wl (oe O) (wl (Ei (f:=DT) pl (by simp[JF])) (wl (HR us Ay) (wl (oe O) (wl (oe O) (wl (oe O) (wl (oe O) (DJ)))))))))))
  rintro⟨i,o4,cp4,o5,cp5⟩ hC2
  try simp only at hC2
  have hi:=hC2;refine A2 (A6 (A5 A7 2 [] O (A0 O (BT Bk O (Bc _)) (A1 A7 1 [] O (A4 O (fun c7=>?_) (fun c7=>?_))))))
  ·(try simp only[sd,se] at c7);refine BA (A2 (BJ (B0 (fun k=>Nat.beq k 6||Nat.beq k 19) Dt (BZ A7 3 [] O ?_))));obtain⟨x1,hx1⟩:=BE (l:=(CA ds y1).2.2.1) (i:=i) Ax;refine BP O (fun _=>BD Bk O O Ax (Bj hx1) (BM _)) Az (BZ A7 1 [] O ?_);obtain⟨x1k,x1i,x1n,x1l,x1s⟩:=x1;refine BP O (fun _=>Br Bk B4 O O O O O) Az ?_;refine JZ [(7,.free (.vs o5 (List.map DT (pl++De y (CA ds y1).1.fixed i)).length cp5)),(8,.free (.ptr b16 0)),(9,.read [.box b16 [.p (I y.1),.p (.lst (List.map FT y.2))]] (.p (I y.1))),(10,.free (.ptr b16 1)),(11,.read [.box b16 [.p (I y.1),.p (.lst (List.map FT y.2))]] (.p (.lst (List.map FT y.2)))),(12,.free (.ptr b17 13)),(13,.read [.box b17 ((Bu ((CA ds y1).1)).map .p)] (.p (I (((CA ds y1).1).fixed)))),(14,.free (.p (I (i:Int)))),(15,.free (.p (I ((((CA ds y1).1).fixed:Int)+((i:Int):Int)))))] O O (CE (i:=4) (rows':=BN [(.mk x1k x1i x1n x1l x1s:Tm)]) Bk Bk B4 O O O O O O (B1 _) (by have:=hL.len;have:=hW.len;simp only[Bc,MP,H9,List.length_take,List.length_map,List.length_cons,List.length_nil,List.length_append];omega) (Hk (us++(CA ds y1).2.2.1.take i) [(.mk x1k x1i x1n x1l x1s:Tm)])) As fun o6 cp6=>⟨AB,Az,?_⟩;refine BZ A7 6 [1,1] O (CY (j:=0) O O O (fun H i hi=>BB (i:=i) DO O hi (Cv _)) AB AR (BZ A7 2 [] O (BP O (fun _=>BL O O (db y.2 ((((CA ds y1).1).fixed:Int)+((i:Int):Int)) Ax) O) AR (BZ A7 1 [] O (BP O (fun _=>Br RX XS O O O O O) AR (JZ [] O O (CE (i:=3) (rows':=List.map DT ([(y.1,(y.2++[((((CA ds y1).1).fixed:Int)+((i:Int):Int))]))])) RX RX XS O O O O O O (T7 _) (by have:=hL.len;have:=hW.len;simp only[Bc,MP,H9,List.length_take,List.length_map,List.length_cons,List.length_nil,List.length_append];omega) (FX (f:=DT) (pl++De y (CA ds y1).1.fixed i) ([(y.1,(y.2++[((((CA ds y1).1).fixed:Int)+((i:Int):Int))]))]))) As fun o7 cp7=>⟨AB,AR,?_⟩))))));refine Bt A7 2 [] O (BC (A1 A7 3 [] O ?_))
   refine⟨⟨i+1,o6,cp6,o7,cp7⟩,Ac,by omega,Bh ⟨we rfl,we rfl,we rfl,we rfl,we rfl,we rfl,we (IA (us++(CA ds y1).2.2.1.take i++[(.mk x1k x1i x1n x1l x1s:Tm)]) (by rw[IL hx1,List.append_assoc])),we (FI (f:=DT) (pl++De y (CA ds y1).1.fixed i++([(y.1,(y.2++[((((CA ds y1).1).fixed:Int)+((i:Int):Int))]))])) (by rw[JD,List.append_assoc])),we rfl,we rfl,we rfl,we rfl,we rfl,trivial⟩ (leH (is:=[0,1,2,3,4,5,6,7,8]) rfl (wl (oe rfl) (wl (oe rfl) (wl (oe rfl) (wl (Ei (f:=DT) (pl++De y (CA ds y1).1.fixed i++([(y.1,(y.2++[((((CA ds y1).1).fixed:Int)+((i:Int):Int))]))])) (by rw[JD,List.append_assoc])) (wl (HR (us++(CA ds y1).2.2.1.take i++[(.mk x1k x1i x1n x1l x1s:Tm)]) (by rw[IL hx1,List.append_assoc])) (wl (oe rfl) (wl (oe rfl) (wl (oe rfl) (wl (oe rfl) (DJ)))))))))))⟩
  (try simp only[sd,se] at c7);refine Bo ?_;refine⟨⟨k1,(XR x.name w.branches).1,us++(CA ds y1).2.2.1,pl++De y (CA ds y1).1.fixed (CA ds y1).2.2.1.length,o4,cp4,o5,cp5⟩,Ac,⟨hC1,hL.next h2.g (hL.ok _ (List.mem_of_getElem? hy1)) hcs hbs,hW.next h2.g hy1 hy hcs hbs hL.tok⟩,Bh ⟨we O,we O,we O,we O,we O,we O,we (IA (us++(CA ds y1).2.2.1.take i) (by rw[Ou Ax])),we (FI (f:=DT) (pl++De y (CA ds y1).1.fixed i) (by rw[show i=(CA ds y1).2.2.1.length from by omega])),we O,Az⟩ (leH (is:=[2,3,4,5,6,7,8]) O (wl (oe O) (wl (Ei (f:=DT) (pl++De y (CA ds y1).1.fixed i) (by rw[show i=(CA ds y1).2.2.1.length from by omega])) (wl (HR (us++(CA ds y1).2.2.1.take i) (by rw[Ou Ax])) (wl (oe O) (wl (oe O) (wl (oe O) (wl (oe O) (DJ)))))))))⟩
 (try simp only[sd,se] at c3);have hk1:=c3;have hLl:=hL.len;rw[XD hk1] at hC1;refine Bo (A6 (A0 O (A8 FK O O) (A0 O (B6 (i:=0) Bg O O (Ew _) (BM _)) (A5 A7 2 [5] O (A0 O (BL O O (Kp w.body gl (CJ.1 (Kv hL.tok)).nd hgl.2.1 hgl.2.2.1) O) (A5 A7 3 [] O (BO O (BG B4 O) fun b26=>A1 A7 2 [0,1] O (A2 (A3 A7 2 [] O (A4 O (fun c4=>?_) (fun c4=>?_)))))))))))
 ·(try simp only[sd,se] at c4);have hq:=(JU (h:=(.mk gk gi gn gl gs:Tm)) c4).symm.trans hC1;cases hq;refine A3 A7 3 [4,0] O (BQ (Bd (i:=4) O) (A9 (⟨O,_,_,⟨_,_,O,(BI (i:=4) Bg O O O),⟨_,_,O,O,O⟩⟩,(CC (is:=[7]) O),?_⟩)))
  all_goals exact⟨rfl,rfl⟩
 (try simp only[sd,se] at c4);obtain⟨hb1,hb2,hb3,hb4⟩:=QZ (by rw[hC1];simp) c4;rw[hb4] at hC1;obtain⟨hpo,hpe⟩:=HH (h:=(by rw[hC1];simp));rw[hpe] at hC1;cases hC1;refine BA (A2 (BQ (Cf (i:=3) [12] O (Ds ⟨O,Az⟩)) (B0 (fun k=>Nat.beq k 7) Dt (BZ A7 2 [0] O (BP O (fun _=>BL O O (N7 us Ai) O) Az (BP O (fun _=>BL O O (Kg ((By w.body gl).1) us.reverse (by have:=FA (t:=(By w.body gl).1) hb1;omega) (CJ.1 hb1).nd (E8 (YB hb2)).1 (by rw[PU];omega)) O) Az (BZ A7 3 [] O (GA [] O O (BG B4 O) As fun b28=>⟨AB,Az,?_⟩))))))));refine Bt A7 2 [0,1] O (A2 (B0 (fun k=>false) Dt (BZ A7 3 [0] O (FH O O (CF [7] O (.inl ⟨O,O,O⟩) (Fb b c ((CT ((By w.body gl).1) us.reverse 0).1) ((CT ((By w.body gl).1) us.reverse 0).2) (CJ.1 hpo).nd) ⟨_,_,O,O,O⟩ Aw O (.inl O)) AB Az (BZ A7 2 [] O (CY (j:=5) O O O (fun H i hi=>BB (i:=i) DO O hi (CU _)) AB Az (BP O (fun _=>Cc (lo:=(f.arity:Int).toNat) Bk O (CM (B1 _)) ⟨_,pI Ax⟩ O AX (Nat.le_refl _) (I6 a ((f.arity:Int).toNat))) Az (BP O (fun _=>BL O O (EH ((CT ((By w.body gl).1) us.reverse 0).1) (a.drop ((f.arity:Int).toNat)) AZ) O) Az (Bt A7 2 [4,1] O (A9 (⟨O,_,_,⟨_,_,O,(BI (i:=4) Bg O O Ap),⟨_,_,O,O,O⟩⟩,(CC (is:=[7]) O),?_⟩)))))))))))
 all_goals exact⟨rfl,rfl⟩
theorem _root_.Go.AS {α:Prop}(h:α:=by simp only[Dq,List.length_drop,List.length_set];omega):α:=h
set_option maxHeartbeats 4000000 in
theorem fU:∀(ds:List CX) (hE:Gz ds) (n:Nat),tZ ds n:=by
 intro ds hE n
 induction n using Nat.strongRecOn with
 | ind n ih =>
  intro b t c c2 q hC;have h2:=hE;obtain⟨k,rfl⟩:=WN hC Ay;have hwo:=ZD hC Ay;have hsp:=Rp hwo;have hsl:=hsp.len;have hss:=hsp.sz;have hsa:=hsp.asz;refine BF Tryz.func17 O sR (n:=231) O O (A6 (BO O (Ba O) fun b4=>BO O (BG B4 O) fun b6=>A1 A7 1 [] O (A6 (A0 O (Bf (i:=1) Bg O O Ap) (A0 O (BL O O (Nu _ t (Nat.le_refl _) Ai) O) (A5 A7 3 [] O (BO O (BG B4 O) fun b8=>A1 A7 2 [0,1] O (A2 (A6 (A0 O (A8 HA O O) ?_))))))))));generalize hz:(BH t).1=z;obtain⟨zk,zi,zn,zl,zs⟩:=z;have hzo:okB (.mk zk zi zn zl zs)=true:=hz▸hsp.head;have hzq:=hz;have hzl:=Hr hzo;have hzn:=(CJ.1 hzo).nd;refine A1 A7 1 [0] O (BJ (A2 (A3 A7 2 [] O (Be [0,2,6,8,9,34] 35 (fun y=>y= .p (.bool (decide (zk=5∨zk=11)))) ?_ ?_))))
  ·refine A4 O (fun c1=>?_) (fun c1=>?_)
   ·(try simp only[sd,se] at c1);exact BA (⟨O,O,(List.Sublist.refl _),(by refine pB (Bool.eq_iff_iff.2 ?_);simp only[beq_iff_eq,decide_eq_true_eq];omega),⟨O,O,O,O,O,O,Az⟩⟩)
   (try simp only[sd,se] at c1);exact BC (A1 A7 2 [] O (⟨O,O,(List.Sublist.refl _),(by refine pB (Bool.eq_iff_iff.2 ?_);simp only[beq_iff_eq,decide_eq_true_eq];omega),⟨O,O,O,O,O,O,Az⟩⟩))
  rintro _ rfl;refine A4 O (fun c1=>?_) (fun c1=>?_)
  ·(try simp only[sd,se] at c1);have hk511:zk=5∨zk=11:=by simpa using c1
   refine A2 (A2 (Be [2,6,8,9] 45 (fun y=>y= .p (.bool (((zk:Int)==(5:Int))&&(((((BH t).2).length:Nat):Int)==(0:Int))))) ?_ ?_))
   ·refine BC (A5 A7 4 [0] O (BY 41 O (fun g=>?_) (fun g=>?_)))
    ·(try simp only[sd,se] at g);exact BK O (Bi O) (BK O (BT Bk O (Bc _)) (A1 A7 2 [] O (⟨O,O,AP,AJ,⟨O,O,O,O,Az⟩⟩)))
    (try simp only[sd,se] at g);exact A1 A7 4 [] O (⟨O,O,AP,AJ,⟨O,O,O,O,Az⟩⟩)
   rintro _ rfl;refine A4 O (fun c3=>?_) (fun c3=>?_)
   ·(try simp only[sd,se] at c3);have hc2:zk=5∧(BH t).2.length=0:=by simpa using c3
    have hq:=(WW hwo (by rw[hzq];exact hc2.1) Ax).symm.trans hC;cases hq;refine A3 A7 3 [1,0] O (BQ (Bd (i:=1) O) (A9 (⟨O,_,_,⟨_,_,O,(BI (i:=1) Bg O O O),⟨_,_,O,O,O⟩⟩,(CC (is:=[3]) O),?_⟩)))
    all_goals exact⟨rfl,rfl⟩
   (try simp only[sd,se] at c3);have hc2:¬(zk=5∧(BH t).2.length=0):=by simpa using c3
   refine BA (A2 (A3 A7 3 [0] O (A4 O (fun c4=>?_) (fun c4=>?_))))
   ·(try simp only[sd,se] at c4);have hk:(BH t).1.kind=5:=by rw[hzq];exact c4
    refine A2 (B0 (fun k=>Nat.beq k 10) Dt (BZ A7 2 [0] O ?_));obtain⟨x,hx⟩:=BE (l:=zs) (i:=1) Ax;have hxo:=E0 hzo (i:=1) hx;have hq:=(ZK hwo hk Ax (by rw[hzq];exact hx)).symm.trans hC;obtain⟨hpo,hpe⟩:=HH (h:=(by rw[hq];simp));rw[hpe] at hq;cases hq;refine BP O (fun _=>BD Bk O O Ax (Bj hx) (BM _)) Az (BZ A7 2 [] O (BP O (fun _=>Cc (lo:=0) (hi:=1) Bk O (CM (B1 _)) O ⟨_,O⟩ (Nat.zero_le _) AX (M1 ((BH t).2) 1)) Az (BP O (fun _=>BL O O (Kg x (((BH t).2).take 1) (by have:=FA hxo;omega) (CJ.1 hxo).nd (Sz hsp.args) (by have:=DL (BH t).2 1;omega)) O) Az (BZ A7 3 [] O (GA [] O O (BG B4 O) As fun b10=>⟨AB,Az,?_⟩)))));refine Bt A7 2 [0,1] O (A2 (B0 (fun k=>false) Dt (BZ A7 3 [0] O (FH O O (CF [4] O (.inl ⟨O,O,O⟩) (Fb b c ((CT x (((BH t).2).take 1) 0).1) ((CT x (((BH t).2).take 1) 0).2) (CJ.1 hpo).nd) ⟨_,_,O,O,O⟩ Aw O (.inl O)) AB Az (BP O (fun _=>Bi O) Az (BP O (fun _=>Cc (lo:=1) Bk O (CM (B1 _)) ⟨_,O⟩ O AX (Nat.le_refl _) (I6 ((BH t).2) 1)) Az (BP O (fun _=>BL O O (EH ((CT x (((BH t).2).take 1) 0).1) (((BH t).2).drop 1) AS) O) Az (Bt A7 2 [2,1] O (A9 (⟨O,_,_,⟨_,_,O,(BI (i:=2) Bg O O Ap),⟨_,_,O,O,O⟩⟩,(CC (is:=[4]) O),?_⟩))))))))))
    all_goals exact⟨rfl,rfl⟩
   (try simp only[sd,se] at c4);have hk:(BH t).1.kind=11:=by rw[hzq];show zk=11;omega
   refine BA (A2 (B0 (fun k=>Nat.beq k 11) Dt (BZ A7 2 [0] O ?_)));obtain⟨x,hx⟩:=BE (l:=zs) (i:=2) Ax;have hxo:=E0 hzo (i:=2) hx;obtain⟨v,hv⟩:=BE (l:=zs) (i:=1) Ax;have hvo:=E0 hzo (i:=1) hv;have hq:=(ZX hwo hk (by rw[hzq];exact hv) (by rw[hzq];exact hx)).symm.trans hC;rw[←Pd hv] at hq;obtain⟨hpo,hpe⟩:=HH (h:=(by rw[hq];simp));rw[hpe] at hq;cases hq;refine BP O (fun _=>BD Bk O O Ax (Bj hx) (BM _)) Az (BZ A7 3 [0] O (BP O (fun _=>Cc (lo:=1) (hi:=2) Bk O (CM (B1 _)) ⟨_,O⟩ ⟨_,O⟩ AU AU (cN zs 1 2)) Az (BP O (fun _=>BL O O (Kg x ((zs.take 2).drop 1) (by have:=FA hxo;omega) (CJ.1 hxo).nd (by rw[Pd hv];exact⟨(CJ.1 hvo).nd,trivial⟩) (by rw[Pd hv];have:=FA hvo;simp only[Bl];omega)) O) Az (BZ A7 3 [] O (GA [] O O (BG B4 O) As fun b12=>⟨AB,Az,?_⟩)))));refine Bt A7 2 [0,1] O (A6 (A5 A7 3 [0] O (A0 O (CF [4] O (.inl ⟨O,O,O⟩) (Fb b c ((CT x ((zs.take 2).drop 1) 0).1) ((CT x ((zs.take 2).drop 1) 0).2) (CJ.1 hpo).nd) ⟨_,_,O,O,O⟩ Aw O (.inl O)) (B3 O (A0 O (BL O O (EH ((CT x ((zs.take 2).drop 1) 0).1) ((BH t).2) AS) O) (A1 A7 2 [2,1] O (A9 (⟨O,_,_,⟨_,_,O,(BI (i:=2) Bg O O Ap),⟨_,_,O,O,O⟩⟩,(CC (is:=[4]) O),?_⟩))))))))
   all_goals exact⟨rfl,rfl⟩
  (try simp only[sd,se] at c1);have hk511:¬(zk=5∨zk=11):=by simpa using c1
  refine A2 (A3 A7 2 [] O (Be [0,2,6,8,9,34] 84 (fun y=>y= .p (.bool (decide (zk=9∨zk=10)))) ?_ ?_))
  ·refine A4 O (fun c3=>?_) (fun c3=>?_)
   ·(try simp only[sd,se] at c3);exact BA (⟨O,O,(List.Sublist.refl _),(by refine pB (Bool.eq_iff_iff.2 ?_);simp only[beq_iff_eq,decide_eq_true_eq];omega),⟨O,O,O,O,O,O,Az⟩⟩)
   (try simp only[sd,se] at c3);exact BC (A1 A7 2 [] O (⟨O,O,(List.Sublist.refl _),(by refine pB (Bool.eq_iff_iff.2 ?_);simp only[beq_iff_eq,decide_eq_true_eq];omega),⟨O,O,O,O,O,O,Az⟩⟩))
  rintro _ rfl;refine A4 O (fun c3=>?_) (fun c3=>?_)
  ·(try simp only[sd,se] at c3);have hk9:zk=9∨zk=10:=by simpa using c3
   refine A6 (A5 A7 2 [0] O ?_);obtain⟨p,hp⟩:=BE (l:=zs) (i:=0) Ax;refine A0 O (BD Bk O O Ax (Bj hp) (BM _)) (A0 O (BU Bg O (BM _)) (BO O (BG B4 O) fun b14=>A1 A7 1 [0,1] O (A2 (A6 (A0 O (A8 HA O O) ?_)))));obtain⟨pk,pi,pn,pl,ps⟩:=p;have hpo8:=E0 hzo (i:=0) hp;have hpl:=Hr hpo8;refine A1 A7 2 [0] O (A4 O (fun c4=>?_) (fun c4=>?_))
   ·(try simp only[sd,se] at c4);have hp8:=c4;refine A6 (A5 A7 7 [0,1] O ?_);obtain⟨x,hx⟩:=BE (l:=ps) (i:=(((1:Int)+(zk:Int):Int) - (9:Int):Int).toNat) (by have:=hpl.2.2.2 hp8;omega);have hxo:=E0 hpo8 (i:=(1+zk - 9).toNat) hx;have hq:=(We hwo (by rw[hzq];exact hk9) (by rw[hzq];exact hp) (p:= .mk pk pi pn pl ps) hp8 (by rw[hzq];exact hx)).symm.trans hC;obtain⟨hpo,hpe⟩:=HH (h:=(by rw[hq];simp));rw[hpe] at hq;cases hq;refine A0 O (BD Bk O O Ax (Bj hx) (BM _)) (A0 O (BU Bg O (BM _)) (A0 O (CF [4] O (.inl ⟨O,O,O⟩) (Fb b c x 0 (CJ.1 hpo).nd) ⟨_,_,O,O,O⟩ Aw O (.inl O)) (B3 O (A0 O (BL O O (EH x ((BH t).2) AS) O) (A1 A7 2 [2,1] O (A9 (⟨O,_,_,⟨_,_,O,(BI (i:=2) Bg O O Ap),⟨_,_,O,O,O⟩⟩,(CC (is:=[4]) O),?_⟩)))))))
    all_goals exact⟨rfl,rfl⟩
   (try simp only[sd,se] at c4);have hp8:=c4;refine BA (A6 (A5 A7 3 [0] O ?_));obtain⟨⟨sq,d2⟩,hs1,hs2⟩:=GN ((V4 hwo (by rw[hzq];exact hk9) (by rw[hzq];exact hp) (p:= .mk pk pi pn pl ps) hp8).symm.trans hC);refine A0 O (CF [4] O (.inl ⟨O,O,O⟩) (ih k Ax b (.mk pk pi pn pl ps:Tm) c d2 sq hs1) ⟨_,_,O,O,O⟩ Aw O (.inl O)) (A5 A7 3 [] O (BO O (BG B4 O) fun b15=>A1 A7 2 [0,1] O (A2 (A3 A7 2 [] O (A4 O (fun c5=>?_) (fun c5=>?_))))))
   ·(try simp only[sd,se] at c5);rw[fh c5] at hs2;cases hs2;refine A3 A7 3 [3,0] O (BQ (Bd (i:=3) O) (A9 (⟨O,_,_,⟨_,_,O,(BI (i:=3) Bg O O O),⟨_,_,O,O,O⟩⟩,(CC (is:=[5]) O),?_⟩)))
    all_goals exact⟨rfl,rfl⟩
   (try simp only[sd,se] at c5);rw[eo c5,hzq] at hs2;cases hs2;refine BA (A6 (A5 A7 3 [2,0] O ?_));generalize hz1:sq.getD Bp=z1;obtain⟨z1k,z1i,z1n,z1l,z1s⟩:=z1;refine A0 O (Br Bk B4 O O O O O) (A5 A7 2 [] O (A0 O (GR O O (EH (.mk zk 0 ⟨#[]⟩ [] [(.mk z1k z1i z1n z1l z1s:Tm)]:Tm) ((BH t).2) AS) (aw (Dv O) (aw (we O) (FM)))) (A1 A7 2 [3,1] O (A9 (⟨O,_,_,⟨_,_,O,(BI (i:=3) Bg O O Ap),⟨_,_,O,O,O⟩⟩,(CC (is:=[5]) O),?_⟩)))))
   all_goals exact⟨rfl,rfl⟩
  (try simp only[sd,se] at c3);have hk9:¬(zk=9∨zk=10):=by simpa using c3
  refine A3 A7 2 [] O (A4 O (fun c4=>?_) (fun c4=>?_))
  ·(try simp only[sd,se] at c4);have hk:(BH t).1.kind=3:=by rw[hzq];exact c4
   rw[T8 hwo hk,hzq] at hC;refine A6 (A5 A7 2 [0] O (A0 O (BL O O (SJ ds (.mk zk zi zn zl zs:Tm) hE.g.env) O) (A5 A7 3 [] O (BO O (BG Hw O) fun b17=>A1 A7 2 [0,1] O (A2 (A3 A7 2 [] O (A4 O (fun c5=>?_) (fun c5=>?_))))))))
   ·(try simp only[sd,se] at c5);have hq:=(Vt c5).symm.trans hC;cases hq;refine A3 A7 3 [2,0] O (BQ (Bd (i:=2) O) (A9 (⟨O,_,_,⟨_,_,O,(BI (i:=2) Bg O O O),⟨_,_,O,O,O⟩⟩,(CC (is:=[4]) O),?_⟩)))
    all_goals exact⟨rfl,rfl⟩
   (try simp only[sd,se] at c5);have hu:=c5;obtain⟨ix,dd,e1,e2,e3,e4⟩:=JV hu;have hde:=e2.decl;have hdg:=h2.g.all _ e3;have hel:=h2.g.env.len;have hil:=(List.getElem?_eq_some_iff.1 e1).1;have hfx:=hdg.fx;have hnr:=Ia hdg;have hcl:=hdg.din.cl;have hfl:=hdg.din.fl;refine BA (A6 (A5 A7 2 [] O (A0 O (BB (i:=0) DO O O (DZ _)) (A0 O (BD Hz O O Ax (EG e4) (Cx _)) (A0 O (BU Fg O (Cx _)) (BO O (BG Iz O) fun b19=>A1 A7 1 [0,1] O (A2 (A6 (A0 O (A8 Fv O O) (A0 O (BB (i:=1) DO O O (DK _)) (A1 A7 1 [] O (A4 O (fun c6=>?_) (fun c6=>?_)))))))))))))
   ·(try simp only[sd,se] at c6);have hk1:=c6;refine A6 (A5 A7 4 [2] O ?_);have hq2:=(Mg (E:=ds) (S:=Dh) (W:=FF ds Dh 0) (n:=0) hu e4 hk1).trans ((ZJ (n:=k) hu e4 hk1).symm.trans hC);refine A0 O (CF [5] O (.inl ⟨O,O,O⟩) (Tx 0 ds (.mk zk zi zn zl zs:Tm) ((BH t).2) b c c2 q (ek ds hE 0) hE hzo hsp.args Ax hq2) ⟨_,_,O,O,O⟩ Aw O (.inl O)) (A1 A7 4 [3,1] O (A9 (⟨O,_,_,⟨_,_,O,(BI (i:=3) Bg O O Ap),⟨_,_,O,O,O⟩⟩,(CC (is:=[5]) O),?_⟩)))
    all_goals exact⟨rfl,rfl⟩
   (try simp only[sd,se] at c6);have hk1:=c6;refine BA (A2 (A2 (Be [0,2,6,8,9,17,19] 158 (fun y=>y= .p (.bool (((((Bw ds (.mk zk zi zn zl zs:Tm).name).1).kind:Int)==(5:Int))&&(decide (((((BH t).2).length:Nat):Int) > (CQ dd:Int)))))) ?_ ?_)))
   ·refine BC (A0 O (A8 Fv O O) (A0 O (BB (i:=1) DO O O (DK _)) (A5 A7 2 [] O (BY 152 O (fun g=>?_) (fun g=>?_)))))
    ·(try simp only[sd,se] at g);exact BK O (Bi O) (BK O (BT Bk O (Bc _)) (BK O (Bf (i:=0) Fg O O Am) (BK O (BL O O (KU dd hdg.din hdg.fx) O) (A1 A7 2 [] O (⟨O,O,AP,AJ,⟨O,O,O,O,O,O,O,Az⟩⟩)))))
    (try simp only[sd,se] at g);exact A1 A7 6 [] O (⟨O,O,AP,AJ,⟨O,O,O,O,O,O,O,Az⟩⟩)
   rintro _ rfl;refine A4 O (fun c7=>?_) (fun c7=>?_)
   ·(try simp only[sd,se] at c7);have hk5:(Bw ds (Tm.mk zk zi zn zl zs).name).1.kind=5∧CQ dd<((BH t).2.length:Int):=by simpa using c7
    refine A6 (A5 A7 2 [0] O (A0 O (BL O O (KU dd hdg.din hdg.fx) O) ?_));obtain⟨x,hx⟩:=BE (l:=(BH t).2) (i:=(CQ dd:Int).toNat) Ax;have hxo:=hsp.args _ (List.mem_of_getElem? hx);refine A0 O (BD Bk O O Ax (Bj hx) (BM _)) (A0 O (BU Bg O (BM _)) (BO O (BG B4 O) fun b20=>A1 A7 1 [0,1] O (A2 (A6 (A5 A7 2 [0] O (A0 O (BL O O (OX ds x hE.g hxo) O) (A5 A7 5 [] O (BO O (BG Iz O) fun b21=>A1 A7 4 [0,1] O (A3 A7 1 [] O (A4 O (fun c8=>?_) (fun c8=>?_)))))))))))
    ·(try simp only[sd,se] at c8);have hcs:=Jv c8;refine A6 (A5 A7 5 [4,1] O ?_);have hfd:=fj (Zv hu) hk5.1 e4;refine A0 O (CF [7] O (.inl ⟨O,O,O⟩) (XL ds (.mk zk zi zn zl zs:Tm) ((BH t).2) x b c c2 q hE.g (hfd▸e3) hzo hxo (by rw[hfd];omega) Ax (by rw[hfd];exact(V3 hu e4 hk5.1 Ax hx hcs).symm.trans hC)) ⟨_,_,O,O,O⟩ Aw O (.inl O)) (A1 A7 4 [5,1] O (A9 (⟨O,_,_,⟨_,_,O,(BI (i:=5) Bg O O Ap),⟨_,_,O,O,O⟩⟩,(CC (is:=[7]) O),?_⟩)))
     all_goals exact⟨rfl,rfl⟩
    (try simp only[sd,se] at c8);have hcn:=Kt c8;refine BA (A6 (A5 A7 3 [1] O ?_));obtain⟨⟨sq,d2⟩,hs1,hs2⟩:=GN ((Wi hu e4 hk5.1 Ax hx hcn).symm.trans hC);refine A0 O (CF [7] O (.inl ⟨O,O,O⟩) (ih k Ax b x c d2 sq hs1) ⟨_,_,O,O,O⟩ Aw O (.inl O)) (A5 A7 3 [] O (BO O (BG B4 O) fun b25=>A1 A7 2 [0,1] O (A2 (A3 A7 2 [] O (A4 O (fun c9=>?_) (fun c9=>?_))))))
    ·(try simp only[sd,se] at c9);rw[fQ c9] at hs2;cases hs2;refine A3 A7 3 [6,0] O (BQ (Bd (i:=6) O) (A9 (⟨O,_,_,⟨_,_,O,(BI (i:=6) Bg O O O),⟨_,_,O,O,O⟩⟩,(CC (is:=[8]) O),?_⟩)))
     all_goals exact⟨rfl,rfl⟩
    (try simp only[sd,se] at c9);rw[dy c9] at hs2;cases hs2;refine BA (A6 (L8 O (Bx (DS (t:=27) (sz:=5) O) (Bq O (A6 (A5 A7 2 [] O (EN O O (CE (i:=0) (rows':=BN ((BH t).2)) Bk Bk B4 O O O O O O (B1 _) AY (Hk [] ((BH t).2))) fun o cp=>A1 A7 1 [] O (A2 (Ib (i:=0) O AN fun b1 hb=>?_)))))))));subst hb;refine B0 (fun k=>false) Dt (BZ A7 2 [4] O (BP O (fun _=>BL O O (KU dd hdg.din hdg.fx) O) Az (BZ A7 1 [1] O (BP O (fun _=>Cg Bk O O Ax AN) Az (FH O O (Dj (i:=0) (j:=((CQ dd:Int).toNat)) Bg O O O AN O (Ht _) (BM _) (FD _) (Ow ((BH t).2) ((CQ dd:Int).toNat) (sq.getD Bp))) AB Az (Hg O As (A6 (A5 A7 2 [6] O (Bx (Cj (t:=27) (x:= .vs (some b1) (BN ((((BH t).2)).set ((CQ dd:Int).toNat) (sq.getD Bp))).length cp) (Cn ((BH t).2) (l':=(((BH t).2)).set ((CQ dd:Int).toNat) (sq.getD Bp)) Ay)) (Bx (Cj (t:=193) (x:= .vs (some b1) (BN ((((BH t).2)).set ((CQ dd:Int).toNat) (sq.getD Bp))).length cp) (Cn ((BH t).2) (l':=(((BH t).2)).set ((CQ dd:Int).toNat) (sq.getD Bp)) Ay)) ?_))))))))));refine Bx (Cj (t:=194) (x:= .vs (some b1) (BN ((((BH t).2)).set ((CQ dd:Int).toNat) (sq.getD Bp))).length cp) (Cn ((BH t).2) (l':=(((BH t).2)).set ((CQ dd:Int).toNat) (sq.getD Bp)) Ay)) (Bx (Cj (t:=200) (x:= .vs (some b1) (BN ((((BH t).2)).set ((CQ dd:Int).toNat) (sq.getD Bp))).length cp) (Cn ((BH t).2) (l':=(((BH t).2)).set ((CQ dd:Int).toNat) (sq.getD Bp)) Ay)) (Bx (Cf (i:=0) [27,193,194,200] O (Ds ⟨O,O,O,O,Az⟩)) (A0 O (BL O O (EH (.mk zk zi zn zl zs:Tm) ((((BH t).2)).set ((CQ dd:Int).toNat) (sq.getD Bp)) AS) O) (A1 A7 2 [6,1] O (A9 (⟨O,_,_,⟨_,_,O,(BI (i:=6) Bg O O Ap),⟨_,_,O,O,O⟩⟩,(CC (is:=[8]) O),?_⟩))))))
    all_goals exact⟨rfl,rfl⟩
   (try simp only[sd,se] at c7);have hk5:¬((Bw ds (Tm.mk zk zi zn zl zs).name).1.kind=5∧((BH t).2.length:Int) > CQ dd):=by simpa using c7
   refine BA (A2 (Be [0,2,6,8,9,17,19] 216 (fun y=>y= .p (.bool (((((Bw ds (.mk zk zi zn zl zs:Tm).name).1).kind:Int)==(6:Int))&&(decide (((((BH t).2).length:Nat):Int)≥((FL dd (Bw ds (Tm.mk zk zi zn zl zs).name).1.item).arity:Int)))))) ?_ ?_))
   ·refine BC (A0 O (A8 Fv O O) (A0 O (BB (i:=1) DO O O (DK _)) (A5 A7 2 [] O (BY 205 O (fun g=>?_) (fun g=>?_)))))
    ·(try simp only[sd,se] at g);have hk6:=g;obtain⟨fk,ff,f1,f2⟩:=e2.func hk6;have hff:dd.funs[(Bw ds (Tm.mk zk zi zn zl zs).name).1.item.toNat]?=some ff:=by rw[f2];simpa using f1
     have hfm:=List.mem_of_getElem? hff;have hfa:=hdg.fu ff hfm;have hfi:=(List.getElem?_eq_some_iff.1 f1).1;have hfat:FL dd (Bw ds (Tm.mk zk zi zn zl zs).name).1.item=ff:=CI hff;exact BK O (Bi O) (BK O (BT Bk O (Bc _)) (BK O (A8 DD O O) (BK O (BB (i:=0) HW O O (CP _)) (BK O (A8 Fv O O) (BK O (BB (i:=1) DO O O (E2 _)) (BK O (BD Gy O O Ax (ET hff) (DV _)) (BK O (B7 Gw O O) (BK O (DA DO O (CU _)) (A1 A7 2 [] O (⟨O,O,AP,(by first | rfl | (refine pB ?_;simp[hk6,hfat];done) | (refine pB ?_;simp_all;done)),⟨O,O,O,O,O,O,O,Az⟩⟩))))))))))
    (try simp only[sd,se] at g);exact A1 A7 11 [] O (⟨O,O,AP,(by first | rfl | (refine pB ?_;simp[hk6,hfat];done) | (refine pB ?_;simp_all;done)),⟨O,O,O,O,O,O,O,Az⟩⟩)
   rintro _ rfl;refine A4 O (fun c8=>?_) (fun c8=>?_)
   ·(try simp only[sd,se] at c8);have hk66:(Bw ds (Tm.mk zk zi zn zl zs).name).1.kind=6∧(FL dd (Bw ds (Tm.mk zk zi zn zl zs).name).1.item).arity≤((BH t).2.length:Int):=by simpa using c8
    obtain⟨hk6,hl6⟩:=hk66;obtain⟨fk,ff,f1,f2⟩:=e2.func hk6;have hff:dd.funs[(Bw ds (Tm.mk zk zi zn zl zs).name).1.item.toNat]?=some ff:=by rw[f2];simpa using f1
    have hfm:=List.mem_of_getElem? hff;have hfa:=hdg.fu ff hfm;have hfi:=(List.getElem?_eq_some_iff.1 f1).1;have hfat:FL dd (Bw ds (Tm.mk zk zi zn zl zs).name).1.item=ff:=CI hff;rw[hfat] at hl6;refine A2 (B0 (fun k=>false) Dt (BZ A7 3 [2] O (CY (j:=0) O O O (fun H i hi=>BB (i:=i) HW O hi (CP _)) AB Az (BP O (fun _=>A8 Fv O O) Az (CY (j:=1) O O O (fun H i hi=>BB (i:=i) DO O hi (E2 _)) AB Az (BP O (fun _=>BD Gy O O Ax (ET hff) (DV _)) Az (BZ A7 3 [] O (FH O O (CF [5] O (.inl ⟨O,O,O⟩) (XO k ds (.mk zk zi zn zl zs:Tm) ff ((BH t).2) dd b c c2 q (ih k Ax) hE e3 hfm Ax hzo Ax hsp.args ((Yv hu e4 hk6 hff Ax).symm.trans hC)) ⟨_,_,O,O,O⟩ Aw O (.inl O)) AB Az (Bt A7 4 [3,1] O (A9 (⟨O,_,_,⟨_,_,O,(BI (i:=3) Bg O O Ap),⟨_,_,O,O,O⟩⟩,(CC (is:=[5]) O),?_⟩)))))))))))
    all_goals exact⟨rfl,rfl⟩
   (try simp only[sd,se] at c8);have hk6:¬((Bw ds (Tm.mk zk zi zn zl zs).name).1.kind=6∧((BH t).2.length:Int)≥(FL dd (Bw ds (Tm.mk zk zi zn zl zs).name).1.item).arity):=by simpa using c8
   have hq:=(gH hu e4 hk1 hk5 hk6).symm.trans hC;cases hq;refine BA (A3 A7 3 [3,0] O (BQ (Bd (i:=3) O) (A9 (⟨O,_,_,⟨_,_,O,(BI (i:=3) Bg O O O),⟨_,_,O,O,O⟩⟩,(CC (is:=[5]) O),?_⟩))))
   all_goals exact⟨rfl,rfl⟩
  (try simp only[sd,se] at c4);have hq:=(fm hwo (by rw[hzq];show ¬zk=5;omega) (by rw[hzq];show ¬zk=11;omega) (by rw[hzq];show ¬zk=9;omega) (by rw[hzq];show ¬zk=10;omega) (by rw[hzq];assumption)).symm.trans hC;cases hq;refine BA (A3 A7 3 [1,0] O (BQ (Bd (i:=1) O) (A9 (⟨O,_,_,⟨_,_,O,(BI (i:=1) Bg O O O),⟨_,_,O,O,O⟩⟩,(CC (is:=[3]) O),?_⟩))))
  all_goals exact⟨rfl,rfl⟩
theorem aX:B2 Tryz.prog 13 [] [] (eY (fun b=> .ptr b 0) ((He LZ).map .p)):=by
 refine BF Tryz.func13 O qd (n:=3) O O (A3 A7 1 [] O (A6 (A0 O (Ca qa sU O) (BO O (Ba O) fun b2=>A1 A7 1 [] O (A9 (⟨O,_,_,⟨_,_,O,O,O⟩,(CC (is:=[0]) O),?_⟩))))));exact⟨_,O,O⟩
end Go.Proofs.YtboammbpdaoojaaGreat
namespace Go.Eu
open Go.Abs
mutual
theorem dR {vars m:Int}(hv:vars≤549755813888):∀(t:Tm) (d:Int),wf vars m d t→0≤d→d+size t≤1073741824→Vp t
 | .mk k i n l ks,d,h,h0,h1=>by
  simp only[wf,size] at h h1;exact⟨fun e=>by have:=h.2.2.2.1 e;omega,Zo hv ks k d 0 h.2.2.2.2.2 h0 Ax⟩
theorem Zo {vars m:Int}(hv:vars≤549755813888):∀(ts:List Tm) (k d:Int) (j:Nat),jH vars m k d j ts→0≤d→d+1+Bl ts≤1073741824→Tk ts
 | [],k,d,j,h,h0,h1=>trivial
 | t::ts,k,d,j,h,h0,h1=>by
  have:=DF k j;simp only[jH,Bl] at h h1;have:=size_pos t;exact⟨dR hv t _ h.1 Ax Ax,Zo hv ts k d (j+1) h.2 h0 Ax⟩
end
theorem et {t:Tm}{vars m:Int}(hn:Nd t) (hs:size t<1000000) (hv:vars≤549755813888) (h:wf (max vars 0) m 0 t):okB t=true :=
 CJ.2 ⟨hn,kl t 0 h,dR Ax t 0 h Ax Ax,by omega⟩
def Z5 (d:CX):Prop:=(d.kind≠1→d.kind≠2→d.value=Bp)∧(d.kind≠3→d.recs.rules.length=0∧d.fixed=0)∧(d.kind≠4→d.funs.length=0)
def VB (d:CX):Prop:=0≤d.fixed∧(∀f∈d.funs,1≤f.arity∧f.arity≤16)∧(d.kind=3→d.fixed≤1000000)
def gR (d:CX):Prop:=(d.kind=1∨d.kind=2→okB d.value=true)∧(d.kind=3→∀t∈d.recs.rules,okB t=true)∧(d.kind=4→∀f∈d.funs,Fz f.tree)
theorem pA {d:CX}(h:Ns d) (hk:0≤d.kind∧d.kind≤4) (hu:Z5 d) (hc:VB d) (ht:gR d):DG d:=by
 obtain⟨u1,u2,u3⟩:=hu;obtain⟨c1,c2,c3⟩:=hc;obtain⟨t1,t2,t3⟩:=ht;refine⟨h,⟨c1,?_⟩,?_,?_,fun f hf=>⟨(c2 f hf).1,(c2 f hf).2,?_⟩⟩
 ·by_cases h3:d.kind=3
  ·exact c3 h3
  rw[(u2 h3).2];omega
 ·by_cases h1:d.kind=1∨d.kind=2
  ·exact t1 h1
  rw[u1 Ax Ax];exact MF
 ·by_cases h3:d.kind=3
  ·exact t2 h3
  intro t ht;rw[List.length_eq_zero_iff.1 (u2 h3).1] at ht;cases ht
 by_cases h4:d.kind=4
 ·exact t3 h4 f hf
 rw[List.length_eq_zero_iff.1 (u3 h4)] at hf;cases hf
def TT (d:CX):Prop:=size d.value≤400∧(∀t∈d.recs.rules,size t≤400)∧∀f∈d.funs,EC f.tree≤50
theorem iq {ds:List CX}(h:KB ds) (hf:∀d∈ds,TT d):Gz ds:=⟨h,fun d hd=>(hf d hd).1,fun d hd=>(hf d hd).2.1,fun d hd=>(hf d hd).2.2⟩
theorem RQ {n:Nat}:∀{l:List GU},(∀x∈l,EC x.tree≤n)→K5 l≤n
 | [],_=>by simp[K5]
 | .mk c a t::l,h=>by
  have h1:=h (.mk c a t) Ay;have h2:=RQ (n:=n) (l:=l) fun x hx=>h x (by simp[hx]);simp only[K5,Ym,GU.tree] at *;omega
theorem bw {n:Nat}{t:FY}(h:∀x∈t.branches,EC x.tree≤n):EC t≤n+1:=by
 obtain⟨k,b,v,l⟩:=t;have h1:=RQ (n:=n) (l:=l) h;simp only[EC];omega
theorem TY:∀{l:List GU},(∀x∈l,Fz x.tree)→RT l
 | [],_=>trivial
 | .mk c a t::l,h=>⟨h (.mk c a t) Ay,TY fun x hx=>h x (by simp[hx])⟩
theorem Rw {t:FY}(h0:okB t.body=true) (h:∀x∈t.branches,Fz x.tree):Fz t:=by
 obtain⟨k,b,v,l⟩:=t;exact⟨h0,TY h⟩
theorem YS {t:FY}(h0:Nk t.body Bp=true) (h:t.branches.length=0):Fz t :=
 Rw (by rw[IV.1 h0];exact MF) (fun x hx=>by rw[List.length_eq_zero_iff.1 h] at hx;cases hx)
theorem IX {α:Type}{p:α→Prop}{l:List α}{n:Nat}(hn:l.length≤n) (h:∀j,j<n→∀x,l[j]?=some x→p x):∀x∈l,p x:=fun x hx=>by
 obtain⟨j,hj⟩:=List.mem_iff_getElem?.1 hx;exact h j (by have:=(List.getElem?_eq_some_iff.1 hj).1;omega) x hj
theorem aY {ds:List CX}{i:Nat}(h:Hj ds) (hC:∀j,j<i→∀x,ds[j]?=some x→DG x):KB (ds.take i) :=
 ⟨h.take i,fun d hd=>by
  obtain⟨j,hj⟩:=List.mem_iff_getElem?.1 hd;have hlt:=(List.getElem?_eq_some_iff.1 hj).1;rw[List.length_take] at hlt;rw[List.getElem?_take_of_lt Ax] at hj;exact hC j Ax d hj⟩
theorem lx {α:Type}{l:List α}(h:l.length=0) {p:α→Prop}:∀x∈l,p x:=fun x hx=>by
 rw[List.length_eq_zero_iff.1 h] at hx;cases hx
theorem iR {t:FY}{dp:Int}(hd:dp≤40) (h:∀x∈t.branches,(EC x.tree:Int)≤42 - (dp+1)):(EC t:Int)≤42 - dp:=by
 have:=bw (n:=(42 - (dp+1)).toNat) (t:=t) fun x hx=>by have:=h x hx;omega
 omega
theorem QC {t:Tm}(h:VF t) (hs:E6 t≤400):size t≤400:=by
 have h1:=L0 (t:=t) (by have:=h.sz;omega);omega
theorem dF {d:CX}(h:Ns d) (hv:E6 d.value≤400) (hr:∀t∈d.recs.rules,E6 t≤400) (hf:∀f∈d.funs,(EC f.tree:Int)≤42 - 0):TT d :=
 ⟨QC h.vl hv,fun t ht=>QC (h.rs t ht) (hr t ht),fun f hm=>by have:=hf f hm;omega⟩
structure eJ (ds:List CX) (l:List Tm):Prop where
 env:Gz ds
 ok:∀t∈l,okB t=true
 sz:Bl l≤60
 few:ds.length≤70
theorem ej {ds:List CX}{l:List Tm}(hn:Eo l 60 0≤60) (hg:Xk l∧∀t∈l,okB t=true) (he:Gz ds∧ds.length≤70):eJ ds l :=
 ⟨he.1,hg.2,by have:=Wu hg.1 Ax hn;omega,he.2⟩
theorem bB {l:List Tm}(h:Xk l):l.length<1000000:=by
 have:=h.sz;have:=Hn l;omega
theorem X0 {l:List Tm}(h:Xk l∧∀t∈l,okB t=true):∀x∈l,okB x=true∧size x<1000000:=fun x hx =>
 ⟨h.2 x hx,by have:=h.1.sz;have:=Gi hx;omega⟩
end Go.Eu
namespace Go.Proofs.YtboammbpdaoojaaGreat
open Go.Abs Go.Eu
theorem Yg:∀(d:CX),(Ns d)→(0≤d.kind∧d.kind≤4)→GO Tryz.prog 133 [.agg ((Bu d).map .p)] (fun v=>∃bb:Bool,v= .p (.bool bb)∧(bb=true→Z5 d)):=by
 intro d h1 h2;refine BF Tryz.func133 O pw (n:=87) O O (A6 (BO O (Ba O) fun b1=>A1 A7 1 [] O (A2 (Be [1] 3 (fun y=>y= .p (.bool ((((d.recs.params:Int)==(0:Int))&&(Nk d.recs.type Bp))&&(((d.recs.rules.length:Nat):Int)==(0:Int))))) ?_ ?_))))
 ·refine BC (A5 A7 2 [] O (A0 O (BB (i:=0) DO O O (Du _)) (A5 A7 2 [] O (BY 9 O (fun g=>?_) (fun g=>?_)))))
  ·(try simp only[sd,se] at g);refine A5 A7 2 [] O (BK O (B6 (i:=0) Bg O O (FO _) (BM _)) (BK O (BL O O (KV d.recs.type (by first | exact h1.rt.nd | exact h1.vl.nd | exact h1.ty.nd)) O) (A5 A7 2 [] O (BY 15 O (fun g1=>?_) (fun g1=>?_)))))
   ·(try simp only[sd,se] at g1);exact A5 A7 2 [] O (BK O (BB (i:=0) Gu O O (Cw _)) (BK O (BT Bk O (Bc _)) (A1 A7 3 [] O (⟨O,O,AP,AJ,⟨O,Az⟩⟩))))
   (try simp only[sd,se] at g1);exact A1 A7 7 [] O (⟨O,O,AP,AJ,⟨O,Az⟩⟩)
  (try simp only[sd,se] at g);exact A1 A7 13 [] O (⟨O,O,AP,AJ,⟨O,Az⟩⟩)
 rintro _ rfl;refine A2 (Be [1] 4 (fun y=>y= .p (.bool ((((d.fixed:Int)==(0:Int))&&(((d.ctors.length:Nat):Int)==(0:Int)))&&((((d.recs.params:Int)==(0:Int))&&(Nk d.recs.type Bp))&&(((d.recs.rules.length:Nat):Int)==(0:Int)))))) ?_ ?_)
 ·refine BC (A0 O (A8 DD O O) (A0 O (BB (i:=0) DO O O (Cv _)) (A5 A7 2 [] O (BY 25 O (fun g=>?_) (fun g=>?_)))))
  ·(try simp only[sd,se] at g);refine BK O (A8 DD O O) (BK O (BB (i:=0) HY O O (CH _)) (BK O (BT HN O (List.length_map _)) (A5 A7 3 [] O (BY 31 O (fun g1=>?_) (fun g1=>?_)))))
   ·(try simp only[sd,se] at g1);exact A1 A7 3 [] O (⟨O,O,AP,AJ,⟨O,Az⟩⟩)
   (try simp only[sd,se] at g1);exact A1 A7 3 [] O (⟨O,O,AP,AJ,⟨O,Az⟩⟩)
  (try simp only[sd,se] at g);exact A1 A7 9 [] O (⟨O,O,AP,AJ,⟨O,Az⟩⟩)
 rintro _ rfl;refine A2 (A6 (A0 O (A8 DD O O) (A0 O (BB (i:=0) DO O O (EF _)) (Bq O (BJ (A3 A7 2 [] O (A4 O (fun c=>?_) (fun c=>?_))))))))
 ·(try simp only[sd,se] at c);refine A2 (Be [] 2 (fun y=>y= .p (.bool (((Nk d.value Bp)&&((((d.fixed:Int)==(0:Int))&&(((d.ctors.length:Nat):Int)==(0:Int)))&&((((d.recs.params:Int)==(0:Int))&&(Nk d.recs.type Bp))&&(((d.recs.rules.length:Nat):Int)==(0:Int)))))&&(((d.funs.length:Nat):Int)==(0:Int))))) ?_ ?_)
  ·refine BC (A0 O (A8 DD O O) (A0 O (B6 (i:=0) Bg O O (FZ _) (BM _)) (A0 O (BL O O (KV d.value (by first | exact h1.rt.nd | exact h1.vl.nd | exact h1.ty.nd)) O) (B3 O (BY 41 O (fun g=>?_) (fun g=>?_))))))
   ·(try simp only[sd,se] at g);refine A5 A7 3 [] O (BY 44 O (fun g1=>?_) (fun g1=>?_))
    ·(try simp only[sd,se] at g1);exact BK O (A8 DD O O) (BK O (BB (i:=0) HW O O (CP _)) (BK O (BT Gy O (List.length_map _)) (A1 A7 3 [] O ⟨O,O,AP,AJ,Az⟩)))
    (try simp only[sd,se] at g1);exact A1 A7 6 [] O ⟨O,O,AP,AJ,Az⟩
   (try simp only[sd,se] at g);exact A1 A7 9 [] O ⟨O,O,AP,AJ,Az⟩
  rintro _ rfl;refine A9 (⟨O,_,_,⟨_,_,O,O,O⟩,(List.nil_sublist _),?_⟩)
  all_goals exact⟨⟨_,rfl,fun h=>by simp only[Bool.and_eq_true,beq_iff_eq,decide_eq_true_eq,IV] at h;refine⟨fun _ _=>?_,fun _=>⟨?_,?_⟩,fun _=>?_⟩<;>first | omega | (simp_all;done)⟩,rfl⟩
 (try simp only[sd,se] at c);refine A2 (A3 A7 2 [] O (Be [1,4,35] 50 (fun y=>y= .p (.bool (decide (d.kind=1∨d.kind=2)))) ?_ ?_))
 ·refine A4 O (fun c1=>?_) (fun c1=>?_)
  ·(try simp only[sd,se] at c1);exact BA (⟨O,O,(List.Sublist.refl _),(by refine pB (Bool.eq_iff_iff.2 ?_);simp only[beq_iff_eq,decide_eq_true_eq];omega),⟨O,O,O,Az⟩⟩)
  (try simp only[sd,se] at c1);exact BC (A1 A7 2 [] O (⟨O,O,(List.Sublist.refl _),(by refine pB (Bool.eq_iff_iff.2 ?_);simp only[beq_iff_eq,decide_eq_true_eq];omega),⟨O,O,O,Az⟩⟩))
 rintro _ rfl;refine A4 O (fun c1=>?_) (fun c1=>?_)
 ·(try simp only[sd,se] at c1);refine A2 (Be [] 2 (fun y=>y= .p (.bool (((((d.fixed:Int)==(0:Int))&&(((d.ctors.length:Nat):Int)==(0:Int)))&&((((d.recs.params:Int)==(0:Int))&&(Nk d.recs.type Bp))&&(((d.recs.rules.length:Nat):Int)==(0:Int))))&&(((d.funs.length:Nat):Int)==(0:Int))))) ?_ ?_)
  ·refine BC (A5 A7 2 [] O (BY 54 O (fun g=>?_) (fun g=>?_)))
   ·(try simp only[sd,se] at g);exact BK O (A8 DD O O) (BK O (BB (i:=0) HW O O (CP _)) (BK O (BT Gy O (List.length_map _)) (A1 A7 3 [] O ⟨O,O,AP,AJ,Az⟩)))
   (try simp only[sd,se] at g);exact A1 A7 6 [] O ⟨O,O,AP,AJ,Az⟩
  rintro _ rfl;refine A9 (⟨O,_,_,⟨_,_,O,O,O⟩,(List.nil_sublist _),?_⟩)
  all_goals exact⟨⟨_,rfl,fun h=>by simp only[Bool.and_eq_true,beq_iff_eq,decide_eq_true_eq,IV] at h;refine⟨fun _ _=>?_,fun _=>⟨?_,?_⟩,fun _=>?_⟩<;>first | omega | (simp_all;done)⟩,rfl⟩
 (try simp only[sd,se] at c1);refine A3 A7 2 [] O (A4 O (fun c2=>?_) (fun c2=>?_))
 ·(try simp only[sd,se] at c2);refine A2 (Be [] 2 (fun y=>y= .p (.bool ((Nk d.value Bp)&&(((d.funs.length:Nat):Int)==(0:Int))))) ?_ ?_)
  ·refine BC (A0 O (A8 DD O O) (A0 O (B6 (i:=0) Bg O O (FZ _) (BM _)) (A0 O (BL O O (KV d.value (by first | exact h1.rt.nd | exact h1.vl.nd | exact h1.ty.nd)) O) (B3 O (BY 65 O (fun g=>?_) (fun g=>?_))))))
   ·(try simp only[sd,se] at g);exact BK O (A8 DD O O) (BK O (BB (i:=0) HW O O (CP _)) (BK O (BT Gy O (List.length_map _)) (A1 A7 3 [] O ⟨O,O,AP,AJ,Az⟩)))
   (try simp only[sd,se] at g);exact A1 A7 6 [] O ⟨O,O,AP,AJ,Az⟩
  rintro _ rfl;refine A9 (⟨O,_,_,⟨_,_,O,O,O⟩,(List.nil_sublist _),?_⟩)
  all_goals exact⟨⟨_,rfl,fun h=>by simp only[Bool.and_eq_true,beq_iff_eq,decide_eq_true_eq,IV] at h;refine⟨fun _ _=>?_,fun _=>⟨?_,?_⟩,fun _=>?_⟩<;>first | omega | (simp_all;done)⟩,rfl⟩
 (try simp only[sd,se] at c2);refine BA (A2 (Be [] 2 (fun y=>∃q:Bool,y= .p (.bool q)∧(q=true→Nk d.value Bp=true∧d.fixed=0∧d.recs.rules.length=0)) ?_ ?_))
 ·refine BC (A0 O (A8 DD O O) (A0 O (BB (i:=0) Lg O O (DW _)) (A0 O (GJ O O) (B3 O (BY 74 O (fun g=>?_) (fun g=>?_))))))
  ·(try simp only[sd,se] at g);refine BK O (A8 DD O O) (BK O (B6 (i:=0) Bg O O (FP _) (BM _)) (BK O (BL O O (KV d.type (by first | exact h1.rt.nd | exact h1.vl.nd | exact h1.ty.nd)) O) (A5 A7 2 [] O (BY 79 O (fun g1=>?_) (fun g1=>?_)))))
   ·(try simp only[sd,se] at g1);refine BK O (A8 DD O O) (BK O (B6 (i:=0) Bg O O (FZ _) (BM _)) (BK O (BL O O (KV d.value (by first | exact h1.rt.nd | exact h1.vl.nd | exact h1.ty.nd)) O) (A5 A7 2 [] O (BY 84 O (fun g2=>?_) (fun g2=>?_)))))
    ·(try simp only[sd,se] at g2);refine A1 A7 3 [] O ?_;exact⟨rfl,rfl,AP,(by refine⟨_,rfl,fun h=>?_⟩;first | (exact absurd h Aw) | (refine⟨by simpa using Au,?_,?_⟩<;>(simp only[Bool.and_eq_true,beq_iff_eq,decide_eq_true_eq] at h;omega))),trivial⟩
    (try simp only[sd,se] at g2);refine A1 A7 3 [] O ?_;exact⟨rfl,rfl,AP,(by refine⟨_,rfl,fun h=>?_⟩;first | (exact absurd h Aw) | (refine⟨by simpa using Au,?_,?_⟩<;>(simp only[Bool.and_eq_true,beq_iff_eq,decide_eq_true_eq] at h;omega))),trivial⟩
   (try simp only[sd,se] at g1);refine A1 A7 8 [] O ?_;exact⟨rfl,rfl,AP,(by refine⟨_,rfl,fun h=>?_⟩;first | (exact absurd h Aw) | (refine⟨by simpa using Au,?_,?_⟩<;>(simp only[Bool.and_eq_true,beq_iff_eq,decide_eq_true_eq] at h;omega))),trivial⟩
  (try simp only[sd,se] at g);refine A1 A7 13 [] O ?_;exact⟨rfl,rfl,AP,(by refine⟨_,rfl,fun h=>?_⟩;first | (exact absurd h Aw) | (refine⟨by simpa using Au,?_,?_⟩<;>(simp only[Bool.and_eq_true,beq_iff_eq,decide_eq_true_eq] at h;omega))),trivial⟩
 rintro _ ⟨q,rfl,hq⟩;refine A9 (⟨O,_,_,⟨_,_,O,O,O⟩,(List.nil_sublist _),?_⟩)
 all_goals exact⟨⟨_,rfl,fun h=>by obtain⟨q1,q2,q3⟩:=hq h;rw[IV] at q1;exact⟨fun _ _=>q1,fun _=>⟨q3,q2⟩,fun _=>by omega⟩⟩,rfl⟩
theorem P2:∀(t:Tm),(VF t)→GO Tryz.prog 171 [.agg ((Bb t).map .p)] (fun v=>∃e:Int,v= .p (I e)∧0≤e∧e≤size t):=by
 intro t h1;have hsz:=h1.sz;refine BF Tryz.func171 O nO (n:=20) O O (A6 (BO O (Ba O) fun b1=>A1 A7 1 [] O (A3 A7 1 [] O (A2 (BJ ?_)))));refine Bn (α:=Tm×Int) (fun(y,m)=>⟨20,mk [(1,.ptr b1 0),(3,.p (I m))],[.box b1 ((Bb y).map .p)],[]⟩) (fun(y,m)=>size y) (fun(y,m)=>Nd y∧0≤m∧m+size y≤size t) ⟨t,0⟩ (⟨h1.nd,by omega,by omega⟩) ?_ ?_
 ·exact Bh ⟨we O,we O,Az⟩ (leH (is:=[0]) O (wl (oe O) (DJ)))
 rintro⟨y,m⟩ hC
 try simp only at hC
 obtain⟨hC,hm0,hm1⟩:=hC;refine A2 (A2 ?_);obtain⟨yk,yi,yn,yl,ys⟩:=y;refine Be [1,3] 12 (fun y=>y= .p (.bool (((yk:Int)==(6:Int))&&(((ys.length:Nat):Int)==(2:Int))))) ?_ ?_
 ·refine BC (A5 A7 4 [0] O (BY 7 O (fun g=>?_) (fun g=>?_)))
  ·(try simp only[sd,se] at g);exact A5 A7 2 [0] O (BK O (BT Bk O (Bc _)) (A1 A7 2 [] O (⟨O,O,AP,AJ,⟨O,O,Az⟩⟩)))
  (try simp only[sd,se] at g);exact A1 A7 5 [] O (⟨O,O,AP,AJ,⟨O,O,Az⟩⟩)
 rintro _ rfl;refine A4 O (fun c=>?_) (fun c=>?_)
 ·(try simp only[sd,se] at c);refine BA (BJ (A3 A7 3 [] O (BC (A5 A7 2 [0] O ?_))));obtain⟨x,hx⟩:=BE (l:=ys) (i:=1) (by first | omega | (simp at c;omega));refine A0 O (BD Bk O O Ax (Bj hx) (BM _)) (A1 A7 2 [0,1] O ?_);refine⟨⟨x,(m:Int)+(1:Int)⟩,(by have:=Co hx;simp only[size];omega),⟨Df hC.2.2.2.2.1 hx,by omega,by have:=Co hx;simp only[size] at hm1;omega⟩,Bh ⟨we rfl,we rfl,trivial⟩ (leH (is:=[0]) rfl (wl (oe rfl) (DJ)))⟩
 (try simp only[sd,se] at c);refine Bo (A3 A7 2 [] O (A9 (⟨O,_,_,⟨_,_,O,O,O⟩,(List.nil_sublist _),?_⟩)))
 all_goals exact⟨⟨_,rfl,by omega,by simp only[size] at hm1;omega⟩,rfl⟩
theorem T4:∀(d:CX),(Ns d)→GO Tryz.prog 150 [.agg ((Bu d).map .p)] (fun v=>∃bb:Bool,v= .p (.bool bb)∧(bb=true→d.fixed≤1000000)):=by
 intro d h1;have hcl:=h1.cl;have hts:=h1.ty.sz;refine BF Tryz.func150 O n4 (n:=32) O O (A6 (BO O (Ba O) fun b1=>A1 A7 1 [] O (A2 (B0 (fun k=>Nat.beq k 2) Dt (BP O (fun _=>A8 DD O O) Az (CY (j:=0) O O O (fun H i hi=>B6 (i:=i) Bg O hi (FP _) (BM _)) AB Az ?_))))));refine KF [(3,.free (.ptr b1 13)),(4,.read [.box b1 ((Bu d).map .p)] (.p (I d.fixed)))] O O (CO O O (P2 d.type h1.ty) (.inl O)) As (⟨_,0,O,by omega,by omega⟩) AB ?_;rintro _ ⟨e,rfl,he0,he1⟩;refine⟨Az,?_⟩;refine BZ A7 1 [] O (CY (j:=0) O O O (fun H i hi=>BB (i:=i) DO O hi (Cv _)) AB AR (Bt A7 2 [] O (A2 (A3 A7 1 [] O (BJ ?_)))));refine Bn (α:=Nat×Bool) (fun(i,b)=>⟨32,mk [(1,.ptr b1 0),(3,.p (.bool b)),(4,.p (I (i:Int)))],[.box b1 ((Bu d).map .p)],[]⟩) (fun(i,b)=>d.ctors.length - i) (fun(i,b)=>i≤d.ctors.length∧(b=true→d.fixed≤1000000)) ⟨0,(decide ((e:Int)≥(d.fixed:Int)))⟩ (⟨by omega,fun h=>by simp only[decide_eq_true_eq] at h;omega⟩) ?_ ?_
 ·exact Bh ⟨we O,we O,we O,Az⟩ (leH (is:=[0]) O (wl (oe O) (DJ)))
 rintro⟨i,b⟩ hC
 try simp only at hC
 obtain⟨hi,hC⟩:=hC;refine A2 (A6 (A5 A7 2 [] O (A0 O (BB (i:=0) HY O O (CH _)) (A0 O (BT HN O (List.length_map _)) (A1 A7 1 [] O (A4 O (fun c=>?_) (fun c=>?_)))))))
 ·(try simp only[sd,se] at c);refine BA (A2 (BJ (Be [1,4] 3 (fun y=>∃q:Bool,y= .p (.bool q)∧(q=true→b=true)) ?_ ?_)))
  ·refine B0 (fun k=>Nat.beq k 8) Dt (BZ A7 2 [] O (D9 19 O (fun g=>?_) (fun g=>?_)))
   ·(try simp only[sd,se] at g);refine Cm O (fun _=>A8 DD O O) Az (MI (i:=0) O O O O O (fun H i hi=>BB (i:=i) HY O hi (CH _)) AB Az (Cm O (fun _=>Bi O) Az ?_));obtain⟨x,hx⟩:=BE (l:=d.ctors) (i:=i) Ax;refine Cm O (fun _=>BD HN O O Ax (EU hx) (D8 _)) Az (Cm O (fun _=>B7 Iq O O) Az (Cm O (fun _=>DU Bg O (FU _) (BM _)) Az ?_));refine jW [(9,.free (.ptr b1 13)),(10,.read [.box b1 ((Bu d).map .p)] (.p (I d.fixed)))] O O O O (CO O O (P2 x.type (h1.cs _ (List.mem_of_getElem? hx)).ty) (.inl O)) As (⟨_,0,O,by omega,by omega⟩) AB ?_;rintro _ ⟨e1,rfl,he01,he11⟩;refine⟨Az,?_⟩;exact BZ A7 1 [] O (MI (i:=0) O O O O O (fun H i hi=>BB (i:=i) DO O hi (Cv _)) AB AR (Bt A7 3 [] O (⟨O,O,AP,(by refine⟨_,rfl,fun h=>?_⟩;first | (exact absurd h Aw) | assumption),⟨O,O,Az⟩⟩)))
   (try simp only[sd,se] at g);exact BZ A7 6 [] O (cU O O O O AR (Bt A7 5 [] O (⟨O,O,AP,(by refine⟨_,rfl,fun h=>?_⟩;first | (exact absurd h Aw) | assumption),⟨O,O,Az⟩⟩)))
  rintro _ ⟨q,rfl,hq⟩;refine BC (A1 A7 3 [] O (⟨⟨i+1,q⟩,Ac,⟨by omega,fun h=>hC (hq h)⟩,Bh ⟨we rfl,we rfl,we rfl,trivial⟩ (leH (is:=[0]) rfl (wl (oe rfl) (DJ)))⟩))
 (try simp only[sd,se] at c);refine Bo (A3 A7 2 [] O (A9 (⟨O,_,_,⟨_,_,O,O,O⟩,(List.nil_sublist _),?_⟩)))
 all_goals exact⟨⟨_,rfl,hC⟩,rfl⟩
end Go.Proofs.YtboammbpdaoojaaGreat
