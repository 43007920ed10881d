/- Part of the proofs: an abstract program logic, plain models and contracts of functions. -/
import Derived.Test.YtboammbpdaoojaaGreatPh
import Derived.Test.YtboammbpdaoojaaGreatPd
import Derived.Test.YtboammbpdaoojaaGreatPb
import Derived.Test.YtboammbpdaoojaaGreatPg
set_option linter.unusedVariables false
set_option linter.unusedSimpArgs false
set_option maxRecDepth 100000
namespace Go.Eu
open Go.Abs
section
variable {E:List CC}
def LW (W:Int→Tm→Out (Tm×Int)):Prop:=∀l t r l' k,0≤k→W l t= .ok (r,l')→W (l+k) t= .ok (r,l'+k)
theorem JS {α:Type}{l l' k:Int}{x:Tm×Int}{f:Tm→Int→Out (α×Int)}{q:α}(hk:0≤k) (hf:∀t s q s',f t s= .ok (q,s')→f t (s+k)= .ok (q,s'+k)) (h:Bo.put l x f= .ok (q,l')):Bo.put (l+k) x f= .ok (q,l'+k):=by
 unfold Sys.put at h ⊢;split at h
 ·rename_i ho;rw[if_pos ho];simp only[Bo] at h ⊢;by_cases c:l - 1<0∨x.2≠0
  ·rw[if_pos c] at h;cases h
  rw[if_neg c] at h;rw[if_neg An];have:=hf _ _ _ _ h;rw[show l+k - 1=l - 1+k by omega];exact this
 cases h
theorem Oc {f:Tm→Tm}{k:Int}:∀(t:Tm) (s:Int) (q:Option Tm) (s':Int),(Out.ok (some (f t),s):Out (Option Tm×Int))= .ok (q,s')→(Out.ok (some (f t),s+k):Out (Option Tm×Int))= .ok (q,s'+k):=fun t s q s' h=>by cases h;rfl
theorem SI {W:Int→Tm→Out (Tm×Int)}(hW:LW W) {k:Int}(hk:0≤k):∀(m:Nat) (t:E3) (vs:List Tm) (la:Tm) (l l':Int) (q:Option (Tm×List Tm)×Tm),Dm E Bo W m t vs la l= .ok (q,l')→Dm E Bo W m t vs la (l+k)= .ok (q,l'+k)
 | 0,t,vs,la,l,l',q,h=>by rw[Dm] at h;cases h
 | m+1,t,vs,la,l,l',q,h=>by
  by_cases h1:t.kind=1
  ·by_cases hb:t.var<0∨t.var≥(vs.length:Int)
   ·rw[Kl h1 (by rcases hb with h | h;exact .inl h;exact .inr (.inl h))] at h ⊢;cases h;rfl
   have hb2:∀l,¬(t.var<0∨t.var≥(vs.length:Int)∨Bo.over l=true):=fun l=>by simp[Bo];omega
   have hx:=List.getElem?_eq_getElem (show t.var.toNat<vs.length by omega);rw[NA h1 (hb2 _) hx] at h ⊢;obtain⟨⟨r,l1⟩,e1,e2,e3⟩:=LG h;rw[hW _ _ _ _ k hk e1];simp only[Out.chk,Out.bind];rw[if_pos e2];cases hc:C8 E r with
   | none=>rw[Ik hc] at e3 ⊢;cases e3;rfl
   | some p =>
    obtain⟨d,j,f⟩:=p;cases hbr:Cl (Ev d j).name t.branches with
    | none=>rw[Kq hc hbr] at e3 ⊢;cases e3;rfl
    | some t'=>rw[Kr hc hbr] at e3 ⊢;exact SI hW hk m t' _ _ _ _ _ e3
  rw[Jh h1] at h ⊢;cases h;rfl
theorem Yu {d:CC}{g m:Tm}{a:List Tm}{l l' k:Int}{q:Option Tm}(hk:0≤k) (h:Et E Bo d g a m l= .ok (q,l')):Et E Bo d g a m (l+k)= .ok (q,l'+k):=by
 unfold Et at h ⊢;split at h
 ·cases h;rfl
 split at h
 ·rename_i c;rw[if_pos c];cases h;rfl
 rename_i c;rw[if_neg c];split at h
 ·rename_i c2;rw[if_pos c2];cases h;rfl
 rename_i c2;rw[if_neg c2];exact JS hk (Oc (f:=fun t=>apply t (a.drop (CU d+1).toNat))) h
theorem Y9 {g b:Tm}{vs a:List Tm}{l l' k:Int}{q:Option Tm}(hk:0≤k) (h:HW Bo g b vs a l= .ok (q,l')):HW Bo g b vs a (l+k)= .ok (q,l'+k):=by
 unfold HW at h ⊢;split at h
 ·rename_i c;rw[if_pos c];cases h;rfl
 rename_i c;rw[if_neg c];split at h
 ·cases h
 rename_i c2;rw[if_neg c2];exact JS hk (Oc (f:=fun t=>apply t a)) h
theorem WT {d:CC}{g:Tm}{a:List Tm}{l l' k:Int}{q:Option Tm}(hk:0≤k) (h:Ek Bo d g a l= .ok (q,l')):Ek Bo d g a (l+k)= .ok (q,l'+k):=by
 unfold Ek at h ⊢;split at h
 ·rename_i c;rw[if_pos c];cases h;rfl
 rename_i c;rw[if_neg c];exact JS hk (Oc (f:=fun t=>apply t a)) h
theorem XE {W:Int→Tm→Out (Tm×Int)}(hW:LW W) {n:Nat}{g:Tm}{a:List Tm}{l l' k:Int}{q:Option Tm}(hk:0≤k) (h:Dy E Bo W n g a l= .ok (q,l')):Dy E Bo W n g a (l+k)= .ok (q,l'+k):=by
 unfold Dy at h ⊢;split at h
 ·cases h;rfl
 split at h
 ·rename_i c;rw[if_pos c];exact WT hk h
 rename_i c;rw[if_neg c];split at h
 ·rename_i c;rw[if_pos c];unfold PJ at h ⊢;split at h
  ·rename_i c;rw[if_pos c];cases h;rfl
  rename_i c;rw[if_neg c];obtain⟨⟨r,l1⟩,e1,e2,e3⟩:=LG h;rw[hW _ _ _ _ k hk e1];simp only[Out.chk,Out.bind];rw[if_pos e2];exact Yu hk e3
 rename_i c;rw[if_neg c];split at h
 ·rename_i c;rw[if_pos c];unfold H4 at h ⊢;split at h
  ·rename_i c;rw[if_pos c];cases h;rfl
  rename_i c;rw[if_neg c];obtain⟨⟨r,l1⟩,e1,e2⟩:=NX h;rw[SI hW hk _ _ _ _ _ _ _ e1];simp only[Out.bind];simp only at e2;split at e2
  ·cases e2;rfl
  split at e2
  ·rename_i c;simp[Bo] at c
  rw[if_neg (by simp[Bo])];exact Y9 hk e2
 rename_i c;rw[if_neg c];cases h;rfl
theorem YV:∀n,LW (DJ E Bo n)
 | 0=>fun l t r l' k _ h=>by rw[DJ] at h;cases h
 | n+1=>fun l t r l' k hk h=>by
  have ih:=YV n;have hf:∀(f:Tm→Tm) (t:Tm) (s:Int) (q:Tm) (s':Int),DJ E Bo n s (f t)= .ok (q,s')→DJ E Bo n (s+k) (f t)= .ok (q,s'+k):=fun f t s q s' e=>ih _ _ _ _ k hk e;rw[DJ] at h ⊢;split at h
  ·cases h
  rename_i c;rw[if_neg c];split at h
  ·rename_i c;simp[Bo] at c
  rw[if_neg (by simp[Bo])];split at h
  ·cases h
  rename_i c;rw[if_neg c];split at h
  ·rename_i c;rw[if_pos c];split at h
   ·rename_i c;rw[if_pos c];cases h;rfl
   rename_i c;rw[if_neg c];unfold KT at h ⊢;split at h
   ·cases h
   exact JS hk (hf fun x=>apply x ((A9 t).2.drop 1)) h
  rename_i c;rw[if_neg c];split at h
  ·rename_i c;rw[if_pos c];unfold PE at h ⊢;split at h
   ·exact JS hk (hf fun x=>apply x (A9 t).2) h
   cases h
  rename_i c;rw[if_neg c];split at h
  ·rename_i c;rw[if_pos c];split at h
   ·cases h
   obtain⟨⟨r1,l1⟩,e1,e2,e3⟩:=LG h;rw[ih _ _ _ _ k hk e1];simp only[Out.chk,Out.bind];rw[if_pos e2];simp only at e3;split at e3
   ·rename_i c;rw[if_pos c];cases e3;rfl
   rename_i c;rw[if_neg c];unfold JU at e3 ⊢;split at e3
   ·cases e3
   exact JS hk (hf fun x=>apply x (A9 t).2) e3
  rename_i c;rw[if_neg c];split at h
  ·rename_i c;rw[if_pos c];obtain⟨⟨q,l1⟩,e1,e2⟩:=NX h;rw[XE ih hk e1];simp only[Out.bind];simp only at e2;split at e2
   ·cases e2;rfl
   exact ih _ _ _ _ k hk e2
  rename_i c;rw[if_neg c];cases h;rfl
theorem bT {n m:Nat}{l l2:Int}{t a b:Tm}{x y:Int}(h1:DJ E Bo n l t= .ok (a,x)) (h2:DJ E Bo m l2 t= .ok (b,y)) (hl:l≤l2):a=b:=by
 have e1:=YV n l t a x (l2 - l) An h1;rw[show l+(l2 - l)=l2 by omega] at e1;rcases Nat.le_total n m with hn | hn
 ·rcases bA (E:=E) (S:=Bo) n m hn l2 t with e | e
  ·rw[e] at e1;cases e1
  rw[e1,h2] at e;cases e;rfl
 rcases bA (E:=E) (S:=Bo) m n hn l2 t with e | e
 ·rw[e] at h2;cases h2
 rw[h2,e1] at e;cases e;rfl
structure Exit (E:List CC) (n:Nat) (l:Int) (a:Tm) (l':Int):Prop where
 many:Bo.many (A9 a).2.length=false
 lam:(A9 a).1.kind=5→(A9 a).2.length=0
 lt:(A9 a).1.kind≠11
 proj:(A9 a).1.kind=9∨(A9 a).1.kind=10→∃p,(A9 a).1=Je (A9 a).1.kind p∧okB p=true∧p.kind≠8∧DJ E Bo n l p= .ok (p,l')∧a=apply (A9 a).1 (A9 a).2
 con:(A9 a).1.kind=3→Dy E Bo (DJ E Bo n) n (A9 a).1 (A9 a).2 l= .ok (none,l')
 oth:(A9 a).1.kind≠9→(A9 a).1.kind≠10→(A9 a).1.kind≠3→l'=l
theorem Oa {h:Tm}(hk:h.kind≠4):∀(xs:List Tm),A9 (apply h xs)=(h,xs):=by
 have key:∀(xs:List Tm) (f:Tm) (ys:List Tm),A9 f=(h,ys)→A9 (apply f xs)=(h,ys++xs):=by
  intro xs
  induction xs with
  | nil=>intro f ys e;simpa [apply] using e
  | cons x xs ih =>
   intro f ys e;have:A9 (Lu f x)=(h,ys++[x]):=by simp[Lu,A9,e]
   have:=ih (Lu f x) (ys++[x]) this;simpa [apply] using this
 intro xs;have h0:A9 h=(h,[]):=by
  obtain⟨k,i,n,l,s⟩:=h;exact P9 (.inl hk)
 simpa using key xs h [] h0
end
def JJ {α:Type}:Out α→Int
 | .ok _=>0
 | _=>11
def Mc {α:Type}(z:α):Out (α×Int)→α
 | .ok (a,_)=>a
 | _=>z
section
variable {α:Type}{o:Out (α×Int)}{a:α×Int}{z:α}{e:Int}
theorem kS (h:o.ex= .ok a):JJ o=0:=by rw[He h];rfl
theorem jL (h:o.ex= .error e):JJ o=11:=by cases o<;>first | rfl | cases h
theorem j2 (h:o.ex= .ok a):Mc z o=a.1:=by rw[He h];rfl
theorem jr (h:o.ex= .error e):Mc z o=z:=by cases o<;>first | rfl | cases h
end
theorem Kx:F8 20000:=⟨by omega,by omega⟩
end Go.Eu
namespace Go.Proofs.YtboammbpdaoojaaGreat
open Go.Abs Go.Eu
theorem ad:∀(ds:List CC) (N m bt bo:Nat) (t:Tm) (s:Int),(HE ds)→(F8 s)→(DJ ds Bo N s t≠ .stuck)→Bl Tryz.prog 38 [.ptr m 0,.ptr bt 0,.ptr bo 0] [.box m [.p (.lst (List.map Bj ds)),.p (I s)],.box bt ((BK t).map .p),.box bo [.p (I 0),.p (I 0),.p (.str ⟨#[]⟩),.p (.nils),.p (.nils)]] (J5 (fun(r:Tm×Int)=> .tup []) (fun _=> .p (.iface 122 .unit)) (fun r H'=>H'=[.box m [.p (.lst (List.map Bj ds)),.p (I r.2)],.box bt ((BK t).map .p),.box bo ((BK r.1).map .p)]) ((DJ ds Bo N s t).ex)):=by
 intro ds N m bt bo t s h1 h2 h3;refine A4 Tryz.func38 O ow (n:=7) O O (A3 (Ay A0 2 [1] O (DX [0] O O O (.inl ⟨O,O,O⟩) (Na ds h1 N m t s h2 h3) ⟨_,_,O,O,O⟩ Am (aw (we O) (aw (we O) (Eg))) (fun _ _ h=>(congrArg List.length h).trans O) ?_ ?_)))
 rotate_left
 ·intro e _ he;exact⟨O,_,List.nil_sublist _,⟨_,he,O⟩⟩
 rintro⟨z,n2⟩ _ hz rfl;refine Ar A0 1 [2,1] O ⟨O,_,_,O,(CH (is:=[0,1,2]) O),?_⟩;exact⟨⟨z,n2⟩,hz,O,O⟩
theorem Nn:∀(ds:List CC) (N:Nat) (t:Tm),(HE ds)→(DJ ds Bo N 20000 t≠ .stuck)→E4 Tryz.prog 12 [.p (.lst (List.map Bj ds)),.agg ((BK t).map .p)] (.tup [.agg ((BK (Mc BZ (DJ ds Bo N 20000 t))).map .p),.p (I (JJ (DJ ds Bo N 20000 t)))]):=by
 intro ds N t h1 h2;refine A4 Tryz.func12 O pj (n:=16) O O (Aw (BG O (BO O) fun b3=>BG O (A7 Bw O) fun b4=>Ar A0 1 [] O (Aw (BG O (A7 Bw O) fun b6=>Bf O (Au ?_)))));obtain⟨e,he⟩ | ⟨⟨z,n2⟩,ha⟩:=FK ((DJ ds Bo N 20000 t).ex)
 ·refine A3 (Ay A0 2 [] O (TZ [2,0] O O O (.inl ⟨O,O,O⟩) (P5 _ _ he (fun r=>r.2) (fun r=>[.box b3 ((BK t).map .p),.box b6 ((BK r.1).map .p)]) 38 [.ptr b3 0,.ptr b6 0] [.box b3 ((BK t).map .p),.box b6 [.p (I 0),.p (I 0),.p (.str ⟨#[]⟩),.p (.nils),.p (.nils)]] ds (fun m=>ad ds N m b3 b6 t 20000 h1 Kx h2)) ⟨_,_,O,O,⟨_,_,O,O,O⟩⟩ Am (DD _) (Ar A0 1 [] O (Au (As A0 2 [] O ?_)))));refine Av O (fun c=>?_) (fun c=>by cases c);refine As A0 4 [0,0] O (BN (Bc (i:=0) O) (Az (⟨O,_,_,⟨_,_,O,(BE (i:=0) BQ O O O),⟨_,_,O,O,O⟩⟩,(List.nil_sublist _),?_⟩)))
  all_goals exact⟨by show (.tup [.agg [.p (I 0),.p (I 0),.p (.str ⟨#[]⟩),.p (.lst []),.p (.lst [])],.p (I 11)]:AV)=_;rw[jr he,jL he];rfl,rfl⟩
 refine A3 (Ay A0 2 [] O (Aq O (CW [2,0] O (.inl ⟨O,O,O⟩) (UI _ _ ha (fun r=>r.2) (fun r=>[.box b3 ((BK t).map .p),.box b6 ((BK r.1).map .p)]) 38 [.ptr b3 0,.ptr b6 0] [.box b3 ((BK t).map .p),.box b6 [.p (I 0),.p (I 0),.p (.str ⟨#[]⟩),.p (.nils),.p (.nils)]] ds (fun m=>ad ds N m b3 b6 t 20000 h1 Kx h2)) ⟨_,_,O,O,⟨_,_,O,O,O⟩⟩ Am O (.inl O)) (Ar A0 1 [] O (Au (As A0 2 [] O ?_)))));refine Av O (fun c=>by cases c) (fun c=>?_);refine A1 (As A0 3 [0,1,1] O (Az (⟨O,_,_,⟨_,_,O,(BE (i:=1) BQ O O Ag),⟨_,_,O,O,O⟩⟩,(List.nil_sublist _),?_⟩)))
 all_goals exact⟨by show (.tup [.agg ((BK z).map .p),.p (I 0)]:AV)=_;rw[j2 ha,kS ha],rfl⟩
end Go.Proofs.YtboammbpdaoojaaGreat
namespace Go.Eu
open Go.Abs
def E1 (p:Int×List Int):List PV:=[I p.1,.lst (p.2.map F5)]
theorem et (p:Int×List Int):D2 2 (E1 p):=⟨rfl,by simp[E1]⟩
theorem R5 (l:List (Int×List Int)):∀r∈l.map E1,D2 2 r:=Gc et l
theorem VF {t x z:Tm}{ps:List Int}{p:Int}(h:Iv t ps x=some z) (hp:ps[0]?=some p):p.toNat<(A9 t).2.length:=by
 cases ps with
 | nil=>simp at hp
 | cons q qs =>
  simp at hp;subst hp;rw[Iv] at h;rcases Nat.lt_or_ge q.toNat (A9 t).2.length with hl | hl
  ·exact hl
  rw[List.getElem?_eq_none hl] at h;cases h
theorem Yl {t x z y:Tm}{ps:List Int}{p:Int}(h:Iv t ps x=some z) (hp:ps[0]?=some p) (hy:(A9 t).2[p.toNat]?=some y):∃w,Iv y (ps.drop 1) x=some w∧apply (A9 t).1 ((A9 t).2.set p.toNat w)=z:=by
 cases ps with
 | nil=>simp at hp
 | cons q qs =>
  simp at hp;subst hp;rw[Iv,hy] at h;simp only[Option.map_eq_some_iff] at h;obtain⟨w,h1,h2⟩:=h;exact⟨w,h1,h2⟩
theorem dk {t x z:Tm}{ps:List Int}(h:Iv t ps x=some z) (hp:ps.length=0):x=z:=by
 cases ps with
 | nil=>rw[Iv] at h;cases h;rfl
 | cons q qs=>simp at hp
theorem ZH {t x z:Tm}{ps:List Int}(h:Iv t ps x=some z) (hp:ps.length≠0):0<(A9 t).2.length:=by
 cases ps with
 | nil=>simp at hp
 | cons q qs=>have:=VF (p:=q) h rfl;omega
end Go.Eu
namespace Go.Proofs.YtboammbpdaoojaaGreat
open Go.Abs Go.Eu
theorem aI:∀(l:List Int),(l.length<549755813888)→Bl Tryz.prog 143 [.p (.lst (List.map F5 l))] [] (fo (fun v=>v) 1 (List.map F5 l)):=by
 intro l h1;refine A4 Tryz.func143 O lG (n:=8) O O (As A0 1 [] O (Au (Aw (Br O (DW O O (L6 G8 O O) ?_)))));rintro _ ⟨q,rfl,hq⟩;refine Bf O (Av O (fun c=>?_) (fun c=>?_))
 ·(try simp only[sd,se] at c);refine As A0 1 [] O (BN (Fo (t:=2) (sz:=1) O) (Az (⟨O,_,_,⟨_,_,O,O,O⟩,(CH (is:=[0]) O),?_⟩)));rw[show l=[] by simpa using hq c]
  all_goals exact⟨_,_,rfl,rfl⟩
 (try simp only[sd,se] at c);refine A1 (Aw (QW O O (Ka G8) fun b5 cp=>Br O (Ih O O (Cs (i:=0) (rows':=List.map F5 l) G8 G8 eM O O O O O O (OW _) (by simp only[List.length_map,List.length_nil];omega) (JL (f:=F5) [] l)) fun o cp1=>Ar A0 1 [] O (Az (⟨O,_,_,⟨_,_,O,O,O⟩,(CH (is:=[0]) O),?_⟩)))))
 all_goals exact⟨_,_,rfl,rfl⟩
theorem _root_.Go.AR {α:Prop}(h:α:=by simp only[De,List.length_set];omega):α:=h
theorem eu:∀(n:Nat) (ps:List Int) (t x z:Tm),(ps.length≤n)→(okB t=true)→(∀p∈ps,0≤p)→(ps.length<1000000)→(Iv t ps x=some z)→E4 Tryz.prog 142 [.agg ((BK t).map .p),.p (.lst (List.map F5 ps)),.agg ((BK x).map .p)] (.agg ((BK z).map .p)):=by
 intro n
 induction n using Nat.strongRecOn with
 | ind n ih =>
  intro ps t x z h0 h1 h3 h4 h5;have hsp:=XV h1;have hsl:=hsp.len;have hss:=hsp.sz;refine A4 Tryz.func142 O mG (n:=39) O O (Aw (BG O (BO O) fun b3=>BG O (BO O) fun b5=>BG O (A7 Bw O) fun b6=>Bf O (Au (Aw (Br O (Aq O (BM G8 O (List.length_map _)) (Ar A0 1 [] O (Av O (fun c=>?_) (fun c=>?_)))))))))
  ·(try simp only[sd,se] at c);refine As A0 2 [1,0,1] O (Az (⟨O,_,_,⟨_,_,O,(BE (i:=0) BQ O O Ag),O⟩,(List.nil_sublist _),?_⟩))
   all_goals exact⟨by show (.agg ((BK x).map .p):AV)=_;rw[dk h5 An],rfl⟩
  (try simp only[sd,se] at c);refine A1 (Aw (Aq O (BP (i:=2) BQ O O Ag) (Aq O (BF O O (Km t hsp.nd AZ) O) (Ay A0 3 [] O (BG O (A7 Bw O) fun b7=>Ar A0 2 [0,1] O (Aw (Br O (OE O O O (.inl ⟨O,O,O⟩) (Jc ((A9 t).2) hsp.len) (.inl O) fun o cp=>Ar A0 1 [] O (Au (Ks (i:=0) O (by have hxl:=ZH h5 An;rw[BR];omega) fun b hb=>?_))))))))));subst hb;refine B6 (fun k=>false) EO (Bb A0 2 [] O ?_);obtain⟨x1,hx1⟩:=A6 (l:=ps) (i:=0) An;have hx0:=h3 _ (List.mem_of_getElem? hx1);have hxl:=VF h5 hx1;refine BL O (fun _=>A5 G8 O O An (LH hx1) (O)) Ap (Bb A0 3 [] O (BL O (fun _=>A5 G8 O O An (LH hx1) (O)) Ap (BL O (fun _=>El Df O) Ap (BL O (fun _=>Cn Bg O O An AX) Ap ?_))));obtain⟨y,hy⟩:=A6 (l:=((A9 t).2)) (i:=(x1:Int).toNat) (by first | omega | assumption);refine Cc (j:=0) O O O (fun H i hi=>Eb (i:=i) BQ O hi (Bd hy)) AB Ap (BL O (fun _=>BT O) Ap (BL O (fun _=>Co (lo:=1) G8 O (CB (OW _)) ⟨_,O⟩ O AP (Nat.le_refl _) (kC (f:=F5) ps 1)) Ap (Bb A0 1 [3] O ?_)));obtain⟨z1,e1,e2⟩:=Yl h5 hx1 hy;refine BL rfl (fun _=>BF rfl rfl (ih (n - 1) An (ps.drop 1) y x z1 (by simp only[List.length_drop];omega) (hsp.args _ (List.mem_of_getElem? hy)) (fun p hp=>h3 p (List.mem_of_mem_drop hp)) (by simp only[List.length_drop];omega) e1) rfl) trivial (BL O (fun _=>Cn Bg O O An AX) Ap (Hu O O (D5 (i:=0) (j:=((x1:Int).toNat)) BQ O O O AX O (JW _) (BB _) (FT _) (R2 ((A9 t).2) ((x1:Int).toNat) z1)) AB Ap (IX O Aj (Aw (Ay A0 2 [1] O (CD (Ct (t:=20) (x:= .vs (some b) (BC ((((A9 t).2)).set ((x1:Int).toNat) z1)).length cp) (C5 ((A9 t).2) (l':=(((A9 t).2)).set ((x1:Int).toNat) z1) Ao)) ?_))))));refine CD (Ct (t:=9) (x:= .vs (some b) (BC ((((A9 t).2)).set ((x1:Int).toNat) z1)).length cp) (C5 ((A9 t).2) (l':=(((A9 t).2)).set ((x1:Int).toNat) z1) Ao)) (CD (Ct (t:=21) (x:= .vs (some b) (BC ((((A9 t).2)).set ((x1:Int).toNat) z1)).length cp) (C5 ((A9 t).2) (l':=(((A9 t).2)).set ((x1:Int).toNat) z1) Ao)) (CD (Ct (t:=25) (x:= .vs (some b) (BC ((((A9 t).2)).set ((x1:Int).toNat) z1)).length cp) (C5 ((A9 t).2) (l':=(((A9 t).2)).set ((x1:Int).toNat) z1) Ao)) (CD (Ct (t:=37) (x:= .vs (some b) (BC ((((A9 t).2)).set ((x1:Int).toNat) z1)).length cp) (C5 ((A9 t).2) (l':=(((A9 t).2)).set ((x1:Int).toNat) z1) Ao)) (CD (Cw (i:=0) [20,9,21,25,37] O (Eh ⟨O,O,O,O,O,Ap⟩)) ?_))))
  refine Aq O (BF O O (Dz ((A9 t).1) ((((A9 t).2)).set ((x1:Int).toNat) z1) AR) O) (Ar A0 1 [1,1] O (Az (⟨O,_,_,⟨_,_,O,(BE (i:=1) BQ O O Ag),O⟩,(List.nil_sublist _),?_⟩)))
  all_goals exact⟨by show (.agg ((BK (apply ((A9 t).1) ((((A9 t).2)).set ((x1:Int).toNat) z1))).map .p):AV)=_;rw[e2],rfl⟩
end Go.Proofs.YtboammbpdaoojaaGreat
namespace Go.Eu
open Go.Abs
def TN (n:Nat):List (Int×List Int):=(List.range n).map fun i:Nat=>((i:Int),[])
theorem VC (n:Nat):TN (n+1)=TN n++[((n:Int),[])]:=by simp[TN,List.range_succ]
theorem PL (n:Nat):(TN n).length=n:=by simp[TN]
theorem NZ (a:Int×List Int) (fx:Int):EI a fx 0=[]:=rfl
theorem Np (a:Int×List Int) (fx:Int) (n:Nat):EI a fx (n+1)=EI a fx n++[(a.1,a.2++[fx+(n:Int)])]:=by simp[EI,List.range_succ]
theorem Pu {α:Type}{l:List α}{i:Nat}{x:α}(h:l[i]?=some x):l.take (i+1)=l.take i++[x]:=by rw[List.take_add_one,h];rfl
theorem Vt {α:Type}{l:List α}{i:Nat}(h:l.length≤i):l.take i=l:=List.take_of_length_le h
theorem MM {w:E3}(h:Ew w):okB w.body=true:=by
 obtain⟨k,b,v,l⟩:=w;simp only[Ew] at h;exact h.1
structure gP (a us:List Tm) (pl:List (Int×List Int)) (w:E3):Prop where
 ok:dF a us pl
 nn:∀p∈pl,0≤p.1∧(∀q∈p.2,0≤q)∧p.2.length+DY w≤1000
theorem gP.len {a us:List Tm}{pl:List (Int×List Int)}{w:E3}(h:gP a us pl w):pl.length=us.length:=h.ok.len
theorem dG (a:List Tm) (n:Nat) (w:E3) (hn:n≤a.length) (hd:DY w≤1000):gP a (a.take n) (TN n) w:=by
 refine⟨ZB a n hn,fun p hp=>?_⟩;obtain⟨i,_,rfl⟩:=List.mem_map.1 hp;exact⟨by simp,by simp,by simp;omega⟩
theorem gP.next {E:List CC}{a us f:List Tm}{pl:List (Int×List Int)}{w q:E3}(h:gP a us pl w) (hE:Lz E) {i:Nat}{v:Tm}{p:Int×List Int}{d:CC}{j:Int}{nm:ByteArray}(hv:us[i]?=some v) (hp:pl[i]?=some p) (hc:C8 E v=some (d,j,f)) (hb:Cl nm w.branches=some q) (ho:Ew w):gP a (us++f) (pl++EI p d.fixed f.length) q:=by
 have hcf:=GR hc;obtain⟨b1,b2⟩:=Wx hb ho;have hfx:=(hE.all d hcf.mem).fx.1;have hmore:=h.ok.more hv hp hfx;rw[←hcf.fs] at hmore;obtain⟨n1,n2,n3⟩:=h.nn p (List.mem_of_getElem? hp);refine⟨hmore,fun r hr=>?_⟩;rcases List.mem_append.1 hr with hr | hr
 ·obtain⟨m1,m2,m3⟩:=h.nn r hr;exact⟨m1,m2,by omega⟩
 obtain⟨k,_,rfl⟩:=List.mem_map.1 hr;refine⟨n1,fun q hq=>?_,by simp only[List.length_append,List.length_cons,List.length_nil];omega⟩;rcases List.mem_append.1 hq with hq | hq
 ·exact n2 q hq
 have:=List.mem_singleton.1 hq;omega
theorem gP.at_ {a us:List Tm}{pl:List (Int×List Int)}{w:E3}(h:gP a us pl w) {i:Nat}{v:Tm}{p:Int×List Int}(hv:us[i]?=some v) (hp:pl[i]?=some p):0≤p.1∧(∀q∈p.2,0≤q)∧p.2.length≤1000∧p.1.toNat<a.length:=by
 obtain⟨n1,n2,n3⟩:=h.nn p (List.mem_of_getElem? hp);obtain⟨j,path,y,h1,h2,h3⟩:=h.ok.at_ i v hv;rw[hp] at h1;cases h1;exact⟨n1,n2,by omega,(List.getElem?_eq_some_iff.1 h2).1⟩
section
variable {E:List CC}{σ:Type}{S:Sys σ}{T:σ→Tm→Out (Option Tm×σ)}{h:Tm}{ar:Int}{a us:List Tm}{n:Nat}{t:E3}{pl:List (Int×List Int)}{s:σ}{x:Tm}{p:Int×List Int}
def bV (h:Tm) (a:List Tm) (p:Int×List Int) (r:Option Tm×σ):Out (Option Tm×σ):=match r.1 with
 | none=> .ok (none,r.2)
 | some x=>match Iv (a.getD p.1.toNat default) p.2 x with
  | none=> .stuck
  | some y=> .ok (some (apply h (a.set p.1.toNat y)),r.2)
theorem dW {X:Out (Option Tm×σ)}(e:JI E S T h ar a n t us pl s=X) (hX:X≠ .stuck):∃k,n=k+1:=by
 cases n with
 | zero=>rw[JI] at e;exact absurd e.symm hX
 | succ k=>exact⟨k,rfl⟩
theorem aN (hk:t.kind≠1):JI E S T h ar a (n+1) t us pl s=HW S h t.body us (a.drop ar.toNat) s:=by rw[JI,if_neg hk]
theorem hP (hk:t.kind=1) (hb:t.var<0∨t.var≥(us.length:Int)):JI E S T h ar a (n+1) t us pl s= .ok (none,s):=by rw[JI,if_pos hk,if_pos hb]
theorem aF (hk:t.kind=1) (hb:¬(t.var<0∨t.var≥(us.length:Int))) (hx:us[t.var.toNat]?=some x) (hp:pl[t.var.toNat]?=some p) (hc:C8 E x=none):JI E S T h ar a (n+1) t us pl s=(T s x).bind (bV h a p):=by
 rw[JI,if_pos hk,if_neg hb,CR hx,CR hp,hc];rfl
theorem kP {d:CC}{j:Int}{f:List Tm}(hk:t.kind=1) (hb:¬(t.var<0∨t.var≥(us.length:Int))) (hx:us[t.var.toNat]?=some x) (hp:pl[t.var.toNat]?=some p) (hc:C8 E x=some (d,j,f)) (hbr:Cl (Ev d j).name t.branches=none):JI E S T h ar a (n+1) t us pl s= .ok (none,s):=by
 rw[JI,if_pos hk,if_neg hb,CR hx,CR hp,hc];simp only[hbr]
theorem jY {d:CC}{j:Int}{f:List Tm}{t':E3}(hk:t.kind=1) (hb:¬(t.var<0∨t.var≥(us.length:Int))) (hx:us[t.var.toNat]?=some x) (hp:pl[t.var.toNat]?=some p) (hc:C8 E x=some (d,j,f)) (hbr:Cl (Ev d j).name t.branches=some t'):JI E S T h ar a (n+1) t us pl s=JI E S T h ar a n t' (us++f) (pl++EI p d.fixed f.length) s:=by
 rw[JI,if_pos hk,if_neg hb,CR hx,CR hp,hc];simp only[hbr]
theorem Yv {r:Option Tm×σ}(hr:r.1.isSome=false):bV h a p r= .ok (none,r.2):=by
 obtain⟨q,s⟩:=r;cases q with
 | none=>rfl
 | some x=>cases hr
theorem Yt {r:Option Tm×σ}{y:Tm}(hs:bV h a p r≠ .stuck) (hr:r.1.isSome=true) (hy:a[p.1.toNat]?=some y):∃z,Iv y p.2 (r.1.getD BZ)=some z∧bV h a p r= .ok (some (apply h (a.set p.1.toNat z)),r.2):=by
 obtain⟨q,s⟩:=r;cases q with
 | none=>cases hr
 | some x =>
  unfold bV at hs ⊢;simp only at hs ⊢;rw[CR hy] at hs ⊢;cases hz:Iv y p.2 x with
  | none=>rw[hz] at hs;exact absurd rfl hs
  | some z=>exact⟨z,hz,rfl⟩
end
end Go.Eu
namespace Go.Proofs.YtboammbpdaoojaaGreat
open Go.Abs Go.Eu
def pG (ds:List CC) (n:Nat):Prop:=∀(m:Nat) (t:Tm) (s:Int),F8 s→Em ds Bo n s t≠ .stuck→Bl Tryz.prog 44 [.ptr m 0,.agg ((BK t).map .p)] [.box m [.p (.lst (List.map Bj ds)),.p (I s)]] (J5 (fun(r:Option Tm×Int)=> .tup [TV (r.1.getD BZ),.p (.bool r.1.isSome)]) (fun _=> .p (.iface 122 .unit)) (fun r H'=>H'=[.box m [.p (.lst (List.map Bj ds)),.p (I r.2)]]) ((Em ds Bo n s t).ex))
set_option maxHeartbeats 4000000 in
theorem Wl:∀(n m:Nat) (ds:List CC) (s:Int) (g:Tm) (a:List Tm) (d:CC) (f:Gh),(pG ds n)→(HE ds)→(F8 s)→(d∈ds)→(f∈d.funs)→(f.arity≤a.length)→(okB g=true)→(a.length<549755813888)→(∀y∈a,okB y=true)→(JI ds Bo (Em ds Bo n) g f.arity a n f.tree (a.take f.arity.toNat) (TN f.arity.toNat) s≠ .stuck)→Bl Tryz.prog 111 [.ptr m 0,.agg ((BK g).map .p),.agg ((FR f).map .p),.p (.lst (BC a))] [.box m [.p (.lst (List.map Bj ds)),.p (I s)]] (J5 (fun(r:Option Tm×Int)=> .tup [TV (r.1.getD BZ),.p (.bool r.1.isSome)]) (fun _=> .p (.iface 122 .unit)) (fun r H'=>H'=[.box m [.p (.lst (List.map Bj ds)),.p (I r.2)]]) ((JI ds Bo (Em ds Bo n) g f.arity a n f.tree (a.take f.arity.toNat) (TN f.arity.toNat) s).ex)):=by
 intro n m ds s g a d f hT h2 h3 h4 h5 h6 h7 h8 h9 hns;obtain⟨gk,gi,gn,gl,gs⟩:=g;have hgo:=CY.1 h7;have hgl:=hgo.nd;simp only[Nd,De] at hgl;have hfu:=(h2.g.all _ h4).fu _ h5;have hdp:=h2.fu _ h4 _ h5;have hlf:=Sq h2 h4 h5 h9;have htl:(a.take f.arity.toNat).length=f.arity.toNat:=by rw[List.length_take];omega
 have hpw:=dG a f.arity.toNat f.tree An An;generalize hX:JI ds Bo (Em ds Bo n) (.mk gk gi gn gl gs:Tm) f.arity a n f.tree (a.take f.arity.toNat) (TN f.arity.toNat) s=X at hns ⊢;refine A4 Tryz.func111 O ke (n:=169) O O (Aw (BG O (BO O) fun b5=>BG O (BO O) fun b6=>BG O (A7 Bw O) fun b8=>Ar A0 1 [] O (Aw (Ay A0 2 [] O (Aq O (A2 (i:=1) Df O O (CT _)) (Aq O (Co (lo:=0) (hi:=(f.arity:Int).toNat) Bg O (CB (Bu _)) O ⟨_,pI An⟩ (Nat.zero_le _) AP (SA a ((f.arity:Int).toNat))) (OE O O O (.inl ⟨O,O,O⟩) (Jc (a.take ((f.arity:Int).toNat)) (by simp only[List.length_take];omega)) (.inl O) fun o cp=>Ar A0 1 [] O (Aw (bg O (CD (Fo (t:=11) (sz:=2) O) (Bf O (Au (Aw (Br O (Aq O (Ns Bg O (BR _)) (Ar A0 1 [] O (A8 ?_)))))))))))))))));refine Be (α:=Nat×Option Nat×Nat) (fun(i,o1,cp1)=>⟨169,mk [(0,.ptr m 0),(3,.p (.lst (BC a))),(5,.ptr b5 0),(6,.ptr b6 0),(8,.ptr b8 0),(10,.vs o (BC (a.take ((f.arity:Int).toNat))).length cp),(11,.vs o1 (List.map E1 (TN i)).length cp1),(32,.p (I ((a.take ((f.arity:Int).toNat)).length:Nat))),(33,.p (I (i:Int)))],[.vec o1 2 (List.map E1 (TN i)) cp1,.vec o 5 (BC (a.take ((f.arity:Int).toNat))) cp,.box b8 [.p (I 0),.p (I 0),.p (.str ⟨#[]⟩),.p (.nils),.p (.nils)],.box b6 ((FR f).map .p),.box b5 [.p (I gk),.p (I gi),.p (.str gn),.p (.lst (List.map B5 gl)),.p (.lst (BC gs))],.box m [.p (.lst (List.map Bj ds)),.p (I s)]],[]⟩) (fun(i,o1,cp1)=>(a.take f.arity.toNat).length - i) (fun(i,o1,cp1)=>i≤(a.take f.arity.toNat).length) ⟨0,none,0⟩ AO ?_ ?_
 ·exact BY ⟨we O,we O,we O,we O,we O,we O,we O,we O,we O,Ap⟩ (leH (is:=[0,1,2,3,4,5]) O (wl (oe O) (wl (oe O) (wl (oe O) (wl (oe O) (wl (oe O) (wl (oe O) (DO))))))))
 rintro⟨i,o1,cp1⟩ hC
 try simp only at hC
 have hi:=hC;refine As A0 1 [] O (Au (Av O (fun c=>?_) (fun c=>?_)))
 ·(try simp only[sd,se] at c);refine A1 (Au (A8 (As A0 2 [] O (A3 (Ay A0 3 [] O (Aq O (Bx Q2 VL O O O O O) (Ih O O (Cs (i:=0) (rows':=List.map E1 ([((i:Int),[])])) Q2 Q2 VL O O O O O O (R5 _) (by simp only[List.length_map,PL,List.length_cons,List.length_nil];omega) (JL (f:=E1) (TN i) ([((i:Int),[])]))) fun o2 cp2=>Ar A0 1 [] O (A3 (Ar A0 2 [] O ?_)))))))));refine⟨⟨i+1,o2,cp2⟩,AT,by omega,BY ⟨we rfl,we rfl,we rfl,we rfl,we rfl,we rfl,we (G2 (f:=E1) (TN i++([((i:Int),[])])) ((VC i).symm)),we rfl,we rfl,trivial⟩ (leH (is:=[0,1,2,3,4,5]) rfl (wl (Fl (f:=E1) (TN i++([((i:Int),[])])) ((VC i).symm)) (wl (oe rfl) (wl (oe rfl) (wl (oe rfl) (wl (oe rfl) (wl (oe rfl) (DO))))))))⟩
 (try simp only[sd,se] at c);refine Bh (Aw (Aq O (Ax G4 O O) (Aq O (Bv (i:=3) Kf O O (EL _) (Cy _)) (BG O (A7 Yn O) fun b13=>Ar A0 1 [0,1] O (Au (A8 ?_))))));refine Be (α:=Nat×E3×List Tm×List (Int×List Int)×Option Nat×Nat×Option Nat×Nat) (fun(k2,w,us,pl,o2,cp2,o3,cp3)=>⟨169,mk [(0,.ptr m 0),(3,.p (.lst (BC a))),(5,.ptr b5 0),(6,.ptr b6 0),(8,.ptr b8 0),(10,.vs o2 (BC us).length cp2),(11,.vs o3 (List.map E1 pl).length cp3),(13,.ptr b13 0)],[.box b13 ((C4 w).map .p),.vec o3 2 (List.map E1 pl) cp3,.vec o2 5 (BC us) cp2,.box b8 [.p (I 0),.p (I 0),.p (.str ⟨#[]⟩),.p (.nils),.p (.nils)],.box b6 ((FR f).map .p),.box b5 [.p (I gk),.p (I gi),.p (.str gn),.p (.lst (List.map B5 gl)),.p (.lst (BC gs))],.box m [.p (.lst (List.map Bj ds)),.p (I s)]],[]⟩) (fun(k2,w,us,pl,o2,cp2,o3,cp3)=>k2) (fun(k2,w,us,pl,o2,cp2,o3,cp3)=>JI ds Bo (Em ds Bo n) (.mk gk gi gn gl gs:Tm) f.arity a k2 w us pl s=X∧VO w us∧gP a us pl w) ⟨n,f.tree,a.take f.arity.toNat,TN f.arity.toNat,o,cp,o1,cp1⟩ (⟨hX,hlf,hpw⟩) ?_ ?_
 ·exact BY ⟨we O,we O,we O,we O,we O,we O,we (G2 (f:=E1) (TN i) (by rw[show i=f.arity.toNat from by omega])),we O,Ap⟩ (leH (is:=[0,1,2,3,4,5,6]) O (wl (oe O) (wl (Fl (f:=E1) (TN i) (by rw[show i=f.arity.toNat from by omega])) (wl (oe O) (wl (oe O) (wl (oe O) (wl (oe O) (wl (oe O) (DO)))))))))
 rintro⟨k2,w,us,pl,o2,cp2,o3,cp3⟩ hC1
 try simp only at hC1
 obtain⟨hC1,hL,hW⟩:=hC1;obtain⟨k1,rfl⟩:=dW hC1 hns;refine Au (Aw (Aq O (Ax Fi O O) (Aq O (A2 (i:=0) Df O O (Gq _)) (Ar A0 1 [] O (Av O (fun c1=>?_) (fun c1=>?_))))))
 ·(try simp only[sd,se] at c1);have hk1:=c1;refine A1 (A8 (Au (Au (BU [0,3,5,6,8,10,11,13] 56 (fun y=>y= .p (.bool ((decide ((w.var:Int)<(0:Int)))||(decide ((w.var:Int)≥((us.length:Nat):Int)))))) ?_ ?_))))
  ·refine A3 (Aq O (Ax Fi O O) (Aq O (A2 (i:=0) Df O O (DZ _)) (Ay A0 2 [] O (BI 50 O (fun g1=>?_) (fun g1=>?_)))))
   ·(try simp only[sd,se] at g1);exact Ar A0 6 [] O (⟨O,O,AJ,AH,⟨O,O,O,O,O,O,O,O,Ap⟩⟩)
   (try simp only[sd,se] at g1);exact BA O (Ax Fi O O) (BA O (A2 (i:=0) Df O O (DZ _)) (BA O (BT O) (BA O (Ns Bg O (BR _)) (Ar A0 2 [] O (⟨O,O,AJ,AH,⟨O,O,O,O,O,O,O,O,Ap⟩⟩)))))
  rintro _ rfl;refine Av O (fun c2=>?_) (fun c2=>?_)
  ·(try simp only[sd,se] at c2);rw[hP hk1 (by simpa using c2)] at hC1;refine As A0 3 [3,0] O (BN (Bc (i:=3) O) (Az (⟨O,_,_,⟨_,_,O,(BE (i:=3) BQ O O O),⟨_,_,O,O,O⟩⟩,(CH (is:=[6]) O),?_⟩)));exact⟨⟨_,_⟩,C6 hC1.symm,O,O⟩
  (try simp only[sd,se] at c2);have hcb:¬(w.var<0∨w.var≥(us.length:Int)):=by simpa using c2
  have hWl:=hW.len;have hLl:=hL.len;refine A1 (Aw (Ay A0 2 [] O (Aq O (A2 (i:=0) Df O O (DZ _)) (M4 (i:=1) O AY fun b hb=>?_))));subst hb;refine Aq O (Cn Q2 O O An AG) ?_;obtain⟨y,hy⟩:=A6 (l:=pl) (i:=(w.var:Int).toNat) AN;refine Aq O (Eb (i:=1) mC O O (Pm hy)) (BG O (A7 VL O) fun b14=>Ar A0 1 [0,1] O (Aw (Ay A0 3 [] O (Aq O (A2 (i:=1) Df O O (DZ _)) (M4 (i:=3) O AY fun b1 hb1=>?_)))));subst hb1;refine Aq O (Cn Bg O O An AG) ?_;obtain⟨y1,hy1⟩:=A6 (l:=us) (i:=(w.var:Int).toNat) AN;refine Aq O (Eb (i:=3) BQ O O (Bd hy1)) (Aq O (CW [7] O (.inl ⟨O,O,O⟩) (Pj m ds s y1 h2.g (hL.ok _ (List.mem_of_getElem? hy1))) ⟨_,_,O,O,O⟩ Am O (.inl O)) (Ay A0 5 [] O (BG O (A7 Ml O) fun b15=>Ar A0 4 [0,1] O (Au (As A0 2 [] O (Av O (fun c3=>?_) (fun c3=>?_)))))))
  ·(try simp only[sd,se] at c3);have hcn:=PW c3;obtain⟨ha1,ha2,ha3,ha4⟩:=hW.at_ hy1 hy;obtain⟨ya,hya⟩:=A6 ha4;refine Aw (Ay A0 3 [] O (Aq O (A2 (i:=2) Df O O (DZ _)) (Aq O (Cn Bg O O An AG) ?_)));obtain⟨y2,hy2⟩:=A6 (l:=us) (i:=(w.var:Int).toNat) AN;refine Aq O (Eb (i:=4) BQ O O (Bd hy2)) ?_;have hyy:y2=y1:=Option.some.inj (hy2.symm.trans hy1);rw[aF hk1 hcb hy2 hy (by rw[hyy];exact hcn)] at hC1;have hn0:=hns;rw[←hC1] at hn0;have hn1:=Iw hn0;refine DX [8] O O O (.inl ⟨O,O,O⟩) (hT m y2 s h3 hn1) ⟨_,_,O,O,O⟩ Am (aw (we O) (aw (we O) (Eg))) (fun _ _ h=>(congrArg List.length h).trans O) ?_ ?_
   rotate_left
   ·intro e _ he;exact⟨O,_,List.nil_sublist _,⟨_,by rw[←hC1];exact KH hn0 he,rfl⟩⟩
   rintro⟨q,n2⟩ _ hz rfl;rw[Lc hz] at hC1;refine Ay A0 3 [] O (BG O (A7 Bw O) fun b19=>Ar A0 2 [0,1] O (Au (As A0 2 [] O (Av O (fun c4=>?_) (fun c4=>?_)))))
   ·(try simp only[sd,se] at c4);rw[Yv c4] at hC1;refine As A0 3 [6,0] O (BN (Bc (i:=6) O) (Az (⟨O,_,_,⟨_,_,O,(BE (i:=6) BQ O O O),⟨_,_,O,O,O⟩⟩,(CH (is:=[9]) O),?_⟩)));exact⟨⟨_,_⟩,C6 hC1.symm,O,O⟩
   (try simp only[sd,se] at c4);obtain⟨z1,hz1,hz2⟩:=Yt (by rw[hC1];exact hns) c4 hya;rw[hz2] at hC1;refine A1 (Aw (Br O (OE O O O (.inl ⟨O,O,O⟩) (Jc a h8) (.inl O) fun o4 cp4=>Ar A0 1 [] O (Au (Ks (i:=0) O AY fun b2 hb2=>?_)))));subst hb2;refine B6 (fun k=>false) EO (Bb A0 6 [3,3] O (BL O (fun _=>Cn Bg O O An AG) Ap ?_));obtain⟨y3,hy3⟩:=A6 (l:=a) (i:=(y.1:Int).toNat) AN;refine Cc (j:=0) O O O (fun H i hi=>Eb (i:=i) BQ O hi (Bd hy3)) AB Ap (Bb A0 3 [3,1] O ?_);have hyy:=Option.some.inj (hy3.symm.trans hya);refine BL O (fun _=>BF O O (eu y.2.length y.2 y3 (q.getD BZ) z1 (Nat.le_refl _) (h9 _ (List.mem_of_getElem? hy3)) ha2 An (by rw[hyy];exact hz1)) O) Ap (BL O (fun _=>Cn Bg O O An AG) Ap (Hu O O (D5 (i:=0) (j:=((y.1:Int).toNat)) BQ O O O AK O (JW _) (BB _) (FT _) (R2 a ((y.1:Int).toNat) z1)) AB Ap (IX O Aj (Aw (Ay A0 2 [9] O (CD (Ct (t:=91) (x:= .vs (some b2) (BC ((a).set ((y.1:Int).toNat) z1)).length cp4) (C5 a (l':=(a).set ((y.1:Int).toNat) z1) Ao)) (CD (Ct (t:=21) (x:= .vs (some b2) (BC ((a).set ((y.1:Int).toNat) z1)).length cp4) (C5 a (l':=(a).set ((y.1:Int).toNat) z1) Ao)) ?_)))))));refine CD (Ct (t:=92) (x:= .vs (some b2) (BC ((a).set ((y.1:Int).toNat) z1)).length cp4) (C5 a (l':=(a).set ((y.1:Int).toNat) z1) Ao)) (CD (Ct (t:=95) (x:= .vs (some b2) (BC ((a).set ((y.1:Int).toNat) z1)).length cp4) (C5 a (l':=(a).set ((y.1:Int).toNat) z1) Ao)) (CD (Ct (t:=106) (x:= .vs (some b2) (BC ((a).set ((y.1:Int).toNat) z1)).length cp4) (C5 a (l':=(a).set ((y.1:Int).toNat) z1) Ao)) (CD (Cw (i:=0) [91,21,92,95,106] O (Eh ⟨O,O,O,O,O,Ap⟩)) (Aq O (BF O O (Dz (.mk gk gi gn gl gs:Tm) ((a).set ((y.1:Int).toNat) z1) AR) O) (Ar A0 2 [6,1] O (Az (⟨O,_,_,⟨_,_,O,(BE (i:=6) BQ O O Ag),⟨_,_,O,O,O⟩⟩,(CH (is:=[9]) O),?_⟩)))))));exact⟨⟨_,_⟩,C6 hC1.symm,O,O⟩
  (try simp only[sd,se] at c3);obtain⟨ha1,ha2,ha3,ha4⟩:=hW.at_ hy1 hy;have hcs:=Mt c3;have hcf:=GR hcs;have hlo:=hcf.lo;have hhi:=hcf.hi;have hfl:=LK h2.g hcs;have hdf:=(h2.g.all _ hcf.mem).fx;refine A1 (Au (Au (B6 (fun k=>false) EO (Bb A0 2 [2] O (Cc (j:=0) O O O (fun H i hi=>A2 (i:=i) IH O hi (CF _)) AB Ap (BL O (fun _=>BT O) Ap ?_))))));obtain⟨x,hx⟩:=A6 (l:=((CN ds y1).1).ctors) (i:=((CN ds y1).2.1:Int).toNat) An;refine BL O (fun _=>A5 Hh O O An (EZ hx) (D7 _)) Ap (BL O (fun _=>Bz I2 O O) Ap (BL O (fun _=>DH MR O (Fm _)) Ap (BL O (fun _=>BF O O (Sj w x.name hL.tin.bl) O) Ap (B4 A0 5 [2,1] O (As A0 2 [] O (Av O (fun c4=>?_) (fun c4=>?_)))))))
  ·(try simp only[sd,se] at c4);rw[kP hk1 hcb hy1 hy hcs (by rw[Ev,CR hx];exact Vf c4)] at hC1;refine As A0 3 [5,0] O (BN (Bc (i:=5) O) (Az (⟨O,_,_,⟨_,_,O,(BE (i:=5) BQ O O O),⟨_,_,O,O,O⟩⟩,(CH (is:=[8]) O),?_⟩)));exact⟨⟨_,_⟩,C6 hC1.symm,O,O⟩
  (try simp only[sd,se] at c4);have hbs:=US c4;rw[jY hk1 hcb hy1 hy hcs (by rw[Ev,CR hx];exact hbs)] at hC1;refine A1 (Aw (Br O (Aq O (BM Bg O (BR _)) (Ar A0 1 [] O (A8 ?_)))));refine Be (α:=Nat×Option Nat×Nat×Option Nat×Nat) (fun(i,o4,cp4,o5,cp5)=>⟨169,mk [(0,.ptr m 0),(3,.p (.lst (BC a))),(5,.ptr b5 0),(6,.ptr b6 0),(8,.ptr b8 0),(10,.vs o4 (BC (us++(CN ds y1).2.2.1.take i)).length cp4),(11,.vs o5 (List.map E1 (pl++EI y (CN ds y1).1.fixed i)).length cp5),(13,.ptr b13 0),(14,.ptr b14 0),(15,.ptr b15 0),(122,.p (.lst (BC ((CN ds y1).2.2.1)))),(123,.p (I (((CN ds y1).2.2.1).length:Nat))),(124,.p (I (i:Int)))],[.box b15 ((Bj ((CN ds y1).1)).map .p),.box b14 ((E1 y).map .p),.box b13 ((C4 ((Z2 x.name w.branches).1)).map .p),.vec o5 2 (List.map E1 (pl++EI y (CN ds y1).1.fixed i)) cp5,.vec o4 5 (BC (us++(CN ds y1).2.2.1.take i)) cp4,.box b8 [.p (I 0),.p (I 0),.p (.str ⟨#[]⟩),.p (.nils),.p (.nils)],.box b6 ((FR f).map .p),.box b5 [.p (I gk),.p (I gi),.p (.str gn),.p (.lst (List.map B5 gl)),.p (.lst (BC gs))],.box m [.p (.lst (List.map Bj ds)),.p (I s)]],[]⟩) (fun(i,o4,cp4,o5,cp5)=>(CN ds y1).2.2.1.length - i) (fun(i,o4,cp4,o5,cp5)=>i≤(CN ds y1).2.2.1.length) ⟨0,(some b1),cp2,(some b),cp3⟩ AO ?_ ?_
  ·exact BY ⟨we O,we O,we O,we O,we O,we (QX us Ao),we (G2 (f:=E1) pl (by simp[NZ])),we O,we O,we O,we O,we O,we O,Ap⟩ (leH (is:=[0,1,2,3,4,5,6,7,8]) O (wl (oe O) (wl (oe O) (wl (oe O) (wl (Fl (f:=E1) pl (by simp[NZ])) (wl (Mm us Ao) (wl (oe O) (wl (oe O) (wl (oe O) (wl (oe O) (DO)))))))))))
  rintro⟨i,o4,cp4,o5,cp5⟩ hC2
  try simp only at hC2
  have hi:=hC2;refine As A0 1 [] O (Au (Av O (fun c5=>?_) (fun c5=>?_)))
  ·(try simp only[sd,se] at c5);refine A1 (Au (A8 (Aw (Br O ?_))));obtain⟨x1,hx1⟩:=A6 (l:=(CN ds y1).2.2.1) (i:=i) An;refine Aq O (A5 Bg O O An (Bd hx1) (BB _)) (Aq O (BJ BQ O (BB _)) (BG O (A7 Bw O) fun b23=>Ar A0 2 [0,1] O (Aw (Ay A0 2 [0] O ?_))));obtain⟨x1k,x1i,x1n,x1l,x1s⟩:=x1;refine Aq O (Bx Bg Bw O O O O O) (Ih O O (Cs (i:=5) (rows':=BC [(.mk x1k x1i x1n x1l x1s:Tm)]) Bg Bg Bw O O O O O O (Bu _) (by have:=hL.len;have:=hW.len;simp only[BR,PL,J8,List.length_take,List.length_map,List.length_cons,List.length_nil,List.length_append];omega) (Nl (us++(CN ds y1).2.2.1.take i) [(.mk x1k x1i x1n x1l x1s:Tm)])) fun o6 cp6=>Ar A0 1 [] O (B6 (fun k=>Nat.beq k 5||Nat.beq k 14) EO (Bb A0 5 [2,2] O ?_)));refine kK [(6,.free (.ptr b15 13)),(7,.read [.box b15 ((Bj ((CN ds y1).1)).map .p)] (.p (I (((CN ds y1).1).fixed)))),(8,.free (.p (I (i:Int)))),(9,.free (.p (I ((((CN ds y1).1).fixed:Int)+((i:Int):Int))))),(10,.free (.p (.lst (List.map F5 [((((CN ds y1).1).fixed:Int)+((i:Int):Int))]))))] O O O (.inl ⟨O,O,O⟩) (aI y.2 An) (.inl O) Aj fun o7 cp7=>⟨AB,Ap,?_⟩;refine Bb A0 1 [] O (Cc (j:=2) O O O (fun H i hi=>A2 (i:=i) Df O hi (DR _)) AB AM (Bb A0 2 [] O (BL O (fun _=>Bx G8 eM O O O O O) AM (Hu O O (VZ (i:=0) (rows':=List.map F5 [((((CN ds y1).1).fixed:Int)+((i:Int):Int))]) G8 G8 eM O O O O O O (OW _) (by have:=hL.len;have:=hW.len;simp only[BR,PL,J8,List.length_take,List.length_map,List.length_cons,List.length_nil,List.length_append];omega) (JL (f:=F5) y.2 [((((CN ds y1).1).fixed:Int)+((i:Int):Int))])) AB AM (Bb A0 1 [] O (BL O (fun _=>Bx Q2 VL O O O O O) AM ?_))))));refine OO [] O O (Cs (i:=4) (rows':=List.map E1 ([(y.1,(y.2++[((((CN ds y1).1).fixed:Int)+((i:Int):Int))]))])) Q2 Q2 VL O O O O O O (R5 _) (by have:=hL.len;have:=hW.len;simp only[BR,PL,J8,List.length_take,List.length_map,List.length_cons,List.length_nil,List.length_append];omega) (JL (f:=E1) (pl++EI y (CN ds y1).1.fixed i) ([(y.1,(y.2++[((((CN ds y1).1).fixed:Int)+((i:Int):Int))]))]))) Aj fun o8 cp8=>⟨AB,AM,?_⟩;refine B4 A0 1 [] O (A3 (Ar A0 2 [] O ?_))
   refine⟨⟨i+1,o6,cp6,o8,cp8⟩,AT,by omega,BY ⟨we rfl,we rfl,we rfl,we rfl,we rfl,we (QX (us++(CN ds y1).2.2.1.take i++[(.mk x1k x1i x1n x1l x1s:Tm)]) (by rw[Pu hx1,List.append_assoc])),we (G2 (f:=E1) (pl++EI y (CN ds y1).1.fixed i++([(y.1,(y.2++[((((CN ds y1).1).fixed:Int)+((i:Int):Int))]))])) (by rw[Np,List.append_assoc])),we rfl,we rfl,we rfl,we rfl,we rfl,we rfl,trivial⟩ (leH (is:=[1,2,3,4,5,6,7,8,9]) rfl (wl (oe rfl) (wl (oe rfl) (wl (oe rfl) (wl (Fl (f:=E1) (pl++EI y (CN ds y1).1.fixed i++([(y.1,(y.2++[((((CN ds y1).1).fixed:Int)+((i:Int):Int))]))])) (by rw[Np,List.append_assoc])) (wl (Mm (us++(CN ds y1).2.2.1.take i++[(.mk x1k x1i x1n x1l x1s:Tm)]) (by rw[Pu hx1,List.append_assoc])) (wl (oe rfl) (wl (oe rfl) (wl (oe rfl) (wl (oe rfl) (DO)))))))))))⟩
  (try simp only[sd,se] at c5);refine Bh ?_;refine⟨⟨k1,(Z2 x.name w.branches).1,us++(CN ds y1).2.2.1,pl++EI y (CN ds y1).1.fixed (CN ds y1).2.2.1.length,o4,cp4,o5,cp5⟩,AT,⟨hC1,hL.next h2.g (hL.ok _ (List.mem_of_getElem? hy1)) hcs hbs,hW.next h2.g hy1 hy hcs hbs hL.tok⟩,BY ⟨we O,we O,we O,we O,we O,we (QX (us++(CN ds y1).2.2.1.take i) (by rw[Vt An])),we (G2 (f:=E1) (pl++EI y (CN ds y1).1.fixed i) (by rw[show i=(CN ds y1).2.2.1.length from by omega])),we O,Ap⟩ (leH (is:=[2,3,4,5,6,7,8]) O (wl (oe O) (wl (Fl (f:=E1) (pl++EI y (CN ds y1).1.fixed i) (by rw[show i=(CN ds y1).2.2.1.length from by omega])) (wl (Mm (us++(CN ds y1).2.2.1.take i) (by rw[Vt An])) (wl (oe O) (wl (oe O) (wl (oe O) (wl (oe O) (DO)))))))))⟩
 (try simp only[sd,se] at c1);have hk1:=c1;have hLl:=hL.len;rw[aN hk1] at hC1;refine Bh (Aw (Aq O (Ax Fi O O) (Aq O (Bv (i:=0) BQ O O (FC _) (BB _)) (Ay A0 2 [5] O (Aq O (BF O O (Lj w.body gl (CY.1 (MM hL.tok)).nd (CY.1 (MM hL.tok)).vp (by have:=Gx (MM hL.tok);omega) hgl.2.1 hgl.2.2.1) O) (Ay A0 3 [] O (BG O (A7 Bw O) fun b24=>Ar A0 2 [0,1] O (Au (As A0 2 [] O (Av O (fun c2=>?_) (fun c2=>?_)))))))))))
 ·(try simp only[sd,se] at c2);rw[Pp (h:=(.mk gk gi gn gl gs:Tm)) c2] at hC1;refine As A0 3 [4,0] O (BN (Bc (i:=4) O) (Az (⟨O,_,_,⟨_,_,O,(BE (i:=4) BQ O O O),⟨_,_,O,O,O⟩⟩,(CH (is:=[7]) O),?_⟩)));exact⟨⟨_,_⟩,C6 hC1.symm,O,O⟩
 (try simp only[sd,se] at c2);obtain⟨hb1,hb2,hb3,hb4⟩:=YG (by rw[hC1];exact hns) c2;rw[hb4] at hC1;have hn3:=hns;rw[←hC1] at hn3;refine A1 (Au (BN (Cw (i:=3) [10] O (Eh ⟨O,Ap⟩)) ?_));obtain⟨e,he⟩ | ⟨⟨z,n2⟩,hz⟩:=FK (IW s (CI ((By w.body gl).1) us.reverse 0))
 ·refine IJ ((fun _=> .p (.iface 122 .unit)) e) 3 [.val (.ptr m 0),.val (.agg ((BK ((By w.body gl).1)).map .p)),.val (.p (.lst (BC us))),.val (.p .any),.val (.p (.lst (BC a))),.val (.ptr b6 (0+6)),.val (.p (I f.arity)),.val (.p (.lst (BC (a.drop ((f.arity:Int).toNat))))),.val (.p .any),.val (.p .any),.val (.p .any)] EO O Aj O Ap (fun _ _=>by exact⟨rfl,_,List.nil_sublist _,⟨_,by rw[←hC1];exact Jv hn3 he,rfl⟩⟩) ?_;exact B1 O O (fun Bs=>BT O) (B1 O O (fun Bs=>BP (i:=Bs.length+0) BQ O (CM O) Ag) (B1 O O (fun Bs=>BT O) (KL (mkp:=(fun _=> .p (.iface 122 .unit))) (e:=e) [6] he O O (.inl ⟨O,O,O⟩) (PO m ds s ((By w.body gl).1) us h3 hb1 hb2 An) ⟨_,_,O,O,O⟩ Am (aw (we O) (aw (we O) (aw (we O) (Eg)))) (B1 O O (fun Bs=>BT O) (B1 O O (fun Bs=>Ax G4 O O) (B1 O O (fun Bs=>A2 (i:=Bs.length+4) Df O (CM O) (CT _)) (B1 O O (fun Bs=>Co (lo:=(f.arity:Int).toNat) Bg O (CB (Bu _)) ⟨_,pI An⟩ O AP (Nat.le_refl _) (MA a ((f.arity:Int).toNat))) (C0 O O Aj (C0 O O Aj (C0 O O Aj KP))))))))))
 rw[KR hn3 hz] at hC1;refine ID [.box b24 ((BK ((By w.body gl).1)).map .p),.box b13 ((C4 w).map .p),.vec o3 2 (List.map E1 pl) cp3,.box b8 [.p (I 0),.p (I 0),.p (.str ⟨#[]⟩),.p (.nils),.p (.nils)],.box b6 ((FR f).map .p),.box b5 [.p (I gk),.p (I gi),.p (.str gn),.p (.lst (List.map B5 gl)),.p (.lst (BC gs))],.box m [.p (.lst (List.map Bj ds)),.p (I n2)]] 3 [.val (.ptr m 0),.val (.agg ((BK ((By w.body gl).1)).map .p)),.val (.p (.lst (BC us))),.val (.agg ((BK z).map .p)),.val (.p (.lst (BC a))),.val (.ptr b6 (0+6)),.val (.p (I f.arity)),.val (.p (.lst (BC (a.drop ((f.arity:Int).toNat))))),.val (.agg ((BK (apply z (a.drop ((f.arity:Int).toNat)))).map .p))] [.p .any,.p (.bool true)] [] EO O Aj Aj Aj O ?_ ?_
 ·exact Ap
 refine Bn O O (fun Bs=>BT O) (F4 O O O (fun Bs=>BP (i:=Bs.length+0) BQ O (CM O) Ag) (fun Bs=>BP (i:=Bs.length+0) BQ O (CM O) Ag) (Bn O O (fun Bs=>BT O) (Jy O (fun Bs=>Gw [6] O (.inl ⟨O,O,O⟩) (J0 hz (PO m ds s ((By w.body gl).1) us h3 hb1 hb2 An)) ⟨_,_,O,O,O⟩ Am O (aw (we O) (aw (we O) (aw (we O) (Eg))))) (Bn O O (fun Bs=>BT O) (Bn O O (fun Bs=>Ax G4 O O) (F4 O O O (fun Bs=>A2 (i:=Bs.length+4) Df O (CM O) (CT _)) (fun Bs=>A2 (i:=Bs.length+4) Df O (CM O) (CT _)) (Bn O O (fun Bs=>Co (lo:=(f.arity:Int).toNat) Bg O (CB (Bu _)) ⟨_,pI An⟩ O AP (Nat.le_refl _) (MA a ((f.arity:Int).toNat))) ?_)))))));refine Bn O O (fun Bs=>BF O O (Dz z (a.drop ((f.arity:Int).toNat)) AQ) O) (Ju (D8 [.box b24 ((BK ((By w.body gl).1)).map .p),.box b13 ((C4 w).map .p),.vec o3 2 (List.map E1 pl) cp3,.box b8 ((BK (apply z (a.drop ((f.arity:Int).toNat)))).map .p),.box b6 ((FR f).map .p),.box b5 [.p (I gk),.p (I gi),.p (.str gn),.p (.lst (List.map B5 gl)),.p (.lst (BC gs))],.box m [.p (.lst (List.map Bj ds)),.p (I n2)]] O (CZ (i:=3) BQ O O O Ag AW (FT _)) ?_));refine D8 [.box b24 ((BK ((By w.body gl).1)).map .p),.box b13 ((C4 w).map .p),.vec o3 2 (List.map E1 pl) cp3,.box b8 ((BK (apply z (a.drop ((f.arity:Int).toNat)))).map .p),.box b6 ((FR f).map .p),.box b5 [.p (I gk),.p (I gi),.p (.str gn),.p (.lst (List.map B5 gl)),.p (.lst (BC gs))],.box m [.p (.lst (List.map Bj ds)),.p (I n2)]] O (EU O) (J1 (Az (⟨O,_,_,⟨_,_,O,(BE (i:=3) BQ O O Ag),⟨_,_,O,O,O⟩⟩,(CH (is:=[6]) O),?_⟩)));exact⟨⟨_,_⟩,C6 hC1.symm,O,O⟩
end Go.Proofs.YtboammbpdaoojaaGreat
namespace Go.Eu
open Go.Abs
def Ji (E:List CC) {σ:Type}(S:Sys σ) (n:Nat) (h:Tm) (a:List Tm) (s:σ):Out (Option Tm×σ):=match Ix E h with
 | none=> .ok (none,s)
 | some x =>
  if x.kind=1 then Ek S (CQ E x.decl) h a s
  else if x.kind=5∧(a.length:Int) > CU (CQ E x.decl) then match C8 E (a.getD (CU (CQ E x.decl)).toNat default) with
   | some _=>Et E S (CQ E x.decl) h a (a.getD (CU (CQ E x.decl)).toNat default) s
   | none=>(Em E S n s (a.getD (CU (CQ E x.decl)).toNat default)).bind fun r=>match r.1 with
    | none=> .ok (none,r.2)
    | some y=> .ok (some (apply h (a.set (CU (CQ E x.decl)).toNat y)),r.2)
  else if x.kind=6∧(a.length:Int)≥(Fv (CQ E x.decl) x.item).arity then
   JI E S (Em E S n) h (Fv (CQ E x.decl) x.item).arity a n (Fv (CQ E x.decl) x.item).tree (a.take (Fv (CQ E x.decl) x.item).arity.toNat) (TN (Fv (CQ E x.decl) x.item).arity.toNat) s
  else .ok (none,s)
section
variable {E:List CC}{σ:Type}{S:Sys σ}{n:Nat}{h:Tm}{a:List Tm}{s:σ}{d:CC}{x:Tm}
def jQ (h:Tm) (a:List Tm) (k:Nat) (r:Option Tm×σ):Out (Option Tm×σ):=match r.1 with
 | none=> .ok (none,r.2)
 | some y=> .ok (some (apply h (a.set k y)),r.2)
theorem jd {k:Nat}{r:Option Tm×σ}(hr:r.1.isSome=false):jQ h a k r= .ok (none,r.2):=by
 obtain⟨q,s⟩:=r;cases q with
 | none=>rfl
 | some x=>cases hr
theorem kE {k:Nat}{r:Option Tm×σ}(hr:r.1.isSome=true):jQ h a k r= .ok (some (apply h (a.set k (r.1.getD BZ))),r.2):=by
 obtain⟨q,s⟩:=r;cases q with
 | none=>cases hr
 | some x=>rfl
theorem dP (hu:V1 E h=false):Ji E S n h a s= .ok (none,s):=by
 unfold Ji;rw[Cx,hu];simp
section
variable (hu:V1 E h=true) (hd:E[(Bq E h.name).1.decl.toNat]?=some d)
include hu hd
theorem ey (hk:(Bq E h.name).1.kind=1):Ji E S n h a s=Ek S d h a s:=by
 unfold Ji;rw[Cx,hu,if_pos rfl];simp only[if_pos hk,CQ,CR hd]
theorem aW (hk:(Bq E h.name).1.kind=5) (hl:(a.length:Int)≤CU d):Ji E S n h a s= .ok (none,s):=by
 unfold Ji;rw[Cx,hu,if_pos rfl];simp only[CQ,CR hd];rw[if_neg An,if_neg An,if_neg An]
theorem dt (hk:(Bq E h.name).1.kind=5) (hl:¬(a.length:Int)≤CU d) (hx:a[(CU d).toNat]?=some x) {q:CC×Int×List Tm}(hc:C8 E x=some q):Ji E S n h a s=Et E S d h a x s:=by
 unfold Ji;rw[Cx,hu,if_pos rfl];simp only[CQ,CR hd];rw[if_neg An,if_pos ⟨hk,by omega⟩,CR hx];simp only[hc]
theorem dO (hk:(Bq E h.name).1.kind=5) (hl:¬(a.length:Int)≤CU d) (hx:a[(CU d).toNat]?=some x) (hc:C8 E x=none):Ji E S n h a s=(Em E S n s x).bind (jQ h a (CU d).toNat):=by
 unfold Ji;rw[Cx,hu,if_pos rfl];simp only[CQ,CR hd];rw[if_neg An,if_pos ⟨hk,by omega⟩,CR hx];simp only[hc];rfl
theorem ek {f:Gh}(hk:(Bq E h.name).1.kind=6) (hf:d.funs[(Bq E h.name).1.item.toNat]?=some f) (hl:f.arity≤(a.length:Int)):Ji E S n h a s=JI E S (Em E S n) h f.arity a n f.tree (a.take f.arity.toNat) (TN f.arity.toNat) s:=by
 unfold Ji;rw[Cx,hu,if_pos rfl];simp only[CQ,CR hd,Fv,CR hf];rw[if_neg An,if_neg An,if_pos ⟨hk,by omega⟩]
theorem dx {f:Gh}(hk:(Bq E h.name).1.kind=6) (hf:d.funs[(Bq E h.name).1.item.toNat]?=some f) (hl:¬f.arity≤(a.length:Int)):Ji E S n h a s= .ok (none,s):=by
 unfold Ji;rw[Cx,hu,if_pos rfl];simp only[CQ,CR hd,Fv,CR hf];rw[if_neg An,if_neg An,if_neg An]
omit hd
theorem jy (h1:(Bq E h.name).1.kind≠1) (h5:(Bq E h.name).1.kind≠5) (h6:(Bq E h.name).1.kind≠6):Ji E S n h a s= .ok (none,s):=by
 unfold Ji;rw[Cx,hu,if_pos rfl];simp only;rw[if_neg h1,if_neg An,if_neg An]
end
end
section
variable {E:List CC}{σ:Type}{S:Sys σ}{n:Nat}{t:Tm}{s:σ}{X:Out (Option Tm×σ)}
theorem dI (h:Em E S n s t=X) (hX:X≠ .stuck):∃k,n=k+1:=by
 cases n with
 | zero=>rw[Em] at h;exact absurd h.symm hX
 | succ k=>exact⟨k,rfl⟩
theorem gr (h:Em E S (n+1) s t=X) (hX:X≠ .stuck):okB t=true:=by
 rw[Em] at h;split at h
 ·exact absurd h.symm hX
 rename_i hc;simpa using hc
section
variable (ho:okB t=true)
include ho
theorem cg (hk:(A9 t).1.kind=5) (hl:(A9 t).2.length=0):Em E S (n+1) s t= .ok (none,s):=by
 rw[Em,if_neg (by simp[ho]),if_pos hk,if_pos hl]
theorem gg {b:Tm}(hk:(A9 t).1.kind=5) (hl:(A9 t).2.length≠0) (hb:(A9 t).1.kids[1]?=some b) :
  Em E S (n+1) s t=S.put s (CI b ((A9 t).2.take 1) 0) fun x s'=> .ok (some (apply x ((A9 t).2.drop 1)),s'):=by
 rw[Em,if_neg (by simp[ho]),if_pos hk,if_neg hl,KT,hb]
theorem iJ {v b:Tm}(hk:(A9 t).1.kind=11) (hv:(A9 t).1.kids[1]?=some v) (hb:(A9 t).1.kids[2]?=some b) :
  Em E S (n+1) s t=S.put s (CI b [v] 0) fun x s'=> .ok (some (apply x (A9 t).2),s'):=by
 rw[Em,if_neg (by simp[ho]),if_neg An,if_pos hk,PE,hv,hb]
def kL (h:Tm) (a:List Tm) (r:Option Tm×σ):Out (Option Tm×σ):=match r.1 with
 | none=> .ok (none,r.2)
 | some x=> .ok (some (apply (Je h.kind x) a),r.2)
theorem dL {p q:Tm}(hk:(A9 t).1.kind=9∨(A9 t).1.kind=10) (hp:(A9 t).1.kids[0]?=some p) (h8:p.kind=8) (hq:p.kids[(1+(A9 t).1.kind - 9).toNat]?=some q) :
  Em E S (n+1) s t=S.put s (q,0) fun x s'=> .ok (some (apply x (A9 t).2),s'):=by
 rw[Em,if_neg (by simp[ho]),if_neg An,if_neg An,if_pos hk,hp];simp only;rw[if_pos h8,JU,hq]
theorem cj {p:Tm}(hk:(A9 t).1.kind=9∨(A9 t).1.kind=10) (hp:(A9 t).1.kids[0]?=some p) (h8:p.kind≠8) :
  Em E S (n+1) s t=(Em E S n s p).bind (kL (A9 t).1 (A9 t).2):=by
 rw[Em,if_neg (by simp[ho]),if_neg An,if_neg An,if_pos hk,hp];simp only;rw[if_neg h8];rfl
theorem ZW (hk:(A9 t).1.kind=3):Em E S (n+1) s t=Ji E S n (A9 t).1 (A9 t).2 s:=by
 rw[Em,if_neg (by simp[ho]),if_neg An,if_neg An,if_neg An,if_pos hk];rfl
theorem kF (h1:(A9 t).1.kind≠5) (h2:(A9 t).1.kind≠11) (h3:(A9 t).1.kind≠9) (h4:(A9 t).1.kind≠10) (h5:(A9 t).1.kind≠3):Em E S (n+1) s t= .ok (none,s):=by
 rw[Em,if_neg (by simp[ho]),if_neg h1,if_neg h2,if_neg An,if_neg h5]
end
theorem jc {h:Tm}{a:List Tm}{r:Option Tm×σ}(hr:r.1.isSome=false):kL h a r= .ok (none,r.2):=by
 obtain⟨q,s⟩:=r;cases q with
 | none=>rfl
 | some x=>cases hr
theorem jN {h:Tm}{a:List Tm}{r:Option Tm×σ}(hr:r.1.isSome=true):kL h a r= .ok (some (apply (Je h.kind (r.1.getD BZ)) a),r.2):=by
 obtain⟨q,s⟩:=r;cases q with
 | none=>cases hr
 | some x=>rfl
end
section
variable {E:List CC}{σ:Type}{S:Sys σ}{n:Nat}{t:Tm}{s:σ}{r:Tm×σ}{d:CC}{X:Out (Option Int×σ)}
noncomputable def Uq (E:List CC) (S:Sys σ) (n:Nat) (q:(Option (Tm×List Tm)×Tm)×σ):Out (Option Int×σ):=match q.1.1 with
 | some _=> .ok (none,q.2)
 | none=>if S.over q.2=false∧MP q.1.2 BZ=false then HG E S n q.2 q.1.2 else .ok (none,q.2)
noncomputable def Iq (E:List CC) (S:Sys σ) (n:Nat) (r:Tm×σ):Out (Option Int×σ) :=
 if (A9 r.1).1.kind=12 then .ok (some (A9 r.1).1.index,r.2)
  else if (A9 r.1).1.kind=9∨(A9 r.1).1.kind=10 then match (A9 r.1).1.kids[0]? with
   | none=> .stuck
   | some p=>HG E S n r.2 p
  else if (A9 r.1).1.kind=3 then match Ix E (A9 r.1).1 with
   | none=> .ok (none,r.2)
   | some x =>
    if S.over r.2=true then .ok (none,r.2)
    else if x.kind=5∧((A9 r.1).2.length:Int) > CU (CQ E x.decl) then HG E S n r.2 ((A9 r.1).2.getD (CU (CQ E x.decl)).toNat default)
    else if x.kind=6∧((A9 r.1).2.length:Int)≥(Fv (CQ E x.decl) x.item).arity then
     (Dm E S (DJ E S n) n (Fv (CQ E x.decl) x.item).tree ((A9 r.1).2.take (Fv (CQ E x.decl) x.item).arity.toNat) BZ r.2).bind (Uq E S n)
    else .ok (none,r.2)
  else .ok (none,r.2)
theorem cX (h:HG E S n s t=X) (hX:X≠ .stuck):∃k,n=k+1:=by
 cases n with
 | zero=>rw[HG] at h;exact absurd h.symm hX
 | succ k=>exact⟨k,rfl⟩
theorem Ty:HG E S (n+1) s t=(DJ E S n s t).chk (Iq E S n):=by
 rw[HG];rfl
theorem Sr (hk:(A9 r.1).1.kind=12):Iq E S n r= .ok (some (A9 r.1).1.index,r.2):=by rw[Iq,if_pos hk]
theorem ZP {p:Tm}(hk:(A9 r.1).1.kind=9∨(A9 r.1).1.kind=10) (hp:(A9 r.1).1.kids[0]?=some p):Iq E S n r=HG E S n r.2 p:=by
 rw[Iq,if_neg An,if_pos hk,hp]
theorem gh (h1:(A9 r.1).1.kind≠12) (h2:(A9 r.1).1.kind≠9) (h3:(A9 r.1).1.kind≠10) (h4:(A9 r.1).1.kind≠3):Iq E S n r= .ok (none,r.2):=by
 rw[Iq,if_neg h1,if_neg An,if_neg h4]
theorem Y1 (hk:(A9 r.1).1.kind=3) (hu:V1 E (A9 r.1).1=false∨S.over r.2=true):Iq E S n r= .ok (none,r.2):=by
 rw[Iq,if_neg An,if_neg An,if_pos hk,Cx];rcases hu with hu | hu
 ·rw[hu];simp
 split
 ·rfl
 rw[if_pos hu]
section
variable (hk:(A9 r.1).1.kind=3) (hu:V1 E (A9 r.1).1=true) (ho:S.over r.2=false) (hd:E[(Bq E (A9 r.1).1.name).1.decl.toNat]?=some d)
include hk hu ho
theorem QS (h5:(Bq E (A9 r.1).1.name).1.kind≠5) (h6:(Bq E (A9 r.1).1.name).1.kind≠6):Iq E S n r= .ok (none,r.2):=by
 rw[Iq,if_neg An,if_neg An,if_pos hk,Cx,hu,if_pos rfl];simp only;rw[if_neg (by simp[ho]),if_neg An,if_neg An]
include hd
theorem Yj (h5:(Bq E (A9 r.1).1.name).1.kind=5) (hl:((A9 r.1).2.length:Int)≤CU d):Iq E S n r= .ok (none,r.2):=by
 rw[Iq,if_neg An,if_neg An,if_pos hk,Cx,hu,if_pos rfl];simp only[CQ,CR hd];rw[if_neg (by simp[ho]),if_neg An,if_neg An]
theorem ah {x:Tm}(h5:(Bq E (A9 r.1).1.name).1.kind=5) (hl:CU d<((A9 r.1).2.length:Int)) (hx:(A9 r.1).2[(CU d).toNat]?=some x):Iq E S n r=HG E S n r.2 x:=by
 rw[Iq,if_neg An,if_neg An,if_pos hk,Cx,hu,if_pos rfl];simp only[CQ,CR hd];rw[if_neg (by simp[ho]),if_pos ⟨h5,by omega⟩,CR hx]
theorem ZK {f:Gh}(h6:(Bq E (A9 r.1).1.name).1.kind=6) (hf:d.funs[(Bq E (A9 r.1).1.name).1.item.toNat]?=some f) (hl:¬f.arity≤((A9 r.1).2.length:Int)):Iq E S n r= .ok (none,r.2):=by
 rw[Iq,if_neg An,if_neg An,if_pos hk,Cx,hu,if_pos rfl];simp only[CQ,CR hd,Fv,CR hf];rw[if_neg (by simp[ho]),if_neg An,if_neg An]
theorem Uh {f:Gh}(h6:(Bq E (A9 r.1).1.name).1.kind=6) (hf:d.funs[(Bq E (A9 r.1).1.name).1.item.toNat]?=some f) (hl:f.arity≤((A9 r.1).2.length:Int)):Iq E S n r=(Dm E S (DJ E S n) n f.tree ((A9 r.1).2.take f.arity.toNat) BZ r.2).bind (Uq E S n):=by
 rw[Iq,if_neg An,if_neg An,if_pos hk,Cx,hu,if_pos rfl];simp only[CQ,CR hd,Fv,CR hf];rw[if_neg (by simp[ho]),if_neg An,if_pos ⟨h6,by omega⟩]
end
theorem Y8 {q:(Option (Tm×List Tm)×Tm)×σ}(h:q.1.1.isSome=true∨S.over q.2=true∨MP q.1.2 BZ=true):Uq E S n q= .ok (none,q.2):=by
 obtain⟨⟨o,l⟩,s⟩:=q;unfold Uq;cases o with
 | some x=>rfl
 | none =>
  simp only at h ⊢;rw[if_neg];rintro⟨h1,h2⟩;rcases h with h | h | h
  ·cases h
  ·rw[h1] at h;cases h
  rw[h2] at h;cases h
theorem YF {q:(Option (Tm×List Tm)×Tm)×σ}(h1:q.1.1.isSome=false) (h2:S.over q.2=false) (h3:MP q.1.2 BZ=false):Uq E S n q=HG E S n q.2 q.1.2:=by
 obtain⟨⟨o,l⟩,s⟩:=q;unfold Uq;cases o with
 | some x=>cases h1
 | none=>simp only at h2 h3 ⊢;rw[if_pos ⟨h2,h3⟩]
end
section
variable {E:List CC}{σ:Type}{S:Sys σ}{n:Nat}{t:E3}{a:List Tm}{s:σ}
def rO (S:Sys σ) (q:(Option (Tm×List Tm)×Tm)×σ):Out (Option Tm×σ):=match q.1.1 with
 | none=> .ok (none,q.2)
 | some (b,vars)=>if okB b=false∨vars.all okB=false∨1125899906842624≤BS vars then .stuck else S.put q.2 (CI b vars.reverse 0) fun x s'=> .ok (some x,s')
end
end Go.Eu
namespace Go.Proofs.YtboammbpdaoojaaGreat
open Go.Abs Go.Eu
set_option maxHeartbeats 4000000 in
theorem TC:∀(n m:Nat) (ds:List CC) (s:Int) (g:Tm) (a:List Tm),(pG ds n)→(HE ds)→(F8 s)→(okB g=true)→(a.length<549755813888)→(∀y∈a,okB y=true)→(Ji ds Bo n g a s≠ .stuck)→Bl Tryz.prog 81 [.ptr m 0,.agg ((BK g).map .p),.p (.lst (BC a))] [.box m [.p (.lst (List.map Bj ds)),.p (I s)]] (J5 (fun(r:Option Tm×Int)=> .tup [TV (r.1.getD BZ),.p (.bool r.1.isSome)]) (fun _=> .p (.iface 122 .unit)) (fun r H'=>H'=[.box m [.p (.lst (List.map Bj ds)),.p (I r.2)]]) ((Ji ds Bo n g a s).ex)):=by
 intro n m ds s g a hT h2 h3 h4 h5 h6 hns;obtain⟨gk,gi,gn,gl,gs⟩:=g;have hgo:=CY.1 h4;have hgl:=hgo.nd;simp only[Nd,De] at hgl;generalize hC:Ji ds Bo n (.mk gk gi gn gl gs:Tm) a s=X at hns ⊢;refine A4 Tryz.func81 O pW (n:=122) O O (Aw (BG O (BO O) fun b4=>BG O (A7 Bw O) fun b6=>Ar A0 1 [] O (Aw (Ay A0 2 [1] O (Aq O (CW [2] O (.inl ⟨O,O,O⟩) (OA m ds s (.mk gk gi gn gl gs:Tm) h2.g.env) ⟨_,_,O,O,O⟩ Am O (.inl O)) (Ay A0 3 [] O (BG O (A7 IZ O) fun b8=>Ar A0 2 [0,1] O (Au (As A0 2 [] O (Av O (fun c=>?_) (fun c=>?_)))))))))))
 ·(try simp only[sd,se] at c);rw[dP c] at hC;refine As A0 3 [1,0] O (BN (Bc (i:=1) O) (Az (⟨O,_,_,⟨_,_,O,(BE (i:=1) BQ O O O),⟨_,_,O,O,O⟩⟩,(CH (is:=[3]) O),?_⟩)));exact⟨⟨_,_⟩,C6 hC.symm,O,O⟩
 (try simp only[sd,se] at c);have hu:=c;obtain⟨ix,dd,e1,e2,e3,e4⟩:=NI hu;have hde:=e2.decl;have hdg:=h2.g.all _ e3;have hel:=h2.g.env.len;have hil:=(List.getElem?_eq_some_iff.1 e1).1;have hfx:=hdg.fx;have hnr:=Ki hdg;have hcl:=hdg.din.cl;have hfl:=hdg.din.fl;refine A1 (Au (B6 (fun k=>Nat.beq k 8) EO (Bb A0 5 [3] O (Cc (j:=0) O O O (fun H i hi=>A2 (i:=i) Df O hi (EJ _)) AB Ap (BL O (fun _=>A5 Ic O O An (Ed e4) (Cr _)) Ap (BL O (fun _=>BJ Gg O (Cr _)) Ap (J7 [] O O (A7 Ml O) Aj fun b10=>⟨AB,Ap,?_⟩)))))));refine B4 A0 1 [0,1] O (Au (Aw (Aq O (Ax GU O O) (Aq O (A2 (i:=1) Df O O (Dj _)) (Bf O (A8 (As A0 2 [] O (Av O (fun c1=>?_) (fun c1=>?_)))))))))
 ·(try simp only[sd,se] at c1);have hk1:=c1;refine Aw (Ay A0 4 [1,3] O ?_);rw[ey hu e4 hk1] at hC;refine DX [4] O O O (.inl ⟨O,O,O⟩) (UR m ds s ((Bq ds (.mk gk gi gn gl gs:Tm).name).1) (.mk gk gi gn gl gs:Tm) a dd h3 e4 An hdg h4 h5 (by rw[hC];exact hns)) ⟨_,_,O,O,O⟩ Am (aw (we O) (aw (we O) (aw (we O) (aw (we O) (Eg))))) (fun _ _ h=>(congrArg List.length h).trans O) ?_ ?_
  rotate_left
  ·intro e _ he;exact⟨O,_,List.nil_sublist _,⟨_,by rw[←hC];exact he,rfl⟩⟩
  rintro⟨q,n2⟩ _ hz rfl;have hfin:=hz;refine Ar A0 4 [2,1] O (Az (⟨O,_,_,⟨_,_,O,(BE (i:=2) BQ O O Ag),⟨_,_,O,O,O⟩⟩,(CH (is:=[4]) O),?_⟩));exact⟨⟨q,n2⟩,by rw[←hC];exact hfin,rfl,rfl⟩
 (try simp only[sd,se] at c1);have hk1:=c1;refine As A0 2 [] O (Av O (fun c2=>?_) (fun c2=>?_))
 ·(try simp only[sd,se] at c2);have hk5:=c2;refine Aw (Aq O (BP (i:=0) Gg O O Ad) (Aq O (BF O O (Nh dd hdg.din hdg.fx) O) (Ar A0 1 [] O (Au (Aw (Br O (Aq O (BM Bg O (BR _)) (Ar A0 2 [] O (Av O (fun c3=>?_) (fun c3=>?_))))))))))
  ·(try simp only[sd,se] at c3);rw[aW hu e4 hk5 An] at hC;refine As A0 3 [2,0] O (BN (Bc (i:=2) O) (Az (⟨O,_,_,⟨_,_,O,(BE (i:=2) BQ O O O),⟨_,_,O,O,O⟩⟩,(CH (is:=[4]) O),?_⟩)));exact⟨⟨_,_⟩,C6 hC.symm,O,O⟩
  (try simp only[sd,se] at c3);have hfew:¬(a.length:Int)≤CU dd:=by omega
  refine A1 (Au (Aw (Ay A0 3 [] O ?_)));obtain⟨x,hx⟩:=A6 (l:=a) (i:=(CU dd:Int).toNat) An;have hxo:=h6 _ (List.mem_of_getElem? hx);refine Aq O (A5 Bg O O An (Bd hx) (BB _)) (Aq O (BJ BQ O (BB _)) (Aq O (CW [4] O (.inl ⟨O,O,O⟩) (Pj m ds s x h2.g hxo) ⟨_,_,O,O,O⟩ Am O (.inl O)) (Ay A0 5 [] O (BG O (A7 Ml O) fun b12=>Ar A0 4 [0,1] O (As A0 1 [] O (Av O (fun c4=>?_) (fun c4=>?_)))))))
  ·(try simp only[sd,se] at c4);have hcs:=Mt c4;rw[dt hu e4 hk5 hfew hx hcs] at hC;refine Au ?_;obtain⟨e,he⟩ | ⟨⟨q,n2⟩,hz⟩:=FK ((Et ds Bo dd (.mk gk gi gn gl gs:Tm) a x s).ex)
   ·refine IJ ((fun _=> .p (.iface 122 .unit)) e) 8 [.val (.ptr m 0),.val (.agg ((Bj dd).map .p)),.val (.agg [.p (I gk),.p (I gi),.p (.str gn),.p (.lst (List.map B5 gl)),.p (.lst (BC gs))]),.val (.p (.lst (BC a))),.val (.p (.lst (BC a))),.val (.p (I (CU dd))),.val (.ref (BK x)),.val (.agg ((BK x).map .p)),.val (.p .any),.val (.p .any),.val (.p .any),.val (.p .any),.val (.p .any)] EO O Aj O Ap (fun _ _=>by exact⟨rfl,_,List.nil_sublist _,⟨_,by rw[←hC];exact he,rfl⟩⟩) ?_;exact B1 O O (fun Bs=>BT O) (B1 O O (fun Bs=>BP (i:=Bs.length+1) Gg O (CM O) Ad) (B1 O O (fun Bs=>BP (i:=Bs.length+4) BQ O (CM O) O) (B1 O O (fun Bs=>BT O) (B1 O O (fun Bs=>BT O) (B1 O O (fun Bs=>BT O) (B1 O O (fun Bs=>A5 Bg O O An (Bd hx) (BB _)) (B1 O O (fun Bs=>BJ BQ O (BB _)) (KL (mkp:=(fun _=> .p (.iface 122 .unit))) (e:=e) [5] he O O (.inl ⟨O,O,O⟩) (UP m ds s dd (.mk gk gi gn gl gs:Tm) a x h3 h2.g hdg h4 h5 hxo An (by rw[hC];exact hns)) ⟨_,_,O,O,O⟩ Am (aw (we O) (aw (we O) (aw (we O) (aw (we O) (aw (we O) (Eg)))))) (C0 O O Aj (C0 O O Aj (C0 O O Aj (C0 O O Aj KP))))))))))))
   have hfin:=hz;refine ID [.box b12 ((Bj ((CN ds x).1)).map .p),.box b10 ((Bj dd).map .p),.box b8 ((Db ((Bq ds (.mk gk gi gn gl gs:Tm).name).1)).map .p),.box b6 [.p (I 0),.p (I 0),.p (.str ⟨#[]⟩),.p (.nils),.p (.nils)],.box b4 [.p (I gk),.p (I gi),.p (.str gn),.p (.lst (List.map B5 gl)),.p (.lst (BC gs))],.box m [.p (.lst (List.map Bj ds)),.p (I n2)]] 8 [.val (.ptr m 0),.val (.agg ((Bj dd).map .p)),.val (.agg [.p (I gk),.p (I gi),.p (.str gn),.p (.lst (List.map B5 gl)),.p (.lst (BC gs))]),.val (.p (.lst (BC a))),.val (.p (.lst (BC a))),.val (.p (I (CU dd))),.val (.ref (BK x)),.val (.agg ((BK x).map .p)),.val (.tup [.agg ((BK (q.getD BZ)).map .p),.p (.bool q.isSome)]),.val (.agg ((BK (q.getD BZ)).map .p)),.val (.p (.bool q.isSome))] [.p .any,.p (.bool q.isSome)] [] EO O Aj Aj Aj O ?_ ?_
   ·exact Ap
   refine Bn O O (fun Bs=>BT O) (F4 O O O (fun Bs=>BP (i:=Bs.length+1) Gg O (CM O) Ad) (fun Bs=>BP (i:=Bs.length+1) Gg O (CM O) Ad) (F4 O O O (fun Bs=>BP (i:=Bs.length+4) BQ O (CM O) O) (fun Bs=>BP (i:=Bs.length+4) BQ O (CM O) O) (Bn O O (fun Bs=>BT O) (Bn O O (fun Bs=>BT O) (Bn O O (fun Bs=>BT O) (Bn O O (fun Bs=>A5 Bg O O An (Bd hx) (BB _)) (Bn O O (fun Bs=>BJ BQ O (BB _)) (Jy O (fun Bs=>Gw [5] O (.inl ⟨O,O,O⟩) (J0 hz (UP m ds s dd (.mk gk gi gn gl gs:Tm) a x h3 h2.g hdg h4 h5 hxo An (by rw[hC];exact hns))) ⟨_,_,O,O,O⟩ Am O (aw (we O) (aw (we O) (aw (we O) (aw (we O) (aw (we O) (Eg))))))) (Bn O O (fun Bs=>D3 O O) ?_)))))))));refine Bn O O (fun Bs=>D3 O O) (Ju (D8 [.box b12 ((Bj ((CN ds x).1)).map .p),.box b10 ((Bj dd).map .p),.box b8 ((Db ((Bq ds (.mk gk gi gn gl gs:Tm).name).1)).map .p),.box b6 ((BK (q.getD BZ)).map .p),.box b4 [.p (I gk),.p (I gi),.p (.str gn),.p (.lst (List.map B5 gl)),.p (.lst (BC gs))],.box m [.p (.lst (List.map Bj ds)),.p (I n2)]] O (CZ (i:=3) BQ O O O Ag AW (FT _)) (D8 [.box b12 ((Bj ((CN ds x).1)).map .p),.box b10 ((Bj dd).map .p),.box b8 ((Db ((Bq ds (.mk gk gi gn gl gs:Tm).name).1)).map .p),.box b6 ((BK (q.getD BZ)).map .p),.box b4 [.p (I gk),.p (I gi),.p (.str gn),.p (.lst (List.map B5 gl)),.p (.lst (BC gs))],.box m [.p (.lst (List.map Bj ds)),.p (I n2)]] O (EU O) (J1 (Az ?_)))));refine⟨O,_,_,⟨_,_,O,(BE (i:=3) BQ O O Ag),⟨_,_,O,O,O⟩⟩,(CH (is:=[5]) O),?_⟩;exact⟨⟨q,n2⟩,by rw[←hC];exact hfin,rfl,rfl⟩
  (try simp only[sd,se] at c4);have hcn:=PW c4;refine A1 (Aw (Ay A0 3 [] O (Aq O (A5 Bg O O An (Bd hx) (BB _)) (Aq O (BJ BQ O (BB _)) ?_))));rw[dO hu e4 hk5 hfew hx hcn] at hC;have hn0:=hns;rw[←hC] at hn0;have hn1:=Iw hn0;refine DX [5] O O O (.inl ⟨O,O,O⟩) (hT m x s h3 hn1) ⟨_,_,O,O,O⟩ Am (aw (we O) (aw (we O) (Eg))) (fun _ _ h=>(congrArg List.length h).trans O) ?_ ?_
  rotate_left
  ·intro e _ he;exact⟨O,_,List.nil_sublist _,⟨_,by rw[←hC];exact KH hn0 he,rfl⟩⟩
  rintro⟨q,n2⟩ _ hz rfl;rw[Lc hz] at hC;refine Ay A0 3 [] O (BG O (A7 Bw O) fun b16=>Ar A0 2 [0,1] O (Au (As A0 2 [] O (Av O (fun c5=>?_) (fun c5=>?_)))))
  ·(try simp only[sd,se] at c5);rw[jd c5] at hC;refine As A0 3 [4,0] O (BN (Bc (i:=4) O) (Az (⟨O,_,_,⟨_,_,O,(BE (i:=4) BQ O O O),⟨_,_,O,O,O⟩⟩,(CH (is:=[6]) O),?_⟩)));exact⟨⟨_,_⟩,C6 hC.symm,O,O⟩
  (try simp only[sd,se] at c5);rw[kE c5] at hC;refine A1 (Aw (Br O (OE O O O (.inl ⟨O,O,O⟩) (Jc a h5) (.inl O) fun o cp=>Ar A0 1 [] O (Aw (Ay A0 3 [1] O (M4 (i:=0) O (by rw[BR];omega) fun b hb=>?_))))));subst hb;refine Aq O (Cn Bg O O An AX) (Aq O (D5 (i:=0) (j:=((CU dd:Int).toNat)) BQ O O O AX O (JW _) (BB _) (FT _) (R2 a ((CU dd:Int).toNat) (q.getD BZ))) (Bf O (Aw (Ay A0 2 [6] O (CD (Ct (t:=93) (x:= .vs (some b) (BC ((a).set ((CU dd:Int).toNat) (q.getD BZ))).length cp) (C5 a (l':=(a).set ((CU dd:Int).toNat) (q.getD BZ)) Ao)) (CD (Ct (t:=18) (x:= .vs (some b) (BC ((a).set ((CU dd:Int).toNat) (q.getD BZ))).length cp) (C5 a (l':=(a).set ((CU dd:Int).toNat) (q.getD BZ)) Ao)) (CD (Ct (t:=94) (x:= .vs (some b) (BC ((a).set ((CU dd:Int).toNat) (q.getD BZ))).length cp) (C5 a (l':=(a).set ((CU dd:Int).toNat) (q.getD BZ)) Ao)) ?_)))))));refine CD (Ct (t:=99) (x:= .vs (some b) (BC ((a).set ((CU dd:Int).toNat) (q.getD BZ))).length cp) (C5 a (l':=(a).set ((CU dd:Int).toNat) (q.getD BZ)) Ao)) (CD (Cw (i:=0) [93,18,94,99] O (Eh ⟨O,O,O,O,Ap⟩)) (Aq O (BF O O (Dz (.mk gk gi gn gl gs:Tm) ((a).set ((CU dd:Int).toNat) (q.getD BZ)) AR) O) (Ar A0 2 [4,1] O (Az (⟨O,_,_,⟨_,_,O,(BE (i:=4) BQ O O Ag),⟨_,_,O,O,O⟩⟩,(CH (is:=[6]) O),?_⟩)))));exact⟨⟨_,_⟩,C6 hC.symm,O,O⟩
 (try simp only[sd,se] at c2);have hk5:=c2;refine As A0 2 [] O (Av O (fun c3=>?_) (fun c3=>?_))
 ·(try simp only[sd,se] at c3);have hk6:=c3;obtain⟨fk,ff,f1,f2⟩:=e2.func hk6;have hff:dd.funs[(Bq ds (Tm.mk gk gi gn gl gs).name).1.item.toNat]?=some ff:=by rw[f2];simpa using f1
  have hfm:=List.mem_of_getElem? hff;have hfa:=hdg.fu ff hfm;have hfi:=(List.getElem?_eq_some_iff.1 f1).1;refine Aw (Aq O (Ax C3 O O) (Aq O (A2 (i:=0) HI O O (CA _)) (Aq O (Ax GU O O) (Aq O (A2 (i:=1) Df O O (Gs _)) (Aq O (A5 Gp O O An (ET hff) (Da _)) (Aq O (BJ gV O (Da _)) (BG O (A7 ao O) fun b19=>Ar A0 1 [0,1] O (Aw (Br O (Aq O (BM Bg O (BR _)) (Aq O (Ax G4 O O) (Aq O (A2 (i:=0) Df O O (CT _)) (Ar A0 1 [] O (Av O (fun c4=>?_) (fun c4=>?_)))))))))))))))
  ·(try simp only[sd,se] at c4);refine Aw (Ay A0 4 [4,0] O ?_);rw[ek hu e4 hk6 hff An] at hC;refine DX [5] O O O (.inl ⟨O,O,O⟩) (Wl n m ds s (.mk gk gi gn gl gs:Tm) a dd ff hT h2 h3 e3 hfm An h4 h5 h6 (by rw[hC];exact hns)) ⟨_,_,O,O,O⟩ Am (aw (we O) (aw (we O) (aw (we O) (aw (we O) (Eg))))) (fun _ _ h=>(congrArg List.length h).trans O) ?_ ?_
   rotate_left
   ·intro e _ he;exact⟨O,_,List.nil_sublist _,⟨_,by rw[←hC];exact he,rfl⟩⟩
   rintro⟨q,n2⟩ _ hz rfl;have hfin:=hz;refine Ar A0 4 [3,1] O (Az (⟨O,_,_,⟨_,_,O,(BE (i:=3) BQ O O Ag),⟨_,_,O,O,O⟩⟩,(CH (is:=[5]) O),?_⟩));exact⟨⟨q,n2⟩,by rw[←hC];exact hfin,rfl,rfl⟩
  (try simp only[sd,se] at c4);rw[dx hu e4 hk6 hff An] at hC;refine A1 (As A0 3 [3,0] O (BN (Bc (i:=3) O) (Az (⟨O,_,_,⟨_,_,O,(BE (i:=3) BQ O O O),⟨_,_,O,O,O⟩⟩,(CH (is:=[5]) O),?_⟩))));exact⟨⟨_,_⟩,C6 hC.symm,O,O⟩
 (try simp only[sd,se] at c3);have hk6:=c3;rw[jy hu hk1 hk5 hk6] at hC;refine A1 (As A0 3 [2,0] O (BN (Bc (i:=2) O) (Az (⟨O,_,_,⟨_,_,O,(BE (i:=2) BQ O O O),⟨_,_,O,O,O⟩⟩,(CH (is:=[4]) O),?_⟩))));exact⟨⟨_,_⟩,C6 hC.symm,O,O⟩
set_option maxHeartbeats 4000000 in
theorem bM:∀(ds:List CC) (hE:HE ds) (n:Nat),pG ds n:=by
 intro ds hE n
 induction n using Nat.strongRecOn with
 | ind n ih =>
  intro m t s hJ hns;obtain⟨k,rfl⟩:=dI rfl hns;generalize hC:Em ds Bo (k+1) s t=X at hns ⊢;have hwo:=gr hC hns;have hsp:=XV hwo;have hsl:=hsp.len;have hss:=hsp.sz;have hsa:=hsp.asz;refine A4 Tryz.func44 O px (n:=90) O O (Aw (BG O (BO O) fun b3=>BG O (A7 Bw O) fun b4=>Ar A0 1 [] O (Aw (Aq O (BP (i:=1) BQ O O Ag) (Aq O (BF O O (Km t hsp.nd AZ) O) (Ay A0 3 [] O (BG O (A7 Bw O) fun b6=>Ar A0 2 [0,1] O (Au (Aw (Aq O (Ax Gi O O) ?_))))))))));generalize hz:(A9 t).1=z;obtain⟨zk,zi,zn,zl,zs⟩:=z;have hzo:okB (.mk zk zi zn zl zs)=true:=hz▸hsp.head;have hzq:=hz;have hzl:=K2 hzo;have hzn:=(CY.1 hzo).nd;refine Ar A0 1 [0] O (A8 (As A0 2 [] O (Av O (fun c=>?_) (fun c=>?_))))
  ·(try simp only[sd,se] at c);have hk:=(congrArg Tm.kind hzq).trans c;refine Aw (Br O (Aq O (BM Bg O (BR _)) (Ar A0 1 [] O (Av O (fun c1=>?_) (fun c1=>?_)))))
   ·(try simp only[sd,se] at c1);refine Au ?_;obtain⟨x,hx⟩:=A6 (l:=zs) (i:=1) An;obtain⟨x1,hx1⟩:=A6 (l:=(A9 t).2) (i:=0) An;have hxo:=HS hzo (i:=1) hx;have hx1o:=hsp.args _ (List.mem_of_getElem? hx1);rw[gg hwo hk An (by rw[hzq];exact hx),iS hx1] at hC;have hn3:=hns;rw[←hC] at hn3;obtain⟨e,he⟩ | ⟨⟨z1,n2⟩,hz⟩:=FK (IW s (CI x [x1] 0))
    ·refine IJ ((fun _=> .p (.iface 122 .unit)) e) 9 [.val (.ptr m 0),.val (.ptr b6 (0+4)),.val (.p (.lst (BC zs))),.val (.ref (BK x)),.val (.agg ((BK x).map .p)),.val (.p (.lst (BC ((A9 t).2)))),.val (.ref (BK x1)),.val (.agg ((BK x1).map .p)),.val (.p (.lst (BC [x1]))),.val (.p .any),.val (.p (.lst (BC ((A9 t).2)))),.val (.p (.lst (BC (((A9 t).2).drop 1)))),.val (.p .any),.val (.p .any),.val (.p .any)] EO O Aj O Ap (fun _ _=>by exact⟨rfl,_,List.nil_sublist _,⟨_,by rw[←hC];exact Jv hn3 he,rfl⟩⟩) ?_;refine B1 O O (fun Bs=>BT O) (B1 O O (fun Bs=>Ax Gi O O) (B1 O O (fun Bs=>B0 (i:=Bs.length+0) GY O (CM O) O) (B1 O O (fun Bs=>A5 Bg O O An (Bd hx) (BB _)) (B1 O O (fun Bs=>BJ BQ O (BB _)) (B1 O O (fun Bs=>BT O) (B1 O O (fun Bs=>A5 Bg O O An (Bd hx1) (BB _)) (B1 O O (fun Bs=>BJ BQ O (BB _)) (B1 O O (fun Bs=>Bi (rows:=BC [x1]) Bg Bw O O O O (CB (Bu _)) (ED _)) (KL (mkp:=(fun _=> .p (.iface 122 .unit))) (e:=e) [3] he O O (.inl ⟨O,O,O⟩) (J4 m ds s x [x1] hJ hxo (ok_one hx1o) I5) ⟨_,_,O,O,O⟩ Am (aw (we O) (aw (we O) (aw (we O) (Eg)))) (B1 O O (fun Bs=>BT O) ?_))))))))));exact B1 O O (fun Bs=>Co (lo:=1) Bg O (CB (Bu _)) ⟨_,O⟩ O AP (Nat.le_refl _) (MA ((A9 t).2) 1)) (C0 O O Aj (C0 O O Aj (C0 O O Aj KP)))
    rw[KR hn3 hz] at hC;have hJ3:=(P6 hJ hz).1;refine ID [.box b6 [.p (I zk),.p (I zi),.p (.str zn),.p (.lst (List.map B5 zl)),.p (.lst (BC zs))],.box b4 [.p (I 0),.p (I 0),.p (.str ⟨#[]⟩),.p (.nils),.p (.nils)],.box b3 ((BK t).map .p),.box m [.p (.lst (List.map Bj ds)),.p (I n2)]] 9 [.val (.ptr m 0),.val (.ptr b6 (0+4)),.val (.p (.lst (BC zs))),.val (.ref (BK x)),.val (.agg ((BK x).map .p)),.val (.p (.lst (BC ((A9 t).2)))),.val (.ref (BK x1)),.val (.agg ((BK x1).map .p)),.val (.p (.lst (BC [x1]))),.val (.agg ((BK z1).map .p)),.val (.p (.lst (BC ((A9 t).2)))),.val (.p (.lst (BC (((A9 t).2).drop 1)))),.val (.agg ((BK (apply z1 (((A9 t).2).drop 1))).map .p))] [.p .any,.p (.bool true)] [] EO O Aj Aj Aj O ?_ ?_
    ·exact Ap
    refine Bn O O (fun Bs=>BT O) (Bn O O (fun Bs=>Ax Gi O O) (F4 O O O (fun Bs=>B0 (i:=Bs.length+0) GY O (CM O) O) (fun Bs=>B0 (i:=Bs.length+0) GY O (CM O) O) (Bn O O (fun Bs=>A5 Bg O O An (Bd hx) (BB _)) (Bn O O (fun Bs=>BJ BQ O (BB _)) (Bn O O (fun Bs=>BT O) (Bn O O (fun Bs=>A5 Bg O O An (Bd hx1) (BB _)) (Bn O O (fun Bs=>BJ BQ O (BB _)) (Bn O O (fun Bs=>Bi (rows:=BC [x1]) Bg Bw O O O O (CB (Bu _)) (ED _)) (Jy O (fun Bs=>Gw [3] O (.inl ⟨O,O,O⟩) (J0 hz (J4 m ds s x [x1] hJ hxo (ok_one hx1o) I5)) ⟨_,_,O,O,O⟩ Am O (aw (we O) (aw (we O) (aw (we O) (Eg))))) (Bn O O (fun Bs=>BT O) ?_))))))))));refine Bn O O (fun Bs=>Co (lo:=1) Bg O (CB (Bu _)) ⟨_,O⟩ O AP (Nat.le_refl _) (MA ((A9 t).2) 1)) (Bn O O (fun Bs=>BF O O (Dz z1 (((A9 t).2).drop 1) AQ) O) (Ju (D8 [.box b6 [.p (I zk),.p (I zi),.p (.str zn),.p (.lst (List.map B5 zl)),.p (.lst (BC zs))],.box b4 ((BK (apply z1 (((A9 t).2).drop 1))).map .p),.box b3 ((BK t).map .p),.box m [.p (.lst (List.map Bj ds)),.p (I n2)]] O (CZ (i:=1) BQ O O O Ag AW (FT _)) (D8 [.box b6 [.p (I zk),.p (I zi),.p (.str zn),.p (.lst (List.map B5 zl)),.p (.lst (BC zs))],.box b4 ((BK (apply z1 (((A9 t).2).drop 1))).map .p),.box b3 ((BK t).map .p),.box m [.p (.lst (List.map Bj ds)),.p (I n2)]] O (EU O) (J1 (Az (⟨O,_,_,⟨_,_,O,(BE (i:=1) BQ O O Ag),⟨_,_,O,O,O⟩⟩,(CH (is:=[3]) O),?_⟩)))))));exact⟨⟨_,_⟩,C6 hC.symm,O,O⟩
   (try simp only[sd,se] at c1);rw[cg hwo hk An] at hC;refine A1 (As A0 3 [1,0] O (BN (Bc (i:=1) O) (Az (⟨O,_,_,⟨_,_,O,(BE (i:=1) BQ O O O),⟨_,_,O,O,O⟩⟩,(CH (is:=[3]) O),?_⟩))));exact⟨⟨_,_⟩,C6 hC.symm,O,O⟩
  (try simp only[sd,se] at c);refine As A0 2 [] O (Av O (fun c1=>?_) (fun c1=>?_))
  ·(try simp only[sd,se] at c1);have hk:=(congrArg Tm.kind hzq).trans c1;refine Au ?_;obtain⟨x,hx⟩:=A6 (l:=zs) (i:=2) An;obtain⟨x1,hx1⟩:=A6 (l:=zs) (i:=1) An;have hxo:=HS hzo (i:=2) hx;have hx1o:=HS hzo (i:=1) hx1;rw[iJ hwo hk (by rw[hzq];exact hx1) (by rw[hzq];exact hx)] at hC;have hn3:=hns;rw[←hC] at hn3;obtain⟨e,he⟩ | ⟨⟨z1,n2⟩,hz⟩:=FK (IW s (CI x [x1] 0))
   ·refine IJ ((fun _=> .p (.iface 122 .unit)) e) 10 [.val (.ptr m 0),.val (.ptr b6 (0+4)),.val (.p (.lst (BC zs))),.val (.ref (BK x)),.val (.agg ((BK x).map .p)),.val (.ptr b6 (0+4)),.val (.p (.lst (BC zs))),.val (.ref (BK x1)),.val (.agg ((BK x1).map .p)),.val (.p (.lst (BC [x1]))),.val (.p .any),.val (.p (.lst (BC ((A9 t).2)))),.val (.p .any),.val (.p .any),.val (.p .any)] EO O Aj O Ap (fun _ _=>by exact⟨rfl,_,List.nil_sublist _,⟨_,by rw[←hC];exact Jv hn3 he,rfl⟩⟩) ?_;refine B1 O O (fun Bs=>BT O) (B1 O O (fun Bs=>Ax Gi O O) (B1 O O (fun Bs=>B0 (i:=Bs.length+0) GY O (CM O) O) (B1 O O (fun Bs=>A5 Bg O O An (Bd hx) (BB _)) (B1 O O (fun Bs=>BJ BQ O (BB _)) (B1 O O (fun Bs=>Ax Gi O O) (B1 O O (fun Bs=>B0 (i:=Bs.length+0) GY O (CM O) O) (B1 O O (fun Bs=>A5 Bg O O An (Bd hx1) (BB _)) (B1 O O (fun Bs=>BJ BQ O (BB _)) (B1 O O (fun Bs=>Bi (rows:=BC [x1]) Bg Bw O O O O (CB (Bu _)) (ED _)) (KL (mkp:=(fun _=> .p (.iface 122 .unit))) (e:=e) [3] he O O (.inl ⟨O,O,O⟩) (J4 m ds s x [x1] hJ hxo (ok_one hx1o) I5) ⟨_,_,O,O,O⟩ Am (aw (we O) (aw (we O) (aw (we O) (Eg)))) ?_))))))))));exact B1 O O (fun Bs=>BT O) (C0 O O Aj (C0 O O Aj (C0 O O Aj KP)))
   rw[KR hn3 hz] at hC;have hJ3:=(P6 hJ hz).1;refine ID [.box b6 [.p (I zk),.p (I zi),.p (.str zn),.p (.lst (List.map B5 zl)),.p (.lst (BC zs))],.box b4 [.p (I 0),.p (I 0),.p (.str ⟨#[]⟩),.p (.nils),.p (.nils)],.box b3 ((BK t).map .p),.box m [.p (.lst (List.map Bj ds)),.p (I n2)]] 10 [.val (.ptr m 0),.val (.ptr b6 (0+4)),.val (.p (.lst (BC zs))),.val (.ref (BK x)),.val (.agg ((BK x).map .p)),.val (.ptr b6 (0+4)),.val (.p (.lst (BC zs))),.val (.ref (BK x1)),.val (.agg ((BK x1).map .p)),.val (.p (.lst (BC [x1]))),.val (.agg ((BK z1).map .p)),.val (.p (.lst (BC ((A9 t).2)))),.val (.agg ((BK (apply z1 ((A9 t).2))).map .p))] [.p .any,.p (.bool true)] [] EO O Aj Aj Aj O ?_ ?_
   ·exact Ap
   refine Bn O O (fun Bs=>BT O) (Bn O O (fun Bs=>Ax Gi O O) (F4 O O O (fun Bs=>B0 (i:=Bs.length+0) GY O (CM O) O) (fun Bs=>B0 (i:=Bs.length+0) GY O (CM O) O) (Bn O O (fun Bs=>A5 Bg O O An (Bd hx) (BB _)) (Bn O O (fun Bs=>BJ BQ O (BB _)) (Bn O O (fun Bs=>Ax Gi O O) (F4 O O O (fun Bs=>B0 (i:=Bs.length+0) GY O (CM O) O) (fun Bs=>B0 (i:=Bs.length+0) GY O (CM O) O) (Bn O O (fun Bs=>A5 Bg O O An (Bd hx1) (BB _)) (Bn O O (fun Bs=>BJ BQ O (BB _)) (Bn O O (fun Bs=>Bi (rows:=BC [x1]) Bg Bw O O O O (CB (Bu _)) (ED _)) ?_)))))))));refine Jy O (fun Bs=>Gw [3] O (.inl ⟨O,O,O⟩) (J0 hz (J4 m ds s x [x1] hJ hxo (ok_one hx1o) I5)) ⟨_,_,O,O,O⟩ Am O (aw (we O) (aw (we O) (aw (we O) (Eg))))) (Bn O O (fun Bs=>BT O) (Bn O O (fun Bs=>BF O O (Dz z1 ((A9 t).2) AQ) O) (Ju (D8 [.box b6 [.p (I zk),.p (I zi),.p (.str zn),.p (.lst (List.map B5 zl)),.p (.lst (BC zs))],.box b4 ((BK (apply z1 ((A9 t).2))).map .p),.box b3 ((BK t).map .p),.box m [.p (.lst (List.map Bj ds)),.p (I n2)]] O (CZ (i:=1) BQ O O O Ag AW (FT _)) (D8 [.box b6 [.p (I zk),.p (I zi),.p (.str zn),.p (.lst (List.map B5 zl)),.p (.lst (BC zs))],.box b4 ((BK (apply z1 ((A9 t).2))).map .p),.box b3 ((BK t).map .p),.box m [.p (.lst (List.map Bj ds)),.p (I n2)]] O (EU O) (J1 (Az ?_)))))));refine⟨O,_,_,⟨_,_,O,(BE (i:=1) BQ O O Ag),⟨_,_,O,O,O⟩⟩,(CH (is:=[3]) O),?_⟩;exact⟨⟨_,_⟩,C6 hC.symm,O,O⟩
  (try simp only[sd,se] at c1);refine Au (As A0 2 [] O (BU [0,4,6,7,17] 51 (fun y=>y= .p (.bool (decide (zk=9∨zk=10)))) ?_ ?_))
  ·refine Av O (fun c2=>?_) (fun c2=>?_)
   ·(try simp only[sd,se] at c2);exact A1 (⟨O,O,(List.Sublist.refl _),(by refine pB (Bool.eq_iff_iff.2 ?_);simp only[beq_iff_eq,decide_eq_true_eq];omega),⟨O,O,O,O,O,Ap⟩⟩)
   (try simp only[sd,se] at c2);exact A3 (Ar A0 2 [] O (⟨O,O,(List.Sublist.refl _),(by refine pB (Bool.eq_iff_iff.2 ?_);simp only[beq_iff_eq,decide_eq_true_eq];omega),⟨O,O,O,O,O,Ap⟩⟩))
  rintro _ rfl;refine Av O (fun c2=>?_) (fun c2=>?_)
  ·(try simp only[sd,se] at c2);have hk9:zk=9∨zk=10:=by simpa using c2
   refine Aw (Ay A0 2 [0] O ?_);obtain⟨p,hp⟩:=A6 (l:=zs) (i:=0) An;refine Aq O (A5 Bg O O An (Bd hp) (BB _)) (Aq O (BJ BQ O (BB _)) (BG O (A7 Bw O) fun b8=>Ar A0 1 [0,1] O (Au (Aw (Aq O (Ax Gi O O) ?_)))));obtain⟨pk,pi,pn,pl,ps⟩:=p;have hpo:=HS hzo (i:=0) hp;have hpl:=K2 hpo;refine Ar A0 2 [0] O (Av O (fun c3=>?_) (fun c3=>?_))
   ·(try simp only[sd,se] at c3);have hp8:=c3;refine Aw (Ay A0 3 [1,0] O ?_);obtain⟨cq,hcq⟩:=A6 (l:=ps) (i:=(1+zk - 9).toNat) (by have:=hpl.2.2.2 hp8;omega);have hcqo:=HS hpo (i:=(1+zk - 9).toNat) hcq;rw[dL hwo (by rw[hzq];exact hk9) (by rw[hzq];exact hp) (p:= .mk pk pi pn pl ps) hp8 (by rw[hzq];exact hcq)] at hC;have hn3:=hns;rw[←hC] at hn3;refine DX [4] O O O (.inl ⟨O,O,O⟩) (X9 m ds s (.mk zk zi zn zl zs:Tm) (.mk pk pi pn pl ps:Tm) cq hJ hk9 hcq) ⟨_,_,O,O,O⟩ Am (aw (we O) (aw (we O) (aw (we O) (Eg)))) (fun _ _ h=>(congrArg List.length h).trans O) ?_ ?_
    rotate_left
    ·intro e _ he;exact⟨O,_,List.nil_sublist _,⟨_,by rw[←hC];exact Jv hn3 he,rfl⟩⟩
    rintro⟨z1,n2⟩ _ hz rfl;rw[KR hn3 hz] at hC;refine Br O (Aq O (BF O O (Dz z1 ((A9 t).2) AQ) O) (Ar A0 2 [2,1] O (Az (⟨O,_,_,⟨_,_,O,(BE (i:=2) BQ O O Ag),⟨_,_,O,O,O⟩⟩,(CH (is:=[4]) O),?_⟩))));exact⟨⟨_,_⟩,C6 hC.symm,O,O⟩
   (try simp only[sd,se] at c3);have hp8:=c3;refine A1 (Aw (Ay A0 2 [0] O ?_));rw[cj hwo (by rw[hzq];exact hk9) (by rw[hzq];exact hp) (p:= .mk pk pi pn pl ps) hp8] at hC;have hn0:=hns;rw[←hC] at hn0;have hn1:=Iw hn0;refine DX [4] O O O (.inl ⟨O,O,O⟩) (ih k An m (.mk pk pi pn pl ps:Tm) s hJ hn1) ⟨_,_,O,O,O⟩ Am (aw (we O) (aw (we O) (Eg))) (fun _ _ h=>(congrArg List.length h).trans O) ?_ ?_
   rotate_left
   ·intro e _ he;exact⟨O,_,List.nil_sublist _,⟨_,by rw[←hC];exact KH hn0 he,rfl⟩⟩
   rintro⟨q,n2⟩ _ hz rfl;rw[Lc hz] at hC;refine Ay A0 3 [] O (BG O (A7 Bw O) fun b9=>Ar A0 2 [0,1] O (As A0 1 [] O (Av O (fun c4=>?_) (fun c4=>?_))))
   ·(try simp only[sd,se] at c4);rw[jN c4,hzq] at hC;refine Aw (Ay A0 3 [2,0] O (Aq O (Bi (rows:=BC [(q.getD BZ)]) Bg Bw O O O O (CB (Bu _)) (ED _)) (Ay A0 2 [] O (Aq O (Es O O (Dz (.mk zk 0 ⟨#[]⟩ [] [(q.getD BZ)]:Tm) ((A9 t).2) AQ) (aw (C7 O) (aw (we O) (Eg)))) (Ar A0 2 [3,1] O (Az (⟨O,_,_,⟨_,_,O,(BE (i:=3) BQ O O Ag),⟨_,_,O,O,O⟩⟩,(CH (is:=[5]) O),?_⟩)))))));exact⟨⟨_,_⟩,C6 hC.symm,O,O⟩
   (try simp only[sd,se] at c4);rw[jc c4] at hC;refine A1 (As A0 3 [3,0] O (BN (Bc (i:=3) O) (Az (⟨O,_,_,⟨_,_,O,(BE (i:=3) BQ O O O),⟨_,_,O,O,O⟩⟩,(CH (is:=[5]) O),?_⟩))));exact⟨⟨_,_⟩,C6 hC.symm,O,O⟩
  (try simp only[sd,se] at c2);refine As A0 2 [] O (Av O (fun c3=>?_) (fun c3=>?_))
  ·(try simp only[sd,se] at c3);have hk:=(congrArg Tm.kind hzq).trans c3;refine Aw (Ay A0 3 [0] O ?_);rw[ZW hwo hk,hzq] at hC;refine DX [3] O O O (.inl ⟨O,O,O⟩) (TC k m ds s (.mk zk zi zn zl zs:Tm) ((A9 t).2) (ih k An) hE hJ hzo An hsp.args (by rw[hC];exact hns)) ⟨_,_,O,O,O⟩ Am (aw (we O) (aw (we O) (aw (we O) (Eg)))) (fun _ _ h=>(congrArg List.length h).trans O) ?_ ?_
   rotate_left
   ·intro e _ he;exact⟨O,_,List.nil_sublist _,⟨_,by rw[←hC];exact he,rfl⟩⟩
   rintro⟨q,n2⟩ _ hz rfl;have hfin:=hz;refine Ar A0 4 [1,1] O (Az (⟨O,_,_,⟨_,_,O,(BE (i:=1) BQ O O Ag),⟨_,_,O,O,O⟩⟩,(CH (is:=[3]) O),?_⟩));exact⟨⟨q,n2⟩,by rw[←hC];exact hfin,rfl,rfl⟩
  (try simp only[sd,se] at c3);rw[kF hwo (by rw[hzq];assumption) (by rw[hzq];assumption) (by rw[hzq];show ¬zk=9;omega) (by rw[hzq];show ¬zk=10;omega) (by rw[hzq];assumption)] at hC;refine A1 (As A0 3 [1,0] O (BN (Bc (i:=1) O) (Az (⟨O,_,_,⟨_,_,O,(BE (i:=1) BQ O O O),⟨_,_,O,O,O⟩⟩,(CH (is:=[3]) O),?_⟩))));exact⟨⟨_,_⟩,C6 hC.symm,O,O⟩
end Go.Proofs.YtboammbpdaoojaaGreat
namespace Go.Eu
open Go.Abs
def bK (q:Tm):Bool:= !(decide ((size q:Int) > 4096)||decide (En q > 200))
def Tp:Out (Option Tm×Int)→Tm×Bool×Int
 | .ok (some q,_)=>if bK q=true then (q,true,0) else (BZ,false,11)
 | .ok (none,_)=>(BZ,false,0)
 | _=>(BZ,false,11)
def rG:Out (Option Tm×Int)→Tm×Bool×Int
 | .ok (q,_)=>(q.getD BZ,q.isSome,0)
 | _=>(BZ,false,11)
def aY:Out (Option Int×Int)→Int×Bool×Int
 | .ok (q,_)=>(q.getD 0,q.isSome,0)
 | _=>(0,false,11)
def nv (o:Out (Option Tm×Int)):Prop:=∀q c,o= .ok (some q,c)→okB q=true
theorem rW {ak ai bk bi:Int}{an bn:ByteArray}{al bl:List CX}{a b:List Tm}(hl:bl.length=0) (hs:b.length=0):MP (Tm.mk ak ai an al a) (.mk bk bi bn bl b)=(((((ak==bk)&&(ai==bi))&&(an.toList==bn.toList))&&(decide (al.length=0)))&&(decide (a.length=0))):=by
 rw[List.length_eq_zero_iff] at hl hs;subst hl hs;rw[Bool.eq_iff_iff,HQ];simp only[Tm.mk.injEq,Bool.and_eq_true,decide_eq_true_eq,beq_iff_eq,List.length_eq_zero_iff];constructor
 ·rintro⟨rfl,rfl,rfl,rfl,rfl⟩;exact⟨⟨⟨⟨rfl,rfl⟩,rfl⟩,rfl⟩,rfl⟩
 rintro⟨⟨⟨⟨h1,h2⟩,h3⟩,h4⟩,h5⟩;exact⟨h1,h2,G1 h3,h4,h5⟩
section
variable {o:Out (Option Tm×Int)}{q:Option Tm}{c e:Int}
theorem Qw (h:nv o) (hx:o.ex= .ok (q,c)):okB (q.getD BZ)=true:=by
 have h1:=He hx;cases q with
 | none=>decide
 | some x=>exact h x c h1
theorem RM (h:o.ex= .error e):Tp o=(BZ,false,11):=by cases o<;>first | rfl | cases h
theorem NW (h:o.ex= .ok (q,c)) (hq:q.isSome=false):Tp o=(q.getD BZ,q.isSome,0):=by
 rw[He h];cases q with
 | none=>rfl
 | some x=>cases hq
theorem Kk (h:o.ex= .ok (q,c)) (hq:q.isSome=true) (hf:(size (q.getD BZ):Int) > 4096∨En (q.getD BZ) > 200):Tp o=(BZ,false,11):=by
 rw[He h];cases q with
 | none=>cases hq
 | some x =>
  have:bK x=false:=by
   simp only[Option.getD_some] at hf;unfold bK;simp only[Bool.not_eq_false',Bool.or_eq_true,decide_eq_true_eq];exact hf
  simp only[Tp,this,Bool.false_eq_true,if_false]
theorem QQ (h:o.ex= .ok (q,c)) (hf:¬(q.isSome=true∧((size (q.getD BZ):Int) > 4096∨En (q.getD BZ) > 200))):Tp o=(q.getD BZ,q.isSome,0):=by
 rw[He h];cases q with
 | none=>rfl
 | some x =>
  have:bK x=true:=by
   unfold bK;simp only[Option.isSome_some,Option.getD_some,true_and,not_or] at hf;simp only[Bool.not_eq_true',Bool.or_eq_false_iff,decide_eq_false_iff_not];exact hf
  simp only[Tp,this,if_true,Option.getD_some,Option.isSome_some]
end
section
variable {o:Out (Option Int×Int)}{q:Option Int}{c e:Int}
theorem ju (h:o.ex= .error e):aY o=(0,false,11):=by cases o<;>first | rfl | cases h
theorem jK (h:o.ex= .ok (q,c)):aY o=(q.getD 0,q.isSome,0):=by rw[He h];rfl
end
section
variable {E:List CC}{σ:Type}{S:Sys σ}{W:σ→Tm→Out (Tm×σ)}
end
end Go.Eu
namespace Go.Proofs.YtboammbpdaoojaaGreat
open Go.Abs Go.Eu
theorem XT:∀(ds:List CC) (N m bt bo bk:Nat) (t:Tm) (s:Int),(HE ds)→(F8 s)→(Em ds Bo N s t≠ .stuck)→Bl Tryz.prog 43 [.ptr m 0,.ptr bt 0,.ptr bo 0,.ptr bk 0] [.box m [.p (.lst (List.map Bj ds)),.p (I s)],.box bt ((BK t).map .p),.box bo [.p (I 0),.p (I 0),.p (.str ⟨#[]⟩),.p (.nils),.p (.nils)],.box bk [.p (.bool false)]] (J5 (fun(r:Option Tm×Int)=> .tup []) (fun _=> .p (.iface 122 .unit)) (fun r H'=>H'=[.box m [.p (.lst (List.map Bj ds)),.p (I r.2)],.box bt ((BK t).map .p),.box bo ((BK (r.1.getD BZ)).map .p),.box bk [.p (.bool r.1.isSome)]]) ((Em ds Bo N s t).ex)):=by
 intro ds N m bt bo bk t s h1 h2 h3;refine A4 Tryz.func43 O oU (n:=11) O O (A3 (Ay A0 2 [1] O (DX [0] O O O (.inl ⟨O,O,O⟩) (bM ds h1 N m t s h2 h3) ⟨_,_,O,O,O⟩ Am (aw (we O) (aw (we O) (Eg))) (fun _ _ h=>(congrArg List.length h).trans O) ?_ ?_)))
 rotate_left
 ·intro e _ he;exact⟨O,_,List.nil_sublist _,⟨_,he,O⟩⟩
 rintro⟨q,n2⟩ _ hz rfl;refine Ar A0 5 [2,1,3,0] O ⟨O,_,_,O,(CH (is:=[0,1,2,3]) O),?_⟩;exact⟨⟨q,n2⟩,hz,O,O⟩
theorem fN:∀(ds:List CC) (N:Nat) (t:Tm),(HE ds)→(Em ds Bo N 20000 t≠ .stuck)→(nv (Em ds Bo N 20000 t))→E4 Tryz.prog 16 [.p (.lst (List.map Bj ds)),.agg ((BK t).map .p)] (.tup [.agg ((BK ((Tp (Em ds Bo N 20000 t)).1)).map .p),.p (.bool ((Tp (Em ds Bo N 20000 t)).2.1)),.p (I ((Tp (Em ds Bo N 20000 t)).2.2))]):=by
 intro ds N t h1 h2 h3;refine A4 Tryz.func16 O po (n:=34) O O (Aw (BG O (BO O) fun b3=>BG O (A7 Bw O) fun b4=>Ar A0 2 [] O (Aw (BG O (A7 Bw O) fun b7=>Bf O (Aw (BG O (A7 qd O) fun b8=>Ar A0 1 [0,0] O (Au ?_)))))));obtain⟨e,he⟩ | ⟨⟨q,n2⟩,ha⟩:=FK ((Em ds Bo N 20000 t).ex)
 ·refine A3 (Ay A0 2 [] O (TZ [3,1,0] O O O (.inl ⟨O,O,O⟩) (P5 _ _ he (fun r=>r.2) (fun r=>[.box b3 ((BK t).map .p),.box b7 ((BK (r.1.getD BZ)).map .p),.box b8 [.p (.bool r.1.isSome)]]) 43 [.ptr b3 0,.ptr b7 0,.ptr b8 0] [.box b3 ((BK t).map .p),.box b7 [.p (I 0),.p (I 0),.p (.str ⟨#[]⟩),.p (.nils),.p (.nils)],.box b8 [.p (.bool false)]] ds (fun m=>XT ds N m b3 b7 b8 t 20000 h1 Kx h2)) ⟨_,_,O,O,⟨_,_,O,O,⟨_,_,O,O,O⟩⟩⟩ Am (DD _) (Ar A0 1 [] O (Au (As A0 15 [] O ?_)))));refine Av O (fun c=>by cases c) (fun c=>?_);refine A1 (Au (As A0 2 [] O ?_));refine Av O (fun c1=>?_) (fun c1=>by cases c1);refine As A0 5 [0,0] O (BN (Bc (i:=0) O) (Az (⟨O,_,_,⟨_,_,O,(BE (i:=0) BQ O O O),⟨_,_,O,O,⟨_,_,O,O,O⟩⟩⟩,(List.nil_sublist _),?_⟩)))
  all_goals exact⟨by show (.tup [.agg [.p (I 0),.p (I 0),.p (.str ⟨#[]⟩),.p (.lst []),.p (.lst [])],.p (.bool false),.p (I 11)]:AV)=_;first | (rw[RM he]<;>rfl) | (rw[NW ha g]<;>rfl) | (rw[Kk ha g]<;>first | rfl | omega) | (rw[QQ ha]<;>first | rfl | (rintro⟨_,_ | _⟩<;>omega)),rfl⟩
 refine A3 (Ay A0 2 [] O (Aq O (CW [3,1,0] O (.inl ⟨O,O,O⟩) (UI _ _ ha (fun r=>r.2) (fun r=>[.box b3 ((BK t).map .p),.box b7 ((BK (r.1.getD BZ)).map .p),.box b8 [.p (.bool r.1.isSome)]]) 43 [.ptr b3 0,.ptr b7 0,.ptr b8 0] [.box b3 ((BK t).map .p),.box b7 [.p (I 0),.p (I 0),.p (.str ⟨#[]⟩),.p (.nils),.p (.nils)],.box b8 [.p (.bool false)]] ds (fun m=>XT ds N m b3 b7 b8 t 20000 h1 Kx h2)) ⟨_,_,O,O,⟨_,_,O,O,⟨_,_,O,O,O⟩⟩⟩ Am O (.inl O)) (Ar A0 1 [] O (Au (Aw (Ay A0 6 [0] O (BI 18 O (fun g=>?_) (fun g=>?_))))))))
 ·(try simp only[sd,se] at g);refine BA O (BP (i:=1) BQ O O Ag) (BA O (BF O O (X4 (q.getD BZ) (CY.1 (Qw h3 ha)).nd (by have:=Gx (Qw h3 ha);omega)) O) (Ay A0 2 [] O (BI 22 O (fun g1=>?_) (fun g1=>?_))))
  ·(try simp only[sd,se] at g1);refine Ar A0 5 [] O ?_;refine Av O (fun c=>?_) (fun c=>by cases c);refine A3 (Ar A0 1 [] O (Au (As A0 2 [] O ?_)));refine Av O (fun c1=>?_) (fun c1=>by cases c1);refine As A0 5 [2,0] O (BN (Bc (i:=2) O) (Az (⟨O,_,_,⟨_,_,O,(BE (i:=2) BQ O O O),⟨_,_,O,O,⟨_,_,O,O,O⟩⟩⟩,(List.nil_sublist _),?_⟩)))
   all_goals exact⟨by show (.tup [.agg [.p (I 0),.p (I 0),.p (.str ⟨#[]⟩),.p (.lst []),.p (.lst [])],.p (.bool false),.p (I 11)]:AV)=_;first | (rw[RM he]<;>rfl) | (rw[NW ha g]<;>rfl) | (rw[Kk ha g]<;>first | rfl | omega) | (rw[QQ ha]<;>first | rfl | (rintro⟨_,_ | _⟩<;>omega)),rfl⟩
  (try simp only[sd,se] at g1);refine BA O (BP (i:=1) BQ O O Ag) (BA O (BF O O (Up _ (q.getD BZ) (Nat.le_refl _) (CY.1 (Qw h3 ha)).nd) O) (Ar A0 3 [] O (Av O (fun c=>?_) (fun c=>?_))))
  ·(try simp only[sd,se] at c);refine A3 (Ar A0 1 [] O (Au (As A0 2 [] O ?_)));refine Av O (fun c1=>?_) (fun c1=>by cases c1);refine As A0 5 [2,0] O (BN (Bc (i:=2) O) (Az (⟨O,_,_,⟨_,_,O,(BE (i:=2) BQ O O O),⟨_,_,O,O,⟨_,_,O,O,O⟩⟩⟩,(List.nil_sublist _),?_⟩)))
   all_goals exact⟨by show (.tup [.agg [.p (I 0),.p (I 0),.p (.str ⟨#[]⟩),.p (.lst []),.p (.lst [])],.p (.bool false),.p (I 11)]:AV)=_;first | (rw[RM he]<;>rfl) | (rw[NW ha g]<;>rfl) | (rw[Kk ha g]<;>first | rfl | omega) | (rw[QQ ha]<;>first | rfl | (rintro⟨_,_ | _⟩<;>omega)),rfl⟩
  (try simp only[sd,se] at c);refine A1 (Au (As A0 2 [] O ?_));refine Av O (fun c1=>by cases c1) (fun c1=>?_);refine A1 (Au (B6 (fun k=>false) EO (B4 A0 5 [1,0,2,1] O (Az (⟨O,_,_,⟨_,_,O,(BE (i:=2) BQ O O Ag),⟨_,_,O,O,⟨_,_,O,O,O⟩⟩⟩,(List.nil_sublist _),?_⟩)))))
  all_goals exact⟨by show (.tup [.agg ((BK (q.getD BZ)).map .p),.p (.bool q.isSome),.p (I 0)]:AV)=_;first | (rw[RM he]<;>rfl) | (rw[NW ha g]<;>rfl) | (rw[Kk ha g]<;>first | rfl | omega) | (rw[QQ ha]<;>first | rfl | (rintro⟨_,_ | _⟩<;>omega)),rfl⟩
 (try simp only[sd,se] at g);refine Ar A0 9 [] O ?_;refine Av O (fun c=>by cases c) (fun c=>?_);refine A1 (Au (As A0 2 [] O ?_));refine Av O (fun c1=>by cases c1) (fun c1=>?_);refine A1 (Au (B6 (fun k=>false) EO (B4 A0 5 [1,0,2,1] O (Az (⟨O,_,_,⟨_,_,O,(BE (i:=2) BQ O O Ag),⟨_,_,O,O,⟨_,_,O,O,O⟩⟩⟩,(List.nil_sublist _),?_⟩)))))
 all_goals exact⟨by show (.tup [.agg ((BK (q.getD BZ)).map .p),.p (.bool q.isSome),.p (I 0)]:AV)=_;first | (rw[RM he]<;>rfl) | (rw[NW ha g]<;>rfl) | (rw[Kk ha g]<;>first | rfl | omega) | (rw[QQ ha]<;>first | rfl | (rintro⟨_,_ | _⟩<;>omega)),rfl⟩
theorem gm:∀(a b:List CX),(b.length=0)→E4 Tryz.prog 118 [.p (.lst (List.map B5 a)),.p (.lst (List.map B5 b)),.p (.fn 119)] (.p (.bool (decide (a.length=0)))):=by
 intro a b h1;refine A4 Tryz.func118 O lM (n:=32) O O (As A0 1 [] O (Au (Aw (Br O (Aq O (BM FQ O (List.length_map _)) (Br O (Aq O (BM FQ O (List.length_map _)) (Ar A0 1 [] O (Av O (fun c=>?_) (fun c=>?_))))))))))
 ·(try simp only[sd,se] at c);refine As A0 1 [] O (Az (⟨O,_,_,⟨_,_,O,O,O⟩,(List.nil_sublist _),?_⟩))
  all_goals exact⟨pB (decide_eq_false An).symm,rfl⟩
 (try simp only[sd,se] at c);refine A1 (Au (Aw (Br O (Aq O (BM FQ O (List.length_map _)) (Ar A0 1 [] O (A8 (Be (α:=Nat) (fun i=>⟨32,mk [(1,.p (.lst (List.map B5 b))),(2,.p (.fn 119)),(15,.p (.lst (List.map B5 a))),(16,.p (I (a.length:Nat))),(17,.p (I (i:Int)))],[],[]⟩) (fun i=>a.length - i) (fun i=>i≤a.length) 0 AO ?_ ?_)))))))
 ·exact BY ⟨we O,we O,we O,we O,we O,Ap⟩ (leH (is:=[]) O (DO))
 rintro i hC
 try simp only at hC
 have hi:=hC;refine As A0 1 [] O (Au (Av O (fun c1=>?_) (fun c1=>?_)))
 ·(try simp only[sd,se] at c1);omega
 (try simp only[sd,se] at c1);refine Bh (As A0 1 [] O (Az (⟨O,_,_,⟨_,_,O,O,O⟩,(List.nil_sublist _),?_⟩)))
 all_goals exact⟨pB (decide_eq_true An).symm,rfl⟩
theorem eR:∀(a b:List Tm),(b.length=0)→E4 Tryz.prog 120 [.p (.lst (BC a)),.p (.lst (BC b)),.p (.fn 91)] (.p (.bool (decide (a.length=0)))):=by
 intro a b h1;refine A4 Tryz.func120 O ld (n:=32) O O (As A0 1 [] O (Au (Aw (Br O (Aq O (BM Bg O (BR _)) (Br O (Aq O (BM Bg O (BR _)) (Ar A0 1 [] O (Av O (fun c=>?_) (fun c=>?_))))))))))
 ·(try simp only[sd,se] at c);refine As A0 1 [] O (Az (⟨O,_,_,⟨_,_,O,O,O⟩,(List.nil_sublist _),?_⟩))
  all_goals exact⟨pB (decide_eq_false An).symm,rfl⟩
 (try simp only[sd,se] at c);refine A1 (Au (Aw (Br O (Aq O (BM Bg O (BR _)) (Ar A0 1 [] O (A8 (Be (α:=Nat) (fun i=>⟨32,mk [(1,.p (.lst (BC b))),(2,.p (.fn 91)),(15,.p (.lst (BC a))),(16,.p (I (a.length:Nat))),(17,.p (I (i:Int)))],[],[]⟩) (fun i=>a.length - i) (fun i=>i≤a.length) 0 AO ?_ ?_)))))))
 ·exact BY ⟨we O,we O,we O,we O,we O,Ap⟩ (leH (is:=[]) O (DO))
 rintro i hC
 try simp only at hC
 have hi:=hC;refine As A0 1 [] O (Au (Av O (fun c1=>?_) (fun c1=>?_)))
 ·(try simp only[sd,se] at c1);omega
 (try simp only[sd,se] at c1);refine Bh (As A0 1 [] O (Az (⟨O,_,_,⟨_,_,O,O,O⟩,(List.nil_sublist _),?_⟩)))
 all_goals exact⟨pB (decide_eq_true An).symm,rfl⟩
theorem eI:∀(a b:Tm),(b.levels.length=0)→(b.kids.length=0)→E4 Tryz.prog 91 [.agg ((BK a).map .p),.agg ((BK b).map .p)] (.p (.bool (MP a b))):=by
 intro a b h1 h2;obtain⟨ak,ai,an,al,as1⟩:=a;obtain⟨bk,bi,bn,bl,bs⟩:=b;simp only[Tm.levels,Tm.kids] at h1 h2;refine A4 Tryz.func91 O pZ (n:=38) O O (Aw (BG O (BO O) fun b2=>BG O (BO O) fun b3=>Ar A0 1 [] O (Au (BU [] 4 (fun y=>y= .p (.bool ((((((ak:Int)==(bk:Int))&&((ai:Int)==(bi:Int)))&&(an.toList==bn.toList))&&(decide (al.length=0)))&&(decide (as1.length=0))))) ?_ ?_))))
 ·refine A3 (Ay A0 6 [1,0] O (BI 10 O (fun g=>?_) (fun g=>?_)))
  ·(try simp only[sd,se] at g);refine Ay A0 7 [1,0] O (BI 17 O (fun g1=>?_) (fun g1=>?_))
   ·(try simp only[sd,se] at g1);refine Ay A0 4 [1,0] O (BA O (Fu O O) (Ay A0 2 [] O (BI 24 O (fun g2=>?_) (fun g2=>?_))))
    ·(try simp only[sd,se] at g2);refine Ay A0 4 [1,0] O (BA O (BF O O (gm al bl h1) O) (Ay A0 2 [] O (BI 31 O (fun g3=>?_) (fun g3=>?_))))
     ·(try simp only[sd,se] at g3);exact Ay A0 4 [1,0] O (BA O (BF O O (eR as1 bs h2) O) (Ar A0 2 [] O ⟨O,O,AJ,AH,Ap⟩))
     (try simp only[sd,se] at g3);exact Ar A0 7 [] O ⟨O,O,AJ,AH,Ap⟩
    (try simp only[sd,se] at g2);exact Ar A0 14 [] O ⟨O,O,AJ,AH,Ap⟩
   (try simp only[sd,se] at g1);exact Ar A0 21 [] O ⟨O,O,AJ,AH,Ap⟩
  (try simp only[sd,se] at g);exact Ar A0 28 [] O ⟨O,O,AJ,AH,Ap⟩
 rintro _ rfl;refine Az (⟨O,_,_,⟨_,_,O,O,O⟩,(List.nil_sublist _),?_⟩)
 all_goals exact⟨by show (.p (.bool ((((((ak:Int)==(bk:Int))&&((ai:Int)==(bi:Int)))&&(an.toList==bn.toList))&&(decide (al.length=0)))&&(decide (as1.length=0)))):AV)=_;rw[rW h1 h2],rfl⟩
def rE (ds:List CC) (n:Nat):Prop:=∀(m:Nat) (t:Tm) (s:Int),F8 s→HG ds Bo n s t≠ .stuck→Bl Tryz.prog 53 [.ptr m 0,.agg ((BK t).map .p)] [.box m [.p (.lst (List.map Bj ds)),.p (I s)]] (J5 (fun(r:Option Int×Int)=> .tup [.p (I (r.1.getD 0)),.p (.bool r.1.isSome)]) (fun _=> .p (.iface 122 .unit)) (fun r H'=>H'=[.box m [.p (.lst (List.map Bj ds)),.p (I r.2)]]) ((HG ds Bo n s t).ex))
set_option maxHeartbeats 4000000 in
theorem WI:∀(ds:List CC) (hE:HE ds) (n:Nat),rE ds n:=by
 intro ds hE n
 induction n using Nat.strongRecOn with
 | ind n ih =>
  intro m t s hJ hns;have h2:=hE;obtain⟨k,rfl⟩:=cX rfl hns;generalize hC:HG ds Bo (k+1) s t=X at hns ⊢;rw[Ty] at hC;have hn0:=hns;rw[←hC] at hn0;have hn1:=Tz hn0;refine A4 Tryz.func53 O pq (n:=116) O O (Aw (BG O (BO O) fun b3=>Ar A0 2 [] O (Aw (Ay A0 2 [0] O (DX [1] O O O (.inl ⟨O,O,O⟩) (Na ds hE k m t s hJ hn1) ⟨_,_,O,O,O⟩ Am (aw (we O) (aw (we O) (Eg))) (fun _ _ h=>(congrArg List.length h).trans O) ?_ ?_)))))
  rotate_left
  ·intro e _ he;exact⟨O,_,List.nil_sublist _,⟨_,by rw[←hC];exact Tb hn0 he,rfl⟩⟩
  rintro⟨pr,n2⟩ _ hz rfl;obtain⟨hr2,hr3⟩:=TM hn0 hz;rw[hr3] at hC;have hJ2:=PZ hJ (He hz);have hsp:mU pr:=XV hr2;have hsl:=hsp.len;have hss:=hsp.sz;have hsa:=hsp.asz;refine Aq O (BF O O (Km pr hsp.nd AZ) O) (Ay A0 3 [] O (BG O (A7 Bw O) fun b6=>Ar A0 2 [0,1] O (Au (Aw (Aq O (Ax Gi O O) ?_)))));generalize hz:(A9 pr).1=z;obtain⟨zk,zi,zn,zl,zs⟩:=z;have hzo:okB (.mk zk zi zn zl zs)=true:=hz▸hsp.head;have hzq:=hz;have hzl:=K2 hzo;have hzn:=(CY.1 hzo).nd;refine Ar A0 1 [0] O (A8 (As A0 2 [] O (Av O (fun c=>?_) (fun c=>?_))))
  ·(try simp only[sd,se] at c);have hk:=(congrArg Tm.kind hzq).trans c;rw[Sr (r:=(pr,n2)) hk,hzq] at hC;refine As A0 4 [0] O (Az (⟨O,_,_,⟨_,_,O,O,⟨_,_,O,O,O⟩⟩,(CH (is:=[2]) O),?_⟩));exact⟨⟨_,_⟩,C6 hC.symm,O,O⟩
  (try simp only[sd,se] at c);refine Au (As A0 2 [] O (BU [0,6,7,25] 30 (fun y=>y= .p (.bool (decide (zk=9∨zk=10)))) ?_ ?_))
  ·refine Av O (fun c1=>?_) (fun c1=>?_)
   ·(try simp only[sd,se] at c1);exact A1 (⟨O,O,(List.Sublist.refl _),(by refine pB (Bool.eq_iff_iff.2 ?_);simp only[beq_iff_eq,decide_eq_true_eq];omega),⟨O,O,O,O,Ap⟩⟩)
   (try simp only[sd,se] at c1);exact A3 (Ar A0 2 [] O (⟨O,O,(List.Sublist.refl _),(by refine pB (Bool.eq_iff_iff.2 ?_);simp only[beq_iff_eq,decide_eq_true_eq];omega),⟨O,O,O,O,Ap⟩⟩))
  rintro _ rfl;refine Av O (fun c1=>?_) (fun c1=>?_)
  ·(try simp only[sd,se] at c1);have hk9:zk=9∨zk=10:=by simpa using c1
   refine Aw (Ay A0 3 [0] O ?_);obtain⟨x,hx⟩:=A6 (l:=zs) (i:=0) An;rw[ZP (r:=(pr,n2)) (by rw[hzq];exact hk9) (by rw[hzq];exact hx)] at hC;refine Aq O (A5 Bg O O An (Bd hx) (BB _)) (Aq O (BJ BQ O (BB _)) (DX [2] O O O (.inl ⟨O,O,O⟩) (ih k An m x n2 hJ2 (by rw[hC];exact hns)) ⟨_,_,O,O,O⟩ Am (aw (we O) (aw (we O) (Eg))) (fun _ _ h=>(congrArg List.length h).trans O) ?_ ?_))
   rotate_left
   ·intro e _ he;exact⟨O,_,List.nil_sublist _,⟨_,by rw[←hC];exact he,rfl⟩⟩
   rintro⟨q,n21⟩ _ hz1 rfl;have hfin:=hz1;refine Ar A0 4 [] O (Az (⟨O,_,_,⟨_,_,O,O,⟨_,_,O,O,O⟩⟩,(CH (is:=[2]) O),?_⟩));exact⟨⟨q,n21⟩,by rw[←hC];exact hfin,rfl,rfl⟩
  (try simp only[sd,se] at c1);refine As A0 2 [] O (Av O (fun c2=>?_) (fun c2=>?_))
  ·(try simp only[sd,se] at c2);have hk:=(congrArg Tm.kind hzq).trans c2;refine Aw (Ay A0 2 [0] O (Aq O (CW [2] O (.inl ⟨O,O,O⟩) (OA m ds n2 (.mk zk zi zn zl zs:Tm) hE.g.env) ⟨_,_,O,O,O⟩ Am O (.inl O)) (Ay A0 3 [] O (BG O (A7 IZ O) fun b8=>Ar A0 2 [0,1] O (Au (As A0 2 [] O (Av O (fun c3=>?_) (fun c3=>?_))))))))
   ·(try simp only[sd,se] at c3);rw[Y1 (r:=(pr,n2)) hk (.inl (by rw[hzq];exact c3))] at hC;refine As A0 2 [] O (Az (⟨O,_,_,⟨_,_,O,O,⟨_,_,O,O,O⟩⟩,(CH (is:=[3]) O),?_⟩));exact⟨⟨_,_⟩,C6 hC.symm,O,O⟩
   (try simp only[sd,se] at c3);have hu:=c3;obtain⟨ix,dd,e1,e2,e3,e4⟩:=NI hu;have hde:=e2.decl;have hdg:=h2.g.all _ e3;have hel:=h2.g.env.len;have hil:=(List.getElem?_eq_some_iff.1 e1).1;have hfx:=hdg.fx;have hnr:=Ki hdg;have hcl:=hdg.din.cl;have hfl:=hdg.din.fl;refine A1 (Au (Ph [.val (.ptr m 0),.val (.ptr m 0),.val (.ptr m (0+0)),.val (.p (.lst (List.map Bj ds))),.val (.ptr b8 (0+1)),.val (.p (I (((Bq ds (.mk zk zi zn zl zs:Tm).name).1).decl))),.val (.ref (Bj dd)),.val (.agg ((Bj dd).map .p)),.new [.p (I 0),.p (.str ⟨#[]⟩),.p (I 0),.p (I 0),.p (I 0),.p (.str ⟨#[]⟩),.p (.nils),.p (.nils),.p (I 0),.p (I 0),.p (.str ⟨#[]⟩),.p (.nils),.p (.nils),.p (I 0),.p (.nils),.p (I 0),.p (I 0),.p (I 0),.p (.str ⟨#[]⟩),.p (.nils),.p (.nils),.p (.nils),.p (.nils)]] EO O Aj Aj (Cz O (fun Bs=>BT O) (Cz O (fun Bs=>NP O) (Cz O (fun Bs=>Ax lR O O) (Cz O (fun Bs=>B0 (i:=Bs.length+3) ae O (CM O) O) (Cz O (fun Bs=>Ax GU O O) ?_)))))));refine Cz O (fun Bs=>A2 (i:=Bs.length+0) Df O (CM O) (EJ _)) (Cz O (fun Bs=>A5 Ic O O An (Ed e4) (Cr _)) (Cz O (fun Bs=>BJ Gg O (Cr _)) (Qh O (fun Bs=>A7 Ml O) fun b10=>TS ?_)))
   change AL _ _ _ 9 ⟨116,_,[.box b10 [.p (I 0),.p (.str ⟨#[]⟩),.p (I 0),.p (I 0),.p (I 0),.p (.str ⟨#[]⟩),.p (.nils),.p (.nils),.p (I 0),.p (I 0),.p (.str ⟨#[]⟩),.p (.nils),.p (.nils),.p (I 0),.p (.nils),.p (I 0),.p (I 0),.p (I 0),.p (.str ⟨#[]⟩),.p (.nils),.p (.nils),.p (.nils),.p (.nils)],.box b8 ((Db ((Bq ds (.mk zk zi zn zl zs:Tm).name).1)).map .p),.box b6 [.p (I zk),.p (I zi),.p (.str zn),.p (.lst (List.map B5 zl)),.p (.lst (BC zs))],.box b3 ((BK t).map .p),.box m [.p (.lst (List.map Bj ds)),.p (I n2)]],[]⟩ _
   refine Ar A0 1 [0,1] O (Aw (Aq O (Ax GU O O) (Aq O (A2 (i:=1) Df O O (Dj _)) (Bf O (A8 (As A0 2 [] O (Av O (fun c4=>?_) (fun c4=>?_))))))))
   ·(try simp only[sd,se] at c4);have hk5:=c4;refine Aw (Aq O (BP (i:=0) Gg O O Ad) (Aq O (BF O O (Nh dd hdg.din hdg.fx) O) (Ar A0 1 [] O (Aw (Br O (Aq O (BM Bg O (BR _)) (Ar A0 2 [] O (Av O (fun c5=>?_) (fun c5=>?_)))))))))
    ·(try simp only[sd,se] at c5);refine Aw (Ay A0 3 [] O ?_);obtain⟨x,hx⟩:=A6 (l:=(A9 pr).2) (i:=(CU dd:Int).toNat) An;rw[ah (r:=(pr,n2)) hk (by rw[hzq];exact hu) rfl (by rw[hzq];exact e4) (by rw[hzq];exact hk5) An hx] at hC;refine Aq O (A5 Bg O O An (Bd hx) (BB _)) (Aq O (BJ BQ O (BB _)) (DX [4] O O O (.inl ⟨O,O,O⟩) (ih k An m x n2 hJ2 (by rw[hC];exact hns)) ⟨_,_,O,O,O⟩ Am (aw (we O) (aw (we O) (Eg))) (fun _ _ h=>(congrArg List.length h).trans O) ?_ ?_))
     rotate_left
     ·intro e _ he;exact⟨O,_,List.nil_sublist _,⟨_,by rw[←hC];exact he,rfl⟩⟩
     rintro⟨q,n21⟩ _ hz1 rfl;have hfin:=hz1;refine Ar A0 4 [] O (Az (⟨O,_,_,⟨_,_,O,O,⟨_,_,O,O,O⟩⟩,(CH (is:=[4]) O),?_⟩));exact⟨⟨q,n21⟩,by rw[←hC];exact hfin,rfl,rfl⟩
    (try simp only[sd,se] at c5);rw[Yj (r:=(pr,n2)) hk (by rw[hzq];exact hu) rfl (by rw[hzq];exact e4) (by rw[hzq];exact hk5) An] at hC;refine A1 (As A0 2 [] O (Az (⟨O,_,_,⟨_,_,O,O,⟨_,_,O,O,O⟩⟩,(CH (is:=[4]) O),?_⟩)));exact⟨⟨_,_⟩,C6 hC.symm,O,O⟩
   (try simp only[sd,se] at c4);have hk5:=c4;refine As A0 2 [] O (Av O (fun c5=>?_) (fun c5=>?_))
   ·(try simp only[sd,se] at c5);have hk6:=c5;obtain⟨fk,ff,f1,f2⟩:=e2.func hk6;have hff:dd.funs[(Bq ds (Tm.mk zk zi zn zl zs).name).1.item.toNat]?=some ff:=by rw[f2];simpa using f1
    have hfm:=List.mem_of_getElem? hff;have hfa:=hdg.fu ff hfm;have hfi:=(List.getElem?_eq_some_iff.1 f1).1;refine Aw (Aq O (Ax C3 O O) (Aq O (A2 (i:=0) HI O O (CA _)) (Aq O (Ax GU O O) (Aq O (A2 (i:=1) Df O O (Gs _)) (Aq O (A5 Gp O O An (ET hff) (Da _)) (Aq O (BJ gV O (Da _)) (BG O (A7 ao O) fun b12=>Ar A0 1 [0,1] O (Au (Aw (Br O (Aq O (BM Bg O (BR _)) (Aq O (Ax G4 O O) (Aq O (A2 (i:=0) Df O O (CT _)) (Ar A0 1 [] O (Av O (fun c6=>?_) (fun c6=>?_))))))))))))))))
    ·(try simp only[sd,se] at c6);rw[ZK (r:=(pr,n2)) hk (by rw[hzq];exact hu) rfl (by rw[hzq];exact e4) (by rw[hzq];exact hk6) (by rw[hzq];exact hff) (by show ¬ff.arity≤((A9 pr).2.length:Int);omega)] at hC;refine As A0 2 [] O (Az (⟨O,_,_,⟨_,_,O,O,⟨_,_,O,O,O⟩⟩,(CH (is:=[5]) O),?_⟩));exact⟨⟨_,_⟩,C6 hC.symm,O,O⟩
    (try simp only[sd,se] at c6);refine A1 (Au ?_);rw[Uh (r:=(pr,n2)) hk (by rw[hzq];exact hu) rfl (by rw[hzq];exact e4) (by rw[hzq];exact hk6) (by rw[hzq];exact hff) (by show ff.arity≤((A9 pr).2.length:Int);omega)] at hC;have hn0b:=hns;rw[←hC] at hn0b;have hn2:=Iw hn0b;obtain⟨e,he⟩ | ⟨⟨q,n21⟩,hz1⟩:=FK ((Dm ds Bo (DJ ds Bo k) k ff.tree (((A9 pr).2).take ((ff.arity:Int).toNat)) BZ n2).ex)
    ·refine IJ ((fun _=> .p (.iface 122 .unit)) e) 7 [.val (.ptr m 0),.val (.ptr b12 (0+7)),.val (.agg ((C4 ff.tree).map .p)),.val (.p (.lst (BC ((A9 pr).2)))),.val (.ptr b12 (0+6)),.val (.p (I ff.arity)),.val (.p (.lst (BC (((A9 pr).2).take ((ff.arity:Int).toNat))))),.val (.p .any),.val (.p .any),.val (.p .any),.val (.p .any),.val (.p .any),.val (.p .any),.new [.p (I 0),.p (I 0),.p (.str ⟨#[]⟩),.p (.nils),.p (.nils)],.new [.p (I 0),.p (I 0),.p (.str ⟨#[]⟩),.p (.nils),.p (.nils)],.val (.p .any),.val (.p .any),.val (.p .any),.val (.p .any)] EO O Aj O Ap (fun _ _=>by exact⟨rfl,_,List.nil_sublist _,⟨_,by rw[←hC];exact KH hn0b he,rfl⟩⟩) ?_;refine B1 O O (fun Bs=>BT O) (B1 O O (fun Bs=>Ax G4 O O) (B1 O O (fun Bs=>Bv (i:=Bs.length+0) Kf O (CM O) (EL _) (Cy _)) (B1 O O (fun Bs=>BT O) (B1 O O (fun Bs=>Ax G4 O O) (B1 O O (fun Bs=>A2 (i:=Bs.length+0) Df O (CM O) (CT _)) (B1 O O (fun Bs=>Co (lo:=0) (hi:=(ff.arity:Int).toNat) Bg O (CB (Bu _)) O ⟨_,pI An⟩ (Nat.zero_le _) AP (SA ((A9 pr).2) ((ff.arity:Int).toNat))) (KL (mkp:=(fun _=> .p (.iface 122 .unit))) (e:=e) [5] he O O (.inl ⟨O,O,O⟩) (PX k k m ds ff.tree (((A9 pr).2).take ((ff.arity:Int).toNat)) n2 (Na ds hE k) hE.g hJ2 (Sq hE e3 hfm hsp.args) hn2) ⟨_,_,O,O,O⟩ Am (aw (we O) (aw (we O) (aw (we O) (Eg)))) (C0 O O Aj (C0 O O Aj (C0 O O Aj ?_))))))))));exact C0 O O Aj (C0 O O Aj (TU O O (fun Bs=>A7 Bw O) fun _=>TU O O (fun Bs=>A7 Bw O) fun _=>C0 O O Aj (C0 O O Aj (C0 O O Aj (C0 O O Aj KP)))))
    rw[Lc hz1] at hC;have hJ3:=R6 hJ2 (He hz1);refine ID [.box b12 ((FR ff).map .p),.box b10 ((Bj dd).map .p),.box b8 ((Db ((Bq ds (.mk zk zi zn zl zs:Tm).name).1)).map .p),.box b6 [.p (I zk),.p (I zi),.p (.str zn),.p (.lst (List.map B5 zl)),.p (.lst (BC zs))],.box b3 ((BK t).map .p),.box m [.p (.lst (List.map Bj ds)),.p (I n21)]] 7 [.val (.ptr m 0),.val (.ptr b12 (0+7)),.val (.agg ((C4 ff.tree).map .p)),.val (.p (.lst (BC ((A9 pr).2)))),.val (.ptr b12 (0+6)),.val (.p (I ff.arity)),.val (.p (.lst (BC (((A9 pr).2).take ((ff.arity:Int).toNat))))),.val (.tup [.agg ((BK (N0 q)).map .p),.p (.lst (BC (SU q))),.p (.bool q.1.isSome),.agg ((BK q.2).map .p)]),.val (.tup [.agg ((BK (N0 q)).map .p),.p (.lst (BC (SU q))),.p (.bool q.1.isSome),.agg ((BK q.2).map .p)]),.val (.agg ((BK (N0 q)).map .p)),.val (.p (.lst (BC (SU q)))),.val (.p (.bool q.1.isSome)),.val (.agg ((BK q.2).map .p)),.new [.p (I 0),.p (I 0),.p (.str ⟨#[]⟩),.p (.nils),.p (.nils)],.new [.p (I 0),.p (I 0),.p (.str ⟨#[]⟩),.p (.nils),.p (.nils)]] [.p .any,.p (.lst (BC (SU q))),.p (.bool q.1.isSome),.p .any] [10,11,12] EO O Aj Aj Aj O ?_ ?_
    ·exact Ap
    refine Bn O O (fun Bs=>BT O) (Bn O O (fun Bs=>Ax G4 O O) (F4 O O O (fun Bs=>Bv (i:=Bs.length+0) Kf O (CM O) (EL _) (Cy _)) (fun Bs=>Bv (i:=Bs.length+0) Kf O (CM O) (EL _) (Cy _)) (Bn O O (fun Bs=>BT O) (Bn O O (fun Bs=>Ax G4 O O) (F4 O O O (fun Bs=>A2 (i:=Bs.length+0) Df O (CM O) (CT _)) (fun Bs=>A2 (i:=Bs.length+0) Df O (CM O) (CT _)) (Bn O O (fun Bs=>Co (lo:=0) (hi:=(ff.arity:Int).toNat) Bg O (CB (Bu _)) O ⟨_,pI An⟩ (Nat.zero_le _) AP (SA ((A9 pr).2) ((ff.arity:Int).toNat))) ?_))))));refine Jy O (fun Bs=>Gw [5] O (.inl ⟨O,O,O⟩) (J0 hz1 (PX k k m ds ff.tree (((A9 pr).2).take ((ff.arity:Int).toNat)) n2 (Na ds hE k) hE.g hJ2 (Sq hE e3 hfm hsp.args) hn2)) ⟨_,_,O,O,O⟩ Am O (aw (we O) (aw (we O) (aw (we O) (Eg))))) (Bn O O (fun Bs=>BT O) (Bn O O (fun Bs=>D3 O O) (Bn O O (fun Bs=>D3 O O) (Bn O O (fun Bs=>D3 O O) (Bn O O (fun Bs=>D3 O O) (Tw O O (fun Bs=>A7 Bw O) fun b13=>Tw O O (fun Bs=>A7 Bw O) fun b16=>Ju ?_))))));refine D8 [.box b13 ((BK (N0 q)).map .p),.box b16 [.p (I 0),.p (I 0),.p (.str ⟨#[]⟩),.p (.nils),.p (.nils)],.box b12 ((FR ff).map .p),.box b10 ((Bj dd).map .p),.box b8 ((Db ((Bq ds (.mk zk zi zn zl zs:Tm).name).1)).map .p),.box b6 [.p (I zk),.p (I zi),.p (.str zn),.p (.lst (List.map B5 zl)),.p (.lst (BC zs))],.box b3 ((BK t).map .p),.box m [.p (.lst (List.map Bj ds)),.p (I n21)]] O (CZ (i:=0) BQ O O O Ag AW (FT _)) ?_;refine D8 [.box b13 ((BK (N0 q)).map .p),.box b16 [.p (I 0),.p (I 0),.p (.str ⟨#[]⟩),.p (.nils),.p (.nils)],.box b12 ((FR ff).map .p),.box b10 ((Bj dd).map .p),.box b8 ((Db ((Bq ds (.mk zk zi zn zl zs:Tm).name).1)).map .p),.box b6 [.p (I zk),.p (I zi),.p (.str zn),.p (.lst (List.map B5 zl)),.p (.lst (BC zs))],.box b3 ((BK t).map .p),.box m [.p (.lst (List.map Bj ds)),.p (I n21)]] O (EU O) (D8 [.box b13 ((BK (N0 q)).map .p),.box b16 [.p (I 0),.p (I 0),.p (.str ⟨#[]⟩),.p (.nils),.p (.nils)],.box b12 ((FR ff).map .p),.box b10 ((Bj dd).map .p),.box b8 ((Db ((Bq ds (.mk zk zi zn zl zs:Tm).name).1)).map .p),.box b6 [.p (I zk),.p (I zi),.p (.str zn),.p (.lst (List.map B5 zl)),.p (.lst (BC zs))],.box b3 ((BK t).map .p),.box m [.p (.lst (List.map Bj ds)),.p (I n21)]] O (EU O) ?_)
    refine D8 [.box b13 ((BK (N0 q)).map .p),.box b16 ((BK q.2).map .p),.box b12 ((FR ff).map .p),.box b10 ((Bj dd).map .p),.box b8 ((Db ((Bq ds (.mk zk zi zn zl zs:Tm).name).1)).map .p),.box b6 [.p (I zk),.p (I zi),.p (.str zn),.p (.lst (List.map B5 zl)),.p (.lst (BC zs))],.box b3 ((BK t).map .p),.box m [.p (.lst (List.map Bj ds)),.p (I n21)]] O (CZ (i:=1) BQ O O O Ag AW (FT _)) (J1 (Au (BU [0,16] 110 (fun y=>y= .p (.bool ((!q.1.isSome)&&(!(MP q.2 BZ))))) ?_ ?_)))
    ·refine A3 (Ay A0 3 [] O (BI 105 O (fun g=>?_) (fun g=>?_)))
     ·(try simp only[sd,se] at g);exact Ay A0 2 [1] O (BA O (Es O O (eI q.2 (.mk 0 0 ⟨#[]⟩ [] []:Tm) O O) (aw (we O) (aw (C7 O) (Eg)))) (Ar A0 2 [] O (⟨O,O,AJ,(by first | rfl | (refine pB ?_;rw[g];rfl)),⟨O,O,Ap⟩⟩)))
     (try simp only[sd,se] at g);exact Ar A0 5 [] O (⟨O,O,AJ,(by first | rfl | (refine pB ?_;rw[g];rfl)),⟨O,O,Ap⟩⟩)
    rintro _ rfl;refine Av O (fun c7=>?_) (fun c7=>?_)
    ·(try simp only[sd,se] at c7);rw[YF (by simpa using c7.1) rfl (by simpa using c7.2)] at hC;refine Aw (Ay A0 2 [1] O (DX [7] O O O (.inl ⟨O,O,O⟩) (ih k An m q.2 n21 hJ3 (by rw[hC];exact hns)) ⟨_,_,O,O,O⟩ Am (aw (we O) (aw (we O) (Eg))) (fun _ _ h=>(congrArg List.length h).trans O) ?_ ?_))
     rotate_left
     ·intro e _ he;exact⟨O,_,List.nil_sublist _,⟨_,by rw[←hC];exact he,rfl⟩⟩
     rintro⟨q1,n22⟩ _ hz2 rfl;have hfin:=hz2;refine Ar A0 4 [] O (Az (⟨O,_,_,⟨_,_,O,O,⟨_,_,O,O,O⟩⟩,(CH (is:=[7]) O),?_⟩));exact⟨⟨q1,n22⟩,by rw[←hC];exact hfin,rfl,rfl⟩
    (try simp only[sd,se] at c7);rw[Y8 (by by_cases hqs:q.1.isSome=true;exact .inl hqs;exact .inr (.inr (by simpa [hqs] using c7)))] at hC;refine A1 (As A0 2 [] O (Az (⟨O,_,_,⟨_,_,O,O,⟨_,_,O,O,O⟩⟩,(CH (is:=[7]) O),?_⟩)));exact⟨⟨_,_⟩,C6 hC.symm,O,O⟩
   (try simp only[sd,se] at c5);rw[QS (r:=(pr,n2)) hk (by rw[hzq];exact hu) rfl (by rw[hzq];exact hk5) (by rw[hzq];exact c5)] at hC;refine A1 (As A0 2 [] O (Az (⟨O,_,_,⟨_,_,O,O,⟨_,_,O,O,O⟩⟩,(CH (is:=[4]) O),?_⟩)));exact⟨⟨_,_⟩,C6 hC.symm,O,O⟩
  (try simp only[sd,se] at c2);rw[gh (r:=(pr,n2)) (by rw[hzq];assumption) (by rw[hzq];show ¬zk=9;omega) (by rw[hzq];show ¬zk=10;omega) (by rw[hzq];assumption)] at hC;refine A1 (As A0 2 [] O (Az (⟨O,_,_,⟨_,_,O,O,⟨_,_,O,O,O⟩⟩,(CH (is:=[2]) O),?_⟩)));exact⟨⟨_,_⟩,C6 hC.symm,O,O⟩
theorem aj:∀(ds:List CC) (N m bt bo bk:Nat) (t:Tm) (s:Int),(HE ds)→(F8 s)→(HG ds Bo N s t≠ .stuck)→Bl Tryz.prog 52 [.ptr m 0,.ptr bt 0,.ptr bo 0,.ptr bk 0] [.box m [.p (.lst (List.map Bj ds)),.p (I s)],.box bt ((BK t).map .p),.box bo [.p (I 0)],.box bk [.p (.bool false)]] (J5 (fun(r:Option Int×Int)=> .tup []) (fun _=> .p (.iface 122 .unit)) (fun r H'=>H'=[.box m [.p (.lst (List.map Bj ds)),.p (I r.2)],.box bt ((BK t).map .p),.box bo [.p (I (r.1.getD 0))],.box bk [.p (.bool r.1.isSome)]]) ((HG ds Bo N s t).ex)):=by
 intro ds N m bt bo bk t s h1 h2 h3;refine A4 Tryz.func52 O oY (n:=11) O O (A3 (Ay A0 2 [1] O (DX [0] O O O (.inl ⟨O,O,O⟩) (WI ds h1 N m t s h2 h3) ⟨_,_,O,O,O⟩ Am (aw (we O) (aw (we O) (Eg))) (fun _ _ h=>(congrArg List.length h).trans O) ?_ ?_)))
 rotate_left
 ·intro e _ he;exact⟨O,_,List.nil_sublist _,⟨_,he,O⟩⟩
 rintro⟨q,n2⟩ _ hz rfl;refine Ar A0 5 [2,0,3,0] O ⟨O,_,_,O,(CH (is:=[0,1,2,3]) O),?_⟩;exact⟨⟨q,n2⟩,hz,O,O⟩
theorem eC:∀(ds:List CC) (N:Nat) (t:Tm),(HE ds)→(HG ds Bo N 20000 t≠ .stuck)→E4 Tryz.prog 18 [.p (.lst (List.map Bj ds)),.agg ((BK t).map .p)] (.tup [.p (I ((aY (HG ds Bo N 20000 t)).1)),.p (.bool ((aY (HG ds Bo N 20000 t)).2.1)),.p (I ((aY (HG ds Bo N 20000 t)).2.2))]):=by
 intro ds N t h1 h2;refine A4 Tryz.func18 O pX (n:=18) O O (Aw (BG O (BO O) fun b3=>Ar A0 3 [] O (Aw (BG O (A7 eM O) fun b7=>BG O (A7 qd O) fun b8=>Ar A0 2 [1,0,0,0] O (Au ?_)))));obtain⟨e,he⟩ | ⟨⟨q,n2⟩,ha⟩:=FK ((HG ds Bo N 20000 t).ex)
 ·refine A3 (Ay A0 2 [] O (TZ [2,1,0] O O O (.inl ⟨O,O,O⟩) (P5 _ _ he (fun r=>r.2) (fun r=>[.box b3 ((BK t).map .p),.box b7 [.p (I (r.1.getD 0))],.box b8 [.p (.bool r.1.isSome)]]) 52 [.ptr b3 0,.ptr b7 0,.ptr b8 0] [.box b3 ((BK t).map .p),.box b7 [.p (I 0)],.box b8 [.p (.bool false)]] ds (fun m=>aj ds N m b3 b7 b8 t 20000 h1 Kx h2)) ⟨_,_,O,O,⟨_,_,O,O,⟨_,_,O,O,O⟩⟩⟩ Am (DD _) (Ar A0 1 [] O (Au (As A0 2 [] O ?_)))));refine Av O (fun c=>?_) (fun c=>by cases c);refine As A0 4 [] O (Az (⟨O,_,_,⟨_,_,O,O,⟨_,_,O,O,⟨_,_,O,O,O⟩⟩⟩,(List.nil_sublist _),?_⟩))
  all_goals exact⟨by show (.tup [.p (I 0),.p (.bool false),.p (I 11)]:AV)=_;rw[ju he],rfl⟩
 refine A3 (Ay A0 2 [] O (Aq O (CW [2,1,0] O (.inl ⟨O,O,O⟩) (UI _ _ ha (fun r=>r.2) (fun r=>[.box b3 ((BK t).map .p),.box b7 [.p (I (r.1.getD 0))],.box b8 [.p (.bool r.1.isSome)]]) 52 [.ptr b3 0,.ptr b7 0,.ptr b8 0] [.box b3 ((BK t).map .p),.box b7 [.p (I 0)],.box b8 [.p (.bool false)]] ds (fun m=>aj ds N m b3 b7 b8 t 20000 h1 Kx h2)) ⟨_,_,O,O,⟨_,_,O,O,⟨_,_,O,O,O⟩⟩⟩ Am O (.inl O)) (Ar A0 1 [] O (Au (As A0 2 [] O ?_)))));refine Av O (fun c=>by cases c) (fun c=>?_);refine A1 (Au (B6 (fun k=>false) EO (B4 A0 5 [1,0] O (Az (⟨O,_,_,⟨_,_,O,O,⟨_,_,O,O,⟨_,_,O,O,O⟩⟩⟩,(List.nil_sublist _),?_⟩)))))
 all_goals exact⟨by show (.tup [.p (I (q.getD 0)),.p (.bool q.isSome),.p (I 0)]:AV)=_;rw[jK ha],rfl⟩
def rp (ds:List CC) (n:Nat):Prop:=∀(b:Nat) (t:Tm) (c c2:IV) (q:Option Tm),Em ds jF n c t= .ok (q,c2)→Bl Tryz.prog 17 [.p (.lst (List.map Bj ds)),.agg ((BK t).map .p),.ptr b 0] [.box b ((Ys c).map .p)] (G5 (.tup [TV (q.getD BZ),.p (.bool q.isSome)]) [.box b ((Ys c2).map .p)])
end Go.Proofs.YtboammbpdaoojaaGreat
namespace Go.Eu
open Go.Abs
mutual
theorem cK {vars m:Int}(hv:vars≤549755813888):∀(t:Tm) (d:Int),wf vars m d t→0≤d→d+size t≤1073741824→Vp t
 | .mk k i n l ks,d,h,h0,h1=>by
  simp only[wf,size] at h h1;exact⟨fun e=>by have:=h.2.2.2.1 e;omega,YA hv ks k d 0 h.2.2.2.2.2 h0 An⟩
theorem YA {vars m:Int}(hv:vars≤549755813888):∀(ts:List Tm) (k d:Int) (j:Nat),fq vars m k d j ts→0≤d→d+1+BS ts≤1073741824→R1 ts
 | [],k,d,j,h,h0,h1=>trivial
 | t::ts,k,d,j,h,h0,h1=>by
  have:=Cj k j;simp only[fq,BS] at h h1;have:=size_pos t;exact⟨cK hv t _ h.1 An An,YA hv ts k d (j+1) h.2 h0 An⟩
end
theorem cG {t:Tm}{vars m:Int}(hn:Nd t) (hs:size t<1000000) (hv:vars≤549755813888) (h:wf (max vars 0) m 0 t):okB t=true :=
 CY.2 ⟨hn,iL t 0 h,cK An t 0 h An An,by omega⟩
def YO (d:CC):Prop:=(d.kind≠1→d.kind≠2→d.value=BZ)∧(d.kind≠3→d.recs.rules.length=0∧d.fixed=0)∧(d.kind≠4→d.funs.length=0)
def UO (d:CC):Prop:=0≤d.fixed∧(∀f∈d.funs,1≤f.arity∧f.arity≤16)∧(d.kind=3→d.fixed≤1000000)
def cw (d:CC):Prop:=(d.kind=1∨d.kind=2→okB d.value=true)∧(d.kind=3→∀t∈d.recs.rules,okB t=true)∧(d.kind=4→∀f∈d.funs,Ew f.tree)
theorem mA {d:CC}(h:OB d) (hk:0≤d.kind∧d.kind≤4) (hu:YO d) (hc:UO d) (ht:cw d):DG d:=by
 obtain⟨u1,u2,u3⟩:=hu;obtain⟨c1,c2,c3⟩:=hc;obtain⟨t1,t2,t3⟩:=ht;refine⟨h,⟨c1,?_⟩,?_,?_,fun f hf=>⟨(c2 f hf).1,(c2 f hf).2,?_⟩⟩
 ·by_cases h3:d.kind=3
  ·exact c3 h3
  rw[(u2 h3).2];omega
 ·by_cases h1:d.kind=1∨d.kind=2
  ·exact t1 h1
  rw[u1 An An];exact Ho
 ·by_cases h3:d.kind=3
  ·exact t2 h3
  intro t ht;rw[List.length_eq_zero_iff.1 (u2 h3).1] at ht;cases ht
 by_cases h4:d.kind=4
 ·exact t3 h4 f hf
 rw[List.length_eq_zero_iff.1 (u3 h4)] at hf;cases hf
def Sk (d:CC):Prop:=size d.value≤400∧(∀t∈d.recs.rules,size t≤400)∧∀f∈d.funs,DY f.tree≤50
theorem e6 {ds:List CC}(h:Lz ds) (hf:∀d∈ds,Sk d):HE ds:=⟨h,fun d hd=>(hf d hd).1,fun d hd=>(hf d hd).2.1,fun d hd=>(hf d hd).2.2⟩
theorem QA {n:Nat}:∀{l:List F7},(∀x∈l,DY x.tree≤n)→KC l≤n
 | [],_=>by simp[KC]
 | .mk c a t::l,h=>by
  have h1:=h (.mk c a t) Ao;have h2:=QA (n:=n) (l:=l) fun x hx=>h x (by simp[hx]);simp only[KC,XN,F7.tree] at *;omega
theorem Y5 {n:Nat}{t:E3}(h:∀x∈t.branches,DY x.tree≤n):DY t≤n+1:=by
 obtain⟨k,b,v,l⟩:=t;have h1:=QA (n:=n) (l:=l) h;simp only[DY];omega
theorem S4:∀{l:List F7},(∀x∈l,Ew x.tree)→QY l
 | [],_=>trivial
 | .mk c a t::l,h=>⟨h (.mk c a t) Ao,S4 fun x hx=>h x (by simp[hx])⟩
theorem QR {t:E3}(h0:okB t.body=true) (h:∀x∈t.branches,Ew x.tree):Ew t:=by
 obtain⟨k,b,v,l⟩:=t;exact⟨h0,S4 h⟩
theorem XB {t:E3}(h0:MP t.body BZ=true) (h:t.branches.length=0):Ew t :=
 QR (by rw[HQ.1 h0];exact Ho) (fun x hx=>by rw[List.length_eq_zero_iff.1 h] at hx;cases hx)
theorem HO {α:Type}{p:α→Prop}{l:List α}{n:Nat}(hn:l.length≤n) (h:∀j,j<n→∀x,l[j]?=some x→p x):∀x∈l,p x:=fun x hx=>by
 obtain⟨j,hj⟩:=List.mem_iff_getElem?.1 hx;exact h j (by have:=(List.getElem?_eq_some_iff.1 hj).1;omega) x hj
theorem Zx {ds:List CC}{i:Nat}(h:Hn ds) (hC:∀j,j<i→∀x,ds[j]?=some x→DG x):Lz (ds.take i) :=
 ⟨h.take i,fun d hd=>by
  obtain⟨j,hj⟩:=List.mem_iff_getElem?.1 hd;have hlt:=(List.getElem?_eq_some_iff.1 hj).1;rw[List.length_take] at hlt;rw[List.getElem?_take_of_lt An] at hj;exact hC j An d hj⟩
theorem j9 {α:Type}{l:List α}(h:l.length=0) {p:α→Prop}:∀x∈l,p x:=fun x hx=>by
 rw[List.length_eq_zero_iff.1 h] at hx;cases hx
theorem gY {t:E3}{dp:Int}(hd:dp≤40) (h:∀x∈t.branches,(DY x.tree:Int)≤42 - (dp+1)):(DY t:Int)≤42 - dp:=by
 have:=Y5 (n:=(42 - (dp+1)).toNat) (t:=t) fun x hx=>by have:=h x hx;omega
 omega
theorem O0 {t:Tm}(h:TB t) (hs:FL t≤400):size t≤400:=by
 have h1:=Q9 (t:=t) (by have:=h.sz;omega);omega
theorem a8 {d:CC}(h:OB d) (hv:FL d.value≤400) (hr:∀t∈d.recs.rules,FL t≤400) (hf:∀f∈d.funs,(DY f.tree:Int)≤42 - 0):Sk d :=
 ⟨O0 h.vl hv,fun t ht=>O0 (h.rs t ht) (hr t ht),fun f hm=>by have:=hf f hm;omega⟩
structure W7 (ds:List CC) (l:List Tm):Prop where
 env:HE ds
 ok:∀t∈l,okB t=true
 sz:BS l≤60
 few:ds.length≤70
theorem bp {ds:List CC}{l:List Tm}(hn:EA l 60 0≤60) (hg:XL l∧∀t∈l,okB t=true) (he:HE ds∧ds.length≤70):W7 ds l :=
 ⟨he.1,hg.2,by have:=UZ hg.1 An hn;omega,he.2⟩
theorem ZO {l:List Tm}(h:XL l):l.length<1000000:=by
 have:=h.sz;have:=FF l;omega
theorem V8 {l:List Tm}(h:XL l∧∀t∈l,okB t=true):∀x∈l,okB x=true∧size x<1000000:=fun x hx =>
 ⟨h.2 x hx,by have:=h.1.sz;have:=HH hx;omega⟩
end Go.Eu
namespace Go.Proofs.YtboammbpdaoojaaGreat
open Go.Abs Go.Eu
theorem XG:∀(d:CC),(OB d)→(0≤d.kind∧d.kind≤4)→FY Tryz.prog 133 [.agg ((Bj d).map .p)] (fun v=>∃bb:Bool,v= .p (.bool bb)∧(bb=true→YO d)):=by
 intro d h1 h2;refine A4 Tryz.func133 O lZ (n:=87) O O (Aw (BG O (BO O) fun b1=>Ar A0 1 [] O (Au (BU [1] 3 (fun y=>y= .p (.bool ((((d.recs.params:Int)==(0:Int))&&(MP d.recs.type BZ))&&(((d.recs.rules.length:Nat):Int)==(0:Int))))) ?_ ?_))))
 ·refine A3 (Ay A0 2 [] O (Aq O (A2 (i:=0) Df O O (DE _)) (Ay A0 2 [] O (BI 9 O (fun g=>?_) (fun g=>?_)))))
  ·(try simp only[sd,se] at g);refine Ay A0 2 [] O (BA O (Bv (i:=0) BQ O O (Ea _) (BB _)) (BA O (BF O O (Jo d.recs.type (by first | exact h1.rt.nd | exact h1.vl.nd | exact h1.ty.nd)) O) (Ay A0 2 [] O (BI 15 O (fun g1=>?_) (fun g1=>?_)))))
   ·(try simp only[sd,se] at g1);exact Ay A0 2 [] O (BA O (A2 (i:=0) GY O O (Ch _)) (BA O (BM Bg O (BR _)) (Ar A0 3 [] O (⟨O,O,AJ,AH,⟨O,Ap⟩⟩))))
   (try simp only[sd,se] at g1);exact Ar A0 7 [] O (⟨O,O,AJ,AH,⟨O,Ap⟩⟩)
  (try simp only[sd,se] at g);exact Ar A0 13 [] O (⟨O,O,AJ,AH,⟨O,Ap⟩⟩)
 rintro _ rfl;refine Au (BU [1] 4 (fun y=>y= .p (.bool ((((d.fixed:Int)==(0:Int))&&(((d.ctors.length:Nat):Int)==(0:Int)))&&((((d.recs.params:Int)==(0:Int))&&(MP d.recs.type BZ))&&(((d.recs.rules.length:Nat):Int)==(0:Int)))))) ?_ ?_)
 ·refine A3 (Aq O (Ax C3 O O) (Aq O (A2 (i:=0) Df O O (DR _)) (Ay A0 2 [] O (BI 25 O (fun g=>?_) (fun g=>?_)))))
  ·(try simp only[sd,se] at g);refine BA O (Ax C3 O O) (BA O (A2 (i:=0) IH O O (CF _)) (BA O (BM Hh O (List.length_map _)) (Ay A0 3 [] O (BI 31 O (fun g1=>?_) (fun g1=>?_)))))
   ·(try simp only[sd,se] at g1);exact Ar A0 3 [] O (⟨O,O,AJ,AH,⟨O,Ap⟩⟩)
   (try simp only[sd,se] at g1);exact Ar A0 3 [] O (⟨O,O,AJ,AH,⟨O,Ap⟩⟩)
  (try simp only[sd,se] at g);exact Ar A0 9 [] O (⟨O,O,AJ,AH,⟨O,Ap⟩⟩)
 rintro _ rfl;refine Au (Aw (Aq O (Ax C3 O O) (Aq O (A2 (i:=0) Df O O (Dh _)) (Bf O (A8 (As A0 2 [] O (Av O (fun c=>?_) (fun c=>?_))))))))
 ·(try simp only[sd,se] at c);refine Au (BU [] 2 (fun y=>y= .p (.bool (((MP d.value BZ)&&((((d.fixed:Int)==(0:Int))&&(((d.ctors.length:Nat):Int)==(0:Int)))&&((((d.recs.params:Int)==(0:Int))&&(MP d.recs.type BZ))&&(((d.recs.rules.length:Nat):Int)==(0:Int)))))&&(((d.funs.length:Nat):Int)==(0:Int))))) ?_ ?_)
  ·refine A3 (Aq O (Ax C3 O O) (Aq O (Bv (i:=0) BQ O O (FP _) (BB _)) (Aq O (BF O O (Jo d.value (by first | exact h1.rt.nd | exact h1.vl.nd | exact h1.ty.nd)) O) (Br O (BI 41 O (fun g=>?_) (fun g=>?_))))))
   ·(try simp only[sd,se] at g);refine Ay A0 3 [] O (BI 44 O (fun g1=>?_) (fun g1=>?_))
    ·(try simp only[sd,se] at g1);exact BA O (Ax C3 O O) (BA O (A2 (i:=0) HI O O (CA _)) (BA O (BM Gp O (List.length_map _)) (Ar A0 3 [] O ⟨O,O,AJ,AH,Ap⟩)))
    (try simp only[sd,se] at g1);exact Ar A0 6 [] O ⟨O,O,AJ,AH,Ap⟩
   (try simp only[sd,se] at g);exact Ar A0 9 [] O ⟨O,O,AJ,AH,Ap⟩
  rintro _ rfl;refine Az (⟨O,_,_,⟨_,_,O,O,O⟩,(List.nil_sublist _),?_⟩)
  all_goals exact⟨⟨_,rfl,fun h=>by simp only[Bool.and_eq_true,beq_iff_eq,decide_eq_true_eq,HQ] at h;refine⟨fun _ _=>?_,fun _=>⟨?_,?_⟩,fun _=>?_⟩<;>first | omega | (simp_all;done)⟩,rfl⟩
 (try simp only[sd,se] at c);refine Au (As A0 2 [] O (BU [1,4,35] 50 (fun y=>y= .p (.bool (decide (d.kind=1∨d.kind=2)))) ?_ ?_))
 ·refine Av O (fun c1=>?_) (fun c1=>?_)
  ·(try simp only[sd,se] at c1);exact A1 (⟨O,O,(List.Sublist.refl _),(by refine pB (Bool.eq_iff_iff.2 ?_);simp only[beq_iff_eq,decide_eq_true_eq];omega),⟨O,O,O,Ap⟩⟩)
  (try simp only[sd,se] at c1);exact A3 (Ar A0 2 [] O (⟨O,O,(List.Sublist.refl _),(by refine pB (Bool.eq_iff_iff.2 ?_);simp only[beq_iff_eq,decide_eq_true_eq];omega),⟨O,O,O,Ap⟩⟩))
 rintro _ rfl;refine Av O (fun c1=>?_) (fun c1=>?_)
 ·(try simp only[sd,se] at c1);refine Au (BU [] 2 (fun y=>y= .p (.bool (((((d.fixed:Int)==(0:Int))&&(((d.ctors.length:Nat):Int)==(0:Int)))&&((((d.recs.params:Int)==(0:Int))&&(MP d.recs.type BZ))&&(((d.recs.rules.length:Nat):Int)==(0:Int))))&&(((d.funs.length:Nat):Int)==(0:Int))))) ?_ ?_)
  ·refine A3 (Ay A0 2 [] O (BI 54 O (fun g=>?_) (fun g=>?_)))
   ·(try simp only[sd,se] at g);exact BA O (Ax C3 O O) (BA O (A2 (i:=0) HI O O (CA _)) (BA O (BM Gp O (List.length_map _)) (Ar A0 3 [] O ⟨O,O,AJ,AH,Ap⟩)))
   (try simp only[sd,se] at g);exact Ar A0 6 [] O ⟨O,O,AJ,AH,Ap⟩
  rintro _ rfl;refine Az (⟨O,_,_,⟨_,_,O,O,O⟩,(List.nil_sublist _),?_⟩)
  all_goals exact⟨⟨_,rfl,fun h=>by simp only[Bool.and_eq_true,beq_iff_eq,decide_eq_true_eq,HQ] at h;refine⟨fun _ _=>?_,fun _=>⟨?_,?_⟩,fun _=>?_⟩<;>first | omega | (simp_all;done)⟩,rfl⟩
 (try simp only[sd,se] at c1);refine As A0 2 [] O (Av O (fun c2=>?_) (fun c2=>?_))
 ·(try simp only[sd,se] at c2);refine Au (BU [] 2 (fun y=>y= .p (.bool ((MP d.value BZ)&&(((d.funs.length:Nat):Int)==(0:Int))))) ?_ ?_)
  ·refine A3 (Aq O (Ax C3 O O) (Aq O (Bv (i:=0) BQ O O (FP _) (BB _)) (Aq O (BF O O (Jo d.value (by first | exact h1.rt.nd | exact h1.vl.nd | exact h1.ty.nd)) O) (Br O (BI 65 O (fun g=>?_) (fun g=>?_))))))
   ·(try simp only[sd,se] at g);exact BA O (Ax C3 O O) (BA O (A2 (i:=0) HI O O (CA _)) (BA O (BM Gp O (List.length_map _)) (Ar A0 3 [] O ⟨O,O,AJ,AH,Ap⟩)))
   (try simp only[sd,se] at g);exact Ar A0 6 [] O ⟨O,O,AJ,AH,Ap⟩
  rintro _ rfl;refine Az (⟨O,_,_,⟨_,_,O,O,O⟩,(List.nil_sublist _),?_⟩)
  all_goals exact⟨⟨_,rfl,fun h=>by simp only[Bool.and_eq_true,beq_iff_eq,decide_eq_true_eq,HQ] at h;refine⟨fun _ _=>?_,fun _=>⟨?_,?_⟩,fun _=>?_⟩<;>first | omega | (simp_all;done)⟩,rfl⟩
 (try simp only[sd,se] at c2);refine A1 (Au (BU [] 2 (fun y=>∃q:Bool,y= .p (.bool q)∧(q=true→MP d.value BZ=true∧d.fixed=0∧d.recs.rules.length=0)) ?_ ?_))
 ·refine A3 (Aq O (Ax C3 O O) (Aq O (A2 (i:=0) MR O O (DV _)) (Aq O (Fu O O) (Br O (BI 74 O (fun g=>?_) (fun g=>?_))))))
  ·(try simp only[sd,se] at g);refine BA O (Ax C3 O O) (BA O (Bv (i:=0) BQ O O (FI _) (BB _)) (BA O (BF O O (Jo d.type (by first | exact h1.rt.nd | exact h1.vl.nd | exact h1.ty.nd)) O) (Ay A0 2 [] O (BI 79 O (fun g1=>?_) (fun g1=>?_)))))
   ·(try simp only[sd,se] at g1);refine BA O (Ax C3 O O) (BA O (Bv (i:=0) BQ O O (FP _) (BB _)) (BA O (BF O O (Jo d.value (by first | exact h1.rt.nd | exact h1.vl.nd | exact h1.ty.nd)) O) (Ay A0 2 [] O (BI 84 O (fun g2=>?_) (fun g2=>?_)))))
    ·(try simp only[sd,se] at g2);refine Ar A0 3 [] O ?_;exact⟨rfl,rfl,AJ,(by refine⟨_,rfl,fun h=>?_⟩;first | (exact absurd h Am) | (refine⟨by simpa using Ak,?_,?_⟩<;>(simp only[Bool.and_eq_true,beq_iff_eq,decide_eq_true_eq] at h;omega))),trivial⟩
    (try simp only[sd,se] at g2);refine Ar A0 3 [] O ?_;exact⟨rfl,rfl,AJ,(by refine⟨_,rfl,fun h=>?_⟩;first | (exact absurd h Am) | (refine⟨by simpa using Ak,?_,?_⟩<;>(simp only[Bool.and_eq_true,beq_iff_eq,decide_eq_true_eq] at h;omega))),trivial⟩
   (try simp only[sd,se] at g1);refine Ar A0 8 [] O ?_;exact⟨rfl,rfl,AJ,(by refine⟨_,rfl,fun h=>?_⟩;first | (exact absurd h Am) | (refine⟨by simpa using Ak,?_,?_⟩<;>(simp only[Bool.and_eq_true,beq_iff_eq,decide_eq_true_eq] at h;omega))),trivial⟩
  (try simp only[sd,se] at g);refine Ar A0 13 [] O ?_;exact⟨rfl,rfl,AJ,(by refine⟨_,rfl,fun h=>?_⟩;first | (exact absurd h Am) | (refine⟨by simpa using Ak,?_,?_⟩<;>(simp only[Bool.and_eq_true,beq_iff_eq,decide_eq_true_eq] at h;omega))),trivial⟩
 rintro _ ⟨q,rfl,hq⟩;refine Az (⟨O,_,_,⟨_,_,O,O,O⟩,(List.nil_sublist _),?_⟩)
 all_goals exact⟨⟨_,rfl,fun h=>by obtain⟨q1,q2,q3⟩:=hq h;rw[HQ] at q1;exact⟨fun _ _=>q1,fun _=>⟨q3,q2⟩,fun _=>by omega⟩⟩,rfl⟩
theorem O6:∀(t:Tm),(TB t)→FY Tryz.prog 171 [.agg ((BK t).map .p)] (fun v=>∃e:Int,v= .p (I e)∧0≤e∧e≤size t):=by
 intro t h1;have hsz:=h1.sz;refine A4 Tryz.func171 O nz (n:=20) O O (Aw (BG O (BO O) fun b1=>Ar A0 1 [] O (As A0 1 [] O (Au (A8 ?_)))));refine Be (α:=Tm×Int) (fun(y,m)=>⟨20,mk [(1,.ptr b1 0),(3,.p (I m))],[.box b1 ((BK y).map .p)],[]⟩) (fun(y,m)=>size y) (fun(y,m)=>Nd y∧0≤m∧m+size y≤size t) ⟨t,0⟩ (⟨h1.nd,by omega,by omega⟩) ?_ ?_
 ·exact BY ⟨we O,we O,Ap⟩ (leH (is:=[0]) O (wl (oe O) (DO)))
 rintro⟨y,m⟩ hC
 try simp only at hC
 obtain⟨hC,hm0,hm1⟩:=hC;refine Au (Au ?_);obtain⟨yk,yi,yn,yl,ys⟩:=y;refine BU [1,3] 12 (fun y=>y= .p (.bool (((yk:Int)==(6:Int))&&(((ys.length:Nat):Int)==(2:Int))))) ?_ ?_
 ·refine A3 (Ay A0 4 [0] O (BI 7 O (fun g=>?_) (fun g=>?_)))
  ·(try simp only[sd,se] at g);exact Ay A0 2 [0] O (BA O (BM Bg O (BR _)) (Ar A0 2 [] O (⟨O,O,AJ,AH,⟨O,O,Ap⟩⟩)))
  (try simp only[sd,se] at g);exact Ar A0 5 [] O (⟨O,O,AJ,AH,⟨O,O,Ap⟩⟩)
 rintro _ rfl;refine Av O (fun c=>?_) (fun c=>?_)
 ·(try simp only[sd,se] at c);refine A1 (A8 (As A0 3 [] O (A3 (Ay A0 2 [0] O ?_))));obtain⟨x,hx⟩:=A6 (l:=ys) (i:=1) (by first | omega | (simp at c;omega));refine Aq O (A5 Bg O O An (Bd hx) (BB _)) (Ar A0 2 [0,1] O ?_);refine⟨⟨x,(m:Int)+(1:Int)⟩,(by have:=Cb hx;simp only[size];omega),⟨DK hC.2.2.2.2.1 hx,by omega,by have:=Cb hx;simp only[size] at hm1;omega⟩,BY ⟨we rfl,we rfl,trivial⟩ (leH (is:=[0]) rfl (wl (oe rfl) (DO)))⟩
 (try simp only[sd,se] at c);refine Bh (As A0 2 [] O (Az (⟨O,_,_,⟨_,_,O,O,O⟩,(List.nil_sublist _),?_⟩)))
 all_goals exact⟨⟨_,rfl,by omega,by simp only[size] at hm1;omega⟩,rfl⟩
theorem Sd:∀(d:CC),(OB d)→FY Tryz.prog 150 [.agg ((Bj d).map .p)] (fun v=>∃bb:Bool,v= .p (.bool bb)∧(bb=true→d.fixed≤1000000)):=by
 intro d h1;have hcl:=h1.cl;have hts:=h1.ty.sz;refine A4 Tryz.func150 O lV (n:=32) O O (Aw (BG O (BO O) fun b1=>Ar A0 1 [] O (Au (B6 (fun k=>Nat.beq k 2) EO (BL O (fun _=>Ax C3 O O) Ap (Cc (j:=0) O O O (fun H i hi=>Bv (i:=i) BQ O hi (FI _) (BB _)) AB Ap ?_))))));refine JM [(3,.free (.ptr b1 13)),(4,.read [.box b1 ((Bj d).map .p)] (.p (I d.fixed)))] O O (B2 O O (O6 d.type h1.ty) (.inl O)) Aj (⟨_,0,O,by omega,by omega⟩) AB ?_;rintro _ ⟨e,rfl,he0,he1⟩;refine⟨Ap,?_⟩;refine Bb A0 1 [] O (Cc (j:=0) O O O (fun H i hi=>A2 (i:=i) Df O hi (DR _)) AB AM (B4 A0 2 [] O (Au (As A0 1 [] O (A8 ?_)))));refine Be (α:=Nat×Bool) (fun(i,b)=>⟨32,mk [(1,.ptr b1 0),(3,.p (.bool b)),(4,.p (I (i:Int)))],[.box b1 ((Bj d).map .p)],[]⟩) (fun(i,b)=>d.ctors.length - i) (fun(i,b)=>i≤d.ctors.length∧(b=true→d.fixed≤1000000)) ⟨0,(decide ((e:Int)≥(d.fixed:Int)))⟩ (⟨by omega,fun h=>by simp only[decide_eq_true_eq] at h;omega⟩) ?_ ?_
 ·exact BY ⟨we O,we O,we O,Ap⟩ (leH (is:=[0]) O (wl (oe O) (DO)))
 rintro⟨i,b⟩ hC
 try simp only at hC
 obtain⟨hi,hC⟩:=hC;refine Au (Aw (Ay A0 2 [] O (Aq O (A2 (i:=0) IH O O (CF _)) (Aq O (BM Hh O (List.length_map _)) (Ar A0 1 [] O (Av O (fun c=>?_) (fun c=>?_)))))))
 ·(try simp only[sd,se] at c);refine A1 (Au (A8 (BU [1,4] 3 (fun y=>∃q:Bool,y= .p (.bool q)∧(q=true→b=true)) ?_ ?_)))
  ·refine B6 (fun k=>Nat.beq k 8) EO (Bb A0 2 [] O (Fs 19 O (fun g=>?_) (fun g=>?_)))
   ·(try simp only[sd,se] at g);refine Cq O (fun _=>Ax C3 O O) Ap (Nq (i:=0) O O O O O (fun H i hi=>A2 (i:=i) IH O hi (CF _)) AB Ap (Cq O (fun _=>BT O) Ap ?_));obtain⟨x,hx⟩:=A6 (l:=d.ctors) (i:=i) An;refine Cq O (fun _=>A5 Hh O O An (EZ hx) (D7 _)) Ap (Cq O (fun _=>Bz I2 O O) Ap (Cq O (fun _=>DL BQ O (FH _) (BB _)) Ap ?_));refine Xm [(9,.free (.ptr b1 13)),(10,.read [.box b1 ((Bj d).map .p)] (.p (I d.fixed)))] O O O O (B2 O O (O6 x.type (h1.cs _ (List.mem_of_getElem? hx)).ty) (.inl O)) Aj (⟨_,0,O,by omega,by omega⟩) AB ?_;rintro _ ⟨e1,rfl,he01,he11⟩;refine⟨Ap,?_⟩;exact Bb A0 1 [] O (Nq (i:=0) O O O O O (fun H i hi=>A2 (i:=i) Df O hi (DR _)) AB AM (B4 A0 3 [] O (⟨O,O,AJ,(by refine⟨_,rfl,fun h=>?_⟩;first | (exact absurd h Am) | assumption),⟨O,O,Ap⟩⟩)))
   (try simp only[sd,se] at g);exact Bb A0 6 [] O (Vb O O O O AM (B4 A0 5 [] O (⟨O,O,AJ,(by refine⟨_,rfl,fun h=>?_⟩;first | (exact absurd h Am) | assumption),⟨O,O,Ap⟩⟩)))
  rintro _ ⟨q,rfl,hq⟩;refine A3 (Ar A0 3 [] O (⟨⟨i+1,q⟩,AT,⟨by omega,fun h=>hC (hq h)⟩,BY ⟨we rfl,we rfl,we rfl,trivial⟩ (leH (is:=[0]) rfl (wl (oe rfl) (DO)))⟩))
 (try simp only[sd,se] at c);refine Bh (As A0 2 [] O (Az (⟨O,_,_,⟨_,_,O,O,O⟩,(List.nil_sublist _),?_⟩)))
 all_goals exact⟨⟨_,rfl,hC⟩,rfl⟩
end Go.Proofs.YtboammbpdaoojaaGreat
