/- Part of the proofs: an abstract program logic, plain models and contracts of functions. -/
import Derived.Test.YtifphifongokcaaGreatPg
import Derived.Test.YtifphifongokcaaGreatPb
import Derived.Test.YtifphifongokcaaGreatPd
import Derived.Test.YtifphifongokcaaGreatPf
set_option linter.unusedVariables false
set_option linter.unusedSimpArgs false
set_option maxRecDepth 100000
namespace Go.Eu
open Go.Abs
theorem YZ {to:List Int}{t x:Tm}(hb:to.length<Cb) (h1:Nd t) (h2:Vp t) (h:QT to t= .ok x):Nd x:=by
 unfold QT JB at h;split at h
 ·cases h
 rename_i r hr;injection h with h;subst h;refine P2 (Yv ?_) t 0 () r h1 h2 hr;intro t d x g1 g2 g3 g;obtain⟨k,i,n,l,ks⟩:=t;have hi:=g2.1 g3;unfold Iz LC at g;split at g
 ·injection g with g;subst g;exact SE g1
 split at g
 ·cases g
 split at g
 ·cases g
 simp only[Tm.index,Cb] at *;exact Xz An g
theorem Xw {n:Int}{pl:List Int}{t:Tm}(hb:pl.length<Cb) (h1:Nd t) (h2:Vp t):Nd (LO n pl t):=by
 unfold LO;split
 ·rename_i x hx;exact YZ (by rw[Jf];exact hb) h1 h2 hx
 exact⟨by decide,by decide,by simp,by decide,trivial,⟨by decide,by decide⟩,⟨by decide,by decide⟩⟩
theorem Gw {ts:List Tm}:∀{n:Int}{pl:List Int},pl.length+ts.length<Cb→D7 ts→I8 ts→D7 (Aw n pl ts).1:=by
 induction ts with
 | nil=>intros;trivial
 | cons t ts ih =>
  intro n pl hb h1 h2;simp only[List.length_cons] at hb;exact⟨Xw An h1.1 h2.1,ih (by rw[List.length_append];simp only[List.length_cons,List.length_nil];omega) h1.2 h2.2⟩
theorem Ld {n:Int}{pl:List Int}(hb:pl.length<Cb):∀{ts:List Tm},D7 ts→I8 ts→D7 (CW n pl ts)
 | [],_,_=>trivial
 | t::ts,h1,h2=>⟨Xw hb h1.1 h2.1,Ld hb h1.2 h2.2⟩
theorem Q9 {n p:Int}(hn:0≤n∧n≤1000000) (hp: -1000000≤p∧p≤1000000):Nd (Ei n p):=⟨by decide,by decide,by simp,by decide,trivial,⟨by decide,by decide⟩,⟨by omega,by omega⟩⟩
theorem Gy {n:Int}(hn:0≤n∧n≤1000000):∀{pl:List Int},(∀p∈pl,-1000000≤p∧p≤1000000)→D7 (Bt n pl)
 | [],_=>trivial
 | p::pl,h=>⟨Q9 hn (h p Ao),Gy hn fun q hq=>h q (by simp[hq])⟩
theorem YG {i:Int}(h:0≤i∧i≤1000):Vt ⟨0,[⟨i,0⟩]⟩:=by
 refine⟨show (1:Nat)<Cb by decide,⟨show -9223372036854775808≤(0:Int) by decide,show (0:Int)≤9223372036854775807 by decide⟩,fun v hv=>?_⟩;simp only[List.mem_cons,List.not_mem_nil,or_false] at hv;subst hv;exact⟨⟨by simp only;omega,by simp only;omega⟩,⟨show -9223372036854775808≤(0:Int) by decide,show (0:Int)≤9223372036854775807 by decide⟩⟩
theorem Yg {k:Int}(hk:0≤k∧k≤1000):∀l∈Ce k,Vt l:=by
 intro l hl;simp only[Ce,List.mem_map,List.mem_range] at hl;obtain⟨i,hi,rfl⟩:=hl;exact YG An
theorem Mk {n:ByteArray}{k:Int}(hn:n.size<Cb) (hk:0≤k∧k≤1000):Nd (.mk 3 0 n (Ce k) []):=⟨hn,by simp only[Ce,List.length_map,List.length_range,Cb];omega,Yg hk,by decide,trivial,⟨by decide,by decide⟩,⟨by decide,by decide⟩⟩
theorem VZ {large:Bool}{k:Int}(hk:0≤k∧k≤1000):Nd (L2 large k):=by
 unfold L2;split
 ·refine⟨by decide,show (1:Nat)<Cb by decide,fun l hl=>?_,by decide,trivial,⟨by decide,by decide⟩,⟨by decide,by decide⟩⟩;simp only[List.mem_cons,List.not_mem_nil,or_false] at hl;subst hl;exact YG hk
 exact⟨by decide,by decide,by simp,by decide,trivial,⟨by decide,by decide⟩,⟨by decide,by decide⟩⟩
theorem QZ (l:List Bv):∀r∈l.map FT,∀c∈r,c≠ .nils:=by
 intro r hr c hc;simp only[List.mem_map] at hr;obtain⟨v,_,rfl⟩:=hr;simp only[FT,List.mem_cons,List.not_mem_nil,or_false] at hc;rcases hc with rfl | rfl<;>simp
theorem QJ (l:List CN):∀r∈l.map B6,∀c∈r,c≠ .nils:=by
 intro r hr c hc;simp only[List.mem_map] at hr;obtain⟨v,_,rfl⟩:=hr;simp only[B6,List.mem_cons,List.not_mem_nil,or_false] at hc;rcases hc with rfl | rfl<;>simp
structure cg (r:Rfl):Prop where
 lo:0≤r.field∧r.field≤1000
 na:D7 r.args
 va:I8 r.args
 sa:∀t∈r.args,size t<1099511627776
 la:r.args.length≤1000
 nr:D7 r.results
 vr:I8 r.results
 sr:∀t∈r.results,size t<1099511627776
 lr:r.results.length≤1000
theorem EY (p:Nat) (pl:List Int):∀(rs:List Rfl) (n:Int),(Cn p pl n rs).length=rs.length
 | [],_=>rfl
 | r::rs,n=>by simp[Cn,EY p pl rs (n+1)]
theorem PI (p:Nat) (pl:List Int):∀(a b:List Rfl) (n:Int),Cn p pl n (a++b)=Cn p pl n a++Cn p pl (n+a.length) b
 | [],b,n=>by simp[Cn]
 | r::a,b,n=>by
  simp only[List.cons_append,Cn,PI p pl a b (n+1),List.length_cons];congr 3;omega
theorem Ny {p:Nat}{pl:List Int}{rs:List Rfl}{n:Int}{i:Nat}{r:Rfl}(h:rs[i]?=some r):Cn p pl n (rs.take (i+1))=Cn p pl n (rs.take i)++[Me (n+i) p pl r]:=by
 have hi:=(List.getElem?_eq_some_iff.1 h).1;rw[List.take_add_one,h,Option.toList_some,PI,List.length_take,show min i rs.length=i by omega];rfl
theorem ZM {tel:List Tm}{p F:Nat}{pl:List Int}{r:Rfl}{x:Int}(hF:((p:Nat)+r.field:Int).toNat=F) (hr:0≤r.field) (hx:pl[F]?=some x):Me (tel.length:Nat) p pl r=Bw 6 (Aw (tel.length:Nat) (pl.take F) r.args).1 (apply (apply (Ei ((tel++(Aw (tel.length:Nat) (pl.take F) r.args).1).length:Nat) (p:Nat)) (CW ((tel++(Aw (tel.length:Nat) (pl.take F) r.args).1).length:Nat) (Aw (tel.length:Nat) (pl.take F) r.args).2 r.results)) [apply (Ei ((tel++(Aw (tel.length:Nat) (pl.take F) r.args).1).length:Nat) x) (Bt ((tel++(Aw (tel.length:Nat) (pl.take F) r.args).1).length:Nat) ((Aw (tel.length:Nat) (pl.take F) r.args).2.drop F))]):=by
 have e:(((tel++(Aw (tel.length:Nat) (pl.take F) r.args).1).length:Nat):Int)=(tel.length:Nat)+(r.args.length:Nat):=by rw[List.length_append,(Bd _).1];omega
 rw[e];unfold Me;simp only[show p+r.field.toNat=F by omega,hx,Option.getD_some]
structure Vs (k:E6):Prop where
 nf:D7 k.fields
 vf:I8 k.fields
 sf:∀t∈k.fields,size t<1099511627776
 lf:k.fields.length≤1000
 lc:k.recs.length≤1000
 rs:∀r∈k.recs,cg r∧r.field<k.fields.length
 nr:D7 k.results
 vr:I8 k.results
 sr:∀t∈k.results,size t<1099511627776
 lr:k.results.length≤1000
 nm:k.name.size<Cb
theorem Zc {n:Int}{p:Nat}{pl:List Int}{r:Rfl}(hn:0≤n∧n≤100000) (hp:p≤1000) (hr:cg r) (hpl:∀q∈pl,-1000000≤q∧q≤1000000) (hl:pl.length≤50000):Nd (Me n p pl r):=by
 have h1:=hr.la;have hpt:∀q∈(Aw n (pl.take (p+r.field.toNat)) r.args).2,-1000000≤q∧q≤1000000:=E4 (B:=1000000) _ (fun q hq=>hpl q (List.mem_of_mem_take hq)) An An;have hx: -1000000≤(pl[p+r.field.toNat]?).getD 0∧(pl[p+r.field.toNat]?).getD 0≤1000000:=by
  cases h:pl[p+r.field.toNat]? with
  | none=>exact⟨by decide,by decide⟩
  | some x=>exact hpl x (List.mem_of_getElem? h)
 unfold Me;refine Lm (Gw (by rw[List.length_take];simp only[Cb];omega) hr.na hr.va) (ET (ET (Q9 An An) (Ld (by rw[(Bd _).2,List.length_take];simp only[Cb];omega) hr.nr hr.vr)) ⟨ET (Q9 An hx) (Gy An fun q hq=>hpt q (List.mem_of_mem_drop hq)),Ap⟩)
theorem Ng {p:Nat}{pl:List Int}(hp:p≤1000) (hpl:∀q∈pl,-1000000≤q∧q≤1000000) (hl:pl.length≤50000):∀{rs:List Rfl}{n:Int},0≤n→n+rs.length≤100000→(∀r∈rs,cg r)→D7 (Cn p pl n rs)
 | [],_,_,_,_=>trivial
 | r::rs,n,h0,h1,h=>by
  simp only[List.length_cons] at h1;exact⟨Zc An hp (h r Ao) hpl hl,Ng hp hpl hl An An fun x hx=>h x (by simp[hx])⟩
theorem ZC {tel:List Tm}{f:Fam}{k:E6}{Q:List Tm×List Int}{hs:List Tm}(hQ:Q=Aw (tel.length:Nat) (BL 0 f.params.length) k.fields) (hh:hs=Cn f.params.length Q.2 ((tel++Q.1).length:Nat) k.recs):I1 f k (tel.length:Nat)=Bw 6 (Q.1++hs) (apply (apply (Ei ((tel++Q.1++hs).length:Nat) (f.params.length:Nat)) (CW ((tel++Q.1++hs).length:Nat) Q.2 k.results)) [apply (.mk 3 0 k.name (Ce f.levels) []) (Bt ((tel++Q.1++hs).length:Nat) Q.2)]):=by
 have e1:(((tel++Q.1).length:Nat):Int)=(tel.length:Nat)+(k.fields.length:Nat):=by rw[List.length_append,hQ,(Bd _).1];omega
 have e2:(((tel++Q.1++hs).length:Nat):Int)=(tel.length:Nat)+(k.fields.length:Nat)+(k.recs.length:Nat):=by
  have:((tel++Q.1++hs).length:Nat)=(tel++Q.1).length+k.recs.length:=by rw[List.length_append,hh,EY]
  omega
 rw[e2,hh,e1,hQ];rfl
end Go.Eu
namespace Go.Proofs.YtifphifongokcaaGreat
open Go.Abs Go.Eu
theorem _root_.Go.AI {α:Prop}(h:α:=by simp only[Bt,List.length_map,List.length_drop,(Bd _).2,B4];omega):α:=h
theorem _root_.Go.AZ {α:Prop}(h:α:=by simp[HU]):α:=h
theorem Z4:∀(b:Nat) (o:Option Nat) (c:Nat) (tel:List Tm) (bf bl:Nat) (f:Fam) (large:Bool),(tel.length≤50000)→(0≤f.levels∧f.levels≤1000)→(f.params.length≤1000)→(f.indices.length≤1000)→(D7 f.indices)→(I8 f.indices)→(∀t∈f.indices,size t<1099511627776)→Br Tryz.prog 96 [.ptr b 0,.ptr bf 0,.ptr bl 0] [.box b [.vs o (Av tel).length c],.vec o 5 (Av tel) c,.box bf ((Bu f).map .p),.box bl [.p (.bool large)]] (fun r H'=>∃o2 c2,r= .val (TV (L2 large f.levels))∧H'=[.box b [.vs o2 (Av (tel++((Aw (tel.length:Nat) (BL 0 f.params.length) f.indices).1++[apply (apply (Co f.name f.levels) (Bt ((tel.length:Nat)+f.indices.length) (BL 0 f.params.length))) (Bt ((tel.length:Nat)+f.indices.length) ((Aw (tel.length:Nat) (BL 0 f.params.length) f.indices).2.drop f.params.length))]))).length c2],.vec o2 5 (Av (tel++((Aw (tel.length:Nat) (BL 0 f.params.length) f.indices).1++[apply (apply (Co f.name f.levels) (Bt ((tel.length:Nat)+f.indices.length) (BL 0 f.params.length))) (Bt ((tel.length:Nat)+f.indices.length) ((Aw (tel.length:Nat) (BL 0 f.params.length) f.indices).2.drop f.params.length))]))) c2,.box bf ((Bu f).map .p),.box bl [.p (.bool large)]]):=by
 intro b o c tel bf bl f large h1 h2 h3 h4 h5 h6 h7;refine A1 Tryz.func96 O kb (n:=38) O O (Ay (BE O (A7 Bq O) fun b4=>Bo O (As (CK (fun k=>Nat.beq k 9) Eb (Bf Az 2 [] O (Cj (j:=3) O O O (fun H i hi=>A6 (i:=i) DD O hi (Dv _)) AB Ap (BG O (fun _=>A3 E9 O O) Ap (Cj (j:=3) O O O (fun H i hi=>A6 (i:=i) DD O hi (Cf _)) AB Ap (BG O (fun _=>BH BY O (BD _)) Ap (BG O (fun _=>BB O O (IM f.params.length An) O) Ap (Bf Az 2 [] O ?_)))))))))));refine I5 [] [1,2] O O O (.inl ⟨O,O,O⟩) (L7 b o c tel f.indices (BL 0 f.params.length) An (fun p hp=>by have:=D0 hp;omega) (by rw[B4];omega) h5 h6 h7) ⟨_,_,rfl,rfl,⟨_,_,rfl,rfl,rfl⟩⟩ Am (CQ _) (fun _ _ ⟨_,_,_,h⟩=>by rw[h];rfl) (fun _ _ ⟨_,_,h,_⟩=>by cases h) ⟨_,_,none,0,rfl,rfl⟩ Ai ?_;rintro _ _ ⟨on,cn,h,rfl⟩;cases h;refine⟨AB,Ap,?_⟩;refine CE Az 1 [] O (As (CK (fun k=>Nat.beq k 11) Eb (BG O (fun _=>Bm O) Ap (Cj (j:=3) O O O (fun H i hi=>BR (i:=i) Gc O hi AZ) AB Ap (Bf Az 4 [] O (Cj (j:=3) O O O (fun H i hi=>A6 (i:=i) DD O hi (Cf _)) AB Ap (BG O (fun _=>BH BY O (BD _)) Ap (BG O (fun _=>CX (lo:=f.params.length) DX O (By (Fb _)) ⟨_,O⟩ O (by rw[List.length_map,(Bd _).2,B4];omega) (Nat.le_refl _) (N5 (f:=CG) ((Aw (tel.length:Nat) (BL 0 f.params.length) f.indices).2) f.params.length)) Ap ?_))))))));refine FG [1,2] rfl rfl rfl (.inl ⟨rfl,rfl,rfl⟩) (IW b on cn (tel++(Aw (tel.length:Nat) (BL 0 f.params.length) f.indices).1) (((Aw (tel.length:Nat) (BL 0 f.params.length) f.indices).2).drop f.params.length) (by rw[List.length_append,(Bd _).1];omega) (fun p hp=>E4 (B:=1000000) _ (fun x hx=>by have:=D0 hx;omega) An An p (List.mem_of_mem_drop hp)) (by rw[List.length_drop,(Bd _).2,B4];omega)) ⟨_,_,rfl,rfl,⟨_,_,rfl,rfl,rfl⟩⟩ (JF (fun h=>nomatch h)) (aw (we rfl) (aw (we rfl) (FE))) AB trivial ?_;refine FG [1,2] rfl rfl rfl (.inl ⟨rfl,rfl,rfl⟩) (XE b on cn (tel++(Aw (tel.length:Nat) (BL 0 f.params.length) f.indices).1) f (Bt ((tel++(Aw (tel.length:Nat) (BL 0 f.params.length) f.indices).1).length:Nat) (((Aw (tel.length:Nat) (BL 0 f.params.length) f.indices).2).drop f.params.length)) (by rw[List.length_append,(Bd _).1];omega) h2 h3 AI) ⟨_,_,rfl,rfl,⟨_,_,rfl,rfl,rfl⟩⟩ (JF (fun h=>nomatch h)) (aw (we rfl) (aw (we rfl) (aw (we rfl) (FE)))) AB trivial ?_
 refine I5 [] [1,2] O O O (.inl ⟨O,O,O⟩) (Jw b on cn (tel++(Aw (tel.length:Nat) (BL 0 f.params.length) f.indices).1) (apply (apply (Co f.name f.levels) (Bt ((tel++(Aw (tel.length:Nat) (BL 0 f.params.length) f.indices).1).length:Nat) (BL 0 f.params.length))) (Bt ((tel++(Aw (tel.length:Nat) (BL 0 f.params.length) f.indices).1).length:Nat) (((Aw (tel.length:Nat) (BL 0 f.params.length) f.indices).2).drop f.params.length))) (by rw[List.length_append,(Bd _).1];omega)) ⟨_,_,O,O,⟨_,_,O,O,O⟩⟩ Am (CQ _) (fun _ _ ⟨_,_,_,h⟩=>by rw[h];rfl) (fun _ _ ⟨_,_,h,_⟩=>by cases h) ⟨_,_,none,0,rfl,rfl⟩ Ai ?_;rintro _ _ ⟨on1,cn1,h,rfl⟩;cases h;refine⟨AB,Ap,?_⟩;refine KZ O Ai (As (Au Az 2 [4] O (A2 O (fun c1=>?_) (fun c1=>?_))))
 ·(try simp only[sd,se] at c1);obtain rfl:large=false:=by simpa using c1
  refine Au Az 2 [0,0] O (BU (CB (i:=0) O) (A4 (⟨O,_,_,⟨_,_,O,(BO (i:=0) Bx O O O),O⟩,(Dn (is:=[1,2,3,4]) O),?_⟩)));rw[←List.append_assoc,show ((tel.length:Nat)+f.indices.length:Int)=((tel++(Aw (tel.length:Nat) (BL 0 f.params.length) f.indices).1).length:Nat) from by rw[List.length_append,(Bd _).1];omega]
  all_goals exact⟨_,_,rfl,rfl⟩
 (try simp only[sd,se] at c1);obtain rfl:large=true:=by simpa using c1
 refine A5 (Ay (Ar O (A3 E9 O O) (Ar O (A6 (i:=3) Hd O O (DJ _)) (Ar O (CC iZ Qf O) (Ar O (Ba (rows:=List.map FT [(Bv.mk f.levels 0)]) GY Qf O O O O (By (Ib _)) (QZ _)) (Ar O (CC VC G0 O) (Ar O (Ba (rows:=List.map B6 ([(CN.mk 0 [(Bv.mk f.levels 0)])])) E1 G0 O O O O (By (Fi _)) (QJ _)) (Aq Az 2 [0,0] O (BU (CB (i:=0) O) (A4 (⟨O,_,_,⟨_,_,O,(BO (i:=0) Bx O O O),O⟩,(Dn (is:=[1,2,3,4]) O),?_⟩)))))))))));rw[←List.append_assoc,show ((tel.length:Nat)+f.indices.length:Int)=((tel++(Aw (tel.length:Nat) (BL 0 f.params.length) f.indices).1).length:Nat) from by rw[List.length_append,(Bd _).1];omega]
 all_goals exact⟨_,_,rfl,rfl⟩
theorem XB:∀(b:Nat) (o:Option Nat) (c:Nat) (tel:List Tm) (bf bl:Nat) (f:Fam) (large:Bool),(tel.length≤50000)→(0≤f.levels∧f.levels≤1000)→(f.params.length≤1000)→(f.indices.length≤1000)→(D7 f.indices)→(I8 f.indices)→(∀t∈f.indices,size t<1099511627776)→(f.name.size<Cb)→Br Tryz.prog 69 [.ptr b 0,.fn (.func 96) [] [.ptr bf 0,.ptr bl 0]] [.box b [.vs o (Av tel).length c],.vec o 5 (Av tel) c,.box bf ((Bu f).map .p),.box bl [.p (.bool large)]] (FV (.agg ((Bc (Es f large (tel.length:Nat))).map .p)) [.box b [.vs o (Av tel).length c],.vec o 5 (Av tel) c,.box bf ((Bu f).map .p),.box bl [.p (.bool large)]]):=fun b o c tel bf bl f large h1 h2 h3 h4 h5 h6 h7 h8=>V1 96 [.ptr bf 0,.ptr bl 0] b o c tel ((Aw (tel.length:Nat) (BL 0 f.params.length) f.indices).1++[apply (apply (Co f.name f.levels) (Bt ((tel.length:Nat)+f.indices.length) (BL 0 f.params.length))) (Bt ((tel.length:Nat)+f.indices.length) ((Aw (tel.length:Nat) (BL 0 f.params.length) f.indices).2.drop f.params.length))]) (L2 large f.levels) [.box bf ((Bu f).map .p),.box bl [.p (.bool large)]] An (FZ.2 ⟨Gw (by rw[B4];simp only[Cb];omega) h5 h6,⟨ET (ET (Mk h8 h2) (Gy An fun p hp=>by have:=D0 hp;omega)) (Gy An fun p hp=>E4 (B:=1000000) _ (fun x hx=>by have:=D0 hx;omega) An An p (List.mem_of_mem_drop hp)),trivial⟩⟩) (by rw[List.length_append,(Bd _).1];simp only[Cb,List.length_cons,List.length_nil];omega) (fun b' o' c'=>Z4 b' o' c' tel bf bl f large h1 h2 h3 h4 h5 h6 h7)
theorem P4:∀(b:Nat) (o:Option Nat) (c:Nat) (tel:List Tm) (f:Fam) (large:Bool),(tel.length≤50000)→(0≤f.levels∧f.levels≤1000)→(f.params.length≤1000)→(f.indices.length≤1000)→(D7 f.indices)→(I8 f.indices)→(∀t∈f.indices,size t<1099511627776)→(f.name.size<Cb)→Br Tryz.prog 44 [.agg ((Bu f).map .p),.p (.bool large),.ptr b 0] [.box b [.vs o (Av tel).length c],.vec o 5 (Av tel) c] (FV (.agg ((Bc (Es f large (tel.length:Nat))).map .p)) [.box b [.vs o (Av tel).length c],.vec o 5 (Av tel) c]):=by
 intro b o c tel f large h1 h2 h3 h4 h5 h6 h7 h8;refine A1 Tryz.func44 O kM (n:=10) O O (Ay (BE O (BT O) fun b3=>BE O (BT O) fun b4=>BE O (A7 Bq O) fun b6=>Bo O (Ay (A0 Az 2 [] O (Ar O (Cg [3,4,2,1] O (.inl ⟨O,O,O⟩) (XB b o c tel b3 b4 f large h1 h2 h3 h4 h5 h6 h7 h8) ⟨_,_,O,O,⟨_,_,O,O,⟨_,_,O,O,⟨_,_,O,O,O⟩⟩⟩⟩ Am O (.inl O)) (Aq Az 1 [0,1] O (A4 (⟨O,_,_,⟨_,_,O,(BO (i:=0) Bx O O Ad),O⟩,(Dn (is:=[3,4]) O),?_⟩))))))))
 all_goals exact⟨rfl,rfl⟩
theorem Vo:∀(f:Fam) (large:Bool),(0≤f.levels∧f.levels≤1000)→(f.params.length≤1000)→(f.indices.length≤1000)→(D7 f.indices)→(I8 f.indices)→(∀t∈f.indices,size t<1099511627776)→(f.name.size<Cb)→D3 Tryz.prog 11 [.agg ((Bu f).map .p),.p (.bool large)] (.agg ((Bc (Es f large (f.params.length:Nat))).map .p)):=by
 intro f large h1 h2 h3 h4 h5 h6 h7;refine A1 Tryz.func11 O kC (n:=14) O O (Ay (BE O (BT O) fun b2=>BE O (A7 Bq O) fun b4=>Bo O (As (QU [.val (.agg ((Bu f).map .p)),.val (.p (.bool large)),.val (.ptr b2 (0+2)),.val (.p (.lst (Av f.params))),.val (.p (I (f.params.length:Nat))),.newv 5 (Av (List.replicate (((f.params.length:Nat):Int).toNat) (.mk 0 0 ⟨#[]⟩ [] []:Tm))),.dep 5 (fun q=> .agg [.vs (some q.1) (Av (List.replicate (((f.params.length:Nat):Int).toNat) (.mk 0 0 ⟨#[]⟩ [] []:Tm))).length q.2]),.newd 5 (fun q=>[.vs (some q.1) (Av (List.replicate (((f.params.length:Nat):Int).toNat) (.mk 0 0 ⟨#[]⟩ [] []:Tm))).length q.2])] Eb Ai Ai Ai (DQ O (fun Bs=>BR (i:=Bs.length+1) Gc O (CL O) AZ) fun _=>DQ O (fun Bs=>Bm O) fun _=>?_)))));refine DQ O (fun Bs=>A3 E9 O O) fun _=>DQ O (fun Bs=>A6 (i:=Bs.length+1) DD O (CL O) (Cf _)) fun _=>DQ O (fun Bs=>BH BY O (BD _)) fun _=>UR O (fun Bs=>EA BY Bq O O Am O O O An An An (Ur (((f.params.length:Nat):Int).toNat) (.mk 0 0 ⟨#[]⟩ [] []:Tm))) fun B=>?_;obtain⟨b10,cp⟩:=B;refine Xa O Ai Am O (fun Bs=>CC Km Wf O) fun _=>Uj O Ai Am O (fun Bs=>BT O) fun B=>?_;obtain⟨b12,_⟩:=B;refine Qy ?_
 change AL _ _ _ 8 ⟨14,_,[.vec (some b10) 5 (Av (List.replicate (((f.params.length:Nat):Int).toNat) (.mk 0 0 ⟨#[]⟩ [] []:Tm))) cp,.box b12 [.vs (some b10) (Av (List.replicate (((f.params.length:Nat):Int).toNat) (.mk 0 0 ⟨#[]⟩ [] []:Tm))).length cp],.box b4 [.p (I 0),.p (I 0),.p (.str ⟨#[]⟩),.p (.nils),.p (.nils)],.box b2 ((Bu f).map .p)],[]⟩ _
 refine Ar O (Cg [1,0] O (.inl ⟨O,O,O⟩) (P4 b12 (some b10) cp (List.replicate (((f.params.length:Nat):Int).toNat) (.mk 0 0 ⟨#[]⟩ [] []:Tm)) f large Ah h1 h2 h3 h4 h5 h6 h7) ⟨_,_,O,O,⟨_,_,O,O,O⟩⟩ Am O (.inl O)) (Aq Az 1 [2,1] O (A4 (⟨O,_,_,⟨_,_,O,(BO (i:=2) Bx O O Ad),O⟩,(List.nil_sublist _),?_⟩)))
 all_goals exact⟨by show (.agg ((Bc (Es f large ((List.replicate (((f.params.length:Nat):Int).toNat) (.mk 0 0 ⟨#[]⟩ [] []:Tm)).length:Nat))).map .p):AV)=_;simp,rfl⟩
theorem Uq:∀(fid:Nat) (caps:List AV) (b:Nat) (o:Option Nat) (c:Nat) (tel:List Tm) (f:Fam) (r:Rfl) (pl:List Int) (x:Int) (res:Tm) (G:List A8) (F:Nat) (hF:((f.params.length:Nat)+r.field:Int).toNat=F) (h1:tel.length≤50000) (h2:f.params.length≤1000) (h3:0≤r.field∧r.field≤1000) (h4:∀p∈pl,-1000000≤p∧p≤1000000) (h5:pl.length≤50000) (hx:pl[F]?=some x) (h7:D7 r.args) (h8:I8 r.args) (h9:∀t∈r.args,size t<1099511627776) (ha:r.args.length≤1000) (g7:D7 r.results) (g8:I8 r.results) (g9:∀t∈r.results,size t<1099511627776) (gb:r.results.length≤1000) (hf:∀o' c',Br Tryz.prog fid ([iu (CW ((tel++(Aw (tel.length:Nat) (pl.take F) r.args).1).length:Nat) (Aw (tel.length:Nat) (pl.take F) r.args).2 r.results),TV (apply (Ei ((tel++(Aw (tel.length:Nat) (pl.take F) r.args).1).length:Nat) x) (Bt ((tel++(Aw (tel.length:Nat) (pl.take F) r.args).1).length:Nat) ((Aw (tel.length:Nat) (pl.take F) r.args).2.drop F)))]++caps) (.box b [.vs o' (Av (tel++(Aw (tel.length:Nat) (pl.take F) r.args).1)).length c']:: .vec o' 5 (Av (tel++(Aw (tel.length:Nat) (pl.take F) r.args).1)) c'::G) (FV (TV res) (.box b [.vs o' (Av (tel++(Aw (tel.length:Nat) (pl.take F) r.args).1)).length c']:: .vec o' 5 (Av (tel++(Aw (tel.length:Nat) (pl.take F) r.args).1)) c'::G))),Br Tryz.prog 89 [.agg ((Bu f).map .p),.agg ((Cu r).map .p),.p (.lst (pl.map CG)),.ptr b 0,.fn (.func fid) [] caps] (.box b [.vs o (Av tel).length c]:: .vec o 5 (Av tel) c::G) (fun w H'=>∃o2 c2,w= .val (TV res)∧H'= .box b [.vs o2 (Av (tel++(Aw (tel.length:Nat) (pl.take F) r.args).1)).length c2]:: .vec o2 5 (Av (tel++(Aw (tel.length:Nat) (pl.take F) r.args).1)) c2::G):=by
 intro fid caps b o c tel f r pl x res G F hF h1 h2 h3 h4 h5 hx h7 h8 h9 ha g7 g8 g9 gb hf;subst hF;have hxl:=(List.getElem?_eq_some_iff.1 hx).1;have hpt:∀q∈(Aw (tel.length:Nat) (pl.take ((f.params.length:Nat)+r.field:Int).toNat) r.args).2,-1000000≤q∧q≤1000000:=E4 (B:=1000000) _ (fun q hq=>h4 q (List.mem_of_mem_take hq)) An An;refine A1 Tryz.func89 O jW (n:=55) O O (Ay (BE O (BT O) fun b5=>BE O (BT O) fun b6=>BE O (A7 Bq O) fun b10=>Bo O (Ay (Ar O (A3 E9 O O) (Ar O (A6 (i:=2) DD O O (Cf _)) (Ar O (BH BY O (BD _)) (Aq Az 1 [] O (As (CK (fun k=>Nat.beq k 11) Eb (Bf Az 2 [] O (Cj (j:=1) O O O (fun H i hi=>A6 (i:=i) DD O hi (Ie _)) AB Ap (Bf Az 3 [] O (Cj (j:=1) O O O (fun H i hi=>A6 (i:=i) Hd O hi (EZ _)) AB Ap (BG O (fun _=>EK O O An An) Ap ?_))))))))))))));refine BG O (fun _=>CX (lo:=0) (hi:=(((f.params.length:Nat):Int)+(r.field:Int):Int).toNat) DX O (By (Fb _)) O ⟨_,pI An⟩ (Nat.zero_le _) AP (c9 (f:=CG) pl ((((f.params.length:Nat):Int)+(r.field:Int):Int).toNat))) Ap (Bf Az 2 [] O ?_);refine I5 [] [3,4] O O O (.inl ⟨O,O,O⟩) (L7 b o c tel r.args (pl.take ((((f.params.length:Nat):Int)+(r.field:Int):Int).toNat)) An (fun q hq=>h4 q (List.mem_of_mem_take hq)) (by rw[List.length_take];omega) h7 h8 h9) ⟨_,_,O,O,⟨_,_,O,O,O⟩⟩ Am (CQ _) (fun _ _ ⟨_,_,_,h⟩=>by rw[h];rfl) (fun _ _ ⟨_,_,h,_⟩=>by cases h) ⟨_,_,none,0,rfl,rfl⟩ Ai ?_;rintro _ _ ⟨on,cn,h,rfl⟩;cases h;refine⟨AB,Ap,?_⟩;refine CE Az 1 [] O (As ?_)
 refine D8 [.val (.ptr b 0),.val (.p (.lst (List.map CG pl))),.val (.p (I (f.params.length:Nat))),.val (.ptr b6 (0+0)),.val (.p (I r.field)),.val (.p (I (((f.params.length:Nat):Int)+(r.field:Int)))),.val (.ref [I x]),.val (.p (I x)),.val (.agg ((Bc (Ei ((tel++(Aw (tel.length:Nat) (pl.take ((((f.params.length:Nat):Int)+(r.field:Int):Int).toNat)) r.args).1).length:Nat) x)).map .p)),.val (.ptr b 0),.val (.p (.lst (List.map CG ((Aw (tel.length:Nat) (pl.take ((((f.params.length:Nat):Int)+(r.field:Int):Int).toNat)) r.args).2)))),.val (.p (I (f.params.length:Nat))),.val (.ptr b6 (0+0)),.val (.p (I r.field)),.val (.p (I (((f.params.length:Nat):Int)+(r.field:Int)))),.val (.p (.lst (List.map CG (((Aw (tel.length:Nat) (pl.take ((((f.params.length:Nat):Int)+(r.field:Int):Int).toNat)) r.args).2).drop ((((f.params.length:Nat):Int)+(r.field:Int):Int).toNat))))),.val (.p (.lst (Av (Bt ((tel++(Aw (tel.length:Nat) (pl.take ((((f.params.length:Nat):Int)+(r.field:Int):Int).toNat)) r.args).1).length:Nat) (((Aw (tel.length:Nat) (pl.take ((((f.params.length:Nat):Int)+(r.field:Int):Int).toNat)) r.args).2).drop ((((f.params.length:Nat):Int)+(r.field:Int):Int).toNat)))))),.val (.agg ((Bc (apply (Ei ((tel++(Aw (tel.length:Nat) (pl.take ((((f.params.length:Nat):Int)+(r.field:Int):Int).toNat)) r.args).1).length:Nat) x) (Bt ((tel++(Aw (tel.length:Nat) (pl.take ((((f.params.length:Nat):Int)+(r.field:Int):Int).toNat)) r.args).1).length:Nat) (((Aw (tel.length:Nat) (pl.take ((((f.params.length:Nat):Int)+(r.field:Int):Int).toNat)) r.args).2).drop ((((f.params.length:Nat):Int)+(r.field:Int):Int).toNat))))).map .p)),.new [.p (I 0),.p (I 0),.p (.str ⟨#[]⟩),.p (.nils),.p (.nils)]] Eb O Ai Ai ?_
 refine BN O (fun Bs=>Bm O) (BN O (fun Bs=>Bm O) (BN O (fun Bs=>Bm O) (BN O (fun Bs=>A3 XK O O) (BN O (fun Bs=>A6 (i:=Bs.length+1) Hd O (CL O) (EZ _)) (BN O (fun Bs=>EK O O An An) (BN O (fun Bs=>BC DX O O An (Gb hx) (O)) (BN O (fun Bs=>GX Hd O) (BN O (fun Bs=>JM [3,4] O (.inl ⟨O,O,O⟩) (Jb b on cn (tel++(Aw (tel.length:Nat) (pl.take ((((f.params.length:Nat):Int)+(r.field:Int):Int).toNat)) r.args).1) x (by rw[List.length_append,(Bd _).1];omega) (h4 x (List.mem_of_getElem? hx))) ⟨_,_,O,O,⟨_,_,O,O,O⟩⟩ Am (aw (we O) (aw (we O) (FE)))) (BN O (fun Bs=>Bm O) (BN O (fun Bs=>Bm O) (BN O (fun Bs=>Bm O) (BN O (fun Bs=>A3 XK O O) ?_))))))))))));refine BN O (fun Bs=>A6 (i:=Bs.length+1) Hd O (CL O) (EZ _)) (BN O (fun Bs=>EK O O An An) (BN O (fun Bs=>CX (lo:=(((f.params.length:Nat):Int)+(r.field:Int):Int).toNat) DX O (By (Fb _)) ⟨_,pI An⟩ O (by rw[List.length_map,(Bd _).2,List.length_take];omega) (Nat.le_refl _) (N5 (f:=CG) ((Aw (tel.length:Nat) (pl.take ((((f.params.length:Nat):Int)+(r.field:Int):Int).toNat)) r.args).2) ((((f.params.length:Nat):Int)+(r.field:Int):Int).toNat))) ?_));refine BN O (fun Bs=>JM [3,4] O (.inl ⟨O,O,O⟩) (IW b on cn (tel++(Aw (tel.length:Nat) (pl.take ((((f.params.length:Nat):Int)+(r.field:Int):Int).toNat)) r.args).1) (((Aw (tel.length:Nat) (pl.take ((((f.params.length:Nat):Int)+(r.field:Int):Int).toNat)) r.args).2).drop ((((f.params.length:Nat):Int)+(r.field:Int):Int).toNat)) (by rw[List.length_append,(Bd _).1];omega) (fun q hq=>hpt q (List.mem_of_mem_drop hq)) (by rw[List.length_drop,(Bd _).2,List.length_take];omega)) ⟨_,_,O,O,⟨_,_,O,O,O⟩⟩ Am (aw (we O) (aw (we O) (FE)))) ?_
 refine BN O (fun Bs=>BB O O (Dz (Ei ((tel++(Aw (tel.length:Nat) (pl.take ((((f.params.length:Nat):Int)+(r.field:Int):Int).toNat)) r.args).1).length:Nat) x) (Bt ((tel++(Aw (tel.length:Nat) (pl.take ((((f.params.length:Nat):Int)+(r.field:Int):Int).toNat)) r.args).1).length:Nat) (((Aw (tel.length:Nat) (pl.take ((((f.params.length:Nat):Int)+(r.field:Int):Int).toNat)) r.args).2).drop ((((f.params.length:Nat):Int)+(r.field:Int):Int).toNat))) (by simp only[Cb,Bt,List.length_map,List.length_drop,(Bd _).2,List.length_take];omega)) O) (FB O (fun Bs=>A7 Bq O) fun b13=>FD ?_)
 change AL _ _ _ 19 ⟨55,_,(.box b13 [.p (I 0),.p (I 0),.p (.str ⟨#[]⟩),.p (.nils),.p (.nils)]:: .box b10 [.p (I 0),.p (I 0),.p (.str ⟨#[]⟩),.p (.nils),.p (.nils)]:: .box b6 ((Cu r).map .p):: .box b5 ((Bu f).map .p):: .box b [.vs on (Av (tel++(Aw (tel.length:Nat) (pl.take ((((f.params.length:Nat):Int)+(r.field:Int):Int).toNat)) r.args).1)).length cn]:: .vec on 5 (Av (tel++(Aw (tel.length:Nat) (pl.take ((((f.params.length:Nat):Int)+(r.field:Int):Int).toNat)) r.args).1)) cn::G),[]⟩ _
 refine Aq Az 1 [0,1] O (As ?_);refine QU [.val (.fn (.func fid) [] caps),.val (.ptr b 0),.val (.ptr b6 (0+2)),.val (.p (.lst (Av r.results))),.val (.p (.lst (List.map CG ((Aw (tel.length:Nat) (pl.take ((((f.params.length:Nat):Int)+(r.field:Int):Int).toNat)) r.args).2)))),.val (.p (.lst (Av (CW ((tel++(Aw (tel.length:Nat) (pl.take ((((f.params.length:Nat):Int)+(r.field:Int):Int).toNat)) r.args).1).length:Nat) ((Aw (tel.length:Nat) (pl.take ((((f.params.length:Nat):Int)+(r.field:Int):Int).toNat)) r.args).2) r.results)))),.val (.agg ((Bc (apply (Ei ((tel++(Aw (tel.length:Nat) (pl.take ((((f.params.length:Nat):Int)+(r.field:Int):Int).toNat)) r.args).1).length:Nat) x) (Bt ((tel++(Aw (tel.length:Nat) (pl.take ((((f.params.length:Nat):Int)+(r.field:Int):Int).toNat)) r.args).1).length:Nat) (((Aw (tel.length:Nat) (pl.take ((((f.params.length:Nat):Int)+(r.field:Int):Int).toNat)) r.args).2).drop ((((f.params.length:Nat):Int)+(r.field:Int):Int).toNat))))).map .p))] Eb Ai Ai Ai ?_;refine DQ O (fun Bs=>Bm O) fun _=>DQ O (fun Bs=>Bm O) fun _=>DQ O (fun Bs=>A3 XK O O) fun _=>DQ O (fun Bs=>A6 (i:=Bs.length+2) DD O (CL O) (Gq _)) fun _=>DQ O (fun Bs=>Bm O) fun _=>DQ O (fun Bs=>JM [4,5] O (.inl ⟨O,O,O⟩) (OB b on cn (tel++(Aw (tel.length:Nat) (pl.take ((((f.params.length:Nat):Int)+(r.field:Int):Int).toNat)) r.args).1) r.results ((Aw (tel.length:Nat) (pl.take ((((f.params.length:Nat):Int)+(r.field:Int):Int).toNat)) r.args).2) (by rw[List.length_append,(Bd _).1];omega) hpt (by rw[(Bd _).2,List.length_take];omega) g7 g8 g9 An) ⟨_,_,O,O,⟨_,_,O,O,O⟩⟩ Am (aw (we O) (aw (we O) (aw (we O) (FE))))) fun _=>DQ O (fun Bs=>BR (i:=Bs.length+0) Bx O (CL O) Ad) fun _=>?_;refine Qy ?_
 change AL _ _ _ 7 ⟨55,_,(.box b13 ((Bc (apply (Ei ((tel++(Aw (tel.length:Nat) (pl.take ((((f.params.length:Nat):Int)+(r.field:Int):Int).toNat)) r.args).1).length:Nat) x) (Bt ((tel++(Aw (tel.length:Nat) (pl.take ((((f.params.length:Nat):Int)+(r.field:Int):Int).toNat)) r.args).1).length:Nat) (((Aw (tel.length:Nat) (pl.take ((((f.params.length:Nat):Int)+(r.field:Int):Int).toNat)) r.args).2).drop ((((f.params.length:Nat):Int)+(r.field:Int):Int).toNat))))).map .p):: .box b10 [.p (I 0),.p (I 0),.p (.str ⟨#[]⟩),.p (.nils),.p (.nils)]:: .box b6 ((Cu r).map .p):: .box b5 ((Bu f).map .p):: .box b [.vs on (Av (tel++(Aw (tel.length:Nat) (pl.take ((((f.params.length:Nat):Int)+(r.field:Int):Int).toNat)) r.args).1)).length cn]:: .vec on 5 (Av (tel++(Aw (tel.length:Nat) (pl.take ((((f.params.length:Nat):Int)+(r.field:Int):Int).toNat)) r.args).1)) cn::G),[]⟩ _
 refine Eo [_,_,_,_] O O O (.inr O) (hf on cn) (CQ _) ?_ (fun _ _ h=>h.elim);rintro _ _ ⟨rfl,rfl⟩;refine Aq Az 1 [1,1] O (A4 (⟨O,_,_,⟨_,_,O,(BO (i:=1) Bx O O Ad),O⟩,(Fu [4,5] [_,_,_,_,_,_] O),?_⟩))
 all_goals exact⟨_,_,rfl,rfl⟩
theorem aP:∀(b:Nat) (o:Option Nat) (c:Nat) (tel:List Tm) (xs:List Tm) (t:Tm) (bh bp:Nat) (p:Int),(tel.length≤100000)→(-1000000≤p∧p≤1000000)→(xs.length≤1000000)→Br Tryz.prog 90 [.p (.lst (Av xs)),.agg ((Bc t).map .p),.ptr bh 0,.ptr bp 0] [.box b [.vs o (Av tel).length c],.vec o 5 (Av tel) c,.box bh [.ptr b 0],.box bp [.p (I p)]] (FV (.agg ((Bc (apply (apply (Ei (tel.length:Nat) p) xs) [t])).map .p)) [.box b [.vs o (Av tel).length c],.vec o 5 (Av tel) c,.box bh [.ptr b 0],.box bp [.p (I p)]]):=by
 intro b o c tel xs t bh bp p h1 h2 h3;refine A1 Tryz.func90 O jx (n:=15) O O (Ay (BE O (BT O) fun b5=>BE O (A7 Bq O) fun b6=>Bo O (As (CK (fun k=>false) Eb (Bf Az 2 [4,5] O (FG [2,3] rfl rfl rfl (.inl ⟨rfl,rfl,rfl⟩) (Jb b o c tel p h1 h2) ⟨_,_,rfl,rfl,⟨_,_,rfl,rfl,rfl⟩⟩ (JF (fun h=>nomatch h)) (aw (we rfl) (aw (we rfl) (FE))) AB trivial (BG O (fun _=>Bm O) Ap (BG O (fun _=>BB O O (Dz (Ei (tel.length:Nat) p) xs AW) O) Ap (Bf Az 1 [1] O (BG O (fun _=>Ba (rows:=Av [t]) BY Bq O O O O (By (Bn _)) (ED _)) Ap ?_))))))))));refine BG O (fun _=>BB O O (Dz (apply (Ei (tel.length:Nat) p) xs) [t] (show (1:Nat)<Cb by decide)) rfl) trivial ?_;refine CE Az 1 [0,1] O (A4 (⟨O,_,_,⟨_,_,O,(BO (i:=0) Bx O O Ad),O⟩,(Dn (is:=[2,3,4,5]) O),?_⟩))
 all_goals exact⟨rfl,rfl⟩
theorem aK:∀(b:Nat) (o:Option Nat) (c:Nat) (tel:List Tm) (bf br bi bp:Nat) (f:Fam) (r:Rfl) (pl:List Int) (F:Nat) (x:Int),(tel.length≤50000)→(f.params.length≤1000)→(cg r)→(∀p∈pl,-1000000≤p∧p≤1000000)→(pl.length≤50000)→(((f.params.length:Nat)+r.field:Int).toNat=F)→(pl[F]?=some x)→Br Tryz.prog 88 [.ptr b 0,.ptr bf 0,.ptr br 0,.ptr bi 0,.ptr bp 0] [.box b [.vs o (Av tel).length c],.vec o 5 (Av tel) c,.box bf ((Bu f).map .p),.box br ((Cu r).map .p),.box bi [.p (.lst (List.map CG pl))],.box bp [.p (I (f.params.length:Nat))]] (fun w H'=>∃o2 c2,w= .val (TV (apply (apply (Ei ((tel++(Aw (tel.length:Nat) (pl.take F) r.args).1).length:Nat) (f.params.length:Nat)) (CW ((tel++(Aw (tel.length:Nat) (pl.take F) r.args).1).length:Nat) (Aw (tel.length:Nat) (pl.take F) r.args).2 r.results)) [(apply (Ei ((tel++(Aw (tel.length:Nat) (pl.take F) r.args).1).length:Nat) x) (Bt ((tel++(Aw (tel.length:Nat) (pl.take F) r.args).1).length:Nat) ((Aw (tel.length:Nat) (pl.take F) r.args).2.drop F)))]))∧H'=[.box b [.vs o2 (Av (tel++(Aw (tel.length:Nat) (pl.take F) r.args).1)).length c2],.vec o2 5 (Av (tel++(Aw (tel.length:Nat) (pl.take F) r.args).1)) c2,.box bf ((Bu f).map .p),.box br ((Cu r).map .p),.box bi [.p (.lst (pl.map CG))],.box bp [.p (I (f.params.length:Nat))]]):=by
 intro b o c tel bf br bi bp f r pl F x h1 h2 h3 h4 h5 h6 h7;refine A1 Tryz.func88 O jF (n:=13) O O (Ay (BE O (BT O) fun b5=>BE O (A7 Bq O) fun b6=>Bo O (Ay (Ar O (BR (i:=4) Gc O O AZ) (Ar O (BR (i:=5) TY O O (by simp[Dw])) (A0 Az 3 [6,1] O ?_))))));refine Gg [2,3,1,7] O O O (.inl ⟨O,O,O⟩) (Uq 90 [.ptr b5 0,.ptr bp 0] b o c tel f r pl x (apply (apply (Ei ((tel++(Aw (tel.length:Nat) (pl.take F) r.args).1).length:Nat) (f.params.length:Nat)) (CW ((tel++(Aw (tel.length:Nat) (pl.take F) r.args).1).length:Nat) (Aw (tel.length:Nat) (pl.take F) r.args).2 r.results)) [(apply (Ei ((tel++(Aw (tel.length:Nat) (pl.take F) r.args).1).length:Nat) x) (Bt ((tel++(Aw (tel.length:Nat) (pl.take F) r.args).1).length:Nat) ((Aw (tel.length:Nat) (pl.take F) r.args).2.drop F)))]) [.box b5 [.ptr b 0],.box bp [.p (I (f.params.length:Nat))]] F h6 h1 h2 h3.lo h4 h5 h7 h3.na h3.va h3.sa h3.la h3.nr h3.vr h3.sr h3.lr (fun o' c'=>aP b o' c' (tel++(Aw (tel.length:Nat) (pl.take F) r.args).1) (CW ((tel++(Aw (tel.length:Nat) (pl.take F) r.args).1).length:Nat) (Aw (tel.length:Nat) (pl.take F) r.args).2 r.results) (apply (Ei ((tel++(Aw (tel.length:Nat) (pl.take F) r.args).1).length:Nat) x) (Bt ((tel++(Aw (tel.length:Nat) (pl.take F) r.args).1).length:Nat) ((Aw (tel.length:Nat) (pl.take F) r.args).2.drop F))) b5 bp (f.params.length:Nat) (by rw[List.length_append,(Bd _).1];have:=h3.la;omega) An (by have:=h3.lr;simp only[CW,List.length_map];omega))) ⟨_,_,O,O,⟨_,_,O,O,⟨_,_,O,O,⟨_,_,O,O,O⟩⟩⟩⟩ Am (CQ _) ?_ (fun _ _ ⟨_,_,h,_⟩=>by cases h);rintro _ _ ⟨on,cn,h,rfl⟩;cases h;refine⟨O,?_⟩;refine Aq Az 1 [0,1] O (A4 (⟨O,_,_,⟨_,_,O,(BO (i:=0) Bx O O Ad),O⟩,(Dn (is:=[2,3,4,5,6,7]) O),?_⟩))
 all_goals exact⟨_,_,rfl,rfl⟩
end Go.Proofs.YtifphifongokcaaGreat
namespace Go.Abs
def hB (H:List A8) (H₁:Nat×Nat→List A8) (i₀:Nat) (β:Nat→Nat×Nat) (l:Nat→Bool):List A8:=if l i₀=true then H₁ (β i₀) else H
def RL (P:Program) (ops:Array Oper) (H₀:List A8) (H₁:Nat×Nat→List A8) (i₀:Nat) (β:Nat→Nat×Nat) (k:Nat) (o:Oper) (τ:Nat→AV) (e:Yc):Prop :=
 (k=i₀→∃v,e= .val v∧o.guard=none∧∀Bs,Cc P o (ev τ) (Bs++H₀) (fun r H'=>match r with | .val v'=>∃g,v'=v∧H'=Bs++H₁ g | .panic _=>False)) ∧
 (k≠i₀→M4 P ops H₀ β o τ e∧∀g,M4 P ops (H₁ g) β o τ e)
theorem RL.dep {P:Program}{ops:Array Oper}{H₀:List A8}{H₁:Nat×Nat→List A8}{i₀:Nat}{β:Nat→Nat×Nat}{k:Nat}{o:Oper}{τ:Nat→AV}{j:Nat}{f:Nat×Nat→AV}(h:RL P ops H₀ H₁ i₀ β k o τ (.dep j f)):j∈CZ o:=by
 by_cases hk:k=i₀
 ·obtain⟨v,hv,_⟩:=h.1 hk;cases hv
 exact(h.2 hk).1.1
theorem RL.newd {P:Program}{ops:Array Oper}{H₀:List A8}{H₁:Nat×Nat→List A8}{i₀:Nat}{β:Nat→Nat×Nat}{k:Nat}{o:Oper}{τ:Nat→AV}{j:Nat}{f:Nat×Nat→List AV}(h:RL P ops H₀ H₁ i₀ β k o τ (.newd j f)):TK ops o j:=by
 by_cases hk:k=i₀
 ·obtain⟨v,hv,_⟩:=h.1 hk;cases hv
 exact(h.2 hk).1.1
def YX (P:Program) (ops:Array Oper) (H₀:List A8) (H₁:Nat×Nat→List A8) (i₀:Nat):(Nat→Nat×Nat)→Nat→(Nat→AV)→List Yc→((Nat→Nat×Nat)→(Nat→AV)→List A8→Prop)→Prop
 | β,_,τ,[],K=>K β τ []
 | β,k,τ,e::r,K=>∃o,ops[k]?=some o∧RL P ops H₀ H₁ i₀ β k o τ e∧∀b,YX P ops H₀ H₁ i₀ (Dj β k b) (k+1) (put τ o.dst (e.w (Dj β k b) k)) r (fun β' τ' Hs=>K β' τ' (e.bx (Dj β k b) k++Hs))
theorem M4.congr {P:Program}{ops:Array Oper}{H:List A8}{β β':Nat→Nat×Nat}{o:Oper}{τ:Nat→AV}{e:Yc}(h:M4 P ops H β o τ e) (h1:∀j f,e= .dep j f→β j=β' j) (h2:∀j f,e= .newd j f→β j=β' j):M4 P ops H β' o τ e:=by
 cases e with
 | dep j f=>obtain⟨a,b,c⟩:=h;exact⟨a,b,by rw[←h1 j f rfl];exact c⟩
 | newd j f=>obtain⟨a,b,c⟩:=h;exact⟨a,b,by rw[←h2 j f rfl];exact c⟩
 | _=>exact h
theorem YX.facts {P:Program}{ops:Array Oper}{H₀:List A8}{H₁:Nat×Nat→List A8}{i₀:Nat}{τ:Nat→AV}{base:List Yc}(hb0:∀i o j,ops[i]?=some o→j∈CZ o→j<i) (β:Nat→Nat×Nat):∀(r:List Yc) (k:Nat) (βk:Nat→Nat×Nat) (τk:Nat→AV) (K:(Nat→Nat×Nat)→(Nat→AV)→List A8→Prop),(∀i,i<k→βk i=β i)→base.drop k=r→k+r.length=base.length→τk=τS ops (FW β 0 base) τ k→YX P ops H₀ H₁ i₀ βk k τk r K →
  (∀j,k≤j→j<base.length→∃o,ops[j]?=some o∧RL P ops H₀ H₁ i₀ β j o (τS ops (FW β 0 base) τ j) (base.getD j .skip))∧∃β',(∀i,i<base.length→β' i=β i)∧K β' (τS ops (FW β 0 base) τ base.length) (QF β k r)
 | [],k,βk,τk,K,hβ,hd,hk,ht,h=>by
  simp only[List.length_nil,Nat.add_zero] at hk;subst hk;exact⟨fun j h1 h2=>by omega,βk,hβ,by rw[←ht];exact h⟩
 | e::r,k,βk,τk,K,hβ,hd,hk,ht,h=>by
  obtain⟨o,ho,hok,hn⟩:=h;simp only[List.length_cons] at hk;have hb:base.getD k .skip=e:=by
   have:(base.drop k)[0]?=some e:=by rw[hd];rfl
   rw[List.getElem?_drop] at this;rw[List.getD_eq_getElem?_getD,show k=k+0 by omega,this];rfl
  have hd2:base.drop (k+1)=r:=by
   rw[←List.drop_drop,hd];rfl
  have hu:∀i,i<k+1→Dj βk k (β k) i=β i:=by
   intro i hi;unfold Dj;split
   ·rename_i e1;rw[e1]
   exact hβ i An
  have hdj:∀j f,e= .dep j f→j<k:=by
   intro j f e1;subst e1;exact hb0 k o j ho hok.dep
  have hdn:∀j f,e= .newd j f→j<k:=by
   intro j f e1;subst e1;exact hok.newd.lt hb0 ho
  have hbx:e.bx (Dj βk k (β k)) k=e.bx β k:=LH (hu k An) fun j f e1=>hu j (by have:=hdn j f e1;omega);have hn:=hn (β k);rw[hbx] at hn;have hw:e.w (Dj βk k (β k)) k=e.w β k:=Ke (hu k An) fun j f e1=>hu j (by have:=hdj j f e1;omega);have hok2:RL P ops H₀ H₁ i₀ β k o τk e :=
   ⟨hok.1,fun hk=>⟨(hok.2 hk).1.congr (fun j f e1=>hβ j (hdj j f e1)) (fun j f e1=>hβ j (hdn j f e1)),fun g=>((hok.2 hk).2 g).congr (fun j f e1=>hβ j (hdj j f e1)) (fun j f e1=>hβ j (hdn j f e1))⟩⟩
  obtain⟨h1,h2⟩:=YX.facts (τ:=τ) (base:=base) hb0 β r (k+1) _ _ _ hu hd2 An (by simp only[τS,ho,Option.bind_some];rw[F7 β An,hb,←ht,hw]) hn;refine⟨fun j hj hl=>?_,h2⟩;by_cases e2:j=k
  ·subst e2;exact⟨o,ho,by rw[hb,←ht];exact hok2⟩
  exact h1 j An hl
theorem Rm {P:Program}{r:Option Nat}{ops:Array Oper}{id n:Nat}{τ:Nat→AV}{H:List A8}{D:List DV}{Q:CV→Be→Prop}(H₁:Nat×Nat→List A8) (i₀:Nat) (base:List Yc) (hm:P.follows .mixedOrders=true) (hi₀:Nat.blt i₀ base.length=true)
  (he:Nat.ble base.length ops.size=true) (chk:KD ops n []=true) (late:Ui ops base.length=true) (h:YX P ops H H₁ i₀ (fun _=>(0,0)) 0 τ base (fun β τ' Hs=>AL P r ops base.length ⟨n,τ',Hs++H₁ (β i₀),D⟩ Q)):Gj P r (.region id ops true) ⟨n,τ,H,D⟩ Q:=by
 intro F₀ a₀ w₀ hs₀;rw[Nat.ble_eq] at he;rw[Nat.blt_eq] at hi₀;refine wpIn_region_any hm ?_;have same:Cs F₀ w₀ F₀ { w₀ with drawn:=w₀.drawn+1 }:=⟨Nat.le_refl _,fun _ _ _=>rfl,fun _ h _=>h⟩;have t₀:Trans F₀ H w₀ F₀ H { w₀ with drawn:=w₀.drawn+1 } :=
  ⟨Nat.le_refl _,fun _ _ _=>rfl,fun _ h _=>h,fun _ h=> .inl h,fun o ho b hb=> .inl ⟨o,ho,hb⟩,rfl,rfl,rfl⟩
 have hs₁:Cy F₀ ⟨n,τ,H,D⟩ a₀ { w₀ with drawn:=w₀.drawn+1 } :=
  ⟨hs₀.size,fun t=>B2.mono same _ _ (hs₀.tmp t),hs₀.heap.stable' same (fun _ h=>h) (fun _ _ _ _=>rfl) hs₀.heap.bd,EC.mono same _ _ hs₀.defs⟩
 obtain⟨hdst,c0,c1,c2,_⟩:=IE chk;have hd:∀β,LI P ops n (fun _=>False) τ H (FW β 0 base):=fun β =>
  ⟨hdst,fun _ _ _ h=>h.elim,c0,c1,c2,fun i k _ _ h _=>(by rw[QE] at h;cases h),fun i e ob v _ _ _ h _ _=>absurd h (Nt β base 0 i ob v)⟩
 have hE:∀β,(∀j,j<base.length→∃o,ops[j]?=some o∧RL P ops H H₁ i₀ β j o (τS ops (FW β 0 base) τ j) (base.getD j .skip))∧AL P r ops base.length ⟨n,τS ops (FW β 0 base) τ base.length,QF β 0 base++H₁ (β i₀),D⟩ Q:=fun β=>by
  obtain⟨h1,β',hb,h2⟩:=YX.facts (base:=base) c0 β base 0 _ τ _ (fun i hi=>by omega) Ao Ao rfl h;rw[hb i₀ hi₀] at h2;exact⟨fun j hj=>h1 j (Nat.zero_le _) hj,h2⟩
 -- where all of the first part has been carried out,the rest goes in the order of the text
 have conv:∀{l:Array Bool} {a w β τ' F Hb},(∀j,j<base.length→l.getD j false=true)→(∀k,base.length≤k→l.getD k false=false)→Db ops (FW β 0 base) τ (fun i=>l.getD i false=true) τ'→Hb.Perm (GK β (fun k=>l.getD k false) 0 base)→Cy F ⟨n,τ',Hb++hB H H₁ i₀ β (fun k=>l.getD k false),D⟩ a w→Trans F₀ H w₀ F (Hb++hB H H₁ i₀ β (fun k=>l.getD k false)) w →
   wpOpsIn (W r) 0 P ops (post F₀ H w₀ Q) (List.range' base.length (ops.size - base.length)) a w:=by
  intro l a w β τ' F Hb hall hno hτ hp hs ht;have hτe:τ'=τS ops (FW β 0 base) τ base.length:=by
   funext t;have h2:=Ic (hd β) base.length he t;by_cases hw:∃(k:Nat) (o':Oper),ops[k]?=some o'∧o'.dst=some t∧k<base.length
   ·obtain⟨k,o',ho',hk,hlt⟩:=hw;rw[(hτ t).1 k o' ho' hk (hall k hlt),h2.1 k o' ho' hk hlt]
   have hw':∀(k:Nat) o',ops[k]?=some o'→o'.dst=some t→¬k<base.length:=fun k o' h1 h2 h3=>hw ⟨k,o',h1,h2,h3⟩;rw[(hτ t).2 fun k o' h1 h2 h3=>(by have h4:l.getD k false=true:=h3;have:=hno k (by have:=hw' k o' h1 h2;omega);rw[this] at h4;cases h4),h2.2 fun k o' h1 h2 h3=>hw' k o' h1 h2 h3]
  rw[LD base 0 fun j _ hj=>hall j An] at hp;have hbb:hB H H₁ i₀ β (fun k=>l.getD k false)=H₁ (β i₀):=by unfold hB;rw[if_pos (hall i₀ hi₀)]
  rw[hbb] at hs ht;have hp2:=hp.append_right (H₁ (β i₀));have:=(hE β).2 F a w (by rw[←hτe];exact⟨hs.size,hs.tmp,hs.heap.perm hp2,hs.defs⟩);refine DO (fun e a' w' hq=>?_) _ _ _ this;exact EL hs₀.heap.bd { ht with keys:=fun o ho=>ht.keys o (hp2.mem_iff.2 ho) } hq
 refine IG (I:=fun l a w=>l.size=ops.size∧((∃β τ' F Hb,Down ops (fun i=>l.getD i false=true)∧(∀k,base.length≤k→l.getD k false=false)∧Db ops (FW β 0 base) τ (fun i=>l.getD i false=true) τ'∧Hb.Perm (GK β (fun k=>l.getD k false) 0 base)∧Cy F ⟨n,τ',Hb++hB H H₁ i₀ β (fun k=>l.getD k false),D⟩ a w∧Trans F₀ H w₀ F (Hb++hB H H₁ i₀ β (fun k=>l.getD k false)) w) ∨
  (∃m,base.length≤m∧m≤ops.size∧(∀k,k<ops.size→(l.getD k false=true↔k<m))∧wpOpsIn (W r) 0 P ops (post F₀ H w₀ Q) (List.range' m (ops.size - m)) a w))) (fun l a w h=>h.1) ?_ ?_ _ _ _ _ ?_ ?_
 ·rintro l a w ⟨hsz,hI⟩ i hi;obtain⟨hun,o,ho,hall⟩:=mem_ready.1 hi;have hlt:i<ops.size:=by
   rcases Nat.lt_or_ge i ops.size with h | h
   ·exact h
   simp[Array.getElem?_eq_none h] at ho
  have hil:i<l.size:=by omega
  have hnot:l.getD i false=false:=by
   have:l[i]=false:=by simpa [hil] using hun
   simp[hil,this]
  have hr:∀j∈CZ o,l.getD j false=true:=by
   intro j hj;simp only[CZ,List.mem_map,List.mem_filter] at hj;obtain⟨e,⟨he,hb⟩,rfl⟩:=hj;exact hall e (by simpa using he) hb
  have hset:∀k,(l.setIfInBounds i true).getD k false=true↔(l.getD k false=true∨k=i):=by
   intro k;by_cases hk:k=i
   ·subst hk;simp[hil]
   simp[Array.getElem?_setIfInBounds_ne (Ne.symm hk),hk]
  have hset2:∀k,(l.setIfInBounds i true).getD k false=(l.getD k false||k==i):=by
   intro k;by_cases hk:k=i
   ·subst hk;simp[hil]
   simp[Array.getElem?_setIfInBounds_ne (Ne.symm hk),hk]
  have hsz':(l.setIfInBounds i true).size=ops.size:=by simp[hsz]
  have goLate:∀m,i=m→base.length≤m→m≤ops.size→(∀k,k<ops.size→(l.getD k false=true↔k<m))→wpOpsIn (W r) 0 P ops (post F₀ H w₀ Q) (List.range' m (ops.size - m)) a w →
    wpOpIn (W r) 0 P ops (post F₀ H w₀ Q) i (fun a w=>(l.setIfInBounds i true).size=ops.size∧((∃β τ' F Hb,Down ops (fun k=>(l.setIfInBounds i true).getD k false=true)∧(∀k,base.length≤k→(l.setIfInBounds i true).getD k false=false)∧Db ops (FW β 0 base) τ (fun k=>(l.setIfInBounds i true).getD k false=true) τ'∧Hb.Perm (GK β (fun k=>(l.setIfInBounds i true).getD k false) 0 base)∧Cy F ⟨n,τ',Hb++hB H H₁ i₀ β (fun k=>(l.setIfInBounds i true).getD k false),D⟩ a w∧Trans F₀ H w₀ F (Hb++hB H H₁ i₀ β (fun k=>(l.setIfInBounds i true).getD k false)) w) ∨
     (∃m,base.length≤m∧m≤ops.size∧(∀k,k<ops.size→((l.setIfInBounds i true).getD k false=true↔k<m))∧wpOpsIn (W r) 0 P ops (post F₀ H w₀ Q) (List.range' m (ops.size - m)) a w))) a w:=by
   intro m him h1 h2 h3 hw;subst him;rw[GP hlt,wpOpsIn_cons] at hw;refine wpOpIn_mono (fun a' w' h'=>⟨hsz',.inr ⟨i+1,by omega,by omega,fun k hk=>?_,h'⟩⟩) hw;rw[hset k,h3 k hk];omega
  rcases hI with ⟨β,τ',F,Hb,hdown,hno,hτ,hp,hs,ht⟩ | ⟨m,hm1,hm2,hm3,hw⟩
  ·rcases Nat.lt_or_ge i base.length with hib | hib
   ·-- of the first part
    obtain⟨o',ho',hok⟩:=(hE β).1 i hib;rw[ho] at ho';injection ho' with ho';subst ho';have hlook:∀t∈looks ops o,τ' t=τS ops (FW β 0 base) τ i t:=fun t ht=>IC (hd β) hdown hτ ho (by rw[hnot];decide) hr ht;have hops:∀x∈o.op.operands.toList,ev τ' x=ev (τS ops (FW β 0 base) τ i) x:=by
     intro x hx;cases x with
     | tmp t=>exact hlook t (List.mem_append_left _ (List.mem_filterMap.2 ⟨.tmp t,hx,rfl⟩))
     | _=>rfl
    have hguard:∀j want d,o.guard=some (j,want)→(ops[j]?).bind (·.dst)=some d→τ' d=τS ops (FW β 0 base) τ i d:=by
     intro j want d hg hj;refine hlook d (List.mem_append_right _ ?_);simp[hg,hj]
    have hdown':Down ops (fun k=>(l.setIfInBounds i true).getD k false=true):=by
     intro k o' j ho' hk hj;rcases (hset k).1 hk with h | h
     ·exact(hset j).2 (.inl (hdown k o' j ho' h hj))
     subst h;rw[ho] at ho';injection ho' with ho';subst ho';exact(hset j).2 (.inl (hr j hj))
    have hno':∀k,base.length≤k→(l.setIfInBounds i true).getD k false=false:=by
     intro k hk;rw[hset2 k,hno k hk];simp;omega
    generalize hbe:base.getD i .skip=e at hok;have close:∀{a' w' F' b H'},H'=e.bx (Dj β i b) i++(Hb++hB H H₁ i₀ (Dj β i b) (fun k=>(l.setIfInBounds i true).getD k false))→Cy F' ⟨n,put τ' o.dst (e.w (Dj β i b) i),H',D⟩ a' w'→Trans F (Hb++hB H H₁ i₀ β (fun k=>l.getD k false)) w F' H' w' →
      (l.setIfInBounds i true).size=ops.size∧((∃β τ' F Hb,Down ops (fun k=>(l.setIfInBounds i true).getD k false=true)∧(∀k,base.length≤k→(l.setIfInBounds i true).getD k false=false)∧Db ops (FW β 0 base) τ (fun k=>(l.setIfInBounds i true).getD k false=true) τ'∧Hb.Perm (GK β (fun k=>(l.setIfInBounds i true).getD k false) 0 base)∧Cy F ⟨n,τ',Hb++hB H H₁ i₀ β (fun k=>(l.setIfInBounds i true).getD k false),D⟩ a' w'∧Trans F₀ H w₀ F (Hb++hB H H₁ i₀ β (fun k=>(l.setIfInBounds i true).getD k false)) w') ∨
       (∃m,base.length≤m∧m≤ops.size∧(∀k,k<ops.size→((l.setIfInBounds i true).getD k false=true↔k<m))∧wpOpsIn (W r) 0 P ops (post F₀ H w₀ Q) (List.range' m (ops.size - m)) a' w')):=by
     intro a' w' F' b H' hH h3 h4;subst hH;refine⟨hsz',.inl ⟨Dj β i b,put τ' o.dst (e.w (Dj β i b) i),F',e.bx (Dj β i b) i++Hb,hdown',hno',?_,?_,by rw[List.append_assoc];exact h3,by rw[List.append_assoc];exact ht.trans hs₀.heap.bd h4⟩⟩
     ·have hτ2:Db ops (FW (Dj β i b) 0 base) τ (fun k=>l.getD k false=true) τ':=by
       intro t;refine⟨fun k o' a1 a2 a3=>?_,(hτ t).2⟩;have a4:l.getD k false=true:=a3;have hki:k≠i:=fun e=>by subst e;rw[hnot] at a4;cases a4
       rw[(hτ t).1 k o' a1 a2 a3];rcases Nat.lt_or_ge k base.length with hk | hk
       ·rw[F7 _ hk,F7 _ hk];refine Ke (by simp[Dj,hki]) fun j f e1=>?_;obtain⟨o2,ho2,hok2⟩:=(hE β).1 k hk;rw[e1] at hok2;have hj:l.getD j false=true:=hdown k o2 j ho2 a4 hok2.dep;have hji:j≠i:=fun e=>by subst e;rw[hnot] at hj;cases hj
        simp[Dj,hji]
       have:=hno k hk;rw[this] at a4;cases a4
      have hτ3:=hτ2.put (hd _) ho;rw[F7 _ hib,hbe] at hτ3;intro t;exact⟨fun k o' a1 a2 a3=>(hτ3 t).1 k o' a1 a2 ((hset k).1 a3),fun hn=>(hτ3 t).2 fun k o' a1 a2 a3=>hn k o' a1 a2 ((hset k).2 a3)⟩
     have h1:=Kk (β:=β) (l:=fun k=>l.getD k false) (i:=i) (b:=b) hnot base 0 (Nat.zero_le _) An (fun m j f e1 e2 e3=>by
      have hm:=(List.getElem?_eq_some_iff.1 e1).1;obtain⟨o2,ho2,hok2⟩:=(hE β).1 m hm;rw[List.getD_eq_getElem?_getD,e1] at hok2;have hj:l.getD j false=true:=hok2.newd.down hdown ho2 (show l.getD m false=true by rw[←e2,Nat.zero_add]);subst e3;rw[hnot] at hj;cases hj)
     rw[Nat.sub_zero,hbe] at h1;refine(hp.append_left _).trans (h1.trans (List.Perm.of_eq ?_));exact HL base 0 (fun j _=>⟨(hset2 j).symm,fun _=>O⟩) fun _ _ _ _ _=>O
    have wants:CY ops ⟨0,τS ops (FW β 0 base) τ i,[],[]⟩ o→CY ops ⟨n,τ',Hb++hB H H₁ i₀ β (fun k=>l.getD k false),D⟩ o:=by
     intro h;unfold CY at *;cases hg:o.guard with
     | none=>simp[hg]
     | some jw =>
      obtain⟨j,want⟩:=jw;simp only[hg] at h ⊢;obtain⟨d,h1,h2⟩:=h;exact⟨d,h1,by rw[←h2];exact hguard j want d hg h1⟩
    have yields:CY ops ⟨n,τ',Hb++hB H H₁ i₀ β (fun k=>l.getD k false),D⟩ o→Cc P o (ev (τS ops (FW β 0 base) τ i)) (Hb++hB H H₁ i₀ β (fun k=>l.getD k false)) (fun r H'=>match r with | .val v=>∃b,v=e.w (Dj β i b) i∧H'=e.bx (Dj β i b) i++(Hb++hB H H₁ i₀ (Dj β i b) (fun k=>(l.setIfInBounds i true).getD k false)) | .panic _=>False)→wpOpIn (W r) 0 P ops (post F₀ H w₀ Q) i (fun a' w'=>(l.setIfInBounds i true).size=ops.size∧((∃β τ' F Hb,Down ops (fun k=>(l.setIfInBounds i true).getD k false=true)∧(∀k,base.length≤k→(l.setIfInBounds i true).getD k false=false)∧Db ops (FW β 0 base) τ (fun k=>(l.setIfInBounds i true).getD k false=true) τ'∧Hb.Perm (GK β (fun k=>(l.setIfInBounds i true).getD k false) 0 base)∧Cy F ⟨n,τ',Hb++hB H H₁ i₀ β (fun k=>(l.setIfInBounds i true).getD k false),D⟩ a' w'∧Trans F₀ H w₀ F (Hb++hB H H₁ i₀ β (fun k=>(l.setIfInBounds i true).getD k false)) w') ∨
       (∃m,base.length≤m∧m≤ops.size∧(∀k,k<ops.size→((l.setIfInBounds i true).getD k false=true↔k<m))∧wpOpsIn (W r) 0 P ops (post F₀ H w₀ Q) (List.range' m (ops.size - m)) a' w'))) a w:=by
     intro hwant hop;unfold wpOpIn;simp only[ho,Fj hs hwant,if_true];have hw:=hop r F _ a w hs rfl (fun x hx=>hops x hx) (fun t ht=>hdst i o t ho ht);unfold Oper.wpIn at *;refine⟨hw.1,?_⟩;replace hw:=hw.2;generalize (o.semAt (W r).round a.eval).run P w=rr at *;cases rr with
     | ok nx w' =>
      cases nx<;>simp only[Oper.uponIn] at hw ⊢
      case value u=>obtain⟨v',H'',F',⟨b,h1,h2⟩,h3,h4⟩:=hw;subst h1;exact close h2 h3 h4
      case skip=>obtain⟨v',H'',F',⟨b,h1,h2⟩,h3,h4⟩:=hw;subst h1;exact close h2 h3 h4
      case defer d=>obtain⟨v',H'',F',⟨b,h1,h2⟩,h3,h4⟩:=hw;subst h1;exact close h2 h3 h4
      case enter f args =>
       refine⟨hw.1,hw.2.mono fun e w'' he=>?_⟩;cases e with
       | returned u=>obtain⟨v',H'',F',⟨b,h1,h2⟩,h3,h4⟩:=he;subst h1;exact close h2 h3 h4
       | panicked c=>obtain⟨_,_,_,_,h,_⟩:=he;exact h.elim
       | outgrown=>obtain⟨_,_,_,_,_,_,h,_⟩:=he;exact h.elim
      case row row args=>exact⟨hw.1,hw.2.mono fun u w'' h=>by obtain⟨v',H'',F',⟨b,h1,h2⟩,h3,h4⟩:=h;subst h1;exact close h2 h3 h4⟩
      case round l' f tmps assign body =>
       refine⟨hw.1,hw.2.mono fun e w'' he=>?_⟩;cases e with
       | returned u=>obtain⟨v',H'',F',⟨b,h1,h2⟩,h3,h4⟩:=he;subst h1;exact close h2 h3 h4
       | panicked c=>obtain⟨_,_,_,_,h,_⟩:=he;exact h.elim
       | outgrown=>obtain⟨_,_,_,_,_,_,h,_⟩:=he;exact h.elim
     | halt x w' =>
      cases x<;>simp only[Oper.uponIn] at hw ⊢
      case panic u=>obtain⟨_,_,_,_,h,_⟩:=hw;exact h.elim
    by_cases hi0:i=i₀
    ·obtain⟨v,rfl,hg,hop⟩:=hok.1 hi0;have hbo:hB H H₁ i₀ β (fun k=>l.getD k false)=H:=by unfold hB;rw[if_neg (by rw[←hi0];show ¬l.getD i false=true;rw[hnot];decide)]
     have hbn:∀b,hB H H₁ i₀ (Dj β i b) (fun k=>(l.setIfInBounds i true).getD k false)=H₁ b:=fun b=>by unfold hB;rw[if_pos ((hset i₀).2 (.inr hi0.symm)),←hi0];simp[Dj]
     refine yields (by unfold CY;rw[hg];trivial) ?_;rw[hbo];refine(hop Hb).mono ?_;intro r H' hR;cases r with
     | val v'=>obtain⟨g,rfl,rfl⟩:=hR;exact⟨g,rfl,by rw[hbn];rfl⟩
     | panic v'=>exact hR.elim
    have hbn:∀b,hB H H₁ i₀ (Dj β i b) (fun k=>(l.setIfInBounds i true).getD k false)=hB H H₁ i₀ β (fun k=>l.getD k false):=fun b=>by
     unfold hB;simp only[hset2,show (i₀==i)=false by simp;omega,Bool.or_false,Dj,if_neg (Ne.symm hi0)]
    have hok:M4 P ops (hB H H₁ i₀ β (fun k=>l.getD k false)) β o (τS ops (FW β 0 base) τ i) e:=by
     unfold hB;split
     ·exact(hok.2 hi0).2 _
     exact(hok.2 hi0).1
    cases e with
    | val v=>exact yields (wants hok.1) ((hok.2 Hb).mono (by
      intro r H' hR;cases r with
      | val v'=>obtain⟨rfl,rfl⟩:=hR;exact⟨(0,0),rfl,by rw[hbn];rfl⟩
      | panic v'=>exact hR.elim))
    | dep j f=>exact yields (wants hok.2.1) ((hok.2.2 Hb).mono (by
      intro r H' hR;cases r with
      | val v' =>
       obtain⟨rfl,rfl⟩:=hR;have hji:j≠i:=fun e=>by have:=c0 i o j ho hok.1;omega
       exact⟨(0,0),by simp[Yc.w,Dj,hji],by rw[hbn];rfl⟩
      | panic v'=>exact hR.elim))
    | new cs =>
     refine yields (by unfold CY;rw[hok.1];trivial) ((hok.2 _).mono ?_);intro r H' hR;cases r with
     | val v'=>obtain⟨b,rfl,rfl⟩:=hR;exact⟨(b,0),by simp[Yc.w,Yc.v,Dj],by rw[hbn];simp[Yc.bx,Yc.box,Dj]⟩
     | panic v'=>exact hR.elim
    | newd j f =>
     refine yields (by unfold CY;rw[hok.2.1];trivial) ((hok.2.2 _).mono ?_);intro r H' hR;cases r with
     | val v' =>
       obtain⟨b,rfl,rfl⟩:=hR;have hji:j≠i:=fun e=>by have:=hok.1.lt c0 ho;omega
       exact⟨(b,0),by simp[Yc.w,Yc.v,Dj],by rw[hbn];simp[Yc.bx,Dj,hji]⟩
     | panic v'=>exact hR.elim
    | newv sz rows =>
     refine yields (by unfold CY;rw[hok.1];trivial) ((hok.2 _).mono ?_);intro r H' hR;cases r with
     | val v'=>obtain⟨b,c,rfl,rfl⟩:=hR;exact⟨(b,c),by simp[Yc.w,Yc.v,Dj],by rw[hbn];simp[Yc.bx,Yc.box,Dj]⟩
     | panic v'=>exact hR.elim
    | skip =>
     obtain⟨j,want,d,hg,hj,hb⟩:=hok;have hw:Region.wanted o (yielded ops a.tmps)=false:=IK (S:=⟨n,τ',Hb++hB H H₁ i₀ β (fun k=>l.getD k false),D⟩) hs hg hj (by show Xh (τ' d) want;rw[hguard j want d hg hj];exact hb);unfold wpOpIn;simp only[ho,hw,Bool.false_eq_true,if_false];refine⟨fun _ _=>Ap,close (b:=(0,0)) (by rw[hbn];rfl) ?_ .refl⟩;exact hs.put (fun t ht=>hdst i o t ho ht) ⟨Nat.le_refl _,fun _ _ _=>O,fun _ h _=>h⟩ hs.heap (by simp only[Yc.w,Yc.v,B2,Bl,undef];exact⟨[],rfl,rfl⟩)
   -- the first of the rest
   have hpre:∀j,j<i→l.getD j false=true:=by
    intro j hj;have hpi:=GH late hib hlt hj;have:∀{a b},Pred ops a b→b=i→l.getD a false=true:=by
     intro a b hab
     induction hab with
     | base ho' hj=>intro e;subst e;rw[ho] at ho';injection ho' with ho';subst ho';exact hr _ hj
     | trans p1 _ _ ih2=>intro e;exact hdown.pred p1 (ih2 e)
    exact this hpi O
   have hie:i=base.length:=by
    rcases Nat.lt_or_ge base.length i with h | h
    ·have h1:=hpre base.length h;rw[hno base.length (Nat.le_refl _)] at h1;cases h1
    omega
   refine goLate base.length hie (Nat.le_refl _) he (fun k hk=>⟨fun h=>?_,fun h=>hpre k An⟩) (conv (fun j hj=>hpre j An) hno hτ hp hs ht);rcases Nat.lt_or_ge k base.length with h' | h'
   ·exact h'
   rw[hno k h'] at h;cases h
  have hmi:m≤i:=by
   rcases Nat.lt_or_ge i m with h | h
   ·have:=(hm3 i hlt).2 h;rw[hnot] at this;cases this
   exact h
  have him:i=m:=by
   rcases Nat.lt_or_ge m i with h | h
   ·have hpi:=GH late (by omega:base.length≤i) hlt h;have hdown:∀{a b},Pred ops a b→b=i→l.getD a false=true:=by
     intro a b hab
     induction hab with
     | base ho' hj=>intro e;subst e;rw[ho] at ho';injection ho' with ho';subst ho';exact hr _ hj
     | @trans a k b p1 p2 _ ih2 =>
      intro e;have hk:=ih2 e;have hks:k<ops.size:=by
       rcases Nat.lt_or_ge k ops.size with h | h
       ·exact h
       have:l.getD k false=false:=by
        have:¬k<l.size:=by omega
        simp[this]
       rw[this] at hk;cases hk
      have hkm:=(hm3 k hks).1 hk;have hak:a<k:=Pred.lt (hd fun _=>(0,0)) p1;exact(hm3 a An).2 An
    have:=(hm3 m An).1 (hdown hpi rfl);omega
   omega
  exact goLate m him hm1 hm2 hm3 hw
 ·rintro l a w ⟨hsz,hI⟩ hr;have hall:∀i,i<ops.size→l.getD i false=true:=by
   intro i
   induction i using Nat.strongRecOn with
   | _ i ih =>
    intro hi;cases hq:l.getD i false with
    | true=>rfl
    | false =>
     have ho:ops[i]?=some ops[i]:=Array.getElem?_eq_getElem hi;have:i∈Region.ready .any ops l:=by
      refine mem_ready.2 ⟨?_,ops[i],ho,?_⟩
      ·have:i<l.size:=by omega
       simp[this] at hq ⊢;exact hq
      intro e he hb;have hj:e.on∈CZ ops[i]:=by
       simp only[CZ,List.mem_map,List.mem_filter];exact⟨e,⟨by simpa using he,hb⟩,rfl⟩
      have hlt:=c0 i _ _ ho hj;exact ih e.on hlt An
     rw[hr] at this;cases this
  rcases hI with ⟨β,τ',F,Hb,hdown,hno,hτ,hp,hs,ht⟩ | ⟨m,hm1,hm2,hm3,hw⟩
  ·have hbs:base.length=ops.size:=by
    rcases Nat.lt_or_ge base.length ops.size with h | h
    ·have:=hall base.length h;rw[hno base.length (Nat.le_refl _)] at this;cases this
    omega
   have:=conv (fun j hj=>hall j An) hno hτ hp hs ht;rw[hbs,Nat.sub_self] at this;exact this
  have hms:m=ops.size:=by
   rcases Nat.lt_or_ge m ops.size with h | h
   ·have:=(hm3 m h).1 (hall m h);omega
   omega
  rw[hms,Nat.sub_self] at hw;exact hw
 ·have hb0:∀β,hB H H₁ i₀ β (fun k=>(Array.replicate ops.size false).getD k false)=H:=fun β=>by unfold hB;rw[if_neg (by by_cases h:i₀<ops.size<;>simp[h])]
  refine⟨by simp,.inl ⟨fun _=>(0,0),τ,F₀,[],?_,?_,?_,?_,by rw[hb0];exact hs₁,by rw[hb0];exact t₀⟩⟩
  ·intro i o j ho hi;by_cases h:i<ops.size<;>simp[h] at hi
  ·intro k _;by_cases h:k<ops.size<;>simp[h]
  ·intro t;refine⟨fun k o ho hk hl=>?_,fun _=>O⟩;by_cases h:k<ops.size<;>simp[h] at hl
  rw[Jl base 0 fun j=>by by_cases h:j<ops.size<;>simp[h]]
 have:=List.length_filter_le (fun b:Bool=> !b) (Array.replicate ops.size false).toList;simp at this ⊢
def Ih:Nat→Option Nat
 | 0=>none
 | n+1=>some n
theorem Rr (o:Option Nat):∃n,Ih n=o:=by
 cases o with
 | none=>exact⟨0,rfl⟩
 | some n=>exact⟨n+1,rfl⟩
section
variable {P:Program}{ops:Array Oper}{H₀:List A8}{H₁:Nat×Nat→List A8}{i₀:Nat}{β:Nat→Nat×Nat}{k:Nat}{τ:Nat→AV}{r:List Yc}{K:(Nat→Nat×Nat)→(Nat→AV)→List A8→Prop}{dst:Option Tmp}{op:Op}{ty:TypeId}{pos:String}{aft:Array Edge}{v:AV}
theorem N2 (ho:ops[k]?=some ⟨dst,op,ty,pos,aft,none⟩) (hk:Nat.beq k i₀=false) (h:∀Bs,DT P ⟨dst,op,ty,pos,aft,none⟩ (ev τ) (Bs++H₀) v (Bs++H₀)) (h':∀g Bs,DT P ⟨dst,op,ty,pos,aft,none⟩ (ev τ) (Bs++H₁ g) v (Bs++H₁ g)) (next:∀b,YX P ops H₀ H₁ i₀ (Dj β k b) (k+1) (put τ dst v) r K):YX P ops H₀ H₁ i₀ β k τ (.val v::r) K :=
 ⟨_,ho,⟨fun e=>(by subst e;simp at hk),fun _=>⟨⟨trivial,h⟩,fun g=>⟨trivial,h' g⟩⟩⟩,fun b=>next b⟩
theorem GS (ho:ops[k]?=some ⟨dst,op,ty,pos,aft,none⟩) (hk:Nat.beq k i₀=false) (h:∀H,DT P ⟨dst,op,ty,pos,aft,none⟩ (ev τ) H v H) (next:∀b,YX P ops H₀ H₁ i₀ (Dj β k b) (k+1) (put τ dst v) r K):YX P ops H₀ H₁ i₀ β k τ (.val v::r) K:=N2 ho hk (fun _=>h _) (fun _ _=>h _) next
theorem Ws {cs:List AV}(ho:ops[k]?=some ⟨dst,op,ty,pos,aft,none⟩) (hk:Nat.beq k i₀=false) (h:∀H,Cc P ⟨dst,op,ty,pos,aft,none⟩ (ev τ) H (GC cs H)) (next:∀b:Nat×Nat,YX P ops H₀ H₁ i₀ (Dj β k b) (k+1) (put τ dst (.ptr b.1 0)) r (fun β' τ' Hs=>K β' τ' (.box b.1 cs::Hs))):YX P ops H₀ H₁ i₀ β k τ (.new cs::r) K :=
 ⟨_,ho,⟨fun e=>(by subst e;simp at hk),fun _=>⟨⟨rfl,fun _=>h _⟩,fun g=>⟨rfl,fun _=>h _⟩⟩⟩,fun b=>by have:=next b;simpa [Yc.w,Yc.v,Yc.bx,Yc.box,Dj] using this⟩
theorem Uc {c:Call}{f:Operand}{fid:FuncId}{first caps A:List AV}{Hs:List A8}{R:DN→List A8→Prop}(T:Nat×Nat→List A8) (is:List Nat) (ho:ops[i₀]?=some ⟨dst,.call c,ty,pos,aft,none⟩)
  (hc:c.callee= .value f) (hf:(ev τ f= .p (.fn fid)∧first=[]∧caps=[])∨ev τ f= .fn (.func fid) first caps) (h:Br P fid A Hs R) (hg:D2 H₀ is Hs) (hn:is.Nodup) (hA:Ek (first++c.args.toList.map (ev τ)++caps) A)
  (hl:∀g,(T g).length=Hs.length) (hH:∀g,Ha H₀ is (T g)=H₁ g) (hR:∀v' T',R (.val v') T'→v'=v∧∃g,T'=T g) (hp:∀v T',¬R (.panic v) T') (next:∀b,YX P ops H₀ H₁ i₀ (Dj β i₀ b) (i₀+1) (put τ dst v) r K):YX P ops H₀ H₁ i₀ β i₀ τ (.val v::r) K :=
 ⟨_,ho,⟨fun _=>⟨v,rfl,rfl,fun Bs=>by
  have hp2:(Bs++H₀).Perm (Hs++(Bs++Ci is 0 H₀)):=by
   refine((C8 hn hg).append_left Bs).trans ?_;rw[←List.append_assoc,←List.append_assoc];exact List.perm_append_comm.append_right _
  refine Cc.permR (El (H:=Bs++H₀) hc hf hp2 (h.args hA) (.inl O)) ?_;rintro r H' ⟨Hs2,h1,rfl⟩;cases r with
  | val v' =>
   obtain⟨rfl,g,rfl⟩:=hR _ _ h1;refine⟨Bs++H₁ g,?_,g,O,O⟩;rw[←hH g];have hq:=(H6 hn hg (hl g)).append_left Bs;refine List.Perm.trans ?_ hq.symm;rw[←List.append_assoc,←List.append_assoc];exact List.perm_append_comm.append_right _
  | panic v'=>exact absurd h1 (hp _ _)⟩,fun e=>absurd rfl e⟩,fun b=>next b⟩
theorem W2 (h:K β τ []):YX P ops H₀ H₁ i₀ β k τ [] K:=h
end
end Go.Abs
namespace Go.Proofs.YtifphifongokcaaGreat
open Go.Abs Go.Eu
theorem WC:∀(b:Nat) (o:Option Nat) (c:Nat) (tel:List Tm) (bf br bi bp:Nat) (f:Fam) (r:Rfl) (pl:List Int) (F:Nat) (x:Int),(tel.length≤50000)→(f.params.length≤1000)→(cg r)→(∀p∈pl,-1000000≤p∧p≤1000000)→(pl.length≤50000)→(((f.params.length:Nat)+r.field:Int).toNat=F)→(pl[F]?=some x)→Br Tryz.prog 69 [.ptr b 0,.fn (.func 88) [] [.ptr bf 0,.ptr br 0,.ptr bi 0,.ptr bp 0]] [.box b [.vs o (Av tel).length c],.vec o 5 (Av tel) c,.box bf ((Bu f).map .p),.box br ((Cu r).map .p),.box bi [.p (.lst (List.map CG pl))],.box bp [.p (I (f.params.length:Nat))]] (FV (.agg ((Bc (Me (tel.length:Nat) f.params.length pl r)).map .p)) [.box b [.vs o (Av tel).length c],.vec o 5 (Av tel) c,.box bf ((Bu f).map .p),.box br ((Cu r).map .p),.box bi [.p (.lst (List.map CG pl))],.box bp [.p (I (f.params.length:Nat))]]):=fun b o c tel bf br bi bp f r pl F x h1 h2 h3 h4 h5 h6 h7=>by rw[ZM h6 h3.lo.1 h7];exact V1 88 [.ptr bf 0,.ptr br 0,.ptr bi 0,.ptr bp 0] b o c tel (Aw (tel.length:Nat) (pl.take F) r.args).1 _ [.box bf ((Bu f).map .p),.box br ((Cu r).map .p),.box bi [.p (.lst (pl.map CG))],.box bp [.p (I (f.params.length:Nat))]] An (Gw (by rw[List.length_take];have:=h3.la;simp only[Cb];omega) h3.na h3.va) (by rw[(Bd _).1];have:=h3.la;simp only[Cb];omega) (fun b' o' c'=>aK b' o' c' tel bf br bi bp f r pl F x h1 h2 h3 h4 h5 h6 h7)
set_option maxHeartbeats 2000000 in
theorem aE:∀(b:Nat) (o:Option Nat) (c:Nat) (tel:List Tm) (bc bp bf:Nat) (k:E6) (f:Fam),(tel.length≤40000)→(0≤f.levels∧f.levels≤1000)→(f.params.length≤1000)→(Vs k)→Br Tryz.prog 87 [.ptr b 0,.ptr bc 0,.ptr bp 0,.ptr bf 0] [.box b [.vs o (Av tel).length c],.vec o 5 (Av tel) c,.box bc ((Ca k).map .p),.box bp [.p (I (f.params.length:Nat))],.box bf ((Bu f).map .p)] (fun w H'=>∃o2 c2,w= .val (TV (apply (apply (Ei ((tel++(Aw (tel.length:Nat) (BL 0 f.params.length) k.fields).1++Cn f.params.length (Aw (tel.length:Nat) (BL 0 f.params.length) k.fields).2 ((tel++(Aw (tel.length:Nat) (BL 0 f.params.length) k.fields).1).length:Nat) k.recs).length:Nat) (f.params.length:Nat)) (CW ((tel++(Aw (tel.length:Nat) (BL 0 f.params.length) k.fields).1++Cn f.params.length (Aw (tel.length:Nat) (BL 0 f.params.length) k.fields).2 ((tel++(Aw (tel.length:Nat) (BL 0 f.params.length) k.fields).1).length:Nat) k.recs).length:Nat) (Aw (tel.length:Nat) (BL 0 f.params.length) k.fields).2 k.results)) [apply (.mk 3 0 k.name (Ce f.levels) []) (Bt ((tel++(Aw (tel.length:Nat) (BL 0 f.params.length) k.fields).1++Cn f.params.length (Aw (tel.length:Nat) (BL 0 f.params.length) k.fields).2 ((tel++(Aw (tel.length:Nat) (BL 0 f.params.length) k.fields).1).length:Nat) k.recs).length:Nat) (Aw (tel.length:Nat) (BL 0 f.params.length) k.fields).2)]))∧H'=[.box b [.vs o2 (Av (tel++((Aw (tel.length:Nat) (BL 0 f.params.length) k.fields).1++Cn f.params.length (Aw (tel.length:Nat) (BL 0 f.params.length) k.fields).2 ((tel++(Aw (tel.length:Nat) (BL 0 f.params.length) k.fields).1).length:Nat) k.recs))).length c2],.vec o2 5 (Av (tel++((Aw (tel.length:Nat) (BL 0 f.params.length) k.fields).1++Cn f.params.length (Aw (tel.length:Nat) (BL 0 f.params.length) k.fields).2 ((tel++(Aw (tel.length:Nat) (BL 0 f.params.length) k.fields).1).length:Nat) k.recs))) c2,.box bc ((Ca k).map .p),.box bp [.p (I (f.params.length:Nat))],.box bf ((Bu f).map .p)]):=by
 intro b o c tel bc bp bf k f h1 h2 h3 h4;have hlf:=h4.lf;have hlc:=h4.lc;have hlr:=h4.lr;have hpt:∀q∈(Aw (tel.length:Nat) (BL 0 f.params.length) k.fields).2,-1000000≤q∧q≤1000000:=E4 (B:=1000000) _ (fun q hq=>by have:=D0 hq;omega) An An;refine A1 Tryz.func87 O ko (n:=55) O O (Ay (BE O (A7 Bq O) fun b5=>Bo O (As (Rm (fun q=>[.box b5 [.p (I 0),.p (I 0),.p (.str ⟨#[]⟩),.p (.nils),.p (.nils)],.box b [.vs (Ih q.1) (Av (tel++(Aw (tel.length:Nat) (BL 0 f.params.length) k.fields).1)).length q.2],.vec (Ih q.1) 5 (Av (tel++(Aw (tel.length:Nat) (BL 0 f.params.length) k.fields).1)) q.2,.box bc ((Ca k).map .p),.box bp [.p (I (f.params.length:Nat))],.box bf ((Bu f).map .p)]) 7 [.val (.ptr b 0),.val (.ptr bc (0+1)),.val (.p (.lst (Av k.fields))),.val (.p (I (f.params.length:Nat))),.val (.p (.lst (List.map CG (BL 0 f.params.length)))),.val (.ptr b 0),.val (.fn (.func 67) [.ptr b 0] []),.val (.p (.lst (List.map CG ((Aw (tel.length:Nat) (BL 0 f.params.length) k.fields).2)))),.new [.p (.nils)]] Eb Ai Ai Ai Ai ?_))));refine GS O Ai (fun _=>Bm O) fun _=>GS O Ai (fun _=>A3 Nq O O) fun _=>N2 O Ai (fun Bs=>A6 (i:=Bs.length+3) DD O (CL O) (DU _)) (fun g Bs=>A6 (i:=Bs.length+3) DD O (CL O) (DU _)) fun _=>N2 O Ai (fun Bs=>CJ (i:=Bs.length+4) Hd O (CL O) O) (fun g Bs=>CJ (i:=Bs.length+4) Hd O (CL O) O) fun _=>GS rfl Ai (fun _=>BB rfl rfl (IM f.params.length An) rfl) fun _=>GS O Ai (fun _=>Bm O) fun _=>GS O Ai (fun _=>Fs O O) fun _=>?_;refine Uc (fun q=>[.box b [.vs (Ih q.1) (Av (tel++(Aw (tel.length:Nat) (BL 0 f.params.length) k.fields).1)).length q.2],.vec (Ih q.1) 5 (Av (tel++(Aw (tel.length:Nat) (BL 0 f.params.length) k.fields).1)) q.2]) [1,2] rfl rfl (.inl ⟨rfl,rfl,rfl⟩) (L7 b o c tel k.fields (BL 0 f.params.length) An (fun p hp=>by have:=D0 hp;omega) (by rw[B4];omega) h4.nf h4.vf h4.sf) ⟨_,_,rfl,rfl,⟨_,_,rfl,rfl,rfl⟩⟩ Am (CQ _) (fun _=>rfl) (fun _=>rfl) (by rintro _ _ ⟨o2,c2,h,rfl⟩;cases h;obtain⟨z,rfl⟩:=Rr o2;exact⟨rfl,(z,c2),rfl⟩) (fun _ _ ⟨_,_,h,_⟩=>by cases h) fun q=>?_;obtain⟨on,cn⟩:=q;refine Ws O Ai (fun _=>A7 Xe O) fun B=>?_;obtain⟨b6,_⟩:=B;refine W2 ?_
 change AL _ _ _ 9 ⟨55,_,[.box b6 [.p (.nils)],.box b5 [.p (I 0),.p (I 0),.p (.str ⟨#[]⟩),.p (.nils),.p (.nils)],.box b [.vs (Ih on) (Av (tel++(Aw (tel.length:Nat) (BL 0 f.params.length) k.fields).1)).length cn],.vec (Ih on) 5 (Av (tel++(Aw (tel.length:Nat) (BL 0 f.params.length) k.fields).1)) cn,.box bc ((Ca k).map .p),.box bp [.p (I (f.params.length:Nat))],.box bf ((Bu f).map .p)],[]⟩ _
 refine Aq Az 1 [0,0] O (As (Ay (Ar O (A3 Nq O O) (Ar O (A6 (i:=4) X4 O O (F8 _)) (Ar O (BH Ll O (List.length_map _)) (Aq Az 1 [] O (BA ?_)))))));refine Bh (α:=Nat×Option Nat×Nat) (fun(i,o1,cp)=>⟨55,mk [(0,.ptr b 0),(1,.ptr bc 0),(2,.ptr bp 0),(3,.ptr bf 0),(5,.ptr b5 0),(6,.ptr b6 0),(20,.p (.lst (List.map Cu k.recs))),(21,.p (I (k.recs.length:Nat))),(22,.p (I (i:Int)))],[.box b6 [.p (.lst (List.map CG ((Aw (tel.length:Nat) (BL 0 f.params.length) k.fields).2)))],.box b5 [.p (I 0),.p (I 0),.p (.str ⟨#[]⟩),.p (.nils),.p (.nils)],.box b [.vs o1 (Av (tel++(Aw (tel.length:Nat) (BL 0 f.params.length) k.fields).1++Cn f.params.length (Aw (tel.length:Nat) (BL 0 f.params.length) k.fields).2 ((tel++(Aw (tel.length:Nat) (BL 0 f.params.length) k.fields).1).length:Nat) (k.recs.take i))).length cp],.vec o1 5 (Av (tel++(Aw (tel.length:Nat) (BL 0 f.params.length) k.fields).1++Cn f.params.length (Aw (tel.length:Nat) (BL 0 f.params.length) k.fields).2 ((tel++(Aw (tel.length:Nat) (BL 0 f.params.length) k.fields).1).length:Nat) (k.recs.take i))) cp,.box bc ((Ca k).map .p),.box bp [.p (I (f.params.length:Nat))],.box bf ((Bu f).map .p)],[]⟩) (fun(i,o1,cp)=>k.recs.length - i) (fun(i,o1,cp)=>i≤k.recs.length) ⟨0,(Ih on),cn⟩ AO ?_ ?_
 ·exact BZ ⟨we O,we O,we O,we O,we O,we O,we O,we O,we O,Ap⟩ (leH (is:=[0,1,2,3,4,5,6]) O (wl (oe O) (wl (oe O) (wl (Mx (aw (we (DM (tel++(Aw (tel.length:Nat) (BL 0 f.params.length) k.fields).1) (by simp[Cn]))) (FE))) (wl (C5 (tel++(Aw (tel.length:Nat) (BL 0 f.params.length) k.fields).1) (by simp[Cn])) (wl (oe O) (wl (oe O) (wl (oe O) (DF)))))))))
 rintro⟨i,o1,cp⟩ hC
 try simp only at hC
 have hi:=hC;refine Au Az 1 [] O (As (A2 O (fun c1=>?_) (fun c1=>?_)))
 ·(try simp only[sd,se] at c1);refine A5 (As (BA (Ay ?_)));obtain⟨x,hx⟩:=A9 (l:=k.recs) (i:=i) An;refine Ar O (BC Ll O O An (He hx) (Dw _)) (Ar O (Bg TY O (Dw _)) (BE O (A7 VV O) fun b8=>Ar O (CF (i:=0) TY O O O (by simp[Dw]) (by first | rfl | simp[Dw]) (Ts _)) (Bo O (Ax (A0 Az 3 [] O ?_)))));have hok:=h4.rs x (List.mem_of_getElem? hx);obtain⟨y,hy⟩:=A9 (l:=(Aw (tel.length:Nat) (BL 0 f.params.length) k.fields).2) (i:=f.params.length+x.field.toNat) (by have:=hok.1.lo;rw[(Bd _).2,B4];omega);refine Ar O (Cg [3,4,7,0,1,6] O (.inl ⟨O,O,O⟩) (WC b o1 cp (tel++(Aw (tel.length:Nat) (BL 0 f.params.length) k.fields).1++Cn f.params.length (Aw (tel.length:Nat) (BL 0 f.params.length) k.fields).2 ((tel++(Aw (tel.length:Nat) (BL 0 f.params.length) k.fields).1).length:Nat) (k.recs.take i)) bf b8 b6 bp f x ((Aw (tel.length:Nat) (BL 0 f.params.length) k.fields).2) (f.params.length+x.field.toNat) y (by rw[List.length_append,List.length_append,(Bd _).1,EY,List.length_take];omega) h3 hok.1 hpt (by rw[(Bd _).2,B4];omega) (by have:=hok.1.lo;omega) hy) ⟨_,_,O,O,⟨_,_,O,O,⟨_,_,O,O,⟨_,_,O,O,⟨_,_,O,O,⟨_,_,O,O,O⟩⟩⟩⟩⟩⟩ Am O (.inl O)) ?_;refine Gg [3,4] O O O (.inl ⟨O,O,O⟩) (Jw b o1 cp (tel++(Aw (tel.length:Nat) (BL 0 f.params.length) k.fields).1++Cn f.params.length (Aw (tel.length:Nat) (BL 0 f.params.length) k.fields).2 ((tel++(Aw (tel.length:Nat) (BL 0 f.params.length) k.fields).1).length:Nat) (k.recs.take i)) (Me ((tel++(Aw (tel.length:Nat) (BL 0 f.params.length) k.fields).1++Cn f.params.length (Aw (tel.length:Nat) (BL 0 f.params.length) k.fields).2 ((tel++(Aw (tel.length:Nat) (BL 0 f.params.length) k.fields).1).length:Nat) (k.recs.take i)).length:Nat) f.params.length ((Aw (tel.length:Nat) (BL 0 f.params.length) k.fields).2) x) (by rw[List.length_append,List.length_append,(Bd _).1,EY,List.length_take];omega)) ⟨_,_,O,O,⟨_,_,O,O,O⟩⟩ Am (CQ _) ?_ (fun _ _ ⟨_,_,h,_⟩=>by cases h);rintro _ _ ⟨on1,cn1,h,rfl⟩;cases h;refine⟨O,?_⟩;refine Bo O (Ax (Aq Az 2 [] O ?_))
  refine⟨⟨i+1,on1,cn1⟩,AQ,by omega,BZ ⟨we rfl,we rfl,we rfl,we rfl,we rfl,we rfl,we rfl,we rfl,we rfl,trivial⟩ (leH (is:=[1,2,3,4,5,6,7]) rfl (wl (oe rfl) (wl (oe rfl) (wl (Mx (aw (we (DM ((tel++(Aw (tel.length:Nat) (BL 0 f.params.length) k.fields).1++Cn f.params.length (Aw (tel.length:Nat) (BL 0 f.params.length) k.fields).2 ((tel++(Aw (tel.length:Nat) (BL 0 f.params.length) k.fields).1).length:Nat) (k.recs.take i))++[(Me ((tel++(Aw (tel.length:Nat) (BL 0 f.params.length) k.fields).1++Cn f.params.length (Aw (tel.length:Nat) (BL 0 f.params.length) k.fields).2 ((tel++(Aw (tel.length:Nat) (BL 0 f.params.length) k.fields).1).length:Nat) (k.recs.take i)).length:Nat) f.params.length ((Aw (tel.length:Nat) (BL 0 f.params.length) k.fields).2) x)]) (by rw[Ny hx,show ((tel++(Aw (tel.length:Nat) (BL 0 f.params.length) k.fields).1++Cn f.params.length (Aw (tel.length:Nat) (BL 0 f.params.length) k.fields).2 ((tel++(Aw (tel.length:Nat) (BL 0 f.params.length) k.fields).1).length:Nat) (k.recs.take i)).length:Int)=((tel++(Aw (tel.length:Nat) (BL 0 f.params.length) k.fields).1).length:Nat)+(i:Int) from by rw[List.length_append,EY,List.length_take];omega];simp only[List.append_assoc]))) (FE))) (wl (C5 ((tel++(Aw (tel.length:Nat) (BL 0 f.params.length) k.fields).1++Cn f.params.length (Aw (tel.length:Nat) (BL 0 f.params.length) k.fields).2 ((tel++(Aw (tel.length:Nat) (BL 0 f.params.length) k.fields).1).length:Nat) (k.recs.take i))++[(Me ((tel++(Aw (tel.length:Nat) (BL 0 f.params.length) k.fields).1++Cn f.params.length (Aw (tel.length:Nat) (BL 0 f.params.length) k.fields).2 ((tel++(Aw (tel.length:Nat) (BL 0 f.params.length) k.fields).1).length:Nat) (k.recs.take i)).length:Nat) f.params.length ((Aw (tel.length:Nat) (BL 0 f.params.length) k.fields).2) x)]) (by rw[Ny hx,show ((tel++(Aw (tel.length:Nat) (BL 0 f.params.length) k.fields).1++Cn f.params.length (Aw (tel.length:Nat) (BL 0 f.params.length) k.fields).2 ((tel++(Aw (tel.length:Nat) (BL 0 f.params.length) k.fields).1).length:Nat) (k.recs.take i)).length:Int)=((tel++(Aw (tel.length:Nat) (BL 0 f.params.length) k.fields).1).length:Nat)+(i:Int) from by rw[List.length_append,EY,List.length_take];omega];simp only[List.append_assoc])) (wl (oe rfl) (wl (oe rfl) (wl (oe rfl) (DF)))))))))⟩
 (try simp only[sd,se] at c1);refine Bk (As (D8 [.val (.ptr bc (0+0)),.val (.p (.str k.name)),.val (.ptr bf (0+1)),.val (.p (I f.levels)),.val (.p (.lst (List.map B6 (Ce f.levels)))),.val (.agg [.p (I 3),.p (I 0),.p (.str k.name),.p (.lst (List.map B6 (Ce f.levels))),.p (.nils)]),.new [.p (I 0),.p (I 0),.p (.str ⟨#[]⟩),.p (.nils),.p (.nils)]] Eb O Ai Ai (BN O (fun Bs=>A3 Nq O O) (BN O (fun Bs=>A6 (i:=Bs.length+4) S3 O (CL O) (Kr _)) (BN O (fun Bs=>A3 E9 O O) (BN O (fun Bs=>A6 (i:=Bs.length+6) Hd O (CL O) (DJ _)) (BN O (fun Bs=>BB O O (L5 f.levels h2) O) (BN O (fun Bs=>CC KO Bq O) (FB O (fun Bs=>A7 Bq O) fun b9=>FD ?_)))))))))
 change AL _ _ _ 7 ⟨55,_,[.box b9 [.p (I 0),.p (I 0),.p (.str ⟨#[]⟩),.p (.nils),.p (.nils)],.box b6 [.p (.lst (List.map CG ((Aw (tel.length:Nat) (BL 0 f.params.length) k.fields).2)))],.box b5 [.p (I 0),.p (I 0),.p (.str ⟨#[]⟩),.p (.nils),.p (.nils)],.box b [.vs o1 (Av (tel++(Aw (tel.length:Nat) (BL 0 f.params.length) k.fields).1++Cn f.params.length (Aw (tel.length:Nat) (BL 0 f.params.length) k.fields).2 ((tel++(Aw (tel.length:Nat) (BL 0 f.params.length) k.fields).1).length:Nat) (k.recs.take i))).length cp],.vec o1 5 (Av (tel++(Aw (tel.length:Nat) (BL 0 f.params.length) k.fields).1++Cn f.params.length (Aw (tel.length:Nat) (BL 0 f.params.length) k.fields).2 ((tel++(Aw (tel.length:Nat) (BL 0 f.params.length) k.fields).1).length:Nat) (k.recs.take i))) cp,.box bc ((Ca k).map .p),.box bp [.p (I (f.params.length:Nat))],.box bf ((Bu f).map .p)],[]⟩ _
 refine Aq Az 1 [0,0] O (As ?_);refine D8 [.val (.agg [.p (I 3),.p (I 0),.p (.str k.name),.p (.lst (List.map B6 (Ce f.levels))),.p (.nils)]),.val (.ptr b 0),.val (.p (.lst (List.map CG ((Aw (tel.length:Nat) (BL 0 f.params.length) k.fields).2)))),.val (.p (.lst (Av (Bt ((tel++(Aw (tel.length:Nat) (BL 0 f.params.length) k.fields).1++Cn f.params.length (Aw (tel.length:Nat) (BL 0 f.params.length) k.fields).2 ((tel++(Aw (tel.length:Nat) (BL 0 f.params.length) k.fields).1).length:Nat) (k.recs.take i)).length:Nat) ((Aw (tel.length:Nat) (BL 0 f.params.length) k.fields).2))))),.val (.agg ((Bc (apply (.mk 3 0 k.name (Ce f.levels) []:Tm) (Bt ((tel++(Aw (tel.length:Nat) (BL 0 f.params.length) k.fields).1++Cn f.params.length (Aw (tel.length:Nat) (BL 0 f.params.length) k.fields).2 ((tel++(Aw (tel.length:Nat) (BL 0 f.params.length) k.fields).1).length:Nat) (k.recs.take i)).length:Nat) ((Aw (tel.length:Nat) (BL 0 f.params.length) k.fields).2)))).map .p)),.new [.p (I 0),.p (I 0),.p (.str ⟨#[]⟩),.p (.nils),.p (.nils)]] Eb O Ai Ai ?_;refine BN O (fun Bs=>BR (i:=Bs.length+0) Bx O (CL O) O) (BN O (fun Bs=>Bm O) (BN O (fun Bs=>CJ (i:=Bs.length+1) cU O (CL O) O) (BN O (fun Bs=>JM [3,4] O (.inl ⟨O,O,O⟩) (IW b o1 cp (tel++(Aw (tel.length:Nat) (BL 0 f.params.length) k.fields).1++Cn f.params.length (Aw (tel.length:Nat) (BL 0 f.params.length) k.fields).2 ((tel++(Aw (tel.length:Nat) (BL 0 f.params.length) k.fields).1).length:Nat) (k.recs.take i)) ((Aw (tel.length:Nat) (BL 0 f.params.length) k.fields).2) (by rw[List.length_append,List.length_append,(Bd _).1,EY,List.length_take];omega) hpt (by rw[(Bd _).2,B4];omega)) ⟨_,_,O,O,⟨_,_,O,O,O⟩⟩ Am (aw (we O) (aw (we O) (FE)))) ?_)));refine BN O (fun Bs=>EN O O (Dz (.mk 3 0 k.name (Ce f.levels) []:Tm) (Bt ((tel++(Aw (tel.length:Nat) (BL 0 f.params.length) k.fields).1++Cn f.params.length (Aw (tel.length:Nat) (BL 0 f.params.length) k.fields).2 ((tel++(Aw (tel.length:Nat) (BL 0 f.params.length) k.fields).1).length:Nat) (k.recs.take i)).length:Nat) ((Aw (tel.length:Nat) (BL 0 f.params.length) k.fields).2)) (by simp only[Cb,Bt,List.length_map,(Bd _).2,B4];omega)) (aw (Du O) (aw (we O) (FE)))) (FB O (fun Bs=>A7 Bq O) fun b10=>FD ?_)
 change AL _ _ _ 6 ⟨55,_,[.box b10 [.p (I 0),.p (I 0),.p (.str ⟨#[]⟩),.p (.nils),.p (.nils)],.box b9 [.p (I 3),.p (I 0),.p (.str k.name),.p (.lst (List.map B6 (Ce f.levels))),.p (.nils)],.box b6 [.p (.lst (List.map CG ((Aw (tel.length:Nat) (BL 0 f.params.length) k.fields).2)))],.box b5 [.p (I 0),.p (I 0),.p (.str ⟨#[]⟩),.p (.nils),.p (.nils)],.box b [.vs o1 (Av (tel++(Aw (tel.length:Nat) (BL 0 f.params.length) k.fields).1++Cn f.params.length (Aw (tel.length:Nat) (BL 0 f.params.length) k.fields).2 ((tel++(Aw (tel.length:Nat) (BL 0 f.params.length) k.fields).1).length:Nat) (k.recs.take i))).length cp],.vec o1 5 (Av (tel++(Aw (tel.length:Nat) (BL 0 f.params.length) k.fields).1++Cn f.params.length (Aw (tel.length:Nat) (BL 0 f.params.length) k.fields).2 ((tel++(Aw (tel.length:Nat) (BL 0 f.params.length) k.fields).1).length:Nat) (k.recs.take i))) cp,.box bc ((Ca k).map .p),.box bp [.p (I (f.params.length:Nat))],.box bf ((Bu f).map .p)],[]⟩ _
 refine Aq Az 1 [0,1] O (As (CK (fun k=>false) Eb (Bf Az 2 [7] O (FG [4,5] rfl rfl rfl (.inl ⟨rfl,rfl,rfl⟩) (Jb b o1 cp (tel++(Aw (tel.length:Nat) (BL 0 f.params.length) k.fields).1++Cn f.params.length (Aw (tel.length:Nat) (BL 0 f.params.length) k.fields).2 ((tel++(Aw (tel.length:Nat) (BL 0 f.params.length) k.fields).1).length:Nat) (k.recs.take i)) (f.params.length:Nat) (by rw[List.length_append,List.length_append,(Bd _).1,EY,List.length_take];omega) An) ⟨_,_,rfl,rfl,⟨_,_,rfl,rfl,rfl⟩⟩ (JF (fun h=>nomatch h)) (aw (we rfl) (aw (we rfl) (FE))) AB trivial (Bf Az 2 [] O (Cj (j:=6) O O O (fun H i hi=>A6 (i:=i) DD O hi (Gr _)) AB Ap (Bf Az 1 [2] O ?_)))))));refine FG [4,5] rfl rfl rfl (.inl ⟨rfl,rfl,rfl⟩) (OB b o1 cp (tel++(Aw (tel.length:Nat) (BL 0 f.params.length) k.fields).1++Cn f.params.length (Aw (tel.length:Nat) (BL 0 f.params.length) k.fields).2 ((tel++(Aw (tel.length:Nat) (BL 0 f.params.length) k.fields).1).length:Nat) (k.recs.take i)) k.results ((Aw (tel.length:Nat) (BL 0 f.params.length) k.fields).2) (by rw[List.length_append,List.length_append,(Bd _).1,EY,List.length_take];omega) hpt (by rw[(Bd _).2,B4];omega) h4.nr h4.vr h4.sr An) ⟨_,_,rfl,rfl,⟨_,_,rfl,rfl,rfl⟩⟩ (JF (fun h=>nomatch h)) (aw (we rfl) (aw (we rfl) (aw (we rfl) (FE)))) AB trivial ?_;refine BG O (fun _=>BB O O (Dz (Ei ((tel++(Aw (tel.length:Nat) (BL 0 f.params.length) k.fields).1++Cn f.params.length (Aw (tel.length:Nat) (BL 0 f.params.length) k.fields).2 ((tel++(Aw (tel.length:Nat) (BL 0 f.params.length) k.fields).1).length:Nat) (k.recs.take i)).length:Nat) (f.params.length:Nat)) (CW ((tel++(Aw (tel.length:Nat) (BL 0 f.params.length) k.fields).1++Cn f.params.length (Aw (tel.length:Nat) (BL 0 f.params.length) k.fields).2 ((tel++(Aw (tel.length:Nat) (BL 0 f.params.length) k.fields).1).length:Nat) (k.recs.take i)).length:Nat) ((Aw (tel.length:Nat) (BL 0 f.params.length) k.fields).2) k.results) (by simp only[Cb,CW,List.length_map];omega)) O) Ap (Bf Az 1 [0] O ?_)
 refine BG O (fun _=>Ba (rows:=Av ([(apply (.mk 3 0 k.name (Ce f.levels) []:Tm) (Bt ((tel++(Aw (tel.length:Nat) (BL 0 f.params.length) k.fields).1++Cn f.params.length (Aw (tel.length:Nat) (BL 0 f.params.length) k.fields).2 ((tel++(Aw (tel.length:Nat) (BL 0 f.params.length) k.fields).1).length:Nat) (k.recs.take i)).length:Nat) ((Aw (tel.length:Nat) (BL 0 f.params.length) k.fields).2)))])) BY Bq O O O O (By (Bn _)) (ED _)) Ap ?_;refine BG O (fun _=>BB O O (Dz (apply (Ei ((tel++(Aw (tel.length:Nat) (BL 0 f.params.length) k.fields).1++Cn f.params.length (Aw (tel.length:Nat) (BL 0 f.params.length) k.fields).2 ((tel++(Aw (tel.length:Nat) (BL 0 f.params.length) k.fields).1).length:Nat) (k.recs.take i)).length:Nat) (f.params.length:Nat)) (CW ((tel++(Aw (tel.length:Nat) (BL 0 f.params.length) k.fields).1++Cn f.params.length (Aw (tel.length:Nat) (BL 0 f.params.length) k.fields).2 ((tel++(Aw (tel.length:Nat) (BL 0 f.params.length) k.fields).1).length:Nat) (k.recs.take i)).length:Nat) ((Aw (tel.length:Nat) (BL 0 f.params.length) k.fields).2) k.results)) ([(apply (.mk 3 0 k.name (Ce f.levels) []:Tm) (Bt ((tel++(Aw (tel.length:Nat) (BL 0 f.params.length) k.fields).1++Cn f.params.length (Aw (tel.length:Nat) (BL 0 f.params.length) k.fields).2 ((tel++(Aw (tel.length:Nat) (BL 0 f.params.length) k.fields).1).length:Nat) (k.recs.take i)).length:Nat) ((Aw (tel.length:Nat) (BL 0 f.params.length) k.fields).2)))]) (show (1:Nat)<Cb by decide)) rfl) trivial ?_;refine CE Az 1 [3,1] O (A4 (⟨O,_,_,⟨_,_,O,(BO (i:=3) Bx O O Ad),O⟩,(Dn (is:=[4,5,6,7,8]) O),?_⟩));obtain rfl:i=k.recs.length:=by omega
 rw[List.take_length,←List.append_assoc]
 all_goals exact⟨_,_,rfl,rfl⟩
theorem WO:∀(b:Nat) (o:Option Nat) (c:Nat) (tel:List Tm) (bc bp bf:Nat) (k:E6) (f:Fam),(tel.length≤40000)→(0≤f.levels∧f.levels≤1000)→(f.params.length≤1000)→(Vs k)→Br Tryz.prog 69 [.ptr b 0,.fn (.func 87) [] [.ptr bc 0,.ptr bp 0,.ptr bf 0]] [.box b [.vs o (Av tel).length c],.vec o 5 (Av tel) c,.box bc ((Ca k).map .p),.box bp [.p (I (f.params.length:Nat))],.box bf ((Bu f).map .p)] (FV (.agg ((Bc (I1 f k (tel.length:Nat))).map .p)) [.box b [.vs o (Av tel).length c],.vec o 5 (Av tel) c,.box bc ((Ca k).map .p),.box bp [.p (I (f.params.length:Nat))],.box bf ((Bu f).map .p)]):=fun b o c tel bc bp bf k f h1 h2 h3 h4=>by have hlf:=h4.lf;have hlc:=h4.lc;rw[ZC rfl rfl];exact V1 87 [.ptr bc 0,.ptr bp 0,.ptr bf 0] b o c tel _ _ [.box bc ((Ca k).map .p),.box bp [.p (I (f.params.length:Nat))],.box bf ((Bu f).map .p)] An (FZ.2 ⟨Gw (by rw[B4];simp only[Cb];omega) h4.nf h4.vf,Ng h3 (fun q hq=>E4 (B:=1000000) _ (fun x hx=>by have:=D0 hx;omega) An An q hq) (by rw[(Bd _).2,B4];omega) An (by rw[List.length_append,(Bd _).1];omega) fun r hr=>(h4.rs r hr).1⟩) (by rw[List.length_append,(Bd _).1,EY];simp only[Cb];omega) (fun b' o' c'=>aE b' o' c' tel bc bp bf k f h1 h2 h3 h4)
theorem Sf:∀(b:Nat) (o:Option Nat) (c:Nat) (tel:List Tm) (f:Fam) (j:Int) (k:E6),(tel.length≤40000)→(0≤f.levels∧f.levels≤1000)→(f.params.length≤1000)→(Vs k)→(0≤j)→(f.ctors[j.toNat]?=some k)→Br Tryz.prog 35 [.agg ((Bu f).map .p),.p (I j),.ptr b 0] [.box b [.vs o (Av tel).length c],.vec o 5 (Av tel) c] (FV (.agg ((Bc (I1 f k (tel.length:Nat))).map .p)) [.box b [.vs o (Av tel).length c],.vec o 5 (Av tel) c]):=by
 intro b o c tel f j k h1 h2 h3 h4 h5 h6;refine A1 Tryz.func35 O k9 (n:=20) O O (Ay (BE O (BT O) fun b3=>BE O (A7 Bq O) fun b6=>Bo O (Ay (Ar O (A3 E9 O O) (Ar O (A6 (i:=1) QI O O (DR _)) (CA O (Ar O (BC KQ O O An (He h6) (Fk _)) (Ar O (Bg I0 O (Fk _)) (BE O (A7 Ls O) fun b7=>Ar O (CF (i:=0) I0 O O O Ab AS (K1 _)) (Bo O (Ay (Ar O (A3 E9 O O) (Ar O (A6 (i:=2) DD O O (Cf _)) (Ar O (BH BY O (BD _)) (BE O (A7 XC O) fun b8=>Aq Az 1 [0,0] O (Ay (A0 Az 2 [] O ?_)))))))))))))))));refine Ar O (Cg [4,5,1,0,3] O (.inl ⟨O,O,O⟩) (WO b o c tel b7 b8 b3 k f h1 h2 h3 h4) ⟨_,_,O,O,⟨_,_,O,O,⟨_,_,O,O,⟨_,_,O,O,⟨_,_,O,O,O⟩⟩⟩⟩⟩ Am O (.inl O)) (Aq Az 1 [2,1] O (A4 (⟨O,_,_,⟨_,_,O,(BO (i:=2) Bx O O Ad),O⟩,(Dn (is:=[4,5]) O),?_⟩)))
 all_goals exact⟨rfl,rfl⟩
theorem Xl:∀(f:Fam) (j:Int) (k:E6),(0≤f.levels∧f.levels≤1000)→(f.params.length≤1000)→(Vs k)→(0≤j∧j≤1000)→(f.ctors[j.toNat]?=some k)→D3 Tryz.prog 8 [.agg ((Bu f).map .p),.p (I j)] (.tup [.agg ((Bc (I1 f k ((f.params.length:Nat)+1+j))).map .p),.p (I 0)]):=by
 intro f j k h1 h2 h3 h4 h5;have hjl:=(List.getElem?_eq_some_iff.1 h5).1;refine A1 Tryz.func8 O me (n:=28) O O (Ay (BE O (BT O) fun b2=>BE O (A7 Bq O) fun b4=>Aq Az 1 [] O (As (As (Bj [1,2,4] 14 (fun y=>y= .p (.bool ((decide ((j:Int)<(0:Int)))||(decide ((j:Int)≥((f.ctors.length:Nat):Int)))))) ?_ ?_)))))
 ·refine Ax (A0 Az 3 [] O (BS 8 O (fun g=>?_) (fun g=>?_)))
  ·(try simp only[sd,se] at g);exact Aq Az 6 [] O (⟨O,O,AK,AH,⟨O,O,O,Ap⟩⟩)
  (try simp only[sd,se] at g);exact A0 Az 2 [] O (BK O (A6 (i:=1) QI O O (DR _)) (BK O (BH KQ O (List.length_map _)) (Aq Az 2 [] O (⟨O,O,AK,AH,⟨O,O,O,Ap⟩⟩))))
 rintro _ rfl;refine A2 O (fun c=>?_) (fun c=>?_)
 ·(try simp only[sd,se] at c);exfalso;omega
 (try simp only[sd,se] at c);refine A5 (As (QU [.val (.agg ((Bu f).map .p)),.val (.p (I j)),.val (.ptr b2 (0+2)),.val (.p (.lst (Av f.params))),.val (.p (I (f.params.length:Nat))),.val (.p (I (((f.params.length:Nat):Int)+(1:Int)))),.val (.p (I j)),.val (.p (I ((((f.params.length:Nat):Int)+(1:Int):Int)+(j:Int)))),.newv 5 (Av (List.replicate (((((f.params.length:Nat):Int)+(1:Int):Int)+(j:Int):Int).toNat) (.mk 0 0 ⟨#[]⟩ [] []:Tm))),.dep 8 (fun q=> .agg [.vs (some q.1) (Av (List.replicate (((((f.params.length:Nat):Int)+(1:Int):Int)+(j:Int):Int).toNat) (.mk 0 0 ⟨#[]⟩ [] []:Tm))).length q.2]),.newd 8 (fun q=>[.vs (some q.1) (Av (List.replicate (((((f.params.length:Nat):Int)+(1:Int):Int)+(j:Int):Int).toNat) (.mk 0 0 ⟨#[]⟩ [] []:Tm))).length q.2])] Eb Ai Ai Ai ?_));refine DQ O (fun Bs=>BR (i:=Bs.length+1) Gc O (CL O) AZ) fun _=>DQ O (fun Bs=>Bm O) fun _=>DQ O (fun Bs=>A3 E9 O O) fun _=>DQ O (fun Bs=>A6 (i:=Bs.length+1) DD O (CL O) (Cf _)) fun _=>DQ O (fun Bs=>BH BY O (BD _)) fun _=>DQ O (fun Bs=>EK O O An An) fun _=>DQ O (fun Bs=>Bm O) fun _=>DQ O (fun Bs=>EK O O An An) fun _=>UR O (fun Bs=>EA BY Bq O O Am O O O An An An (Ur (((((f.params.length:Nat):Int)+(1:Int):Int)+(j:Int):Int).toNat) (.mk 0 0 ⟨#[]⟩ [] []:Tm))) fun B=>?_;obtain⟨b24,cp⟩:=B;refine Xa O Ai Am O (fun Bs=>CC Km Wf O) fun _=>Uj O Ai Am O (fun Bs=>BT O) fun B=>?_;obtain⟨b26,_⟩:=B;refine Qy ?_
 change AL _ _ _ 11 ⟨28,_,[.vec (some b24) 5 (Av (List.replicate (((((f.params.length:Nat):Int)+(1:Int):Int)+(j:Int):Int).toNat) (.mk 0 0 ⟨#[]⟩ [] []:Tm))) cp,.box b26 [.vs (some b24) (Av (List.replicate (((((f.params.length:Nat):Int)+(1:Int):Int)+(j:Int):Int).toNat) (.mk 0 0 ⟨#[]⟩ [] []:Tm))).length cp],.box b4 [.p (I 0),.p (I 0),.p (.str ⟨#[]⟩),.p (.nils),.p (.nils)],.box b2 ((Bu f).map .p)],[]⟩ _
 refine Ar O (Cg [1,0] O (.inl ⟨O,O,O⟩) (Sf b26 (some b24) cp (List.replicate (((((f.params.length:Nat):Int)+(1:Int):Int)+(j:Int):Int).toNat) (.mk 0 0 ⟨#[]⟩ [] []:Tm)) f j k Ah h1 h2 h3 h4.1 h5) ⟨_,_,O,O,⟨_,_,O,O,O⟩⟩ Am O (.inl O)) (Aq Az 2 [2,1] O (A4 (⟨O,_,_,⟨_,_,O,(BO (i:=2) Bx O O Ad),⟨_,_,O,O,O⟩⟩,(List.nil_sublist _),?_⟩)))
 all_goals exact⟨by show (.tup [.agg ((Bc (I1 f k ((List.replicate (((((f.params.length:Nat):Int)+(1:Int):Int)+(j:Int):Int).toNat) (.mk 0 0 ⟨#[]⟩ [] []:Tm)).length:Nat))).map .p),.p (I 0)]:AV)=_;simp only[List.length_replicate];rw[Int.toNat_of_nonneg An],rfl⟩
end Go.Proofs.YtifphifongokcaaGreat
namespace Go.Eu
open Go.Abs
theorem Us (fr:Int):∀(k m:Nat),FL fr m k=(List.range k).map fun i:Nat=>BP (fr+m+k - 1 - i)
 | 0,m=>by simp[FL]
 | k+1,m=>by
  simp only[FL];rw[Us fr k m,List.range_succ_eq_map,List.map_cons,List.map_map];congr 1
  ·congr 1;omega
  refine List.map_congr_left fun i _=>?_;simp only[Function.comp_apply];congr 1;omega
theorem Yy {n:Nat}{fr:Int}(hf:0≤fr):PF (n:Int) fr=CS n fr:=by
 unfold PF CS;by_cases h:n<1∨4096<n
 ·rw[if_pos An,if_pos An]
 rw[if_neg An,if_neg An,Int.toNat_natCast,Us];refine List.map_congr_left fun i _=>?_;congr 1;omega
theorem H9 (n:Nat) (f:Int):(CS n f).length≤n:=by
 unfold CS;split<;>simp
theorem Sg (g:Nat→Tm→Tm):∀(a b:List Tm) (k:Nat),DL g k (a++b)=DL g k a++DL g (k+a.length) b
 | [],b,k=>by simp[DL]
 | t::a,b,k=>by
  simp only[List.cons_append,DL,Sg g a b (k+1),List.length_cons];congr 3;omega
theorem Jh {g:Nat→Tm→Tm}{ts:List Tm}{i:Nat}{x:Tm}(h:ts[i]?=some x):DL g 0 (ts.take (i+1))=DL g 0 (ts.take i)++[g i x]:=by
 have hi:=(List.getElem?_eq_some_iff.1 h).1;rw[List.take_add_one,h,Option.toList_some,Sg,List.length_take,show 0+min i ts.length=i by omega];rfl
theorem Vr {n:Int}(h:0≤n):(Ce (n+1)).drop n.toNat=[⟨0,[⟨n,0⟩]⟩]:=by
 unfold Ce;rw[show (n+1).toNat=n.toNat+1 by omega,List.range_succ,List.map_append,List.drop_left' Ao];simp only[List.map_cons,List.map_nil];rw[show ((n.toNat:Nat):Int)=n by omega]
theorem Qb {b fr:Int}{t:Tm}(h:Nd t):Nd (B9 b fr t):=by
 unfold B9;split
 ·exact⟨by decide,by decide,by simp,by decide,trivial,⟨by decide,by decide⟩,⟨by decide,by decide⟩⟩
 exact O8 _ _ _ _ _ h
theorem QB {b fr:Int}{t:Tm}(h:Wt t) (hs:size t<1000000):size (B9 b fr t)<1000000:=by
 unfold B9;split
 ·decide
 rw[JL _ _ _ _ _ (.inr h)];exact hs
def dL (l:List Tm):Prop:=∀t∈l,Nd t∧Wt t∧size t<1000000
structure bM where
 args:List Tm
 results:List Tm
 applied:Tm
deriving Inhabited
def IX:bM→List PV
 | ⟨a,r,p⟩=> .lst (Av a):: .lst (Av r)::Bc p
theorem ON (r:bM):(IX r).length=7:=by simp[IX,BF]
theorem YJ (r:bM):DC 7 (IX r):=CD Ao (CD Ao (HF _))
theorem Zi (r:bM):((IX r).map AV.p).all one=true:=Dh (YJ r)
theorem LG (r:bM):At (IX r) 0 [.lst (Av r.args)]:=At.one
theorem MZ (r:bM):At (IX r) 1 [.lst (Av r.results)]:=At.cons At.one
theorem MU (r:bM):At (IX r) 2 (Bc r.applied):=At.cons (At.cons At.all)
def D6 (nf:Nat) (r:Rfl) (s q:Int):bM :=
 ⟨DL (fun i t=>B9 ((nf:Int) - r.field+q) i (B9 s (r.field+i) t)) 0 r.args,r.results.map fun t=>B9 ((nf:Int) - r.field+q) r.args.length (B9 s (r.field+r.args.length) t),apply (BP (r.args.length+((nf:Int) - r.field+q) - 1)) (CS r.args.length 0)⟩
theorem UD (nf:Nat) (ctor:Int) (r:Rfl) (k:Nat):Xb nf ctor r k=Bw 6 (D6 nf r (1+ctor) k).args (apply (apply (BP ((D6 nf r (1+ctor) k).args.length+(k:Int)+nf+ctor)) (D6 nf r (1+ctor) k).results) [(D6 nf r (1+ctor) k).applied]):=by
 simp only[D6,Fq];rfl
theorem Lk (nf:Nat) (ctor:Int):∀(rs:List Rfl) (k:Nat),(EG nf ctor k rs).length=rs.length
 | [],_=>rfl
 | r::rs,k=>by simp[EG,Lk nf ctor rs (k+1)]
theorem Pe (nf:Nat) (ctor:Int):∀(a b:List Rfl) (k:Nat),EG nf ctor k (a++b)=EG nf ctor k a++EG nf ctor (k+a.length) b
 | [],b,k=>by simp[EG]
 | r::a,b,k=>by
  simp only[List.cons_append,EG,Pe nf ctor a b (k+1),List.length_cons];congr 3;omega
theorem OU {nf:Nat}{ctor:Int}{rs:List Rfl}{i:Nat}{r:Rfl}(h:rs[i]?=some r):EG nf ctor 0 (rs.take (i+1))=EG nf ctor 0 (rs.take i)++[Xb nf ctor r i]:=by
 have hi:=(List.getElem?_eq_some_iff.1 h).1;rw[List.take_add_one,h,Option.toList_some,Pe,List.length_take,show 0+min i rs.length=i by omega];rfl
structure ib (k:E6):Prop where
 fs:dL k.fields
 lf:k.fields.length≤1000
 lc:k.recs.length≤1000
 rs:∀r∈k.recs,dL r.args∧dL r.results∧r.args.length≤1000∧r.results.length≤1000∧0≤r.field∧r.field<k.fields.length
 rr:dL k.results
 lr:k.results.length≤1000
end Go.Eu
namespace Go.Proofs.YtifphifongokcaaGreat
open Go.Abs Go.Eu
theorem Wq:∀(n f:Int),(f<2 ^ 60)→D3 Tryz.prog 42 [.p (I n),.p (I f)] (.p (.lst (Av (PF n f)))):=by
 intro n f h1;refine A1 Tryz.func42 O lK (n:=31) O O (Au Az 1 [] O (As (As (Bj [0,1] 16 (fun y=>y= .p (.bool (((decide ((n:Int)<(1:Int)))||(decide ((n:Int) > (4096:Int))))||(decide ((f:Int)<(0:Int)))))) ?_ ?_))))
 ·refine Ax (A0 Az 3 [] O (BS 9 O (fun g=>?_) (fun g=>?_)))
  ·(try simp only[sd,se] at g);exact Aq Az 7 [] O (⟨O,O,AK,AH,⟨O,O,Ap⟩⟩)
  (try simp only[sd,se] at g);refine A0 Az 4 [] O (BS 13 O (fun g1=>?_) (fun g1=>?_))
  ·(try simp only[sd,se] at g1);exact Aq Az 3 [] O (⟨O,O,AK,AH,⟨O,O,Ap⟩⟩)
  (try simp only[sd,se] at g1);exact Aq Az 3 [] O (⟨O,O,AK,AH,⟨O,O,Ap⟩⟩)
 rintro _ rfl;refine A2 O (fun c=>?_) (fun c=>?_)
 ·(try simp only[sd,se] at c);refine Au Az 1 [] O (BU (Hk 4) (A4 (⟨O,_,_,⟨_,_,O,O,O⟩,(List.nil_sublist _),?_⟩)))
  all_goals exact⟨by show (.p (.lst (Av [])):AV)=_;unfold PF;rw[if_pos An],rfl⟩
 (try simp only[sd,se] at c);refine A5 (Au Az 1 [] O (As (Au Az 3 [] O (BA (BU (DZ (t:=5) (sz:=5) O) (Bh (α:=Nat×Option Nat×Nat) (fun(m,o,cp)=>⟨31,mk [(1,.p (I f)),(5,.vs o (Av (FL f m (n.toNat - m))).length cp),(6,.p (I ((m:Int) - 1)))],[.vec o 5 (Av (FL f m (n.toNat - m))) cp],[]⟩) (fun(m,o,cp)=>m) (fun(m,o,cp)=>m≤n.toNat) ⟨n.toNat,none,0⟩ AO ?_ ?_))))))
 ·exact BZ ⟨we O,we (DM [] (by simp[FL])),we (pI An),Ap⟩ (leH (is:=[0]) O (wl (C5 [] (by simp[FL])) (DF)))
 rintro⟨m,o,cp⟩ hC
 try simp only at hC
 refine As (Au Az 2 [] O (A2 O (fun c1=>?_) (fun c1=>?_)))
 ·(try simp only[sd,se] at c1);refine A5 (As (BA (Ax (A0 Az 5 [] O (Ar O (Bz BY Bq O O O O O) (Dp O O (B3 (i:=0) (rows':=Av ([(.mk 0 ((f:Int)+((m:Int) - 1:Int)) ⟨#[]⟩ [] []:Tm)])) BY BY Bq O O O O O O (Bn _) (by simp only[BD,Pf,List.length_cons,List.length_nil];omega) (Fe (FL f m (n.toNat - m)) ([(.mk 0 ((f:Int)+((m:Int) - 1:Int)) ⟨#[]⟩ [] []:Tm)]))) fun o1 cp1=>Aq Az 1 [] O (Ax (Aq Az 3 [] O ?_))))))));refine⟨⟨m - 1,o1,cp1⟩,AQ,by first | trivial | omega | (simp only;omega) | (simp;omega),BZ ⟨we rfl,we (DM (FL f m (n.toNat - m)++([(.mk 0 ((f:Int)+((m:Int) - 1:Int)) ⟨#[]⟩ [] []:Tm)])) (by obtain⟨q,rfl⟩:∃q,m=q+1:=⟨m - 1,by omega⟩;rw[show n.toNat - (q+1 - 1)=(n.toNat - (q+1))+1 by omega,Nat.add_sub_cancel,←KF,show ((q+1:Nat):Int) - 1=q by omega];rfl)),we (pI An),trivial⟩ (leH (is:=[0]) rfl (wl (C5 (FL f m (n.toNat - m)++([(.mk 0 ((f:Int)+((m:Int) - 1:Int)) ⟨#[]⟩ [] []:Tm)])) (by obtain⟨q,rfl⟩:∃q,m=q+1:=⟨m - 1,by omega⟩;rw[show n.toNat - (q+1 - 1)=(n.toNat - (q+1))+1 by omega,Nat.add_sub_cancel,←KF,show ((q+1:Nat):Int) - 1=q by omega];rfl)) (DF)))⟩
 (try simp only[sd,se] at c1);refine Bk (Au Az 2 [] O (BU (CM (i:=0) [5,30,4] O (C6 ⟨O,O,O,Ap⟩)) (A4 (⟨O,_,_,⟨_,_,O,O,O⟩,(List.nil_sublist _),?_⟩))))
 all_goals exact⟨by show (.p (.lst (Av (FL f m (n.toNat - m)))):AV)=_;unfold PF;rw[if_neg An,show m=0 by omega];rfl,rfl⟩
theorem Ub:∀(k:Int) (xs:List Tm) (t:Tm),(xs.length<Cb)→D3 Tryz.prog 80 [.p (I k),.p (.lst (Av xs)),.agg ((Bc t).map .p)] (.agg ((Bc (Bw k xs t)).map .p)):=by
 intro k xs t h1;simp only[Cb] at h1;refine A1 Tryz.func80 O lS (n:=24) O O (Ay (BE O (BT O) fun b5=>BE O (A7 Bq O) fun b6=>Bo O (As (Ay (CA O (Ar O (BH BY O (BD _)) (Aq Az 2 [] O (BA (Bh (α:=Nat) (fun m=>⟨24,mk [(0,.p (I k)),(1,.p (.lst (Av xs))),(5,.ptr b5 0),(6,.ptr b6 0),(7,.p (I ((m:Int) - 1)))],[.box b6 [.p (I 0),.p (I 0),.p (.str ⟨#[]⟩),.p (.nils),.p (.nils)],.box b5 ((Bc (Bw k (xs.drop m) t)).map .p)],[]⟩) (fun m=>m) (fun m=>m≤xs.length) xs.length AO ?_ ?_)))))))))
 ·exact BZ ⟨we O,we O,we O,we O,we O,Ap⟩ (leH (is:=[0,1]) O (wl (oe O) (wl (ob (by simp[Bw])) (DF))))
 rintro m hC
 try simp only at hC
 refine As (Au Az 2 [] O (A2 O (fun c=>?_) (fun c=>?_)))
 ·(try simp only[sd,se] at c);refine A5 (As (BA (CK (fun k=>false) Eb (Bf Az 3 [] O ?_))));obtain⟨x,hx⟩:=A9 (l:=xs) (i:=((m:Int) - 1:Int).toNat) An;refine BG O (fun _=>BC BY O O An (B0 hx) (BF _)) Ap (Bf Az 2 [1] O ?_);obtain⟨xk,xi,xn,xl,xs1⟩:=x;generalize hz:Bw k (xs.drop m) t=z;obtain⟨zk,zi,zn,zl,zs⟩:=z;refine BG O (fun _=>Bz BY Bq O O O O O) Ap (CE Az 2 [1,0] O (Ax (Aq Az 3 [] O ?_)));refine⟨(m - 1),AQ,by first | trivial | omega | (simp only;omega) | (simp;omega),BZ ⟨we rfl,we rfl,we rfl,we rfl,we (pI An),trivial⟩ (leH (is:=[0,1]) rfl (wl (oe rfl) (wl (on (by rw[R9 hx An,hz];rfl)) (DF))))⟩
 (try simp only[sd,se] at c);refine Bk (Au Az 2 [1,0,1] O (A4 (⟨O,_,_,⟨_,_,O,(BO (i:=0) Bx O O Ad),O⟩,(List.nil_sublist _),?_⟩)))
 all_goals exact⟨by show (.agg ((Bc (Bw k (xs.drop m) t)).map .p):AV)=_;rw[show m=0 by omega];rfl,rfl⟩
theorem Nf:∀(xs:List Tm) (t:Tm),(xs.length<Cb)→D3 Tryz.prog 29 [.p (.lst (Av xs)),.agg ((Bc t).map .p)] (.agg ((Bc (Bw 6 xs t)).map .p)):=by
 intro xs t h1;refine A1 Tryz.func29 O jE (n:=8) O O (Ay (BE O (BT O) fun b3=>BE O (A7 Bq O) fun b4=>Bo O (Ay (A0 Az 2 [1] O (Ar O (BB O O (Ub 6 xs t (by first | assumption | omega)) O) (Aq Az 1 [0,1] O (A4 (⟨O,_,_,⟨_,_,O,(BO (i:=0) Bx O O Ad),O⟩,(List.nil_sublist _),?_⟩))))))))
 all_goals exact⟨rfl,rfl⟩
theorem Z3:∀(i:Int),(0≤i∧i<8)→D3 Tryz.prog 94 [.p (I i),.p (I 0)] (.tup [.agg ((B6 (CN.mk 0 [Bv.mk i 0])).map .p),.p (I 0)]):=by
 intro i h1;refine A1 Tryz.func94 O jo (n:=25) O O (Ay (BE O (A7 G0 O) fun b4=>Aq Az 1 [] O (As (As (Bj [0,1,4] 15 (fun y=>y= .p (.bool (((decide ((i:Int)<(-65536:Int)))||(decide ((i:Int)≥(8:Int))))||(decide ((0:Int)<(0:Int)))))) ?_ ?_)))))
 ·refine Ax (A0 Az 3 [] O (BS 8 O (fun g=>?_) (fun g=>?_)))
  ·(try simp only[sd,se] at g);exact Aq Az 7 [] O (⟨O,O,AK,AH,⟨O,O,O,Ap⟩⟩)
  (try simp only[sd,se] at g);refine A0 Az 4 [] O (BS 12 O (fun g1=>?_) (fun g1=>?_))
  ·(try simp only[sd,se] at g1);exact Aq Az 3 [] O (⟨O,O,AK,AH,⟨O,O,O,Ap⟩⟩)
  (try simp only[sd,se] at g1);exact Aq Az 3 [] O (⟨O,O,AK,AH,⟨O,O,O,Ap⟩⟩)
 rintro _ rfl;refine A2 O (fun c=>?_) (fun c=>?_)
 ·(try simp only[sd,se] at c);exfalso;omega
 (try simp only[sd,se] at c);refine A5 (As (Au Az 2 [] O (A2 O (fun c1=>?_) (fun c1=>?_))))
 ·(try simp only[sd,se] at c1);exfalso;omega
 (try simp only[sd,se] at c1);refine A5 (Ay (A0 Az 3 [] O (Ar O (Ba (rows:=List.map FT [(Bv.mk i 0)]) GY Qf O O O O (By (Ib _)) (QZ _)) (Aq Az 3 [0,0] O (A4 (⟨O,_,_,⟨_,_,O,(BO (i:=0) Qn O O O),⟨_,_,O,O,O⟩⟩,(List.nil_sublist _),?_⟩))))))
 all_goals exact⟨rfl,rfl⟩
theorem KL:∀(n:Int),(0≤n∧n≤8)→D3 Tryz.prog 41 [.p (I n)] (.p (.lst (List.map B6 (Ce n)))):=by
 intro n h1;refine A1 Tryz.func41 O kE (n:=22) O O (Au Az 1 [] O (Au Az 1 [] O (As (Au Az 1 [] O (BA (BU (DZ (t:=3) (sz:=2) O) (Bh (α:=Nat×Option Nat×Nat) (fun(i,o,cp)=>⟨22,mk [(0,.p (I n)),(3,.vs o (List.map B6 ((List.range i).map fun i:Nat=>CN.mk 0 [Bv.mk i 0])).length cp),(4,.p (I (i:Int)))],[.vec o 2 (List.map B6 ((List.range i).map fun i:Nat=>CN.mk 0 [Bv.mk i 0])) cp],[]⟩) (fun(i,o,cp)=>n.toNat - i) (fun(i,o,cp)=>i≤n.toNat) ⟨0,none,0⟩ AO ?_ ?_)))))))
 ·exact BZ ⟨we O,we (FM (f:=B6) [] Ao),we O,Ap⟩ (leH (is:=[0]) O (wl (Eh (f:=B6) [] Ao) (DF)))
 rintro⟨i,o,cp⟩ hC
 try simp only at hC
 have hi:=hC;refine As (Au Az 3 [] O (A2 O (fun c=>?_) (fun c=>?_)))
 ·(try simp only[sd,se] at c);refine A5 (As (BA (Ay (CA O (Ar O (BB O O (Z3 (i:Int) An) O) (A0 Az 3 [] O (BE O (A7 G0 O) fun b5=>Aq Az 2 [0,1] O (Ax (A0 Az 2 [0] O (Ar O (Bz E1 G0 O O O O O) (Dp O O (B3 (i:=1) (rows':=List.map B6 ([(CN.mk ((CN.mk 0 [Bv.mk (i:Int) 0]).const) ((CN.mk 0 [Bv.mk (i:Int) 0]).vars))])) E1 E1 G0 O O O O O O (Fi _) (by simp[Ce];omega) (HJ (f:=B6) ((List.range i).map fun i:Nat=>CN.mk 0 [Bv.mk i 0]) ([(CN.mk ((CN.mk 0 [Bv.mk (i:Int) 0]).const) ((CN.mk 0 [Bv.mk (i:Int) 0]).vars))]))) fun o1 cp1=>Aq Az 1 [] O (Ax (Aq Az 3 [] O ?_)))))))))))));refine⟨⟨i+1,o1,cp1⟩,AQ,by omega,BZ ⟨we rfl,we (FM (f:=B6) (((List.range i).map fun i:Nat=>CN.mk 0 [Bv.mk i 0])++([(CN.mk ((CN.mk 0 [Bv.mk (i:Int) 0]).const) ((CN.mk 0 [Bv.mk (i:Int) 0]).vars))])) (by rw[List.range_succ,List.map_append];rfl)),we rfl,trivial⟩ (leH (is:=[1]) rfl (wl (Eh (f:=B6) (((List.range i).map fun i:Nat=>CN.mk 0 [Bv.mk i 0])++([(CN.mk ((CN.mk 0 [Bv.mk (i:Int) 0]).const) ((CN.mk 0 [Bv.mk (i:Int) 0]).vars))])) (by rw[List.range_succ,List.map_append];rfl)) (DF)))⟩
 (try simp only[sd,se] at c);refine Bk (Au Az 2 [] O (BU (CM (i:=0) [3,21,2] O (C6 ⟨O,O,O,Ap⟩)) (A4 (⟨O,_,_,⟨_,_,O,O,O⟩,(List.nil_sublist _),?_⟩))))
 all_goals exact⟨by show (.p (.lst (List.map B6 ((List.range i).map fun i:Nat=>CN.mk 0 [Bv.mk i 0]))):AV)=_;unfold Ce;rw[show i=n.toNat by omega],rfl⟩
theorem Tk:∀(nm:ByteArray) (n:Int),(0≤n∧n≤8)→D3 Tryz.prog 84 [.p (.str nm),.p (I n)] (.agg ((Bc (Co nm n)).map .p)):=by
 intro nm n h1;refine A1 Tryz.func84 O jT (n:=9) O O (Ay (BE O (A7 Bq O) fun b4=>Bo O (Ay (A0 Az 2 [] O (Ar O (BB O O (KL n h1) O) (Aq Az 2 [0,0] O (BU (CB (i:=0) O) (A4 (⟨O,_,_,⟨_,_,O,(BO (i:=0) Bx O O O),O⟩,(List.nil_sublist _),?_⟩)))))))))
 all_goals exact⟨rfl,rfl⟩
theorem HQ:∀(n:Nat) (f:Int),(0≤f∧f<2 ^ 60)→D3 Tryz.prog 42 [.p (I (n:Nat)),.p (I f)] (.p (.lst (Av (CS n f)))):=fun n f h=>by have:=Wq n f h.2;rwa [Yy h.1] at this
theorem To:∀(f:Fam) (s:Int) (xs:List Tm),(0≤f.levels∧f.levels≤8)→(f.params.length≤1000)→(0≤s∧s≤1000000)→(xs.length≤1000000)→D3 Tryz.prog 45 [.agg ((Bu f).map .p),.p (I s),.p (.lst (Av xs))] (.agg ((Bc (apply (apply (Co f.name f.levels) (CS f.params.length s)) xs)).map .p)):=by
 intro f s xs h1 h2 h3 h4;refine A1 Tryz.func45 O lE (n:=20) O O (Ay (BE O (BT O) fun b3=>BE O (A7 Bq O) fun b6=>Bo O (As (CK (fun k=>false) Eb (BG O (fun _=>A3 E9 O O) Ap (Cj (j:=1) O O O (fun H i hi=>A6 (i:=i) S3 O hi (Ip _)) AB Ap (BG O (fun _=>A3 E9 O O) Ap (Cj (j:=1) O O O (fun H i hi=>A6 (i:=i) Hd O hi (DJ _)) AB Ap (BG O (fun _=>BB O O (Tk f.name f.levels h1) O) Ap (BG O (fun _=>A3 E9 O O) Ap (Cj (j:=1) O O O (fun H i hi=>A6 (i:=i) DD O hi (Cf _)) AB Ap (BG O (fun _=>BH BY O (BD _)) Ap (BG O (fun _=>Bm O) Ap (BG O (fun _=>BB O O (HQ f.params.length s An) O) Ap ?_))))))))))))));refine BG O (fun _=>BB O O (FF (Co f.name f.levels) (CS f.params.length s) (Nat.lt_of_le_of_lt (H9 _ _) AW)) O) Ap (BG O (fun _=>Bm O) Ap (BG O (fun _=>BB O O (FF (apply (Co f.name f.levels) (CS f.params.length s)) xs AW) O) Ap (CE Az 1 [0,1] O (A4 (⟨O,_,_,⟨_,_,O,(BO (i:=0) Bx O O Ad),O⟩,(List.nil_sublist _),?_⟩)))))
 all_goals exact⟨rfl,rfl⟩
theorem X1:∀(t:Tm) (by' fr:Int),(Nd t)→(size t<1000000)→(0≤by'∧by'≤65536)→(0≤fr∧fr≤65536)→D3 Tryz.prog 93 [.agg ((Bc t).map .p),.p (I by'),.p (I fr)] (.tup [.agg ((Bc (B9 by' fr t)).map .p),.p (I ((CP by' fr 0 0 t).2))]):=by
 intro t by' fr h1 h2 h3 h4
 refine A1 Tryz.func93 O kK (n:=40) O O (Ay (BE O (BT O) fun b3=>BE O (A7 Bq O) fun b6=>Aq Az 1 [] O (As (As (Bj [1,2,3,6] 19 (fun y=>y= .p (.bool (((decide ((fr:Int)<(0:Int)))||(decide ((by':Int)<(-65536:Int))))||(decide ((by':Int) > (65536:Int)))))) ?_ ?_)))))
 ·refine Ax (A0 Az 3 [] O (BS 12 O (fun g=>?_) (fun g=>?_)))
  ·(try simp only[sd,se] at g);exact Aq Az 7 [] O (⟨O,O,AK,AH,⟨O,O,O,O,Ap⟩⟩)
  (try simp only[sd,se] at g);refine A0 Az 4 [] O (BS 16 O (fun g1=>?_) (fun g1=>?_))
  ·(try simp only[sd,se] at g1);exact Aq Az 3 [] O (⟨O,O,AK,AH,⟨O,O,O,O,Ap⟩⟩)
  (try simp only[sd,se] at g1);exact Aq Az 3 [] O (⟨O,O,AK,AH,⟨O,O,O,O,Ap⟩⟩)
 rintro _ rfl;refine A2 O (fun c=>?_) (fun c=>?_)
 ·(try simp only[sd,se] at c);refine Au Az 3 [0,0] O (BU (CB (i:=0) O) (A4 (⟨O,_,_,⟨_,_,O,(BO (i:=0) Bx O O O),⟨_,_,O,O,O⟩⟩,(List.nil_sublist _),?_⟩)))
  all_goals exact⟨by show (.tup [.agg [.p (I 0),.p (I 0),.p (.str ⟨#[]⟩),.p (.lst []),.p (.lst [])],.p (I 2)]:AV)=_;exfalso;omega,rfl⟩
 (try simp only[sd,se] at c);refine A5 (Ay (Ar O (CC eb fG O) (BE O (BT O) fun b22=>Aq Az 1 [] O (Ay (A0 Az 4 [2] O (Ar O (ZQ O O) (Ar O (Cg [0] O (.inl ⟨O,O,O⟩) (ZT _ t b22 by' (min (fr:Int) (65536:Int)) 0 0 0 (Nat.le_refl _) h1 An An) ⟨_,_,rfl,rfl,rfl⟩ Am rfl (.inl rfl)) (BE O (A7 Bq O) fun b9=>Aq Az 1 [0,1] O (As (Au Az 5 [1] O (A2 O (fun c1=>?_) (fun c1=>?_))))))))))))
 ·(try simp only[sd,se] at c1);refine As (CK (fun k=>false) Eb (CE Az 7 [1,2,0] O (BU (CB (i:=2) O) (A4 (⟨O,_,_,⟨_,_,O,(BO (i:=2) Bx O O O),⟨_,_,O,O,O⟩⟩,(List.nil_sublist _),?_⟩)))))
  all_goals exact⟨by show (.tup [.agg [.p (I 0),.p (I 0),.p (.str ⟨#[]⟩),.p (.lst []),.p (.lst [])],.p (I ((CP by' (min (fr:Int) (65536:Int)) 0 0 t).2))]:AV)=_;rw[show min fr 65536=fr by omega] at c1 ⊢;rw[B9,if_pos c1];rfl,rfl⟩
 (try simp only[sd,se] at c1);refine A5 (Au Az 3 [0,2,1] O (A4 (⟨O,_,_,⟨_,_,O,(BO (i:=2) Bx O O Ad),⟨_,_,O,O,O⟩⟩,(List.nil_sublist _),?_⟩)))
 all_goals exact⟨by show (.tup [.agg ((Bc ((CP by' (min (fr:Int) (65536:Int)) 0 0 t).1)).map .p),.p (I 0)]:AV)=_;rw[show min fr 65536=fr by omega] at c1 ⊢;rw[B9,if_neg (fun h=>h c1),c1],rfl⟩
theorem GJ:∀(t:Tm) (by' fr:Int),(Nd t)→(size t<1000000)→(0≤by'∧by'≤65536)→(0≤fr∧fr≤65536)→D3 Tryz.prog 40 [.agg ((Bc t).map .p),.p (I by'),.p (I fr)] (.agg ((Bc (B9 by' fr t)).map .p)):=by
 intro t by' fr h1 h2 h3 h4
 refine A1 Tryz.func40 O jv (n:=17) O O (Ay (BE O (BT O) fun b3=>BE O (A7 Bq O) fun b6=>Bo O (Ay (A0 Az 3 [1] O (Ar O (BB O O (X1 t by' fr h1 h2 h3 h4) rfl) (A0 Az 3 [] O (BE O (A7 Bq O) fun b7=>Aq Az 2 [0,1] O (Au Az 2 [0,1,1] O (A4 (⟨O,_,_,⟨_,_,O,(BO (i:=1) Bx O O Ad),O⟩,(List.nil_sublist _),?_⟩))))))))))
 all_goals exact⟨rfl,rfl⟩
theorem QQ:∀(i:Int),D3 Tryz.prog 38 [.p (I i)] (.agg ((Bc (BP i)).map .p)):=by
 intro i;refine A1 Tryz.func38 O kj (n:=5) O O (Ay (BE O (A7 Bq O) fun b2=>Bo O (Au Az 3 [0,0] O (BU (CB (i:=0) O) (A4 (⟨O,_,_,⟨_,_,O,(BO (i:=0) Bx O O O),O⟩,(List.nil_sublist _),?_⟩))))))
 all_goals exact⟨rfl,rfl⟩
theorem Sv:∀(k:E6) (s:Int),(dL k.fields)→(k.fields.length≤1000)→(0≤s∧s≤60000)→Br Tryz.prog 36 [.agg ((Ca k).map .p),.p (I s)] [] (Yj (fun v=>v) 5 (Av (DL (fun i t=>B9 s i t) 0 k.fields))):=by
 intro k s h1 h2 h3;refine A1 Tryz.func36 O lD (n:=26) O O (Ay (BE O (BT O) fun b2=>Aq Az 1 [] O (Ay (Iw O (B7 (DZ (t:=5) (sz:=5) O) (Bo O (As (Au Az 1 [] O (BA (Bh (α:=Nat×Option Nat×Nat) (fun(i,o,cp)=>⟨26,mk [(1,.p (I s)),(2,.ptr b2 0),(5,.vs o (Av (DL (fun i t=>B9 s i t) 0 (k.fields.take i))).length cp),(6,.p (I (i:Int)))],[.vec o 5 (Av (DL (fun i t=>B9 s i t) 0 (k.fields.take i))) cp,.box b2 ((Ca k).map .p)],[]⟩) (fun(i,o,cp)=>k.fields.length - i) (fun(i,o,cp)=>i≤k.fields.length) ⟨0,none,0⟩ AO ?_ ?_))))))))))
 ·exact BZ ⟨we O,we O,we (DM [] (by simp[DL])),we O,Ap⟩ (leH (is:=[0,1]) O (wl (C5 [] (by simp[DL])) (wl (oe O) (DF))))
 rintro⟨i,o,cp⟩ hC
 try simp only at hC
 have hi:=hC;refine As (Ay (A0 Az 2 [] O (Ar O (A6 (i:=1) DD O O (DU _)) (Ar O (BH BY O (BD _)) (Aq Az 1 [] O (A2 O (fun c=>?_) (fun c=>?_)))))))
 ·(try simp only[sd,se] at c);refine A5 (As (BA (Ax (A0 Az 2 [] O (Ar O (A6 (i:=1) DD O O (DU _)) (CA O ?_))))));obtain⟨x,hx⟩:=A9 (l:=k.fields) (i:=i) An;refine Ar O (BC BY O O An (B0 hx) (BF _)) (A0 Az 3 [] O (Ar O (BB O O (GJ x s (i:Int) (h1 x (List.mem_of_getElem? hx)).1 (h1 x (List.mem_of_getElem? hx)).2.2 An An) O) (Ar O (Ba (rows:=Av [(B9 s (i:Int) x)]) BY Bq O O O O (By (Bn _)) (ED _)) (Dp O O (B3 (i:=0) (rows':=Av [(B9 s (i:Int) x)]) BY BY Bq O O O O O O (Bn _) (by simp[BD,Fq];omega) (Fe (DL (fun i t=>B9 s i t) 0 (k.fields.take i)) [(B9 s (i:Int) x)])) fun o1 cp1=>Aq Az 1 [] O (Ax (Aq Az 3 [] O ?_))))));refine⟨⟨i+1,o1,cp1⟩,AQ,by omega,BZ ⟨we rfl,we rfl,we (DM (DL (fun i t=>B9 s i t) 0 (k.fields.take i)++[(B9 s (i:Int) x)]) (by rw[Jh hx])),we rfl,trivial⟩ (leH (is:=[0,1]) rfl (wl (C5 (DL (fun i t=>B9 s i t) 0 (k.fields.take i)++[(B9 s (i:Int) x)]) (by rw[Jh hx])) (wl (oe rfl) (DF))))⟩
 (try simp only[sd,se] at c);refine Bk (Au Az 2 [] O (A4 (⟨O,_,_,⟨_,_,O,O,O⟩,(Dn (is:=[0]) O),?_⟩)));rw[show i=k.fields.length by omega,List.take_length]
 all_goals exact⟨_,_,rfl,rfl⟩
theorem Tj:∀(f:Fam) (large:Bool),(0≤f.levels∧f.levels≤8)→(f.params.length≤1000)→(f.indices.length≤1000)→(large=true→f.levels<8)→D3 Tryz.prog 12 [.agg ((Bu f).map .p),.p (.bool large)] (.agg ((Bc (Ta f large)).map .p)):=by
 intro f large h1 h2 h3 h4;refine A1 Tryz.func12 O j7 (n:=35) O O (Ay (BE O (BT O) fun b2=>BE O (A7 Bq O) fun b4=>Bo O (Ay (Ar O (CC KO Bq O) (BE O (A7 Bq O) fun b5=>Aq Az 1 [0,0] O (As (Au Az 1 [] O (A2 O (fun c=>?_) (fun c=>?_)))))))))
 ·(try simp only[sd,se] at c);have hlv:=h4 c;subst c;refine Ay (Ar O (A3 E9 O O) (Ar O (A6 (i:=2) Hd O O (DJ _)) (Ar O (EK O O An An) (Ar O (BB O O (KL ((f.levels:Int)+(1:Int)) An) O) (Aq Az 1 [] O (Ax (A0 Az 2 [] O (Ar O (A6 (i:=2) Hd O O (DJ _)) (Ar O (CX (lo:=(f.levels:Int).toNat) E1 O (By (Fi _)) ⟨_,pI An⟩ O (by simp[Ce];omega) (Nat.le_refl _) (N5 (f:=B6) (Ce ((f.levels:Int)+(1:Int))) ((f.levels:Int).toNat))) (Aq Az 2 [0,0] O (Ay (Ar O (A3 E9 O O) (Ar O (A6 (i:=2) DD O O (Dv _)) (Ar O (BH BY O (BD _)) (Aq Az 1 [] O (As ?_))))))))))))))));refine D8 [.val (.agg ((Bu f).map .p)),.val (.p (I (f.indices.length:Nat))),.val (.p (I (f.indices.length:Nat))),.val (.p (.lst (Av (CS f.indices.length 0)))),.val (.agg ((Bc (apply (apply (Co f.name f.levels) (CS f.params.length (f.indices.length:Nat))) (CS f.indices.length 0))).map .p)),.new [.p (I 0),.p (I 0),.p (.str ⟨#[]⟩),.p (.nils),.p (.nils)]] Eb O Ai Ai (BN O (fun Bs=>BR (i:=Bs.length+2) Gc O (CL O) AZ) (BN O (fun Bs=>Bm O) (BN O (fun Bs=>Bm O) (BN O (fun Bs=>BB O O (HQ f.indices.length 0 An) O) (BN O (fun Bs=>BB O O (To f (f.indices.length:Nat) (CS f.indices.length 0) h1 h2 An (Nat.le_trans (H9 _ _) An)) O) (FB O (fun Bs=>A7 Bq O) fun b8=>FD ?_))))))
  change AL _ _ _ 6 ⟨35,_,[.box b8 [.p (I 0),.p (I 0),.p (.str ⟨#[]⟩),.p (.nils),.p (.nils)],.box b5 [.p (I 2),.p (I 0),.p (.str ⟨#[]⟩),.p (.lst (List.map B6 ((Ce ((f.levels:Int)+(1:Int))).drop ((f.levels:Int).toNat)))),.p (.nils)],.box b4 [.p (I 0),.p (I 0),.p (.str ⟨#[]⟩),.p (.nils),.p (.nils)],.box b2 ((Bu f).map .p)],[]⟩ _
  refine Aq Az 1 [0,1] O (Ay (Ar O (A3 E9 O O) (Ar O (A6 (i:=3) DD O O (Dv _)) (A0 Az 2 [0,1] O ?_))));generalize hz:apply (apply (Co f.name f.levels) (CS f.params.length (f.indices.length:Nat))) (CS f.indices.length 0)=z;obtain⟨zk,zi,zn,zl,zs⟩:=z;refine Ar O (Bz BY Bq O O O O O) (Ar O (CC KO Bq O) (Ar O (EN O O (Nf f.indices (.mk 6 0 ⟨#[]⟩ [] ([(.mk zk zi zn zl zs:Tm),(.mk 2 0 ⟨#[]⟩ ((Ce ((f.levels:Int)+(1:Int))).drop ((f.levels:Int).toNat)) []:Tm)]):Tm) AW) (aw (we O) (aw (Du O) (FE)))) (Aq Az 1 [2,1] O (A4 (⟨O,_,_,⟨_,_,O,(BO (i:=2) Bx O O Ad),O⟩,(List.nil_sublist _),?_⟩)))))
  all_goals exact⟨by show (.agg ((Bc (Bw 6 f.indices (.mk 6 0 ⟨#[]⟩ [] ([(.mk zk zi zn zl zs:Tm),(.mk 2 0 ⟨#[]⟩ ((Ce ((f.levels:Int)+(1:Int))).drop ((f.levels:Int).toNat)) []:Tm)]):Tm))).map .p):AV)=_;rw[Vr h1.1,←hz];rfl,rfl⟩
 (try simp only[sd,se] at c);obtain rfl:large=false:=by simpa using c
 refine A5 (Ay (Ar O (A3 E9 O O) (Ar O (A6 (i:=2) DD O O (Dv _)) (Ar O (BH BY O (BD _)) (Aq Az 1 [] O (As (D8 [.val (.agg ((Bu f).map .p)),.val (.p (I (f.indices.length:Nat))),.val (.p (I (f.indices.length:Nat))),.val (.p (.lst (Av (CS f.indices.length 0)))),.val (.agg ((Bc (apply (apply (Co f.name f.levels) (CS f.params.length (f.indices.length:Nat))) (CS f.indices.length 0))).map .p)),.new [.p (I 0),.p (I 0),.p (.str ⟨#[]⟩),.p (.nils),.p (.nils)]] Eb O Ai Ai (BN O (fun Bs=>BR (i:=Bs.length+2) Gc O (CL O) AZ) (BN O (fun Bs=>Bm O) (BN O (fun Bs=>Bm O) (BN O (fun Bs=>BB O O (HQ f.indices.length 0 An) O) ?_)))))))))));refine BN O (fun Bs=>BB O O (To f (f.indices.length:Nat) (CS f.indices.length 0) h1 h2 An (Nat.le_trans (H9 _ _) An)) O) (FB O (fun Bs=>A7 Bq O) fun b8=>FD ?_)
 change AL _ _ _ 6 ⟨35,_,[.box b8 [.p (I 0),.p (I 0),.p (.str ⟨#[]⟩),.p (.nils),.p (.nils)],.box b5 [.p (I 1),.p (I 0),.p (.str ⟨#[]⟩),.p (.nils),.p (.nils)],.box b4 [.p (I 0),.p (I 0),.p (.str ⟨#[]⟩),.p (.nils),.p (.nils)],.box b2 ((Bu f).map .p)],[]⟩ _
 refine Aq Az 1 [0,1] O (Ay (Ar O (A3 E9 O O) (Ar O (A6 (i:=3) DD O O (Dv _)) (A0 Az 2 [0,1] O ?_))));generalize hz:apply (apply (Co f.name f.levels) (CS f.params.length (f.indices.length:Nat))) (CS f.indices.length 0)=z;obtain⟨zk,zi,zn,zl,zs⟩:=z;refine Ar O (Bz BY Bq O O O O O) (Ar O (CC KO Bq O) (Ar O (EN O O (Nf f.indices (.mk 6 0 ⟨#[]⟩ [] ([(.mk zk zi zn zl zs:Tm),(.mk 1 0 ⟨#[]⟩ [] []:Tm)]):Tm) AW) (aw (we O) (aw (Du O) (FE)))) (Aq Az 1 [2,1] O (A4 (⟨O,_,_,⟨_,_,O,(BO (i:=2) Bx O O Ad),O⟩,(List.nil_sublist _),?_⟩)))))
 all_goals exact⟨by show (.agg ((Bc (Bw 6 f.indices (.mk 6 0 ⟨#[]⟩ [] ([(.mk zk zi zn zl zs:Tm),(.mk 1 0 ⟨#[]⟩ [] []:Tm)]):Tm))).map .p):AV)=_;rw[←hz];rfl,rfl⟩
set_option maxHeartbeats 2000000 in
theorem U3:∀(k:E6) (r:Rfl) (s q:Int),(dL r.args)→(dL r.results)→(r.args.length≤1000)→(r.results.length≤1000)→(k.fields.length≤1000)→(0≤r.field∧r.field<k.fields.length)→(0≤s∧s≤60000)→(0≤q∧q≤1000)→D3 Tryz.prog 37 [.agg ((Ca k).map .p),.agg ((Cu r).map .p),.p (I s),.p (I q)] (.agg ((IX (D6 k.fields.length r s q)).map .p)):=by
 intro k r s q h1 h2 h3 h4 h5 h6 h7 h8;refine A1 Tryz.func37 O jf (n:=86) O O (Ay (BE O (BT O) fun b4=>BE O (BT O) fun b5=>BE O (A7 Y2 O) fun b8=>Bo O (Ay (Ar O (A3 XK O O) (Ar O (A6 (i:=1) DD O O (Ie _)) (Ar O (BH BY O (BD _)) (Aq Az 1 [] O (Ay (Ar O (A3 Nq O O) (Ar O (A6 (i:=2) DD O O (DU _)) (Ar O (BH BY O (BD _)) (Ar O (A3 XK O O) (Ar O (A6 (i:=1) Hd O O (EZ _)) (Aq Az 4 [] O (Ay (Ar O (CC ZH Y2 O) (BE O (A7 Y2 O) fun b11=>Aq Az 1 [0,0] O (As (Ay (B7 (Ew (i:=0) O (Mx (aw (E3) (aw (we O) (aw (we O) (aw (we O) (aw (we O) (aw (we O) (aw (we O) (FE)))))))))) ?_))))))))))))))))))));refine B7 (EM (sz:=5)) (B7 (Ew (i:=1) O (Mx (aw (we O) (aw (E3) (aw (we O) (aw (we O) (aw (we O) (aw (we O) (aw (we O) (FE)))))))))) (B7 (EM (sz:=5)) (Aq Az 1 [] O (BA ?_))));refine Bh (α:=Nat×Option Nat×Nat) (fun(i,o,cp)=>⟨86,mk [(2,.p (I s)),(5,.ptr b5 0),(8,.ptr b8 0),(9,.p (I (r.args.length:Nat))),(10,.p (I ((((k.fields.length:Nat):Int) - (r.field:Int):Int)+(q:Int)))),(11,.ptr b11 0),(12,.p (I (i:Int)))],[.vec none 5 (Av []) 0,.vec o 5 (Av (DL (fun i t=>B9 ((k.fields.length:Nat) - r.field+q:Int) i (B9 s (r.field+i) t)) 0 (r.args.take i))) cp,.box b11 [.vs o (Av (DL (fun i t=>B9 ((k.fields.length:Nat) - r.field+q:Int) i (B9 s (r.field+i) t)) 0 (r.args.take i))).length cp,.vs none (Av []).length 0,.p (I 0),.p (I 0),.p (.str ⟨#[]⟩),.p (.nils),.p (.nils)],.box b8 [.p (.nils),.p (.nils),.p (I 0),.p (I 0),.p (.str ⟨#[]⟩),.p (.nils),.p (.nils)],.box b5 ((Cu r).map .p)],[]⟩) (fun(i,o,cp)=>r.args.length - i) (fun(i,o,cp)=>i≤r.args.length) ⟨0,none,0⟩ AO ?_ ?_
 ·exact BZ ⟨we O,we O,we O,we O,we O,we O,we O,Ap⟩ (leH (is:=[0,1,2,3,4]) O (wl (oe O) (wl (C5 [] (by simp[DL])) (wl (Mx (aw (we (DM [] (by simp[DL]))) (aw (we O) (aw (we O) (aw (we O) (aw (we O) (aw (we O) (aw (we O) (FE))))))))) (wl (oe O) (wl (oe O) (DF)))))))
 rintro⟨i,o,cp⟩ hC
 try simp only at hC
 have hi:=hC;refine As (Au Az 3 [] O (A2 O (fun c=>?_) (fun c=>?_)))
 ·(try simp only[sd,se] at c);refine A5 (As (BA (CK (fun k=>Nat.beq k 17) Eb (Bf Az 3 [2] O (Cj (j:=4) O O O (fun H i hi=>A6 (i:=i) DD O hi (Ie _)) AB Ap (BG O (fun _=>Bm O) Ap ?_))))));obtain⟨x,hx⟩:=A9 (l:=r.args) (i:=i) An;refine BG O (fun _=>BC BY O O An (B0 hx) (BF _)) Ap (Bf Az 3 [] O (Cj (j:=4) O O O (fun H i hi=>A6 (i:=i) Hd O hi (EZ _)) AB Ap (Bf Az 2 [] O (BG O (fun _=>BB O O (GJ x s ((r.field:Int)+((i:Int):Int)) (h1 x (List.mem_of_getElem? hx)).1 (h1 x (List.mem_of_getElem? hx)).2.2 An An) O) Ap (Bf Az 2 [] O (BG O (fun _=>BB O O (GJ (B9 s ((r.field:Int)+((i:Int):Int)) x) ((((k.fields.length:Nat):Int) - (r.field:Int):Int)+(q:Int)) (i:Int) (Qb (h1 x (List.mem_of_getElem? hx)).1) (QB (h1 x (List.mem_of_getElem? hx)).2.1 (h1 x (List.mem_of_getElem? hx)).2.2) An An) O) Ap ?_))))));refine BG O (fun _=>Ba (rows:=Av [(B9 ((((k.fields.length:Nat):Int) - (r.field:Int):Int)+(q:Int)) (i:Int) (B9 s ((r.field:Int)+((i:Int):Int)) x))]) BY Bq O O O O (By (Bn _)) (ED _)) Ap (Mm [] O O (B3 (i:=1) (rows':=Av [(B9 ((((k.fields.length:Nat):Int) - (r.field:Int):Int)+(q:Int)) (i:Int) (B9 s ((r.field:Int)+((i:Int):Int)) x))]) BY BY Bq O O O O O O (Bn _) (by simp[BD,Fq];omega) (Fe (DL (fun i t=>B9 ((k.fields.length:Nat) - r.field+q:Int) i (B9 s (r.field+i) t)) 0 (r.args.take i)) [(B9 ((((k.fields.length:Nat):Int) - (r.field:Int):Int)+(q:Int)) (i:Int) (B9 s ((r.field:Int)+((i:Int):Int)) x))])) (fun h=>absurd (congrArg List.length h) Ac) O Ai fun b48 cp1=>⟨AB,Ap,?_⟩);refine CE Az 2 [2,0] O (Ax (Aq Az 3 [] O ?_))
  refine⟨⟨i+1,(some b48),cp1⟩,AQ,by omega,BZ ⟨we rfl,we rfl,we rfl,we rfl,we rfl,we rfl,we rfl,trivial⟩ (leH (is:=[0,1,2,3,4]) rfl (wl (oe rfl) (wl (C5 (DL (fun i t=>B9 ((k.fields.length:Nat) - r.field+q:Int) i (B9 s (r.field+i) t)) 0 (r.args.take i)++[(B9 ((((k.fields.length:Nat):Int) - (r.field:Int):Int)+(q:Int)) (i:Int) (B9 s ((r.field:Int)+((i:Int):Int)) x))]) (by rw[Jh hx])) (wl (Mx (aw (we (DM (DL (fun i t=>B9 ((k.fields.length:Nat) - r.field+q:Int) i (B9 s (r.field+i) t)) 0 (r.args.take i)++[(B9 ((((k.fields.length:Nat):Int) - (r.field:Int):Int)+(q:Int)) (i:Int) (B9 s ((r.field:Int)+((i:Int):Int)) x))]) (by rw[Jh hx]))) (aw (we rfl) (aw (we rfl) (aw (we rfl) (aw (we rfl) (aw (we rfl) (aw (we rfl) (FE))))))))) (wl (oe rfl) (wl (oe rfl) (DF)))))))⟩
 (try simp only[sd,se] at c);refine Bk (As (Au Az 1 [] O (BA ?_)));refine Bh (α:=Nat×Option Nat×Nat) (fun(i2,o1,cp1)=>⟨86,mk [(2,.p (I s)),(5,.ptr b5 0),(8,.ptr b8 0),(9,.p (I (r.args.length:Nat))),(10,.p (I ((((k.fields.length:Nat):Int) - (r.field:Int):Int)+(q:Int)))),(11,.ptr b11 0),(13,.p (I (i2:Int)))],[.vec o1 5 (Av ((r.results.take i2).map (fun t=>B9 ((k.fields.length:Nat) - r.field+q:Int) (r.args.length:Nat) (B9 s (r.field+(r.args.length:Nat)) t)))) cp1,.vec o 5 (Av (DL (fun i t=>B9 ((k.fields.length:Nat) - r.field+q:Int) i (B9 s (r.field+i) t)) 0 (r.args.take i))) cp,.box b11 [.vs o (Av (DL (fun i t=>B9 ((k.fields.length:Nat) - r.field+q:Int) i (B9 s (r.field+i) t)) 0 (r.args.take i))).length cp,.vs o1 (Av ((r.results.take i2).map (fun t=>B9 ((k.fields.length:Nat) - r.field+q:Int) (r.args.length:Nat) (B9 s (r.field+(r.args.length:Nat)) t)))).length cp1,.p (I 0),.p (I 0),.p (.str ⟨#[]⟩),.p (.nils),.p (.nils)],.box b8 [.p (.nils),.p (.nils),.p (I 0),.p (I 0),.p (.str ⟨#[]⟩),.p (.nils),.p (.nils)],.box b5 ((Cu r).map .p)],[]⟩) (fun(i2,o1,cp1)=>r.results.length - i2) (fun(i2,o1,cp1)=>i2≤r.results.length) ⟨0,none,0⟩ AO ?_ ?_
 ·exact BZ ⟨we O,we O,we O,we O,we O,we O,we O,Ap⟩ (leH (is:=[0,1,2,3,4]) O (wl (C5 [] Ao) (wl (oe O) (wl (Mx (aw (we O) (aw (we (DM [] Ao)) (aw (we O) (aw (we O) (aw (we O) (aw (we O) (aw (we O) (FE))))))))) (wl (oe O) (wl (oe O) (DF)))))))
 rintro⟨i2,o1,cp1⟩ hC1
 try simp only at hC1
 have hi:=hC1;refine As (Ay (A0 Az 2 [] O (Ar O (A6 (i:=4) DD O O (Gq _)) (Ar O (BH BY O (BD _)) (Aq Az 1 [] O (A2 O (fun c1=>?_) (fun c1=>?_)))))))
 ·(try simp only[sd,se] at c1);refine A5 (As (BA (CK (fun k=>Nat.beq k 17) Eb (Bf Az 3 [2] O (Cj (j:=4) O O O (fun H i hi=>A6 (i:=i) DD O hi (Gq _)) AB Ap (BG O (fun _=>Bm O) Ap ?_))))));obtain⟨x,hx⟩:=A9 (l:=r.results) (i:=i2) An;refine BG O (fun _=>BC BY O O An (B0 hx) (BF _)) Ap (Bf Az 3 [] O (Cj (j:=4) O O O (fun H i hi=>A6 (i:=i) Hd O hi (EZ _)) AB Ap (Bf Az 2 [] O (BG O (fun _=>BB O O (GJ x s ((r.field:Int)+((r.args.length:Nat):Int)) (h2 x (List.mem_of_getElem? hx)).1 (h2 x (List.mem_of_getElem? hx)).2.2 An An) O) Ap (Bf Az 2 [] O (BG O (fun _=>BB O O (GJ (B9 s ((r.field:Int)+((r.args.length:Nat):Int)) x) ((((k.fields.length:Nat):Int) - (r.field:Int):Int)+(q:Int)) (r.args.length:Nat) (Qb (h2 x (List.mem_of_getElem? hx)).1) (QB (h2 x (List.mem_of_getElem? hx)).2.1 (h2 x (List.mem_of_getElem? hx)).2.2) An An) O) Ap ?_))))));refine BG O (fun _=>Ba (rows:=Av [(B9 ((((k.fields.length:Nat):Int) - (r.field:Int):Int)+(q:Int)) (r.args.length:Nat) (B9 s ((r.field:Int)+((r.args.length:Nat):Int)) x))]) BY Bq O O O O (By (Bn _)) (ED _)) Ap ?_;refine Mm [] O O (B3 (i:=0) (rows':=Av [(B9 ((((k.fields.length:Nat):Int) - (r.field:Int):Int)+(q:Int)) (r.args.length:Nat) (B9 s ((r.field:Int)+((r.args.length:Nat):Int)) x))]) BY BY Bq O O O O O O (Bn _) (by simp[BD,Fq];omega) (Fe ((r.results.take i2).map (fun t=>B9 ((k.fields.length:Nat) - r.field+q:Int) (r.args.length:Nat) (B9 s (r.field+(r.args.length:Nat)) t))) [(B9 ((((k.fields.length:Nat):Int) - (r.field:Int):Int)+(q:Int)) (r.args.length:Nat) (B9 s ((r.field:Int)+((r.args.length:Nat):Int)) x))])) (fun h=>absurd (congrArg List.length h) Ac) O Ai fun b74 cp2=>⟨AB,Ap,?_⟩;refine CE Az 2 [2,0] O (Ax (Aq Az 3 [] O ?_))
  refine⟨⟨i2+1,(some b74),cp2⟩,AQ,by omega,BZ ⟨we rfl,we rfl,we rfl,we rfl,we rfl,we rfl,we rfl,trivial⟩ (leH (is:=[0,1,2,3,4]) rfl (wl (C5 ((r.results.take i2).map (fun t=>B9 ((k.fields.length:Nat) - r.field+q:Int) (r.args.length:Nat) (B9 s (r.field+(r.args.length:Nat)) t))++[(B9 ((((k.fields.length:Nat):Int) - (r.field:Int):Int)+(q:Int)) (r.args.length:Nat) (B9 s ((r.field:Int)+((r.args.length:Nat):Int)) x))]) (by rw[List.take_add_one,hx,Option.toList_some,List.map_append];rfl)) (wl (oe rfl) (wl (Mx (aw (we rfl) (aw (we (DM ((r.results.take i2).map (fun t=>B9 ((k.fields.length:Nat) - r.field+q:Int) (r.args.length:Nat) (B9 s (r.field+(r.args.length:Nat)) t))++[(B9 ((((k.fields.length:Nat):Int) - (r.field:Int):Int)+(q:Int)) (r.args.length:Nat) (B9 s ((r.field:Int)+((r.args.length:Nat):Int)) x))]) (by rw[List.take_add_one,hx,Option.toList_some,List.map_append];rfl))) (aw (we rfl) (aw (we rfl) (aw (we rfl) (aw (we rfl) (aw (we rfl) (FE))))))))) (wl (oe rfl) (wl (oe rfl) (DF)))))))⟩
 (try simp only[sd,se] at c1);refine Bk (Ay (A0 Az 4 [] O (Ar O (BB O O (QQ ((((r.args.length:Nat):Int)+((((k.fields.length:Nat):Int) - (r.field:Int):Int)+(q:Int):Int):Int) - (1:Int))) O) (CA O (Ar O (BB O O (HQ r.args.length 0 An) O) (Ar O (BB O O (FF (BP ((((r.args.length:Nat):Int)+((((k.fields.length:Nat):Int) - (r.field:Int):Int)+(q:Int):Int):Int) - (1:Int))) (CS r.args.length 0) (Nat.lt_of_le_of_lt (H9 _ _) AW)) O) (Ar O (A3 ZH O O) ?_)))))));generalize hz:(apply (BP ((((r.args.length:Nat):Int)+((((k.fields.length:Nat):Int) - (r.field:Int):Int)+(q:Int):Int):Int) - (1:Int))) (CS r.args.length 0))=z;obtain⟨zk,zi,zn,zl,zs⟩:=z;refine Aq Az 1 [2,0] O (Ay (B7 (CR (i:=1) (j:=2) (q:=0) [] O O O (C6 Ap)) (B7 (CR (i:=0) (j:=1) (q:=1) [] O O O (C6 Ap)) (Aq Az 2 [0,1,0] O (A4 (⟨O,_,_,⟨_,_,O,(BO (i:=1) gw O O O),O⟩,(List.nil_sublist _),?_⟩))))))
 all_goals exact⟨by show (.agg [.p (.lst (Av (DL (fun i t=>B9 ((k.fields.length:Nat) - r.field+q:Int) i (B9 s (r.field+i) t)) 0 (r.args.take i)))),.p (.lst (Av ((r.results.take i2).map (fun t=>B9 ((k.fields.length:Nat) - r.field+q:Int) (r.args.length:Nat) (B9 s (r.field+(r.args.length:Nat)) t))))),.p (I zk),.p (I zi),.p (.str zn),.p (.lst (List.map B6 zl)),.p (.lst (Av zs))]:AV)=_;rw[show i=r.args.length by omega,show i2=r.results.length by omega,List.take_length,List.take_length];unfold D6;rw[hz];rfl,rfl⟩
set_option maxHeartbeats 4000000 in
theorem VR:∀(f:Fam) (j:Int) (k:E6),(0≤f.levels∧f.levels≤8)→(f.params.length≤1000)→(ib k)→(0≤j∧j≤1000)→(f.ctors[j.toNat]?=some k)→D3 Tryz.prog 9 [.agg ((Bu f).map .p),.p (I j)] (.tup [.agg ((Bc (WV f k j)).map .p),.p (I 0)]):=by
 intro f j k h1 h2 h3 h4 h5;have hjl:=(List.getElem?_eq_some_iff.1 h5).1;have hlf:=h3.lf;have hlc:=h3.lc;have hlr:=h3.lr;refine A1 Tryz.func9 O mM (n:=140) O O (Ay (BE O (BT O) fun b2=>BE O (A7 Bq O) fun b4=>Aq Az 1 [] O (As (As (Bj [1,2,4] 27 (fun y=>y= .p (.bool ((decide ((j:Int)<(0:Int)))||(decide ((j:Int)≥((f.ctors.length:Nat):Int)))))) ?_ ?_)))))
 ·refine Ax (A0 Az 3 [] O (BS 21 O (fun g=>?_) (fun g=>?_)))
  ·(try simp only[sd,se] at g);exact Aq Az 6 [] O (⟨O,O,AK,AH,⟨O,O,O,Ap⟩⟩)
  (try simp only[sd,se] at g);exact A0 Az 2 [] O (BK O (A6 (i:=1) QI O O (DR _)) (BK O (BH KQ O (List.length_map _)) (Aq Az 2 [] O (⟨O,O,AK,AH,⟨O,O,O,Ap⟩⟩))))
 rintro _ rfl;refine A2 O (fun c=>?_) (fun c=>?_)
 ·(try simp only[sd,se] at c);exfalso;omega
 (try simp only[sd,se] at c);refine A5 (Ay (Ar O (A3 E9 O O) (Ar O (A6 (i:=1) QI O O (DR _)) (CA O (Ar O (BC KQ O O An (He h5) (Fk _)) (Ar O (Bg I0 O (Fk _)) (BE O (A7 Ls O) fun b6=>Ar O (CF (i:=0) I0 O O O Ab AS (K1 _)) (Bo O (As (CK (fun k=>false) Eb (BG O (fun _=>A3 E9 O O) Ap (Cj (j:=2) O O O (fun H i hi=>A6 (i:=i) DD O hi (Cf _)) AB Ap (BG O (fun _=>BH BY O (BD _)) Ap (BG O (fun _=>A3 Nq O O) Ap (Cj (j:=0) O O O (fun H i hi=>A6 (i:=i) DD O hi (DU _)) AB Ap (BG O (fun _=>BH BY O (BD _)) Ap (CE Az 5 [] O (Ay (Ar O (BR (i:=0) I0 O O Ab) (CA O ?_))))))))))))))))))));refine Xq O O O (.inl ⟨O,O,O⟩) (Sv k ((1:Int)+(j:Int)) h3.fs h3.lf An) (.inl O) fun o cp=>Aq Az 1 [] O (As (Au Az 1 [] O (BA ?_)));refine Bh (α:=Nat×Option Nat×Nat) (fun(i,o1,cp1)=>⟨140,mk [(1,.p (I j)),(2,.ptr b2 0),(4,.ptr b4 0),(6,.ptr b6 0),(7,.p (I (f.params.length:Nat))),(8,.p (I (k.fields.length:Nat))),(9,.p (I ((1:Int)+(j:Int)))),(10,.vs o1 (Av (DL (fun i t=>B9 (1+j) i t) 0 k.fields++EG k.fields.length j 0 (k.recs.take i))).length cp1),(11,.p (I (i:Int)))],[.vec o1 5 (Av (DL (fun i t=>B9 (1+j) i t) 0 k.fields++EG k.fields.length j 0 (k.recs.take i))) cp1,.box b6 ((Ca k).map .p),.box b4 [.p (I 0),.p (I 0),.p (.str ⟨#[]⟩),.p (.nils),.p (.nils)],.box b2 ((Bu f).map .p)],[]⟩) (fun(i,o1,cp1)=>k.recs.length - i) (fun(i,o1,cp1)=>i≤k.recs.length) ⟨0,o,cp⟩ AO ?_ ?_
 ·exact BZ ⟨we O,we O,we O,we O,we O,we O,we O,we (DM (DL (fun i t=>B9 ((1:Int)+(j:Int)) i t) 0 k.fields) (by simp[EG])),we O,Ap⟩ (leH (is:=[0,1,2,3]) O (wl (C5 (DL (fun i t=>B9 ((1:Int)+(j:Int)) i t) 0 k.fields) (by simp[EG])) (wl (oe O) (wl (oe O) (wl (oe O) (DF))))))
 rintro⟨i,o1,cp1⟩ hC
 try simp only at hC
 have hi:=hC;refine As (Ay (A0 Az 2 [] O (Ar O (A6 (i:=1) X4 O O (F8 _)) (Ar O (BH Ll O (List.length_map _)) (Aq Az 1 [] O (A2 O (fun c1=>?_) (fun c1=>?_)))))))
 ·(try simp only[sd,se] at c1);refine A5 (As (BA (As ?_)));obtain⟨x,hx⟩:=A9 (l:=k.recs) (i:=i) An;obtain⟨hr1,hr2,hr3,hr4,hr5,hr6⟩:=h3.rs x (List.mem_of_getElem? hx);refine D8 [.val (.agg ((Ca k).map .p)),.val (.ptr b6 (0+2)),.val (.p (.lst (List.map Cu k.recs))),.val (.p (I (i:Int))),.val (.ref (Cu x)),.val (.agg ((Cu x).map .p)),.val (.p (I ((1:Int)+(j:Int)))),.val (.p (I (i:Int))),.val (.agg ((IX (D6 k.fields.length x ((1:Int)+(j:Int)) (i:Int))).map .p)),.new [.p (.nils),.p (.nils),.p (I 0),.p (I 0),.p (.str ⟨#[]⟩),.p (.nils),.p (.nils)]] Eb O Ai Ai (BN O (fun Bs=>BR (i:=Bs.length+1) I0 O (CL O) Ab) (BN O (fun Bs=>A3 Nq O O) (BN O (fun Bs=>A6 (i:=Bs.length+1) X4 O (CL O) (F8 _)) (BN O (fun Bs=>Bm O) (BN O (fun Bs=>BC Ll O O An (He hx) (Dw _)) (BN O (fun Bs=>Bg TY O (Dw _)) (BN O (fun Bs=>Bm O) (BN O (fun Bs=>Bm O) ?_))))))));refine BN O (fun Bs=>BB O O (U3 k x ((1:Int)+(j:Int)) (i:Int) hr1 hr2 hr3 hr4 h3.lf ⟨hr5,hr6⟩ An An) O) (FB O (fun Bs=>A7 Y2 O) fun b12=>FD ?_)
  change AL _ _ _ 10 ⟨140,_,[.box b12 [.p (.nils),.p (.nils),.p (I 0),.p (I 0),.p (.str ⟨#[]⟩),.p (.nils),.p (.nils)],.vec o1 5 (Av (DL (fun i t=>B9 (1+j) i t) 0 k.fields++EG k.fields.length j 0 (k.recs.take i))) cp1,.box b6 ((Ca k).map .p),.box b4 [.p (I 0),.p (I 0),.p (.str ⟨#[]⟩),.p (.nils),.p (.nils)],.box b2 ((Bu f).map .p)],[]⟩ _
  refine Ar O (CF (i:=0) gw O O O (by simp[ON]) (by first | rfl | simp[ON]) (Zi _)) (Bo O (Ay (Ar O (A3 ZH O O) (Ar O (A6 (i:=0) DD O O (LG _)) (Ar O (BH BY O (BD _)) (Aq Az 1 [] O (Ay ?_)))))));have hra:(D6 k.fields.length x (1+j) (i:Int)).args.length≤1000:=by simp only[D6,Fq];exact hr3
  refine A0 Az 7 [] O (Ar O (BB O O (QQ (((((((D6 k.fields.length x ((1:Int)+(j:Int)) (i:Int)).args).length:Nat):Int)+((i:Int):Int):Int)+((k.fields.length:Nat):Int):Int)+(j:Int))) O) (BE O (A7 Bq O) fun b14=>Aq Az 1 [0,1] O (CK (fun k=>Nat.beq k 13) Eb (Bf Az 2 [] O (Cj (j:=1) O O O (fun H i hi=>A6 (i:=i) DD O hi (LG _)) AB Ap (Bf Az 2 [0] O (Cj (j:=1) O O O (fun H i hi=>A6 (i:=i) DD O hi (MZ _)) AB Ap ?_)))))));refine BG O (fun _=>BB O O (FF (BP (((((((D6 k.fields.length x ((1:Int)+(j:Int)) (i:Int)).args).length:Nat):Int)+((i:Int):Int):Int)+((k.fields.length:Nat):Int):Int)+(j:Int))) ((D6 k.fields.length x ((1:Int)+(j:Int)) (i:Int)).results) (by simp only[D6,List.length_map,Cb];omega)) O) Ap (BG O (fun _=>A3 ZH O O) Ap (Cj (j:=1) O O O (fun H i hi=>DW (i:=i) Bx O hi (MU _) (BF _)) AB Ap (BG O (fun _=>Ba (rows:=Av [((D6 k.fields.length x ((1:Int)+(j:Int)) (i:Int)).applied)]) BY Bq O O O O (By (Bn _)) (ED _)) Ap ?_)));refine BG O (fun _=>BB O O (FF (apply (BP (((((((D6 k.fields.length x ((1:Int)+(j:Int)) (i:Int)).args).length:Nat):Int)+((i:Int):Int):Int)+((k.fields.length:Nat):Int):Int)+(j:Int))) ((D6 k.fields.length x ((1:Int)+(j:Int)) (i:Int)).results)) [((D6 k.fields.length x ((1:Int)+(j:Int)) (i:Int)).applied)] (show (1:Nat)<Cb by decide)) rfl) trivial ?_;refine BG O (fun _=>BB O O (Nf ((D6 k.fields.length x ((1:Int)+(j:Int)) (i:Int)).args) (apply (apply (BP (((((((D6 k.fields.length x ((1:Int)+(j:Int)) (i:Int)).args).length:Nat):Int)+((i:Int):Int):Int)+((k.fields.length:Nat):Int):Int)+(j:Int))) ((D6 k.fields.length x ((1:Int)+(j:Int)) (i:Int)).results)) [((D6 k.fields.length x ((1:Int)+(j:Int)) (i:Int)).applied)]) (by simp only[D6,Fq,Cb];omega)) O) Ap ?_;refine BG O (fun _=>Ba (rows:=Av ([(Bw 6 ((D6 k.fields.length x ((1:Int)+(j:Int)) (i:Int)).args) (apply (apply (BP (((((((D6 k.fields.length x ((1:Int)+(j:Int)) (i:Int)).args).length:Nat):Int)+((i:Int):Int):Int)+((k.fields.length:Nat):Int):Int)+(j:Int))) ((D6 k.fields.length x ((1:Int)+(j:Int)) (i:Int)).results)) [((D6 k.fields.length x ((1:Int)+(j:Int)) (i:Int)).applied)]))])) BY Bq O O O O (By (Bn _)) (ED _)) Ap ?_
  refine Mm [] O O (B3 (i:=2) (rows':=Av ([(Bw 6 ((D6 k.fields.length x ((1:Int)+(j:Int)) (i:Int)).args) (apply (apply (BP (((((((D6 k.fields.length x ((1:Int)+(j:Int)) (i:Int)).args).length:Nat):Int)+((i:Int):Int):Int)+((k.fields.length:Nat):Int):Int)+(j:Int))) ((D6 k.fields.length x ((1:Int)+(j:Int)) (i:Int)).results)) [((D6 k.fields.length x ((1:Int)+(j:Int)) (i:Int)).applied)]))])) BY BY Bq O O O O O O (Bn _) (by simp[BD,Fq,Lk];omega) (Fe (DL (fun i t=>B9 (1+j) i t) 0 k.fields++EG k.fields.length j 0 (k.recs.take i)) ([(Bw 6 ((D6 k.fields.length x ((1:Int)+(j:Int)) (i:Int)).args) (apply (apply (BP (((((((D6 k.fields.length x ((1:Int)+(j:Int)) (i:Int)).args).length:Nat):Int)+((i:Int):Int):Int)+((k.fields.length:Nat):Int):Int)+(j:Int))) ((D6 k.fields.length x ((1:Int)+(j:Int)) (i:Int)).results)) [((D6 k.fields.length x ((1:Int)+(j:Int)) (i:Int)).applied)]))]))) (fun h=>absurd (congrArg List.length h) Ac) O Ai fun b85 cp2=>⟨AB,Ap,?_⟩;refine CE Az 1 [] O (Ax (Aq Az 3 [] O ?_))
  refine⟨⟨i+1,(some b85),cp2⟩,AQ,by omega,BZ ⟨we rfl,we rfl,we rfl,we rfl,we rfl,we rfl,we rfl,we (DM (DL (fun i t=>B9 (1+j) i t) 0 k.fields++EG k.fields.length j 0 (k.recs.take i)++([(Bw 6 ((D6 k.fields.length x ((1:Int)+(j:Int)) (i:Int)).args) (apply (apply (BP (((((((D6 k.fields.length x ((1:Int)+(j:Int)) (i:Int)).args).length:Nat):Int)+((i:Int):Int):Int)+((k.fields.length:Nat):Int):Int)+(j:Int))) ((D6 k.fields.length x ((1:Int)+(j:Int)) (i:Int)).results)) [((D6 k.fields.length x ((1:Int)+(j:Int)) (i:Int)).applied)]))])) (by rw[OU hx,UD,List.append_assoc])),we rfl,trivial⟩ (leH (is:=[2,3,4,5]) rfl (wl (C5 (DL (fun i t=>B9 (1+j) i t) 0 k.fields++EG k.fields.length j 0 (k.recs.take i)++([(Bw 6 ((D6 k.fields.length x ((1:Int)+(j:Int)) (i:Int)).args) (apply (apply (BP (((((((D6 k.fields.length x ((1:Int)+(j:Int)) (i:Int)).args).length:Nat):Int)+((i:Int):Int):Int)+((k.fields.length:Nat):Int):Int)+(j:Int))) ((D6 k.fields.length x ((1:Int)+(j:Int)) (i:Int)).results)) [((D6 k.fields.length x ((1:Int)+(j:Int)) (i:Int)).applied)]))])) (by rw[OU hx,UD,List.append_assoc])) (wl (oe rfl) (wl (oe rfl) (wl (oe rfl) (DF))))))⟩
 (try simp only[sd,se] at c1);refine Bk (Ay (Ar O (A3 Nq O O) (Ar O (A6 (i:=1) X4 O O (F8 _)) (Ar O (BH Ll O (List.length_map _)) (Aq Az 1 [] O (Ay (A0 Az 5 [] O (Ar O (BB O O (QQ ((((k.recs.length:Nat):Int)+((k.fields.length:Nat):Int):Int)+(j:Int))) O) (BE O (A7 Bq O) fun b16=>Aq Az 1 [0,1] O (As (Au Az 1 [] O (BA ?_))))))))))));refine Bh (α:=Nat) (fun i2=>⟨140,mk [(2,.ptr b2 0),(4,.ptr b4 0),(6,.ptr b6 0),(7,.p (I (f.params.length:Nat))),(8,.p (I (k.fields.length:Nat))),(9,.p (I ((1:Int)+(j:Int)))),(10,.vs o1 (Av (DL (fun i t=>B9 (1+j) i t) 0 k.fields++EG k.fields.length j 0 (k.recs.take i))).length cp1),(15,.p (I (k.recs.length:Nat))),(16,.ptr b16 0),(17,.p (I (i2:Int)))],[.box b16 ((Bc (apply (BP (k.recs.length+k.fields.length+j)) ((k.results.take i2).map (fun t=>B9 (k.recs.length:Nat) 0 (B9 (1+j) (k.fields.length:Nat) t))))).map .p),.vec o1 5 (Av (DL (fun i t=>B9 (1+j) i t) 0 k.fields++EG k.fields.length j 0 (k.recs.take i))) cp1,.box b6 ((Ca k).map .p),.box b4 [.p (I 0),.p (I 0),.p (.str ⟨#[]⟩),.p (.nils),.p (.nils)],.box b2 ((Bu f).map .p)],[]⟩) (fun i2=>k.results.length - i2) (fun i2=>i2≤k.results.length) 0 AO ?_ ?_
 ·exact BZ ⟨we O,we O,we O,we O,we O,we O,we O,we O,we O,we O,Ap⟩ (leH (is:=[0,1,2,3,4]) O (wl (ob (by simp[apply])) (wl (oe O) (wl (oe O) (wl (oe O) (wl (oe O) (DF)))))))
 rintro i2 hC1
 try simp only at hC1
 have hi:=hC1;refine As (Ay (A0 Az 2 [] O (Ar O (A6 (i:=2) DD O O (Gr _)) (Ar O (BH BY O (BD _)) (Aq Az 1 [] O (A2 O (fun c2=>?_) (fun c2=>?_)))))))
 ·(try simp only[sd,se] at c2);refine A5 (As (BA (CK (fun k=>false) Eb (Bf Az 2 [0] O (Cj (j:=2) O O O (fun H i hi=>A6 (i:=i) DD O hi (Gr _)) AB Ap (BG O (fun _=>Bm O) Ap ?_))))));obtain⟨x,hx⟩:=A9 (l:=k.results) (i:=i2) An;refine BG O (fun _=>BC BY O O An (B0 hx) (BF _)) Ap (Bf Az 3 [] O (BG O (fun _=>BB O O (GJ x ((1:Int)+(j:Int)) (k.fields.length:Nat) (h3.rr x (List.mem_of_getElem? hx)).1 (h3.rr x (List.mem_of_getElem? hx)).2.2 An An) O) Ap (BG O (fun _=>Bm O) Ap (BG O (fun _=>BB O O (GJ (B9 ((1:Int)+(j:Int)) (k.fields.length:Nat) x) (k.recs.length:Nat) 0 (Qb (h3.rr x (List.mem_of_getElem? hx)).1) (QB (h3.rr x (List.mem_of_getElem? hx)).2.1 (h3.rr x (List.mem_of_getElem? hx)).2.2) An An) O) Ap (BG O (fun _=>Ba (rows:=Av [(B9 (k.recs.length:Nat) 0 (B9 ((1:Int)+(j:Int)) (k.fields.length:Nat) x))]) BY Bq O O O O (By (Bn _)) (ED _)) Ap ?_)))));refine BG rfl (fun _=>BB rfl rfl (FF (apply (BP (k.recs.length+k.fields.length+j)) ((k.results.take i2).map (fun t=>B9 (k.recs.length:Nat) 0 (B9 (1+j) (k.fields.length:Nat) t)))) [(B9 (k.recs.length:Nat) 0 (B9 ((1:Int)+(j:Int)) (k.fields.length:Nat) x))] (show (1:Nat)<Cb by decide)) rfl) trivial ?_;refine CE Az 1 [0,1] O (Ax (Aq Az 3 [] O ?_));refine⟨(i2+1),AQ,by omega,BZ ⟨we rfl,we rfl,we rfl,we rfl,we rfl,we rfl,we rfl,we rfl,we rfl,we rfl,trivial⟩ (leH (is:=[0,1,2,3,4]) rfl (wl (ob (by rw[List.take_add_one,hx,Option.toList_some,List.map_append,Pw];rfl)) (wl (oe rfl) (wl (oe rfl) (wl (oe rfl) (wl (oe rfl) (DF)))))))⟩
 (try simp only[sd,se] at c2);refine Bk (As (D8 [.val (.ptr b6 (0+0)),.val (.p (.str k.name)),.val (.ptr b2 (0+1)),.val (.p (I f.levels)),.val (.p (.lst (List.map B6 (Ce f.levels)))),.val (.agg [.p (I 3),.p (I 0),.p (.str k.name),.p (.lst (List.map B6 (Ce f.levels))),.p (.nils)]),.new [.p (I 0),.p (I 0),.p (.str ⟨#[]⟩),.p (.nils),.p (.nils)]] Eb O Ai Ai (BN O (fun Bs=>A3 Nq O O) (BN O (fun Bs=>A6 (i:=Bs.length+2) S3 O (CL O) (Kr _)) (BN O (fun Bs=>A3 E9 O O) (BN O (fun Bs=>A6 (i:=Bs.length+4) Hd O (CL O) (DJ _)) (BN O (fun Bs=>BB O O (KL f.levels h1) O) (BN O (fun Bs=>CC KO Bq O) (FB O (fun Bs=>A7 Bq O) fun b18=>FD ?_)))))))))
 change AL _ _ _ 7 ⟨140,_,[.box b18 [.p (I 0),.p (I 0),.p (.str ⟨#[]⟩),.p (.nils),.p (.nils)],.box b16 ((Bc (apply (BP (k.recs.length+k.fields.length+j)) ((k.results.take i2).map (fun t=>B9 (k.recs.length:Nat) 0 (B9 (1+j) (k.fields.length:Nat) t))))).map .p),.vec o1 5 (Av (DL (fun i t=>B9 (1+j) i t) 0 k.fields++EG k.fields.length j 0 (k.recs.take i))) cp1,.box b6 ((Ca k).map .p),.box b4 [.p (I 0),.p (I 0),.p (.str ⟨#[]⟩),.p (.nils),.p (.nils)],.box b2 ((Bu f).map .p)],[]⟩ _
 refine Aq Az 1 [0,0] O (As (CK (fun k=>false) Eb (Bf Az 7 [0] O (BG O (fun _=>BB O O (HQ f.params.length ((((1:Int)+(j:Int):Int)+((k.fields.length:Nat):Int):Int)+((k.recs.length:Nat):Int)) An) O) Ap (BG O (fun _=>EN O O (FF (.mk 3 0 k.name (Ce f.levels) []:Tm) (CS f.params.length ((((1:Int)+(j:Int):Int)+((k.fields.length:Nat):Int):Int)+((k.recs.length:Nat):Int))) (Nat.lt_of_le_of_lt (H9 _ _) AW)) (aw (Du O) (aw (we O) (FE)))) Ap (Bf Az 2 [] O (BG O (fun _=>BB O O (HQ k.fields.length (k.recs.length:Nat) An) O) Ap ?_)))))));refine BG O (fun _=>BB O O (FF (apply (.mk 3 0 k.name (Ce f.levels) []:Tm) (CS f.params.length ((((1:Int)+(j:Int):Int)+((k.fields.length:Nat):Int):Int)+((k.recs.length:Nat):Int)))) (CS k.fields.length (k.recs.length:Nat)) (Nat.lt_of_le_of_lt (H9 _ _) AW)) O) Ap (CE Az 1 [0,1] O (Ay (A0 Az 3 [1,0] O (Ar O (Ba (rows:=Av ([(apply (apply (.mk 3 0 k.name (Ce f.levels) []:Tm) (CS f.params.length ((((1:Int)+(j:Int):Int)+((k.fields.length:Nat):Int):Int)+((k.recs.length:Nat):Int)))) (CS k.fields.length (k.recs.length:Nat)))])) BY Bq O O O O (By (Bn _)) (ED _)) ?_))));refine Ar rfl (BB rfl rfl (FF (apply (BP (k.recs.length+k.fields.length+j)) ((k.results.take i2).map (fun t=>B9 (k.recs.length:Nat) 0 (B9 (1+j) (k.fields.length:Nat) t)))) ([(apply (apply (.mk 3 0 k.name (Ce f.levels) []:Tm) (CS f.params.length ((((1:Int)+(j:Int):Int)+((k.fields.length:Nat):Int):Int)+((k.recs.length:Nat):Int)))) (CS k.fields.length (k.recs.length:Nat)))]) (show (1:Nat)<Cb by decide)) rfl) ?_;refine B7 (CM (i:=2) [10,134] O (C6 ⟨O,O,Ap⟩)) (Ar rfl (BB rfl rfl (Nf (DL (fun i t=>B9 (1+j) i t) 0 k.fields++EG k.fields.length j 0 (k.recs.take i)) (apply (apply (BP (k.recs.length+k.fields.length+j)) ((k.results.take i2).map (fun t=>B9 (k.recs.length:Nat) 0 (B9 (1+j) (k.fields.length:Nat) t)))) ([(apply (apply (.mk 3 0 k.name (Ce f.levels) []:Tm) (CS f.params.length ((((1:Int)+(j:Int):Int)+((k.fields.length:Nat):Int):Int)+((k.recs.length:Nat):Int)))) (CS k.fields.length (k.recs.length:Nat)))])) (by simp[Fq,Lk,Cb];omega)) rfl) (Aq Az 2 [3,1] O (A4 (⟨O,_,_,⟨_,_,O,(BO (i:=3) Bx O O Ad),⟨_,_,O,O,O⟩⟩,(List.nil_sublist _),?_⟩))))
 all_goals exact⟨by show (.tup [.agg ((Bc (Bw 6 (DL (fun i t=>B9 (1+j) i t) 0 k.fields++EG k.fields.length j 0 (k.recs.take i)) (apply (apply (BP (k.recs.length+k.fields.length+j)) ((k.results.take i2).map (fun t=>B9 (k.recs.length:Nat) 0 (B9 (1+j) (k.fields.length:Nat) t)))) ([(apply (apply (.mk 3 0 k.name (Ce f.levels) []:Tm) (CS f.params.length ((((1:Int)+(j:Int):Int)+((k.fields.length:Nat):Int):Int)+((k.recs.length:Nat):Int)))) (CS k.fields.length (k.recs.length:Nat)))])))).map .p),.p (I 0)]:AV)=_;rw[show i=k.recs.length by omega,show i2=k.results.length by omega,List.take_length,List.take_length];rfl,rfl⟩
theorem M7:∀(t:Tm),(Nd t)→(size t<1000000)→D3 Tryz.prog 32 [.agg ((Bc t).map .p)] (.tup [.p (.lst (Av ((BM t).1))),.agg ((Bc ((BM t).2)).map .p)]):=by
 intro t h1 h2;refine A1 Tryz.func32 O ji (n:=27) O O (Ay (BE O (BT O) fun b1=>Iw O (BE O (A7 Bq O) fun b3=>Bo O (Au Az 1 [] O (As (BA (BU (DZ (t:=4) (sz:=5) O) ?_)))))));refine Bh (α:=Tm×List Tm×Option Nat×Nat) (fun(y,l,o,cp)=>⟨27,mk [(1,.ptr b1 0),(3,.ptr b3 0),(4,.vs o (Av l).length cp)],[.vec o 5 (Av l) cp,.box b3 [.p (I 0),.p (I 0),.p (.str ⟨#[]⟩),.p (.nils),.p (.nils)],.box b1 ((Bc y).map .p)],[]⟩) (fun(y,l,o,cp)=>size y) (fun(y,l,o,cp)=>Nd y∧l.length+size y≤size t∧(l++(BM y).1,(BM y).2)=BM t) ⟨t,[],none,0⟩ (⟨h1,by simp,by simp⟩) ?_ ?_
 ·exact BZ ⟨we O,we O,we O,Ap⟩ (leH (is:=[0,1,2]) O (wl (oe O) (wl (oe O) (wl (oe O) (DF)))))
 rintro⟨y,l,o,cp⟩ hC
 try simp only at hC
 have hl0:l.length<1000000:=by have:=hC.2.1;omega
 refine As (As ?_);obtain⟨yk,yi,yn,yl,ys⟩:=y;refine Bj [1,3,4] 13 (fun y=>y= .p (.bool (((yk:Int)==(6:Int))&&(((ys.length:Nat):Int)==(2:Int))))) ?_ ?_
 ·refine Ax (A0 Az 4 [2] O (BS 8 O (fun g=>?_) (fun g=>?_)))
  ·(try simp only[sd,se] at g);exact A0 Az 2 [2] O (BK O (BH BY O (BD _)) (Aq Az 2 [] O (⟨O,O,AK,AH,⟨O,O,O,Ap⟩⟩)))
  (try simp only[sd,se] at g);exact Aq Az 5 [] O (⟨O,O,AK,AH,⟨O,O,O,Ap⟩⟩)
 rintro _ rfl;refine A2 O (fun c=>?_) (fun c=>?_)
 ·(try simp only[sd,se] at c);refine A5 (BA (Ay (A0 Az 3 [2] O ?_)));obtain⟨x,hx⟩:=A9 (l:=ys) (i:=0) (by first | omega | (simp at c;omega));refine Ar O (BC BY O O An (B0 hx) (BF _)) (Ar O (Bg Bx O (BF _)) ?_);obtain⟨xk,xi,xn,xl,xs⟩:=x;refine Ar O (Bz BY Bq O O O O O) (Dp O O (B3 (i:=0) (rows':=Av [(.mk xk xi xn xl xs:Tm)]) BY BY Bq O O O O O O (Bn _) AF (Fe l [(.mk xk xi xn xl xs:Tm)])) fun o1 cp1=>Aq Az 1 [] O (Ax (A0 Az 2 [2] O ?_)));obtain⟨x1,hx1⟩:=A9 (l:=ys) (i:=1) (by first | omega | (simp at c;omega));refine Ar O (BC BY O O An (B0 hx1) (BF _)) (Aq Az 2 [2,1] O ?_);refine⟨⟨x1,l++[(.mk xk xi xn xl xs:Tm)],o1,cp1⟩,(by have:=B5 hx1;simp only[size];omega),⟨Cq hC.1.2.2.2.2.1 hx1,by have:=B5 hx1;have:=hC.2.1;simp only[size] at *;simp only[List.length_append,List.length_cons,List.length_nil];omega,PO c hx hx1 hC.2.2⟩,BZ ⟨we rfl,we rfl,we rfl,trivial⟩ (leH (is:=[0,1,2]) rfl (wl (oe rfl) (wl (oe rfl) (wl (oe rfl) (DF)))))⟩
 (try simp only[sd,se] at c);refine Bk (As (CK (fun k=>false) Eb (CE Az 4 [2,1,0] O (BU (CM (i:=0) [4,25,2] O (C6 ⟨O,O,O,Ap⟩)) (A4 (⟨O,_,_,⟨_,_,O,O,⟨_,_,O,(BO (i:=0) Bx O O O),O⟩⟩,(List.nil_sublist _),?_⟩))))))
 all_goals exact⟨by show (.tup [.p (.lst (Av l)),.agg [.p (I yk),.p (I yi),.p (.str yn),.p (.lst (List.map B6 yl)),.p (.lst (Av ys))]]:AV)=_;rw[RO An hC.2.2];rfl,rfl⟩
theorem XF:∀(t:Tm),D3 Tryz.prog 33 [.agg ((Bc t).map .p)] (.p (.bool (decide (t.kind=1∨t.kind=2)))):=by
 intro t;refine A1 Tryz.func33 O lA (n:=11) O O (Ay (BE O (BT O) fun b1=>Aq Az 1 [] O (As (Bj [] 2 (fun y=>y= .p (.bool (decide (t.kind=1∨t.kind=2)))) ?_ ?_))))
 ·refine Ax (Ar O (A3 KO O O) ?_);obtain⟨tk,ti,tn,tl,ts⟩:=t;refine A0 Az 3 [0] O (BS 6 O (fun g=>?_) (fun g=>?_))
  ·(try simp only[sd,se] at g);refine Aq Az 5 [] O ?_;exact⟨rfl,rfl,AK,(by refine pB (Bool.eq_iff_iff.2 ?_);simp_all [Tm.kind]<;>omega),trivial⟩
  (try simp only[sd,se] at g);refine Aq Az 5 [0] O ?_;exact⟨rfl,rfl,AK,(by refine pB (Bool.eq_iff_iff.2 ?_);simp_all [Tm.kind]<;>omega),trivial⟩
 rintro _ rfl;refine A4 (⟨O,_,_,⟨_,_,O,O,O⟩,(List.nil_sublist _),?_⟩)
 all_goals exact⟨rfl,rfl⟩
theorem R8:∀(a b:List Tm),(D7 a)→(a.length<1000000)→D3 Tryz.prog 85 [.p (.lst (Av a)),.p (.lst (Av b))] (.p (.bool (Iy a b))):=by
 intro a b h1 h2;refine A1 Tryz.func85 O jb (n:=27) O O (Au Az 1 [] O (As (Ay (CA O (Ar O (BH BY O (BD _)) (CA O (Ar O (BH BY O (BD _)) (Aq Az 1 [] O (A2 O (fun c=>?_) (fun c=>?_))))))))))
 ·(try simp only[sd,se] at c);refine Au Az 1 [] O (A4 (⟨O,_,_,⟨_,_,O,O,O⟩,(List.nil_sublist _),?_⟩))
  all_goals exact⟨pB (QO An).symm,rfl⟩
 (try simp only[sd,se] at c);refine A5 (As (Au Az 1 [] O (BA ?_)));refine Bh (α:=Nat) (fun i=>⟨27,mk [(0,.p (.lst (Av a))),(1,.p (.lst (Av b))),(5,.p (I (i:Int)))],[],[]⟩) (fun i=>a.length - i) (fun i=>i≤a.length∧(∀j,j<i→∀x,a[j]?=some x→b[j]?=some x)) 0 (⟨by omega,fun j h=>by omega⟩) ?_ ?_
 ·exact BZ ⟨we O,we O,we O,Ap⟩ (leH (is:=[]) O (DF))
 rintro i hC
 try simp only at hC
 obtain⟨hi,hC⟩:=hC;refine As (Ay (A0 Az 2 [] O (Ar O (BH BY O (BD _)) (Aq Az 1 [] O (A2 O (fun c1=>?_) (fun c1=>?_))))))
 ·(try simp only[sd,se] at c1);refine A5 (As (BA (As (CK (fun k=>false) Eb (Bf Az 2 [] O ?_)))));obtain⟨x,hx⟩:=A9 (l:=a) (i:=i) An;refine BG O (fun _=>BC BY O O An (B0 hx) (BF _)) Ap (Bf Az 3 [] O ?_);obtain⟨x1,hx1⟩:=A9 (l:=b) (i:=i) An;refine BG O (fun _=>BC BY O O An (B0 hx1) (BF _)) Ap (BG O (fun _=>Bg Bx O (BF _)) Ap (BG O (fun _=>BB O O (TR _ x x1 (Nat.le_refl _) (Cq h1 hx)) O) Ap (CE Az 1 [] O (A2 O (fun c2=>?_) (fun c2=>?_)))))
  ·(try simp only[sd,se] at c2);refine Au Az 1 [] O (A4 (⟨O,_,_,⟨_,_,O,O,O⟩,(List.nil_sublist _),?_⟩))
   all_goals exact⟨pB (Bool.eq_false_iff.2 fun e=>by have e2:=Ed.1 e;subst e2;rw[hx] at hx1;injection hx1 with e3;subst e3;rw[DH rfl] at c2;cases c2).symm,rfl⟩
  (try simp only[sd,se] at c2);refine A5 (Ax (Aq Az 3 [] O (⟨(i+1),AQ,⟨by omega,GN (p:=fun j x=>b[j]?=some x) hC hx (by have e:x=x1:=Ed.1 (by simpa using c2);rw[e];exact hx1)⟩,BZ ⟨we rfl,we rfl,we rfl,trivial⟩ (leH (is:=[]) rfl (DF))⟩)))
 (try simp only[sd,se] at c1);refine Bk (Au Az 1 [] O (A4 (⟨O,_,_,⟨_,_,O,O,O⟩,(List.nil_sublist _),?_⟩)))
 all_goals exact⟨pB (DH (List.ext_getElem? fun j=>if hj:j<a.length then (by rw[List.getElem?_eq_getElem hj];exact(hC j An _ (List.getElem?_eq_getElem hj)).symm) else (by rw[List.getElem?_eq_none An,List.getElem?_eq_none An]))).symm,rfl⟩
set_option maxHeartbeats 2000000 in
theorem OJ:∀(own t:Tm) (ps:List Tm) (last:Int) (ni:Nat),(Nd own)→(size own<1000000)→(Nd t)→(size t<1000000)→(ps.length<1000)→(ni≤1000)→(0≤last∧last≤1000000)→D3 Tryz.prog 86 [.agg ((Bc own).map .p),.agg ((Bc t).map .p),.p (I (ps.length:Nat)),.p (I last),.p (I (ni:Nat))] (.tup [.p (.lst (Av ((Da own ps ni t last).getD []))),.p (.bool ((Da own ps ni t last).isSome))]):=by
 intro own t ps last ni h1 h2 h3 h4 h5 h6 h7;have hsp:=L6 t;have hsn:=Kp t h3;refine A1 Tryz.func86 O jq (n:=44) O O (Ay (BE O (BT O) fun b5=>BE O (BT O) fun b6=>Aq Az 2 [] O (Ay (Ar O (BR (i:=0) Bx O O Ad) (Ar O (BB O O (XN _ t (Nat.le_refl _) AW) O) (A0 Az 3 [] O (BE O (A7 Bq O) fun b12=>Aq Az 2 [0,1] O (As (As (Bj [2,13] 40 (fun y=>y= .p (.bool ((Da own ps ni t last).isNone))) ?_ ?_))))))))))
 ·refine CK (fun k=>false) Eb (Bf Az 2 [0,2] O (BG O (fun _=>BB O O (TR _ ((BI t).1) own (Nat.le_refl _) hsn.1) O) Ap (Bf Az 2 [] O (Fo 23 O (fun g=>?_) (fun g=>?_)))))
  ·(try simp only[sd,se] at g);exact CE Az 17 [] O (⟨O,O,AK,(by first | rfl | (refine pB (L3 ?_);omega) | (refine pB (Li ?_);simpa using g) | (refine pB (Lz ?_ ?_);omega;simpa using g)),⟨O,O,Ap⟩⟩)
  (try simp only[sd,se] at g);refine Cp O (fun _=>Bm O) Ap (Cp O (fun _=>BH BY O (BD _)) Ap (Bf Az 6 [] O (Fo 31 O (fun g1=>?_) (fun g1=>?_))))
  ·(try simp only[sd,se] at g1);exact CE Az 9 [] O (⟨O,O,AK,(by first | rfl | (refine pB (L3 ?_);omega) | (refine pB (Li ?_);simpa using g) | (refine pB (Lz ?_ ?_);omega;simpa using g)),⟨O,O,Ap⟩⟩)
  (try simp only[sd,se] at g1);exact Bf Az 2 [] O (Cp O (fun _=>CX (lo:=0) (hi:=ps.length) BY O (By (Bn _)) O ⟨_,O⟩ (Nat.zero_le _) AP (PN ((BI t).2) ps.length)) Ap (Bf Az 2 [] O (Cp O (fun _=>BB O O (HQ ps.length last An) O) Ap (Cp O (fun _=>BB O O (R8 (((BI t).2).take ps.length) (CS ps.length last) (ID hsn.2 _) (by simp only[List.length_take];omega)) O) Ap (CE Az 2 [] O (⟨O,O,AK,(by first | rfl | (refine pB (L3 ?_);omega) | (refine pB (Li ?_);simpa using g) | (refine pB (Lz ?_ ?_);omega;simpa using g)),⟨O,O,Ap⟩⟩))))))
 rintro _ rfl;refine A2 O (fun c=>?_) (fun c=>?_)
 ·(try simp only[sd,se] at c);have hrn:=PR c;refine Au Az 2 [] O (BU (Hk 10) (A4 (⟨O,_,_,⟨_,_,O,O,⟨_,_,O,O,O⟩⟩,(List.nil_sublist _),?_⟩)))
  all_goals exact⟨by show (.tup [.p (.lst (Av [])),.p (.bool false)]:AV)=_;rw[hrn];rfl,rfl⟩
 (try simp only[sd,se] at c);have hrs:=Pp c;have hrl:=Ra c;refine A5 (Ay (A0 Az 2 [] O (Ar O (CX (lo:=ps.length) BY O (By (Bn _)) ⟨_,O⟩ O AP (Nat.le_refl _) (MK ((BI t).2) ps.length)) (Aq Az 2 [] O (A4 (⟨O,_,_,⟨_,_,O,O,⟨_,_,O,O,O⟩⟩,(List.nil_sublist _),?_⟩))))))
 all_goals exact⟨by show (.tup [.p (.lst (Av (((BI t).2).drop ps.length))),.p (.bool true)]:AV)=_;rw[hrs];rfl,rfl⟩
end Go.Proofs.YtifphifongokcaaGreat
namespace Go.Abs
theorem Wg {xs ys:List AV}(h:Ek xs ys):Ma (.agg xs) (.agg ys):=fun F w v hr=>by
 simp only[B2] at hr ⊢;obtain⟨vs,e,h2⟩:=hr;exact⟨vs,e,Jj h h2⟩
end Go.Abs
namespace Go.Proofs.YtifphifongokcaaGreat
open Go.Abs Go.Eu
set_option maxHeartbeats 4000000 in
theorem WI:∀(nm:ByteArray) (lv:Int) (ps xs:List Tm) (c:HZ),(0≤lv∧lv≤8)→(nm.size<Cb)→(D7 ps)→(ps.length<1000)→(xs.length≤1000)→(Nd c.type)→(size c.type<50000)→D3 Tryz.prog 34 [.agg [.p (.str nm),.p (I lv),.p (.lst (Av ps)),.p (.lst (Av xs)),.p .any,.p .any,.p .any,.p .any,.p .any,.p .any],.agg ((Eg c).map .p)] (.tup [.agg ((Ca ((Dc (Co nm lv) ps xs.length c).getD HI)).map .p),.p (.bool ((Dc (Co nm lv) ps xs.length c).isSome))]):=by
 intro nm lv ps xs c h1 h2 h3 h4 h5 h6 h7;have htl:=Cr c.type;have htn:=G4 h6;have hts:=Mi c.type;have hts2:=NZ c.type;obtain⟨hon,hos⟩:=O2 h2 (show 0≤lv∧lv≤1000 by omega);have hfl:=G2 ((BM c.type).1.drop ps.length);have hfs:=OW (BM c.type).1 ps.length;refine A1 Tryz.func34 O kG (n:=111) O O (Ay (BE O (BT O) fun b2=>BE O (BT O) fun b3=>BE O (A7 Ls O) fun b4=>Aq Az 1 [] O (Ay (A0 Az 4 [2,2] O (Ar O (BB O O (Tk nm lv h1) O) (BE O (A7 Bq O) fun b6=>Aq Az 1 [0,1] O (Ay (Ar O (A3 QK O O) (Ar O (DW (i:=2) Bx O O (G3 _) (BF _)) (Ar O (BB O O (M7 c.type h6 An) O) (A0 Az 3 [] O (BE O (A7 Bq O) fun b8=>Aq Az 2 [0,1] O (As (CK (fun k=>false) Eb (Bf Az 2 [4] O (BG O (fun _=>BH BY O (BD _)) Ap (Bf Az 2 [4] O (BG O (fun _=>BH BY O (BD _)) Ap (CE Az 2 [] O (As (As ?_)))))))))))))))))))));refine Bj [3,4,6,7,8,9,10] 48 (fun y=>y= .p (.bool (!(decide (ps.length≤(BM c.type).1.length)&&Iy ((BM c.type).1.take ps.length) ps)))) ?_ ?_
 ·refine CK (fun k=>false) Eb (BG O (fun _=>Bm O) Ap (BG O (fun _=>BH BY O (BD _)) Ap (Bf Az 3 [] O (Fo 40 O (fun g=>?_) (fun g=>?_)))))
  ·(try simp only[sd,se] at g);refine CE Az 8 [] O ?_;exact⟨O,O,AK,(by refine pB ?_;first | (rw[decide_eq_false (by omega:¬ps.length≤(BM c.type).1.length)];rfl) | (rw[decide_eq_true (by omega:ps.length≤(BM c.type).1.length)];rfl)),⟨O,O,O,O,O,O,O,Ap⟩⟩
  (try simp only[sd,se] at g);refine Bf Az 2 [] O (Cp O (fun _=>CX (lo:=0) (hi:=ps.length) BY O (By (Bn _)) O ⟨_,O⟩ (Nat.zero_le _) AP (PN ((BM c.type).1) ps.length)) Ap (Bf Az 2 [4] O (Cp O (fun _=>BB O O (R8 (((BM c.type).1).take ps.length) ps (ID htn.2 _) (by simp only[List.length_take];omega)) O) Ap (CE Az 2 [] O ?_))));exact⟨O,O,AK,(by refine pB ?_;first | (rw[decide_eq_false (by omega:¬ps.length≤(BM c.type).1.length)];rfl) | (rw[decide_eq_true (by omega:ps.length≤(BM c.type).1.length)];rfl)),⟨O,O,O,O,O,O,O,Ap⟩⟩
 rintro _ rfl;refine A2 O (fun c1=>?_) (fun c1=>?_)
 ·(try simp only[sd,se] at c1);have hc0:=bH (own:=(Co nm lv)) (ni:=xs.length) (by simpa using c1);refine Au Az 3 [2,0] O (BU (CB (i:=2) O) (A4 (⟨O,_,_,⟨_,_,O,(BO (i:=2) I0 O O O),⟨_,_,O,O,O⟩⟩,(List.nil_sublist _),?_⟩)))
  all_goals exact⟨by show (.tup [.agg [.p (.str ⟨#[]⟩),.p (.lst []),.p (.lst []),.p (.lst [])],.p (.bool false)]:AV)=_;rw[hc0];rfl,rfl⟩
 (try simp only[sd,se] at c1);obtain⟨hc1,hc2⟩:=cN (own:=(Co nm lv)) (ni:=xs.length) (by simpa using c1);refine A5 (As (D8 [.val (.ptr b3 (0+0)),.val (.p (.str c.name)),.val (.p (.lst (Av ((BM c.type).1)))),.val (.p (I (ps.length:Nat))),.val (.p (.lst (Av (((BM c.type).1).drop ps.length)))),.val (.agg [.p (.str c.name),.p (.lst (Av (((BM c.type).1).drop ps.length))),.p (.nils),.p (.nils)]),.new [.p (.str ⟨#[]⟩),.p (.nils),.p (.nils),.p (.nils)]] Eb O Ai Ai (BN O (fun Bs=>A3 QK O O) (BN O (fun Bs=>A6 (i:=Bs.length+3) S3 O (CL O) (Im _)) (BN O (fun Bs=>Bm O) (BN O (fun Bs=>Bm O) (BN O (fun Bs=>CX (lo:=ps.length) BY O (By (Bn _)) ⟨_,O⟩ O AP (Nat.le_refl _) (MK ((BM c.type).1) ps.length)) (BN O (fun Bs=>CC Nq Ls O) (FB O (fun Bs=>A7 Ls O) fun b11=>FD ?_)))))))))
 change AL _ _ _ 7 ⟨111,_,[.box b11 [.p (.str ⟨#[]⟩),.p (.nils),.p (.nils),.p (.nils)],.box b8 ((Bc ((BM c.type).2)).map .p),.box b6 ((Bc (Co nm lv)).map .p),.box b4 [.p (.str ⟨#[]⟩),.p (.nils),.p (.nils),.p (.nils)],.box b3 ((Eg c).map .p),.box b2 [.p (.str nm),.p (I lv),.p (.lst (Av ps)),.p (.lst (Av xs)),.p .any,.p .any,.p .any,.p .any,.p .any,.p .any]],[]⟩ _
 refine Aq Az 1 [0,0] O (Ay (A0 Az 5 [2,1,0] O (Ar O (BH BY O (BD _)) (CA O (Ar O (BB O O (OJ (Co nm lv) ((BM c.type).2) ps ((((BM c.type).1).drop ps.length).length:Nat) xs.length hon hos htn.1 An h4 h5 Ah) O) (Aq Az 5 [] O (As (Au Az 2 [] O (A2 O (fun c2=>?_) (fun c2=>?_))))))))))
 ·(try simp only[sd,se] at c2);have hrn:=hc2 _ (RE (by simpa using c2));refine Au Az 3 [3,0] O (BU (CB (i:=3) O) (A4 (⟨O,_,_,⟨_,_,O,(BO (i:=3) I0 O O O),⟨_,_,O,O,O⟩⟩,(List.nil_sublist _),?_⟩)))
  all_goals exact⟨by show (.tup [.agg [.p (.str ⟨#[]⟩),.p (.lst []),.p (.lst []),.p (.lst [])],.p (.bool false)]:AV)=_;rw[hrn];rfl,rfl⟩
 (try simp only[sd,se] at c2);have hrs:=hc2 _ (QG (by simpa using c2));refine A5 (Au Az 3 [0,0] O (As (Ay (B7 (Ew (i:=0) O (Mx (aw (we O) (aw (we O) (aw (E3) (aw (we O) (FE))))))) (B7 (EM (sz:=3)) (Aq Az 1 [] O (BA ?_)))))));refine Bh (α:=Nat×List Rfl×Option Nat×Nat) (fun(i,ys,o,cp)=>⟨111,mk [(4,.ptr b4 0),(6,.ptr b6 0),(9,.p (I (ps.length:Nat))),(10,.p (I (xs.length:Nat))),(11,.ptr b11 0),(14,.p (I (i:Int)))],[.vec o 3 (List.map Cu ys) cp,.box b11 [.p (.str c.name),.p (.lst (Av (((BM c.type).1).drop ps.length))),.vs o (List.map Cu ys).length cp,.p (.lst (Av ((Da (Co nm lv) ps xs.length ((BM c.type).2) ((((BM c.type).1).drop ps.length).length:Nat)).getD [])))],.box b6 ((Bc (Co nm lv)).map .p),.box b4 [.p (.str ⟨#[]⟩),.p (.nils),.p (.nils),.p (.nils)]],[]⟩) (fun(i,ys,o,cp)=>((BM c.type).1.drop ps.length).length - i) (fun(i,ys,o,cp)=>i≤((BM c.type).1.drop ps.length).length∧(ys++FC (Co nm lv) ps xs.length i (((BM c.type).1.drop ps.length).drop i)=FC (Co nm lv) ps xs.length 0 ((BM c.type).1.drop ps.length)∧ys.length≤i)) ⟨0,[],none,0⟩ (⟨by omega,by simp,by simp⟩) ?_ ?_
 ·exact BZ ⟨we O,we O,we O,we O,we O,we O,Ap⟩ (leH (is:=[0,1,3,4]) O (wl (oe O) (wl (oe O) (wl (oe O) (wl (oe O) (DF))))))
 rintro⟨i,ys,o,cp⟩ hC
 try simp only at hC
 obtain⟨hi,hC⟩:=hC;refine As (Ay (A0 Az 3 [1] O (Ar O (BH BY O (BD _)) (Aq Az 1 [] O (A2 O (fun c3=>?_) (fun c3=>?_))))))
 ·(try simp only[sd,se] at c3);refine A5 (As (BA (Ay (A0 Az 3 [1] O ?_))));obtain⟨x,hx⟩:=A9 (l:=((BM c.type).1).drop ps.length) (i:=i) An;refine Ar O (BC BY O O An (B0 hx) (BF _)) (Ar O (Bg Bx O (BF _)) (Ar O (BB O O (M7 x (Cq (HX htn.2 _) hx) (by have:=B5 hx;omega)) O) (A0 Az 3 [] O (BE O (A7 Bq O) fun b16=>Aq Az 2 [0,1] O (Ay (A0 Az 5 [3,0] O (Ar O (BH BY O (BD _)) (Ar O (EK O O (by have:=Cr x;have:=B5 hx;omega) (by have:=Cr x;have:=B5 hx;omega)) (CA O (Ar O (BB O O (OJ (Co nm lv) ((BM x).2) ps (((i:Int):Int)+((((BM x).1).length:Nat):Int)) xs.length hon hos (G4 (Cq (HX htn.2 _) hx)).1 (by have:=Mi x;have:=B5 hx;omega) h4 h5 (by have:=Cr x;have:=B5 hx;omega)) O) (Aq Az 5 [] O (Au Az 1 [] O (A2 O (fun c4=>?_) (fun c4=>?_))))))))))))))
  ·(try simp only[sd,se] at c4);have hrs2:=QG (by simpa using c4);refine Ax (A0 Az 6 [2] O (Ar O (Ba (rows:=List.map Cu ([(Rfl.mk (i:Int) ((BM x).1) ((Da (Co nm lv) ps xs.length ((BM x).2) (((i:Int):Int)+((((BM x).1).length:Nat):Int))).getD []))])) Ll VV O O O O (By (Jk _)) (Xx _)) (Dp O O (B3 (i:=1) (rows':=List.map Cu ([(Rfl.mk (i:Int) ((BM x).1) ((Da (Co nm lv) ps xs.length ((BM x).2) (((i:Int):Int)+((((BM x).1).length:Nat):Int))).getD []))])) Ll Ll VV O O O O O O (Jk _) (by have:=hC.2;simp;omega) (HJ (f:=Cu) ys ([(Rfl.mk (i:Int) ((BM x).1) ((Da (Co nm lv) ps xs.length ((BM x).2) (((i:Int):Int)+((((BM x).1).length:Nat):Int))).getD []))]))) fun o1 cp1=>Aq Az 2 [2,0] O (Ax (CA O ?_)))));refine Ar O (EK O O (by have:=Cr x;have:=B5 hx;omega) (by have:=Cr x;have:=B5 hx;omega)) (Aq Az 1 [] O ?_);refine⟨⟨i+1,(ys++([(Rfl.mk (i:Int) ((BM x).1) ((Da (Co nm lv) ps xs.length ((BM x).2) (((i:Int):Int)+((((BM x).1).length:Nat):Int))).getD []))])),o1,cp1⟩,AQ,⟨by omega,by first | exact⟨QH hx hrn2 hC.1,by have:=hC.2;omega⟩ | exact⟨Qp hx hrs2 hC.1,by have:=hC.2;simp;omega⟩⟩,BZ ⟨we rfl,we rfl,we rfl,we rfl,we rfl,we rfl,trivial⟩ (leH (is:=[1,2,3,4]) rfl (wl (oe rfl) (wl (oe rfl) (wl (oe rfl) (wl (oe rfl) (DF))))))⟩
  (try simp only[sd,se] at c4);have hrn2:=RE (by simpa using c4);refine A5 (Ax (CA O (Ar O (EK O O (by have:=Cr x;have:=B5 hx;omega) (by have:=Cr x;have:=B5 hx;omega)) (Aq Az 1 [] O ?_))));refine⟨⟨i+1,ys,o,cp⟩,AQ,⟨by omega,by first | exact⟨QH hx hrn2 hC.1,by have:=hC.2;omega⟩ | exact⟨Qp hx hrs2 hC.1,by have:=hC.2;simp;omega⟩⟩,BZ ⟨we rfl,we rfl,we rfl,we rfl,we rfl,we rfl,trivial⟩ (leH (is:=[1,2,3,4]) rfl (wl (oe rfl) (wl (oe rfl) (wl (oe rfl) (wl (oe rfl) (DF))))))⟩
 (try simp only[sd,se] at c3);refine Bk (Ay (B7 (CR (i:=0) (j:=1) (q:=2) [] O O O (C6 Ap)) (Aq Az 3 [0,2,0] O (A4 (⟨O,_,_,⟨_,_,O,(BO (i:=2) I0 O O O),⟨_,_,O,O,O⟩⟩,(List.nil_sublist _),?_⟩)))))
 all_goals exact⟨by show (.tup [.agg [.p (.str c.name),.p (.lst (Av (((BM c.type).1).drop ps.length))),.p (.lst (List.map Cu ys)),.p (.lst (Av ((Da (Co nm lv) ps xs.length ((BM c.type).2) ((((BM c.type).1).drop ps.length).length:Nat)).getD [])))],.p (.bool true)]:AV)=_;rw[hrs,RK An hC.1];rfl,rfl⟩
set_option maxHeartbeats 4000000 in
theorem RR:∀(d:Ck),(Vi d)→(d.name.size<Cb)→(d.params≤8)→D3 Tryz.prog 7 [.agg ((D9 d).map .p)] (.tup [.agg ((Bu (BQ d)).map .p),.p (I (HR d))]):=by
 intro d h1 h2 h3;have htl:=Cr d.type;have htn:=G4 h1.nd;have hsz:=h1.sz;have hcl:=h1.cl;have hpr:=h1.pr;refine A1 Tryz.func7 O n5 (n:=77) O O (Ay (BE O (BT O) fun b1=>BE O (A7 Q7 O) fun b2=>Aq Az 1 [] O (As (Ay (Ar O (A3 EO O O) (Ar O (A6 (i:=1) Hd O O (Kx _)) (Aq Az 1 [] O (A2 O (fun c=>?_) (fun c=>?_)))))))))
 ·(try simp only[sd,se] at c);have hk:=bD c;refine Au Az 3 [0,0] O (BU (CB (i:=0) O) (A4 (⟨O,_,_,⟨_,_,O,(BO (i:=0) Gc O O O),⟨_,_,O,O,O⟩⟩,(List.nil_sublist _),?_⟩)))
  all_goals exact⟨by show (.tup [.agg [.p (.str ⟨#[]⟩),.p (I 0),.p (.lst []),.p (.lst []),.p (I 0),.p (I 0),.p (.str ⟨#[]⟩),.p (.lst []),.p (.lst []),.p (.lst [])],.p (I 1)]:AV)=_;unfold BQ HR;rw[hk];rfl,rfl⟩
 (try simp only[sd,se] at c);have hk:=c;refine A5 (Ay (Ar O (A3 EO O O) (Ar O (DW (i:=1) Bx O O (Gz _) (BF _)) (Ar O (BB O O (M7 d.type h1.nd An) O) (A0 Az 3 [] O (BE O (A7 Bq O) fun b5=>Aq Az 2 [0,1] O (As (As (Bj [1,2,4,5] 34 (fun y=>y= .p (.bool (decide (d.fixed<0∨(BM d.type).1.length<d.fixed∨((BM d.type).2.kind≠1∧(BM d.type).2.kind≠2))))) ?_ ?_)))))))))
 ·refine Ax (Ar O (A3 EO O O) (Ar O (A6 (i:=2) Hd O O (Df _)) (A0 Az 2 [] O (BS 23 O (fun g=>?_) (fun g=>?_)))))
  ·(try simp only[sd,se] at g);exact Aq Az 11 [] O (⟨O,O,AK,(by refine pB (Bool.eq_iff_iff.2 ?_);simp only[decide_eq_true_eq,Bool.not_eq_true',decide_eq_false_iff_not,true_iff];first | omega | (simp_all;omega)),⟨O,O,O,O,Ap⟩⟩)
  (try simp only[sd,se] at g);refine BK O (A3 EO O O) (BK O (A6 (i:=2) Hd O O (Df _)) (BK O (Bm O) (BK O (BH BY O (BD _)) (A0 Az 3 [] O (BS 30 O (fun g1=>?_) (fun g1=>?_))))))
  ·(try simp only[sd,se] at g1);exact Aq Az 4 [] O (⟨O,O,AK,(by refine pB (Bool.eq_iff_iff.2 ?_);simp only[decide_eq_true_eq,Bool.not_eq_true',decide_eq_false_iff_not,true_iff];first | omega | (simp_all;omega)),⟨O,O,O,O,Ap⟩⟩)
  (try simp only[sd,se] at g1);exact BK O (BR (i:=0) Bx O O Ad) (BK O (BB O O (XF ((BM d.type).2)) O) (Aq Az 2 [] O (⟨O,O,AK,(by refine pB (Bool.eq_iff_iff.2 ?_);simp only[decide_eq_true_eq,Bool.not_eq_true',decide_eq_false_iff_not,true_iff];first | omega | (simp_all;omega)),⟨O,O,O,O,Ap⟩⟩)))
 rintro _ rfl;refine A2 O (fun c1=>?_) (fun c1=>?_)
 ·(try simp only[sd,se] at c1);have hk2:=bX (fun e=>e hk) c1;refine Au Az 3 [1,0] O (BU (CB (i:=1) O) (A4 (⟨O,_,_,⟨_,_,O,(BO (i:=1) Gc O O O),⟨_,_,O,O,O⟩⟩,(List.nil_sublist _),?_⟩)))
  all_goals exact⟨by show (.tup [.agg [.p (.str ⟨#[]⟩),.p (I 0),.p (.lst []),.p (.lst []),.p (I 0),.p (I 0),.p (.str ⟨#[]⟩),.p (.lst []),.p (.lst []),.p (.lst [])],.p (I 3)]:AV)=_;unfold BQ HR;rw[hk2];rfl,rfl⟩
 (try simp only[sd,se] at c1);have hk2:=c1;refine A5 (As ?_);generalize hz:(BM d.type).2=z;obtain⟨zk,zi,zn,zl,zs⟩:=z;refine D8 [.val (.ptr b1 (0+1)),.val (.p (.str d.name)),.val (.ptr b1 (0+2)),.val (.p (I d.params)),.val (.p (.lst (Av ((BM d.type).1)))),.val (.ptr b1 (0+13)),.val (.p (I d.fixed)),.val (.p (.lst (Av (((BM d.type).1).take ((d.fixed:Int).toNat))))),.val (.p (.lst (Av ((BM d.type).1)))),.val (.ptr b1 (0+13)),.val (.p (I d.fixed)),.val (.p (.lst (Av (((BM d.type).1).drop ((d.fixed:Int).toNat))))),.val (.agg [.p (I zk),.p (I zi),.p (.str zn),.p (.lst (List.map B6 zl)),.p (.lst (Av zs))]),.val (.agg [.p (.str d.name),.p (I d.params),.p (.lst (Av (((BM d.type).1).take ((d.fixed:Int).toNat)))),.p (.lst (Av (((BM d.type).1).drop ((d.fixed:Int).toNat)))),.p (I zk),.p (I zi),.p (.str zn),.p (.lst (List.map B6 zl)),.p (.lst (Av zs)),.p (.nils)]),.new [.p (.str ⟨#[]⟩),.p (I 0),.p (.nils),.p (.nils),.p (I 0),.p (I 0),.p (.str ⟨#[]⟩),.p (.nils),.p (.nils),.p (.nils)]] Eb O Ai Ai ?_;refine BN O (fun Bs=>A3 EO O O) (BN O (fun Bs=>A6 (i:=Bs.length+2) S3 O (CL O) (F4 _)) (BN O (fun Bs=>A3 EO O O) (BN O (fun Bs=>A6 (i:=Bs.length+2) Hd O (CL O) (Dk _)) (BN O (fun Bs=>Bm O) (BN O (fun Bs=>A3 EO O O) (BN O (fun Bs=>A6 (i:=Bs.length+2) Hd O (CL O) (Df _)) (BN O (fun Bs=>CX (lo:=0) (hi:=(d.fixed:Int).toNat) BY O (By (Bn _)) O ⟨_,pI An⟩ (Nat.zero_le _) AP (PN ((BM d.type).1) ((d.fixed:Int).toNat))) (BN O (fun Bs=>Bm O) (BN O (fun Bs=>A3 EO O O) (BN O (fun Bs=>A6 (i:=Bs.length+2) Hd O (CL O) (Df _)) ?_))))))))));refine BN O (fun Bs=>CX (lo:=(d.fixed:Int).toNat) BY O (By (Bn _)) ⟨_,pI An⟩ O AP (Nat.le_refl _) (MK ((BM d.type).1) ((d.fixed:Int).toNat))) (BN O (fun Bs=>BR (i:=Bs.length+0) Bx O (CL O) Ad) (BN O (fun Bs=>CC E9 Q7 O) (FB O (fun Bs=>A7 Q7 O) fun b6=>FD ?_)))
 change AL _ _ _ 15 ⟨77,_,[.box b6 [.p (.str ⟨#[]⟩),.p (I 0),.p (.nils),.p (.nils),.p (I 0),.p (I 0),.p (.str ⟨#[]⟩),.p (.nils),.p (.nils),.p (.nils)],.box b5 [.p (I zk),.p (I zi),.p (.str zn),.p (.lst (List.map B6 zl)),.p (.lst (Av zs))],.box b2 [.p (.str ⟨#[]⟩),.p (I 0),.p (.nils),.p (.nils),.p (I 0),.p (I 0),.p (.str ⟨#[]⟩),.p (.nils),.p (.nils),.p (.nils)],.box b1 ((D9 d).map .p)],[]⟩ _
 refine Aq Az 1 [0,0] O (As (Ay (B7 (Ew (i:=0) O (Mx (aw (we O) (aw (we O) (aw (we O) (aw (we O) (aw (we O) (aw (we O) (aw (we O) (aw (we O) (aw (we O) (aw (E3) (FE))))))))))))) (B7 (EM (sz:=4)) (Aq Az 1 [] O (BA ?_))))));refine Bh (α:=Nat×List E6×Option Nat×Nat) (fun(i,ys,o,cp)=>⟨77,mk [(1,.ptr b1 0),(2,.ptr b2 0),(6,.ptr b6 0),(7,.p (I (i:Int)))],[.vec o 4 (List.map Ca ys) cp,.box b6 [.p (.str d.name),.p (I d.params),.p (.lst (Av (((BM d.type).1).take ((d.fixed:Int).toNat)))),.p (.lst (Av (((BM d.type).1).drop ((d.fixed:Int).toNat)))),.p (I zk),.p (I zi),.p (.str zn),.p (.lst (List.map B6 zl)),.p (.lst (Av zs)),.vs o (List.map Ca ys).length cp],.box b2 [.p (.str ⟨#[]⟩),.p (I 0),.p (.nils),.p (.nils),.p (I 0),.p (I 0),.p (.str ⟨#[]⟩),.p (.nils),.p (.nils),.p (.nils)],.box b1 ((D9 d).map .p)],[]⟩) (fun(i,ys,o,cp)=>d.ctors.length - i) (fun(i,ys,o,cp)=>i≤d.ctors.length∧(C4 (Co d.name d.params) ((BM d.type).1.take d.fixed.toNat) ((BM d.type).1.drop d.fixed.toNat).length d.ctors=(C4 (Co d.name d.params) ((BM d.type).1.take d.fixed.toNat) ((BM d.type).1.drop d.fixed.toNat).length (d.ctors.drop i)).map (ys++ ·)∧ys.length≤i)) ⟨0,[],none,0⟩ (⟨by omega,by simp,by simp⟩) ?_ ?_
 ·exact BZ ⟨we O,we O,we O,we O,Ap⟩ (leH (is:=[0,1,3,4]) O (wl (oe O) (wl (oe O) (wl (oe O) (wl (oe O) (DF))))))
 rintro⟨i,ys,o,cp⟩ hC
 try simp only at hC
 obtain⟨hi,hC⟩:=hC;refine As (Ay (A0 Az 2 [] O (Ar O (A6 (i:=3) Oe O O (DE _)) (Ar O (BH Md O (List.length_map _)) (Aq Az 1 [] O (A2 O (fun c2=>?_) (fun c2=>?_)))))))
 ·(try simp only[sd,se] at c2);refine A5 (As (BA (As (CK (fun k=>Nat.beq k 10) Eb (Bf Az 2 [1] O (Cj (j:=3) O O O (fun H i hi=>A6 (i:=i) Oe O hi (DE _)) AB Ap (BG O (fun _=>Bm O) Ap ?_)))))));obtain⟨x,hx⟩:=A9 (l:=d.ctors) (i:=i) An;refine BG O (fun _=>BC Md O O An (IB hx) (Fg _)) Ap (BG O (fun _=>Bg fq O (Fg _)) Ap (BG O (fun _=>EN O O (WI d.name d.params ((BM d.type).1.take d.fixed.toNat) ((BM d.type).1.drop d.fixed.toNat) x ⟨hpr.1,h3⟩ h2 (ID htn.2 _) Ah Ah (h1.cs _ (List.mem_of_getElem? hx)).1 (h1.cs _ (List.mem_of_getElem? hx)).2) (aw (Wg (aw (we O) (aw (we O) (aw (we O) (aw (we O) (aw (Gd _) (aw (Gd _) (aw (Gd _) (aw (Gd _) (aw (Gd _) (aw (Gd _) (FE)))))))))))) (aw (we O) (FE)))) Ap (Bf Az 3 [] O (db [] O O (A7 Ls O) Ai fun b8=>⟨AB,Ap,?_⟩))));refine Jc O O (CF (i:=0) I0 O O O Ab AS (K1 _)) AB Ap (CE Az 1 [] O (As (Au Az 2 [] O (A2 O (fun c3=>?_) (fun c3=>?_)))))
  ·(try simp only[sd,se] at c3);have hcn:=WK hx c3 hC.1;refine Au Az 3 [3,0] O (BU (CB (i:=3) O) (A4 (⟨O,_,_,⟨_,_,O,(BO (i:=3) Gc O O O),⟨_,_,O,O,O⟩⟩,(List.nil_sublist _),?_⟩)))
   all_goals exact⟨by show (.tup [.agg [.p (.str ⟨#[]⟩),.p (I 0),.p (.lst []),.p (.lst []),.p (I 0),.p (I 0),.p (.str ⟨#[]⟩),.p (.lst []),.p (.lst []),.p (.lst [])],.p (I 3)]:AV)=_;unfold BQ HR;rw[bU (fun e=>e hk) hk2 hcn];rfl,rfl⟩
  (try simp only[sd,se] at c3);have hcy:=YM hx c3 hC.1;refine A5 (Ax (A0 Az 2 [2] O (Ar O (BR (i:=0) I0 O O Ab) (Ar O (Ba (rows:=List.map Ca [((Dc (Co d.name d.params) ((BM d.type).1.take d.fixed.toNat) ((BM d.type).1.drop d.fixed.toNat).length x).getD HI)]) KQ Ls O O O O (By (Je _)) (Wz _)) (Dp O O (B3 (i:=1) (rows':=List.map Ca [((Dc (Co d.name d.params) ((BM d.type).1.take d.fixed.toNat) ((BM d.type).1.drop d.fixed.toNat).length x).getD HI)]) KQ KQ Ls O O O O O O (Je _) (by have:=hC.2;simp;omega) (HJ (f:=Ca) ys [((Dc (Co d.name d.params) ((BM d.type).1.take d.fixed.toNat) ((BM d.type).1.drop d.fixed.toNat).length x).getD HI)])) fun o1 cp1=>Aq Az 2 [2,0] O (Ax (Aq Az 3 [] O ?_)))))));refine⟨⟨i+1,(ys++[((Dc (Co d.name d.params) ((BM d.type).1.take d.fixed.toNat) ((BM d.type).1.drop d.fixed.toNat).length x).getD HI)]),o1,cp1⟩,AQ,⟨by omega,⟨hcy,by have:=hC.2;simp;omega⟩⟩,BZ ⟨we rfl,we rfl,we rfl,we rfl,trivial⟩ (leH (is:=[1,2,3,4]) rfl (wl (oe rfl) (wl (oe rfl) (wl (oe rfl) (wl (oe rfl) (DF))))))⟩
 (try simp only[sd,se] at c2);refine Bk (Ay (B7 (CR (i:=0) (j:=1) (q:=9) [] O O O (C6 Ap)) (Aq Az 3 [0,1,0] O (A4 (⟨O,_,_,⟨_,_,O,(BO (i:=1) Gc O O O),⟨_,_,O,O,O⟩⟩,(List.nil_sublist _),?_⟩)))))
 all_goals exact⟨by show (.tup [.agg [.p (.str d.name),.p (I d.params),.p (.lst (Av (((BM d.type).1).take ((d.fixed:Int).toNat)))),.p (.lst (Av (((BM d.type).1).drop ((d.fixed:Int).toNat)))),.p (I zk),.p (I zi),.p (.str zn),.p (.lst (List.map B6 zl)),.p (.lst (Av zs)),.p (.lst (List.map Ca ys))],.p (I 0)]:AV)=_;unfold BQ HR;rw[Wl (fun e=>e hk) hk2 (SK An hC.1),hz];rfl,rfl⟩
theorem XU:∀(f:Fam) (j:Int),(j<0∨(f.ctors.length:Nat)≤j)→D3 Tryz.prog 8 [.agg ((Bu f).map .p),.p (I j)] (.tup [.agg ((Bc Bi).map .p),.p (I 2)]):=by
 intro f j h1;refine A1 Tryz.func8 O me (n:=28) O O (Ay (BE O (BT O) fun b2=>BE O (A7 Bq O) fun b4=>Aq Az 1 [] O (As (As (Bj [1,2,4] 14 (fun y=>y= .p (.bool ((decide ((j:Int)<(0:Int)))||(decide ((j:Int)≥((f.ctors.length:Nat):Int)))))) ?_ ?_)))))
 ·refine Ax (A0 Az 3 [] O (BS 8 O (fun g=>?_) (fun g=>?_)))
  ·(try simp only[sd,se] at g);exact Aq Az 6 [] O (⟨O,O,AK,AH,⟨O,O,O,Ap⟩⟩)
  (try simp only[sd,se] at g);exact A0 Az 2 [] O (BK O (A6 (i:=1) QI O O (DR _)) (BK O (BH KQ O (List.length_map _)) (Aq Az 2 [] O (⟨O,O,AK,AH,⟨O,O,O,Ap⟩⟩))))
 rintro _ rfl;refine A2 O (fun c=>?_) (fun c=>?_)
 ·(try simp only[sd,se] at c);refine Au Az 3 [0,0] O (BU (CB (i:=0) O) (A4 (⟨O,_,_,⟨_,_,O,(BO (i:=0) Bx O O O),⟨_,_,O,O,O⟩⟩,(List.nil_sublist _),?_⟩)))
  all_goals exact⟨rfl,rfl⟩
 (try simp only[sd,se] at c);exfalso;omega
theorem Va:∀(f:Fam) (j:Int),(j<0∨(f.ctors.length:Nat)≤j)→D3 Tryz.prog 9 [.agg ((Bu f).map .p),.p (I j)] (.tup [.agg ((Bc Bi).map .p),.p (I 2)]):=by
 intro f j h1;refine A1 Tryz.func9 O mM (n:=140) O O (Ay (BE O (BT O) fun b2=>BE O (A7 Bq O) fun b4=>Aq Az 1 [] O (As (As (Bj [1,2,4] 27 (fun y=>y= .p (.bool ((decide ((j:Int)<(0:Int)))||(decide ((j:Int)≥((f.ctors.length:Nat):Int)))))) ?_ ?_)))))
 ·refine Ax (A0 Az 3 [] O (BS 21 O (fun g=>?_) (fun g=>?_)))
  ·(try simp only[sd,se] at g);exact Aq Az 6 [] O (⟨O,O,AK,AH,⟨O,O,O,Ap⟩⟩)
  (try simp only[sd,se] at g);exact A0 Az 2 [] O (BK O (A6 (i:=1) QI O O (DR _)) (BK O (BH KQ O (List.length_map _)) (Aq Az 2 [] O (⟨O,O,AK,AH,⟨O,O,O,Ap⟩⟩))))
 rintro _ rfl;refine A2 O (fun c=>?_) (fun c=>?_)
 ·(try simp only[sd,se] at c);refine Au Az 3 [0,0] O (BU (CB (i:=0) O) (A4 (⟨O,_,_,⟨_,_,O,(BO (i:=0) Bx O O O),⟨_,_,O,O,O⟩⟩,(List.nil_sublist _),?_⟩)))
  all_goals exact⟨rfl,rfl⟩
 (try simp only[sd,se] at c);exfalso;omega
end Go.Proofs.YtifphifongokcaaGreat
namespace Go.Eu
open Go.Abs
section
variable {E:List Ck}{σ:Type}{S:Sys σ}{R:σ→σ→Prop}
structure fc (S:Sys σ) (R:σ→σ→Prop):Prop where
 rf:∀s,R s s
 tr:∀{a b c},R a b→R b c→R a c
 rs:∀{s t e s'},S.res s t e=some s'→R s s'
variable (h:fc S R)
include h
end
def nq (n:Int):Except Int Unit:=if n - 1<0 then .error 0 else .ok ()
def my (n:Int) (x:Tm×Int):Except Int (Tm×Int):=if n - 1<0∨x.2≠0 then .error 0 else .ok (x.1,n - 1)
end Go.Eu
namespace Go.Eu
end Go.Eu
namespace Go.Eu
open Go.Abs
section
variable {α:Type}{n n2 e:Int}{x:Tm×Int}{z t:Tm}{k:Tm→Int→Out α}{u:Unit}
end
section
variable {E:List Ck}{g m:Tm}{a:List Tm}{s e:Int}{d:Ck}{u:Unit}
end
end Go.Eu
namespace Go.Eu
end Go.Eu
namespace Go.Eu
open Go.Abs
structure Lt (c:IP):Prop where
 ov:c.over=false
 lm:c.limit=1000
 s0:0≤c.steps
 s1:c.steps≤1000
 n0:0≤c.nodes
 n1:c.nodes≤2000
section
variable {E:List Ck}
structure kV (c c':IP) (z z':Nat):Prop where
 lt:Lt c'
 st:c.steps≤c'.steps
 nd:c.nodes≤c'.nodes
 sz:(z':Int)≤z+(c'.nodes - c.nodes)
def SW (n:Nat) (W:IP→Tm→Out (Tm×IP)) (V:Int→Tm→Out (Tm×Int)):Prop:=∀c t r c',Lt c→W c t= .ok (r,c')→c'.over=false→(size t:Int)≤30000+c.nodes →
 kV c c' (size t) (size r)∧∀l:Int,1000 - c.steps≤l→V l t= .ok (r,l - (c'.steps - c.steps))
variable {n:Nat}{W:IP→Tm→Out (Tm×IP)}{V:Int→Tm→Out (Tm×Int)}
structure oG (c c':IP) (z:Nat) (q:Option Tm):Prop where
 lt:Lt c'
 st:c.steps≤c'.steps
 nd:c.nodes≤c'.nodes
 sz:∀x,q=some x→(size x:Int)≤z+(c'.nodes - c.nodes)
end
section
variable {E:List Ck}{n:Nat}
end
section
variable {E:List Ck}
def mY {α:Type}(c:IP) (o:Int→Out (α×Int)) (q:α):Prop:=∀l:Int,1000 - c.steps≤l→∃l',o l= .ok (q,l')
end
section
variable {E:List Ck}
end
section
variable {E:List Ck}
def LW (W:Int→Tm→Out (Tm×Int)):Prop:=∀l t r l' k,0≤k→W l t= .ok (r,l')→W (l+k) t= .ok (r,l'+k)
structure Exit (E:List Ck) (n:Nat) (l:Int) (a:Tm) (l':Int):Prop where
 many:Z9.many (BI a).2.length=false
 lam:(BI a).1.kind=5→(BI a).2.length=0
 lt:(BI a).1.kind≠11
 proj:(BI a).1.kind=9∨(BI a).1.kind=10→∃p,(BI a).1=RX (BI a).1.kind p∧okB p=true∧p.kind≠8∧Uo E Z9 n l p= .ok (p,l')∧a=apply (BI a).1 (BI a).2
 con:(BI a).1.kind=3→YB E Z9 (Uo E Z9 n) n (BI a).1 (BI a).2 l= .ok (none,l')
 oth:(BI a).1.kind≠9→(BI a).1.kind≠10→(BI a).1.kind≠3→l'=l
end
def nW {α:Type}:Out α→Int
 | .ok _=>0
 | _=>11
def nI {α:Type}(z:α):Out (α×Int)→α
 | .ok (a,_)=>a
 | _=>z
section
variable {α:Type}{o:Out (α×Int)}{a:α×Int}{z:α}{e:Int}
end
def mP (p:Int×List Int):List PV:=[I p.1,.lst (p.2.map CG)]
end Go.Eu
