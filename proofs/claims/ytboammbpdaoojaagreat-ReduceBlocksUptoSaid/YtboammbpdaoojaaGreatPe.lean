/- Part of the proofs: an abstract program logic, plain models and contracts of functions. -/
import Derived.Test.YtboammbpdaoojaaGreatPb
import Derived.Shelf.Sort.Plain
import Derived.Shelf.Slices.In.SortNone
import Derived.Test.YtboammbpdaoojaaGreatPc
import Derived.Test.YtboammbpdaoojaaGreatPd
set_option linter.unusedVariables false
set_option linter.unusedSimpArgs false
set_option maxRecDepth 100000
namespace Go.Eu
open Go.Abs Go.Sort
def FL (zs:List Int):List Int:=zs.mergeSort fun x y=>decide (x≤y)
theorem Sj (zs:List Int):(FL zs).length=zs.length:=List.length_mergeSort _
end Go.Eu
namespace Go.Eu
open Go.Abs
def U4 (c:Int) (v:CE):Bool:=decide (-65536≤v.index)&&decide (v.index<8)&&decide (0≤v.plus)&&decide (v.plus≤100)&&(decide (c≤0)||decide (v.plus<c))
def JS (p:Option Int) (i:Int):Bool:=match p with
 | none=>true
 | some j=>decide (j<i)
def Fx (c:Int):Option Int→List CE→Bool
 | _,[]=>true
 | p,v::vs=>U4 c v&&JS p v.index&&Fx c (some v.index) vs
def CA (l:CZ):Bool:=decide (0≤l.const)&&decide (l.const≤100)&&Fx l.const none l.vars
def Fa:CZ:=⟨0,[]⟩
def P7 (l:CZ):Bool:=l.vars.any fun v=>decide (l.const≤v.plus)
def RO (vs:List CE):Int:=(vs.getD (vs.length - 1) default).index
def GY (l:CZ):Int:=if CA l=true∧l.vars≠[] then max 0 (RO l.vars+1) else 0
def Fq (x:CE) (rec:List CE→List CE):List CE→List CE
 | []=>x::rec []
 | y::b=>if x.index<y.index then x::rec (y::b) else if y.index<x.index then y::Fq x rec b else ⟨x.index,max x.plus y.plus⟩::rec b
def DX:List CE→List CE→List CE
 | [],b=>b
 | x::a,b=>Fq x (DX a) b
def Mq (vs:List CE):Int:=vs.foldl (fun m v=>max m v.plus) 0
def RW (c:Int) (vs:List CE):CZ:=⟨if vs≠[]∧c≤Mq vs then 0 else c,vs⟩
def Is (a b:CZ):CZ:=RW (max a.const b.const) (DX a.vars b.vars)
def Nk (n:Int) (v:CE):CE:=⟨v.index,v.plus+n⟩
def JM (l:CZ) (n:Int):Int:=if l.const > 0∨l.vars=[] then l.const+n else 0
def E3 (l:CZ) (n:Int):CZ×Int :=
 if CA l=false then (Fa,3) else if n<0 then (Fa,2) else if n > 100 then (Fa,15)
 else if JM l n > 100 then (Fa,15)
 else if (l.vars.any fun v=>decide (v.plus+n > 100))=true then (Fa,15)
 else (⟨JM l n,l.vars.map (Nk n)⟩,0)
def GN (ps:List CZ):CZ→List CE→CZ×Int
 | out,[]=>(out,0)
 | out,v::vs =>
  if 0≤v.index∧v.index<ps.length then
   (if (E3 (ps.getD v.index.toNat default) v.plus).2≠0 then (Fa,(E3 (ps.getD v.index.toNat default) v.plus).2)
    else GN ps (Is out (E3 (ps.getD v.index.toNat default) v.plus).1) vs)
  else GN ps (Is out ⟨0,[v]⟩) vs
def Cv (l:CZ) (ps:List CZ):CZ×Int :=
 if CA l=false∨ps.all CA=false then (Fa,3)
 else if GY l > ps.length then (Fa,24)
 else GN ps ⟨l.const,[]⟩ l.vars
-- the program's way
def mg (k:Int):List (Int×Int)→Option Int
 | []=>none
 | (j,x)::r=>if j=k then some x else mg k r
def ms (k v:Int):List (Int×Int)→List (Int×Int)
 | []=>[(k,v)]
 | (j,x)::r=>if j=k then (j,v)::r else (j,x)::ms k v r
def GR (m:List (Int×Int)) (i p:Int):List (Int×Int):=match mg i m with
 | some old=>if p > old then ms i p m else m
 | none=>ms i p m
def Hw (n:Int) (m:List (Int×Int)) (v:CE):List (Int×Int):=GR m v.index (v.plus+n)
def Qm (s:List (Int×Int)×Int) (l:CZ) (n:Int):List (Int×Int)×Int:=(l.vars.foldl (Hw n) s.1,max s.2 (l.const+n))
def EA (ps:List CZ) (s:List (Int×Int)×Int) (v:CE):List (Int×Int)×Int :=
 if v.index<0 then (GR s.1 v.index v.plus,s.2) else Qm s (ps.getD v.index.toNat default) v.plus
def G2 (m:List (Int×Int)):List CE:=(FL (m.map Prod.fst)).map fun i=>⟨i,(mg i m).getD 0⟩
def JU (l:CZ):CZ×Int :=
 if (l.vars.any fun v=>decide (v.plus > 100))=true then (Fa,15)
 else if l.const > 100 then (Fa,15)
 else if P7 l=true then (⟨0,l.vars⟩,0) else (l,0)
def Ik (l:CZ) (ps:List CZ):CZ×Int :=
 if CA l=false∨ps.all CA=false then (Fa,3)
 else if GY l > ps.length then (Fa,24)
 else JU ⟨(l.vars.foldl (EA ps) ([],l.const)).2,G2 (l.vars.foldl (EA ps) ([],l.const)).1⟩
-- offsets
def EC:List CE→Int→Int
 | [],_=> -1
 | v::vs,i=>if v.index=i then max v.plus (EC vs i) else EC vs i
abbrev LY (l:List CE):Prop:=l.Pairwise fun a b=>a.index<b.index
theorem OF:∀(vs:List CE) (i:Int),-1≤EC vs i
 | [],i=>by simp[EC]
 | v::vs,i=>by have:=OF vs i;simp only[EC];split<;>omega
theorem KW:∀{vs:List CE}{i:Int},(∀v∈vs,v.index≠i)→EC vs i= -1
 | [],i,_=>rfl
 | v::vs,i,h=>by simp only[EC,if_neg (h v Ap)];exact KW fun w hw=>h w (by simp[hw])
theorem L0:∀{vs:List CE}{v:CE},v∈vs→v.plus≤EC vs v.index
 | w::vs,v,h=>by
  rcases List.mem_cons.1 h with rfl | h
  ·simp only[EC,if_true];omega
  have:=L0 h;simp only[EC];split<;>omega
theorem YR:∀{a b:List CE},LY a→LY b→(∀v∈a,0≤v.plus)→(∀v∈b,0≤v.plus)→(∀i,EC a i=EC b i)→a=b
 | [],[],_,_,_,_,_=>rfl
 | [],y::b,_,_,_,hb,h=>by
  have:=h y.index;have:=hb y Ap;have:=L0 (vs:=y::b) (v:=y) Ap;simp only[EC] at *;omega
 | x::a,[],_,_,ha,_,h=>by
  have:=h x.index;have:=ha x Ap;have:=L0 (vs:=x::a) (v:=x) Ap;simp only[EC] at *;omega
 | x::a,y::b,h1,h2,ha,hb,h=>by
  have hx:=ha x Ap;have hy:=hb y Ap;rw[LY,List.pairwise_cons] at h1 h2;have na:EC a x.index= -1:=KW fun v hv=>by have:=h1.1 v hv;omega
  have nb:EC b y.index= -1:=KW fun v hv=>by have:=h2.1 v hv;omega
  have e:x.index=y.index:=by
   rcases Int.lt_trichotomy x.index y.index with q | q | q
   ·have:=h x.index;have nb':EC b x.index= -1:=KW fun v hv=>by have:=h2.1 v hv;omega
    simp only[EC,if_true,if_neg (show ¬y.index=x.index by omega),nb'] at this;omega
   ·exact q
   have:=h y.index;have na':EC a y.index= -1:=KW fun v hv=>by have:=h1.1 v hv;omega
   simp only[EC,if_true,if_neg (show ¬x.index=y.index by omega),na'] at this;omega
  have e2:x.plus=y.plus:=by
   have:=h x.index;simp only[EC,if_true,if_pos e.symm] at this;rw[←e] at nb;omega
  have exy:x=y:=by cases x;cases y;simp_all
  subst exy;congr 1;refine YR h1.2 h2.2 (fun v hv=>ha v (by simp[hv])) (fun v hv=>hb v (by simp[hv])) fun i=>?_;by_cases q:x.index=i
  ·subst q;rw[na,nb]
  have:=h i;simpa only[EC,if_neg q] using this
-- merging
theorem N0 {x:CE}{rec:List CE→List CE}{g:Int→Int}(hg:∀i,-1≤g i) (hr:∀b i,EC (rec b) i=max (g i) (EC b i)):∀(b:List CE) (i:Int),EC (Fq x rec b) i=max (EC [x] i) (max (g i) (EC b i))
 | [],i=>by have:=hg i;simp only[Fq,EC,hr];split<;>omega
 | y::b,i=>by
  have:=hg i;have h0:=OF b i;have ih:=N0 (x:=x) hg hr b i;simp only[EC] at ih;simp only[Fq];split
  ·simp only[EC,hr]
   repeat' split
   all_goals omega
  split
  ·simp only[EC,ih]
   repeat' split
   all_goals omega
  have e:x.index=y.index:=by omega
  simp only[EC,hr,e]
  repeat' split
  all_goals omega
theorem Nb:∀(a b:List CE) (i:Int),EC (DX a b) i=max (EC a i) (EC b i)
 | [],b,i=>by have:=OF b i;simp only[DX,EC];omega
 | x::a,b,i=>by
  have h:=N0 (x:=x) (rec:=DX a) (g:=EC a) (OF a) (fun b i=>Nb a b i) b i;have h1:=OF a i;rw[DX,h];simp only[EC];split<;>omega
theorem Lr {Q:CE→Prop}{x:CE}{rec:List CE→List CE}(hx:Q x) (hm:∀u v:CE,Q u→Q v→u.index=v.index→Q ⟨u.index,max u.plus v.plus⟩) (hr:∀b,(∀v∈b,Q v)→∀v∈rec b,Q v):∀(b:List CE),(∀v∈b,Q v)→∀v∈Fq x rec b,Q v
 | [],hb,v,hv=>by
  simp only[Fq,List.mem_cons] at hv;rcases hv with rfl | hv
  ·exact hx
  ·exact hr [] Ap v hv
 | y::b,hb,v,hv=>by
  simp only[Fq] at hv;have hy:=hb y Ap;have hb':∀v∈b,Q v:=fun v hv=>hb v (by simp[hv]);split at hv
  ·rcases List.mem_cons.1 hv with rfl | hv
   ·exact hx
   exact hr _ hb v hv
  split at hv
  ·rcases List.mem_cons.1 hv with rfl | hv
   ·exact hy
   exact Lr hx hm hr b hb' v hv
  rcases List.mem_cons.1 hv with rfl | hv
  ·exact hm x y hx hy Ao
  exact hr _ hb' v hv
theorem IA {Q:CE→Prop}(hm:∀u v:CE,Q u→Q v→u.index=v.index→Q ⟨u.index,max u.plus v.plus⟩):∀(a b:List CE),(∀v∈a,Q v)→(∀v∈b,Q v)→∀v∈DX a b,Q v
 | [],b,_,hb=>by simpa [DX] using hb
 | x::a,b,ha,hb=>by
  rw[DX];exact Lr (ha x Ap) hm (fun b hb=>IA hm a b (fun v hv=>ha v (by simp[hv])) hb) b hb
theorem Pp {x:CE}{a:List CE}(hr:∀b,LY b→LY (DX a b)) (hx:∀v∈a,x.index<v.index):∀(b:List CE),LY b→LY (Fq x (DX a) b)
 | [],_=>by
  rw[Fq,LY,List.pairwise_cons];exact⟨IA (Q:=fun v=>x.index<v.index) (fun u v h _ _=>h) a [] hx Ap,hr [] (by simp[LY])⟩
 | y::b,hb=>by
  have hb':=hb;rw[LY,List.pairwise_cons] at hb';simp only[Fq];split
  ·rename_i q;rw[LY,List.pairwise_cons];refine⟨IA (Q:=fun v=>x.index<v.index) (fun u v h _ _=>h) a _ hx fun v hv=>?_,hr _ hb⟩;rcases List.mem_cons.1 hv with rfl | hv
   ·exact q
   have:=hb'.1 v hv;omega
  split
  ·rename_i q;rw[LY,List.pairwise_cons];refine⟨Lr (Q:=fun v=>y.index<v.index) q (fun u v h _ _=>h) (fun c hc=>IA (Q:=fun v=>y.index<v.index) (fun u v h _ _=>h) a c (fun v hv=>by have:=hx v hv;omega) hc) b hb'.1,Pp hr hx b hb'.2⟩
  have e:x.index=y.index:=by omega
  rw[LY,List.pairwise_cons];refine⟨IA (Q:=fun v=>x.index<v.index) (fun u v h _ _=>h) a b hx (fun v hv=>by have:=hb'.1 v hv;omega),hr _ hb'.2⟩
theorem PK:∀{a b:List CE},LY a→LY b→LY (DX a b)
 | [],b,_,hb=>by simpa [DX] using hb
 | x::a,b,ha,hb=>by
  rw[LY,List.pairwise_cons] at ha;rw[DX];exact Pp (fun b hb=>PK ha.2 hb) ha.1 b hb
-- the greatest offset
theorem WI:∀(vs:List CE) (m:Int),m≤vs.foldl (fun m v=>max m v.plus) m
 | [],m=>by simp
 | v::vs,m=>by have:=WI vs (max m v.plus);simp only[List.foldl_cons];omega
theorem S3:∀{vs:List CE}{m:Int}{v:CE},v∈vs→v.plus≤vs.foldl (fun m v=>max m v.plus) m
 | w::vs,m,v,h=>by
  rcases List.mem_cons.1 h with rfl | h
  ·have:=WI vs (max m v.plus);simp only[List.foldl_cons];omega
  rw[List.foldl_cons];exact S3 (vs:=vs) h
theorem Vj:∀{vs:List CE}{m c:Int},m<c→(∀v∈vs,v.plus<c)→vs.foldl (fun m v=>max m v.plus) m<c
 | [],m,c,h,_=>by simpa using h
 | v::vs,m,c,h,hv=>by
  have:=hv v Ap;simp only[List.foldl_cons];exact Vj Ao fun w hw=>hv w (by simp[hw])
def Iq (c:Int) (vs:List CE):Int:=if (vs.any fun v=>decide (c≤v.plus))=true then 0 else c
theorem V7 {c:Int}{vs:List CE}(hc:0≤c) (hv:∀v∈vs,0≤v.plus):(RW c vs).const=Iq c vs:=by
 simp only[RW,Iq];by_cases h:(vs.any fun v=>decide (c≤v.plus))=true
 ·rw[if_pos h];simp only[List.any_eq_true,decide_eq_true_eq] at h;obtain⟨v,hm,hp⟩:=h;have h1:=S3 (m:=0) hm;rw[if_pos ⟨List.ne_nil_of_mem hm,by unfold Mq;omega⟩]
 rw[if_neg h];simp only[List.any_eq_true,decide_eq_true_eq,not_exists,not_and] at h;split
 ·rename_i q;by_cases hc0:c=0
  ·exact hc0.symm
  have:=Vj (vs:=vs) (m:=0) (c:=c) Ao fun v hv=>by have:=h v hv;omega
  have:=q.2;unfold Mq at this;omega
 rfl
-- the offsets of the program
def J0 (m:List (Int×Int)) (i:Int):Int:=(mg i m).getD (-1)
theorem ck (k v:Int):∀(m:List (Int×Int)) (j:Int),mg j (ms k v m)=if k=j then some v else mg j m
 | [],j=>by simp[ms,mg]
 | (i,x)::m,j=>by
  have ih:=ck k v m j;simp only[ms];split
  ·rename_i q;subst q;simp only[mg];split<;>rfl
  rename_i q;simp only[mg,ih];by_cases h1:i=j
  ·subst h1;rw[if_pos rfl,if_neg (Ne.symm q),if_pos rfl]
  simp[h1]
theorem VD (k v:Int):∀(m:List (Int×Int)),(ms k v m).map Prod.fst=if k∈m.map Prod.fst then m.map Prod.fst else m.map Prod.fst++[k]
 | []=>by simp[ms]
 | (i,x)::m=>by
  have ih:=VD k v m;simp only[ms];split
  ·rename_i q;subst q;simp
  rename_i q;simp only[List.map_cons,ih,List.mem_cons,(show (k=i)=False by simp;exact fun h=>q h.symm),false_or];split<;>simp
theorem VA:∀{m:List (Int×Int)}{k:Int},mg k m=none↔k ∉ m.map Prod.fst
 | [],k=>by simp[mg]
 | (i,x)::m,k=>by
  simp only[mg,List.map_cons,List.mem_cons,not_or];split
  ·rename_i q;subst q;simp
  rename_i q;rw[VA];exact⟨fun h=>⟨fun e=>q e.symm,h⟩,fun h=>h.2⟩
structure P8 (m:List (Int×Int)):Prop where
 nd:(m.map Prod.fst).Nodup
 pos:∀k v,mg k m=some v→0≤v
theorem P8.nil:P8 []:=⟨by simp,fun k v h=>by simp[mg] at h⟩
theorem cW {m:List (Int×Int)}(k v:Int) (h:(m.map Prod.fst).Nodup):((ms k v m).map Prod.fst).Nodup:=by
 rw[VD];split
 ·exact h
 rename_i q;rw[List.nodup_append];refine⟨h,by simp,fun a ha b hb=>?_⟩;simp only[List.mem_singleton] at hb;subst hb;exact fun e=>q (e▸ha)
theorem Rb {m:List (Int×Int)}{i p:Int}(h:P8 m) (hp:0≤p):P8 (GR m i p):=by
 have hs:P8 (ms i p m):=⟨cW i p h.nd,fun k v hk=>by
  rw[ck] at hk;split at hk
  ·cases hk;exact hp
  exact h.pos k v hk⟩
 unfold GR;split
 ·split
  ·exact hs
  exact h
 exact hs
theorem UA {m:List (Int×Int)}(h:P8 m) (i:Int): -1≤J0 m i:=by
 unfold J0;cases e:mg i m with
 | none=>simp
 | some v=>have:=h.pos i v e;simp;omega
theorem NA {m:List (Int×Int)}{i p:Int}(h:P8 m) (hp:0≤p) (j:Int):J0 (GR m i p) j=max (EC [⟨i,p⟩] j) (J0 m j):=by
 have h1:J0 (ms i p m) j=if i=j then p else J0 m j:=by unfold J0;rw[ck];split<;>rfl
 have h2:=UA h j;unfold GR;simp only[EC];cases e:mg i m with
 | none =>
  simp only[h1];split
  ·rename_i q;subst q;simp only[J0,e,Option.getD_none];omega
  ·omega
 | some old =>
  simp only;split
  ·rw[h1];split
   ·rename_i q;subst q;simp only[J0,e,Option.getD_some];omega
   omega
  split
  ·rename_i q;subst q;simp only[J0,e,Option.getD_some];omega
  omega
theorem M9 {n:Int}:∀(vs:List CE) (m:List (Int×Int)),P8 m→(∀v∈vs,0≤v.plus+n)→P8 (vs.foldl (Hw n) m)∧∀i,J0 (vs.foldl (Hw n) m) i=max (EC (vs.map (Nk n)) i) (J0 m i)
 | [],m,h,_=>⟨h,fun i=>by have:=UA h i;simp only[List.foldl_nil,List.map_nil,EC];omega⟩
 | v::vs,m,h,hv=>by
  have hp:=hv v Ap;have h1:P8 (Hw n m v):=Rb h hp;obtain⟨h2,h3⟩:=M9 vs (Hw n m v) h1 fun w hw=>hv w (by simp[hw]);refine⟨h2,fun i=>?_⟩;rw[List.foldl_cons,h3 i,show J0 (Hw n m v) i=max (EC [⟨v.index,v.plus+n⟩] i) (J0 m i) from NA h hp i];have:=UA h i;simp only[List.map_cons,EC,Nk];split<;>omega
theorem NN (zs:List Int):(FL zs).Perm zs:=List.mergeSort_perm _ _
theorem Ul (zs:List Int):(FL zs).Pairwise fun a b=>a≤b:=by
 have:=List.pairwise_mergeSort (le:=fun(x y:Int)=>decide (x≤y)) (fun a b c h1 h2=>by simp at *;omega) (fun a b=>by simp;omega) zs;exact this.imp fun h=>by simpa using h
theorem TL {m:List (Int×Int)}(h:P8 m):LY (G2 m):=by
 have hn:(FL (m.map Prod.fst)).Nodup:=(NN _).nodup_iff.2 h.nd;have hs:=Ul (m.map Prod.fst);rw[LY,G2,List.pairwise_map];exact(hs.and hn).imp fun⟨h1,h2⟩=>by simp only;omega
theorem VO {f:Int→Int}:∀(ks:List Int) (i:Int),(∀k∈ks,0≤f k)→EC (ks.map fun k=>(⟨k,f k⟩:CE)) i=if i∈ks then f i else -1
 | [],i,_=>by simp[EC]
 | k::ks,i,h=>by
  have ih:=VO ks i fun k hk=>h k (by simp[hk]);simp only[List.map_cons,EC,ih,List.mem_cons];by_cases q:k=i
  ·subst q;have:=h k Ap;simp only[if_true,true_or];split<;>omega
  simp[q,Ne.symm q]
theorem SC {m:List (Int×Int)}(h:P8 m) (i:Int):EC (G2 m) i=J0 m i:=by
 rw[G2,VO (f:=fun i=>(mg i m).getD 0)]
 ·simp only[(NN _).mem_iff,J0];split
  ·rename_i q;cases e:mg i m with
   | none=>exact absurd q (VA.1 e)
   | some v=>simp
  rename_i q;rw[VA.2 q];rfl
 intro k hk;cases e:mg k m with
 | none=>simp
 | some v=>simpa using h.pos k v e
theorem aX {m:List (Int×Int)}(h:P8 m):∀v∈G2 m,0≤v.plus:=by
 intro v hv;simp only[G2,List.mem_map] at hv;obtain⟨k,_,rfl⟩:=hv;simp only;cases e:mg k m with
 | none=>simp
 | some v=>simpa using h.pos k v e
-- valid levels
theorem I8:∀{c:Int}{vs:List CE}{p:Option Int},Fx c p vs=true→∀v∈vs,U4 c v=true
 | c,w::vs,p,h,v,hv=>by
  simp only[Fx,Bool.and_eq_true] at h;rcases List.mem_cons.1 hv with rfl | hv
  ·exact h.1.1
  exact I8 h.2 v hv
theorem QW {c:Int}{v:CE}(h:U4 c v=true):0≤v.plus∧v.plus≤100:=by
 simp only[U4,Bool.and_eq_true,decide_eq_true_eq] at h;exact⟨h.1.1.2,h.1.2⟩
theorem MM:∀{c:Int}{vs:List CE}{p:Option Int},Fx c p vs=true→LY vs∧∀v∈vs,JS p v.index=true
 | c,[],p,_=>⟨by simp[LY],by simp⟩
 | c,w::vs,p,h=>by
  simp only[Fx,Bool.and_eq_true] at h;obtain⟨h1,h2⟩:=MM h.2;simp only[JS,decide_eq_true_eq] at h2;refine⟨?_,fun v hv=>?_⟩
  ·rw[LY,List.pairwise_cons];exact⟨h2,h1⟩
  rcases List.mem_cons.1 hv with rfl | hv
  ·exact h.1.2
  have a:=h.1.2;have b:=h2 v hv;unfold JS at a ⊢;cases p with
  | none=>rfl
  | some j=>simp only[decide_eq_true_eq] at a ⊢;omega
theorem da {n:Int}{vs:List CE}(h:LY vs):LY (vs.map (Nk n)):=by
 rw[LY,List.pairwise_map];exact h.imp fun h=>h
structure iI (m:List (Int×Int)) (c:Int) (out:CZ):Prop where
 ok:P8 m
 asc:LY out.vars
 pos:∀v∈out.vars,0≤v.plus∧v.plus≤100
 off:∀i,EC out.vars i=J0 m i
 c0:0≤c
 c1:c≤100
 con:out.const=Iq c out.vars
theorem V5 {m m' : List (Int × Int)} {c cx : Int} {out x : CZ} (h : iI m c out) (hm : P8 m') (hx : LY x.vars) (hp : ∀ v ∈ x.vars, 0 ≤ v.plus ∧ v.plus ≤ 100) (ho : ∀ i, J0 m' i = max (EC x.vars i) (J0 m i)) (h0 : 0 ≤ cx) (h1 : cx ≤ 100) (hc : x.const = cx ∨ x.const = 0 ∧ ∃ v ∈ x.vars, cx ≤ v.plus) : iI m' (max c cx) (Is out x) := by
 have hv : ∀ v ∈ DX out.vars x.vars, 0 ≤ v.plus ∧ v.plus ≤ 100 := IA (Q := fun v => 0 ≤ v.plus ∧ v.plus ≤ 100) (fun u v h1 h2 _ => by simp only; omega) _ _ h.pos hp
 have hx0 : 0 ≤ x.const := by rcases hc with h | h <;> omega
 have ho0 : 0 ≤ out.const := by rw [h.con]; unfold Iq; split; · omega
                                exact h.c0
 refine ⟨hm, PK h.asc hx, hv, fun i => ?_, by have := h.c0; omega, by have := h.c1; omega, ?_⟩
 ·simp only [Is, RW, Nb, h.off i, ho i]; omega
 have hmem : ∀ v, (v ∈ out.vars ∨ v ∈ x.vars) → ∃ u ∈ DX out.vars x.vars, v.plus ≤ u.plus := by
  intro v hv'
  have h1 : v.plus ≤ EC (DX out.vars x.vars) v.index := by
   rw [Nb]
   rcases hv' with h | h <;> have := L0 h <;> omega
  have h2 : 0 ≤ v.plus := by
   rcases hv' with q | q
   ·exact (h.pos v q).1
   exact (hp v q).1
  revert h1
  generalize DX out.vars x.vars = l
  intro h1
  induction l with
  | nil => simp only [EC] at h1; omega
  | cons y l ih =>
   simp only [EC] at h1
   by_cases q : v.plus ≤ y.plus
   ·exact ⟨y, by simp, q⟩
   obtain ⟨u, hu, hl⟩ := ih (by split at h1 <;> omega)
   exact ⟨u, by simp [hu], hl⟩
 rw [Is, V7 Ao fun v hv' => (hv v hv').1]
 show Iq (max out.const x.const) (DX out.vars x.vars) = Iq (max c cx) (DX out.vars x.vars)
 generalize hl : DX out.vars x.vars = l
 rw [hl] at hmem hv
 have e1 : out.const = c ∨ out.const = 0 ∧ ∃ v ∈ l, c ≤ v.plus := by
  rw [h.con]
  unfold Iq
  split
  ·rename_i q
   simp only [List.any_eq_true, decide_eq_true_eq] at q
   obtain ⟨v, q1, q2⟩ := q
   obtain ⟨u, hu, hle⟩ := hmem v (.inl q1)
   exact .inr ⟨O, u, hu, by omega⟩
  exact .inl O
 have e2 : x.const = cx ∨ x.const = 0 ∧ ∃ v ∈ l, cx ≤ v.plus := by
  rcases hc with q | ⟨q, v, q1, q2⟩
  ·exact .inl q
  obtain ⟨u, hu, hle⟩ := hmem v (.inr q1)
  exact .inr ⟨q, u, hu, by omega⟩
 have hc0 := h.c0
 have key : ∀ a b : Int, (∀ v ∈ l, a ≤ v.plus ↔ b ≤ v.plus) → (a = b ∨ ∃ v ∈ l, a ≤ v.plus) → Iq a l = Iq b l := by
  intro a b h1 h2
  unfold Iq
  have : (l.any fun v => decide (a ≤ v.plus)) = (l.any fun v => decide (b ≤ v.plus)) := by
   rw [Bool.eq_iff_iff]
   simp only [List.any_eq_true, decide_eq_true_eq]
   exact ⟨fun ⟨v, q1, q2⟩ => ⟨v, q1, (h1 v q1).1 q2⟩, fun ⟨v, q1, q2⟩ => ⟨v, q1, (h1 v q1).2 q2⟩⟩
  rw [this]
  rcases h2 with rfl | ⟨v, q1, q2⟩
  ·rfl
  have : (l.any fun v => decide (b ≤ v.plus)) = true := by
   simp only [List.any_eq_true, decide_eq_true_eq]; exact ⟨v, q1, (h1 v q1).1 q2⟩
  rw [if_pos this, if_pos this]
 by_cases hM : ∃ v ∈ l, max c cx ≤ v.plus
 ·obtain ⟨v, q1, q2⟩ := hM
  have a1 : Iq (max c cx) l = 0 := by
   unfold Iq; rw [if_pos]; simp only [List.any_eq_true, decide_eq_true_eq]; exact ⟨v, q1, q2⟩
  have a2 : Iq (max out.const x.const) l = 0 := by
   unfold Iq; rw [if_pos]; simp only [List.any_eq_true, decide_eq_true_eq]
   exact ⟨v, q1, by rcases e1 with q | q <;> rcases e2 with q' | q' <;> omega⟩
  rw [a1, a2]
 have hM' : ∀ v ∈ l, v.plus < max c cx := fun v hv' => by
  exact Int.not_le.1 fun q => hM ⟨v, hv', q⟩
 have : max out.const x.const = max c cx := by
  rcases e1 with q | ⟨q, v, v1, v2⟩
  ·rcases e2 with q' | ⟨q', u, u1, u2⟩
   ·omega
   have := hM' u u1; omega
  have := hM' v v1
  rcases e2 with q' | ⟨q', u, u1, u2⟩
  ·omega
  have := hM' u u1; omega
 rw [this]
-- errors stay
def Zx (s:List (Int×Int)×Int):Prop:=(∃i,100<J0 s.1 i)∨100<s.2
theorem Wv {ps:List CZ}(hps:∀l∈ps,CA l=true) {s:List (Int×Int)×Int}{v:CE}(hm:P8 s.1) (hv:0≤v.plus) (hi:v.index<ps.length):P8 (EA ps s v).1∧(Zx s→Zx (EA ps s v)):=by
 unfold EA;split
 ·refine⟨Rb hm hv,fun h=>?_⟩;rcases h with ⟨i,h⟩ | h
  ·exact .inl ⟨i,by rw[NA hm hv];omega⟩
  exact .inr h
 rename_i q;have hmem:ps.getD v.index.toNat default∈ps:=by
  have hlt:v.index.toNat<ps.length:=by omega
  rw[List.getD_eq_getElem?_getD,List.getElem?_eq_getElem hlt];exact List.getElem_mem hlt
 have hl:=hps _ hmem;simp only[CA,Bool.and_eq_true,decide_eq_true_eq] at hl;obtain⟨h1,h2⟩:=M9 (n:=v.plus) (ps.getD v.index.toNat default).vars s.1 hm fun w hw=>by have:=(QW (I8 hl.2 w hw)).1;omega
 refine⟨h1,fun h=>?_⟩;rcases h with ⟨i,h⟩ | h
 ·exact .inl ⟨i,by simp only[Qm,h2];omega⟩
 exact .inr (by simp only[Qm];omega)
theorem VT {ps:List CZ}(hps:∀l∈ps,CA l=true):∀(vs:List CE) (s:List (Int×Int)×Int),(∀v∈vs,0≤v.plus∧v.index<ps.length)→P8 s.1→P8 (vs.foldl (EA ps) s).1∧(Zx s→Zx (vs.foldl (EA ps) s))
 | [],s,_,h=>⟨h,id⟩
 | v::vs,s,hv,h=>by
  have hv0:=hv v Ap;obtain⟨h1,h2⟩:=Wv hps (s:=s) h hv0.1 hv0.2;obtain⟨h3,h4⟩:=VT hps vs (EA ps s v) (fun w hw=>hv w (by simp[hw])) h1;exact⟨h3,fun b=>h4 (h2 b)⟩
theorem jZ {s:List (Int×Int)×Int}(hm:P8 s.1) (h:Zx s):JU ⟨s.2,G2 s.1⟩=(Fa,15):=by
 unfold JU;rcases h with ⟨i,h⟩ | h
 ·rw[if_pos];simp only[List.any_eq_true,decide_eq_true_eq];rw[←SC hm] at h;have:∀l:List CE,100<EC l i→∃v∈l,100<v.plus:=by
   intro l h
   induction l with
   | nil=>simp only[EC] at h;omega
   | cons y l ih =>
    simp only[EC] at h;by_cases q:100<y.plus
    ·exact⟨y,by simp,q⟩
    obtain⟨u,hu,hl⟩:=ih (by split at h<;>omega);exact⟨u,by simp[hu],hl⟩
  obtain⟨v,hv,hl⟩:=this _ h;exact⟨v,hv,by omega⟩
 split
 ·rfl
 first | rfl | (split<;>first | rfl | (rename_i q;exact absurd h q)) | simp[h]
theorem eg {m:List (Int×Int)}{c:Int}{out:CZ}(h:iI m c out):JU ⟨c,G2 m⟩=(out,0):=by
 have e:G2 m=out.vars:=YR (TL h.ok) h.asc (aX h.ok) (fun v hv=>(h.pos v hv).1) fun i=>by rw[SC h.ok,h.off i]
 unfold JU;simp only[e];rw[if_neg,if_neg (by have:=h.c1;omega)]
 ·have hc:=h.con;unfold P7 Iq at *;simp only;split
  ·rename_i q;rw[if_pos q] at hc;rw[←hc]
  rename_i q;rw[if_neg q] at hc;rw[←hc]
 simp only[List.any_eq_true,decide_eq_true_eq,not_exists,not_and];intro v hv;have:=(h.pos v hv).2;omega
theorem P0 {l:CZ}{n:Int}(hl:CA l=true) (h0:0≤n) (h1:n≤100) :
  (E3 l n=(Fa,15)∧(100<l.const+n∨∃v∈l.vars,100<v.plus+n)) ∨
  (E3 l n=(⟨JM l n,l.vars.map (Nk n)⟩,0)∧l.const+n≤100∧∀v∈l.vars,v.plus+n≤100):=by
 have hl':=hl;simp only[CA,Bool.and_eq_true,decide_eq_true_eq] at hl';unfold E3;rw[if_neg (by simp[hl]),if_neg Ao,if_neg Ao];split
 ·rename_i q;refine .inl ⟨O,.inl ?_⟩;unfold JM at q;split at q<;>omega
 rename_i q;split
 ·rename_i q';simp only[List.any_eq_true,decide_eq_true_eq] at q';obtain⟨v,h1,h2⟩:=q';exact .inl ⟨O,.inr ⟨v,h1,by omega⟩⟩
 rename_i q';simp only[List.any_eq_true,decide_eq_true_eq,not_exists,not_and] at q';refine .inr ⟨O,?_,fun v hv=>by have:=q' v hv;omega⟩;unfold JM at q;split at q<;>omega
theorem fold_eq {ps:List CZ}(hps:∀l∈ps,CA l=true):∀(vs:List CE) (s:List (Int×Int)×Int) (out:CZ),(∀v∈vs,0≤v.plus∧v.plus≤100∧v.index<ps.length)→iI s.1 s.2 out →
  JU ⟨(vs.foldl (EA ps) s).2,G2 (vs.foldl (EA ps) s).1⟩=GN ps out vs
 | [],s,out,_,h=>eg h
 | v::vs,s,out,hv,h=>by
  obtain⟨p0,p1,pi⟩:=hv v Ap;have hv':∀w∈vs,0≤w.plus∧w.plus≤100∧w.index<ps.length:=fun w hw=>hv w (by simp[hw]);have hb:∀w∈vs,0≤w.plus∧w.index<ps.length:=fun w hw=>⟨(hv' w hw).1,(hv' w hw).2.2⟩;rw[List.foldl_cons,GN];by_cases hi:0≤v.index
  ·rw[if_pos ⟨hi,pi⟩];have hst:EA ps s v=Qm s (ps.getD v.index.toNat default) v.plus:=by unfold EA;rw[if_neg Ao]
   have hmem:ps.getD v.index.toNat default∈ps:=by
    have hlt:v.index.toNat<ps.length:=by omega
    rw[List.getD_eq_getElem?_getD,List.getElem?_eq_getElem hlt];exact List.getElem_mem hlt
   rw[hst];generalize ps.getD v.index.toNat default=l at hmem ⊢;have hl:=hps l hmem;have hl':=hl;simp only[CA,Bool.and_eq_true,decide_eq_true_eq] at hl';have hpos:∀w∈l.vars,0≤w.plus+v.plus:=fun w hw=>by have:=(QW (I8 hl'.2 w hw)).1;omega
   obtain⟨hm,ho⟩:=M9 (n:=v.plus) l.vars s.1 h.ok hpos;rcases P0 hl p0 p1 with ⟨e,q⟩ | ⟨e,q1,q2⟩
   ·rw[e,if_pos Ap];have hB:Zx (Qm s l v.plus):=by
     rcases q with q | ⟨w,q1,q2⟩
     ·exact .inr (by simp only[Qm];omega)
     refine .inl ⟨w.index,?_⟩;simp only[Qm,ho];have:=L0 (vs:=l.vars.map (Nk v.plus)) (v:=Nk v.plus w) (List.mem_map_of_mem q1);simp only[Nk] at this;omega
    obtain⟨g1,g2⟩:=VT hps vs (Qm s l v.plus) hb hm;exact jZ g1 (g2 hB)
   rw[e,if_neg Ap];refine fold_eq hps vs _ _ hv' (V5 h hm (da (MM hl'.2).1) (fun w hw=>?_) ho Ao q1 ?_)
   ·simp only[List.mem_map] at hw;obtain⟨u,hu,rfl⟩:=hw;exact⟨by have:=hpos u hu;simp only[Nk];omega,by have:=q2 u hu;simp only[Nk];omega⟩
   simp only[JM];split
   ·exact .inl O
   rename_i q;simp only[not_or] at q;refine .inr ⟨O,?_⟩;obtain⟨w,hw⟩:=List.exists_mem_of_ne_nil _ q.2;exact⟨Nk v.plus w,List.mem_map_of_mem hw,by have:=(QW (I8 hl'.2 w hw)).1;simp only[Nk];omega⟩
  rw[if_neg Ao];have hst:EA ps s v=(GR s.1 v.index v.plus,s.2):=by unfold EA;rw[if_pos Ao]
  rw[hst];refine fold_eq hps vs _ _ hv' ?_;have:=V5 (m':=GR s.1 v.index v.plus) (cx:=0) (x:=⟨0,[v]⟩) h (Rb h.ok p0) (by simp[LY]) (by simp;exact⟨p0,p1⟩) (fun i=>NA h.ok p0 i) Ao Ao (.inl rfl)
  rwa [show max s.2 0=s.2 by have:=h.c0;omega] at this
theorem Nx:∀{vs:List CE},LY vs→∀v∈vs,v.index≤RO vs
 | [w],_,v,hv=>by simp only[List.mem_singleton] at hv;subst hv;simp[RO]
 | w::u::vs,h,v,hv=>by
  rw[LY,List.pairwise_cons] at h;have e:RO (w::u::vs)=RO (u::vs):=by simp[RO]
  rw[e];rcases List.mem_cons.1 hv with rfl | hv
  ·have:=h.1 u Ap;have:=Nx h.2 u Ap;omega
  exact Nx h.2 v hv
theorem Zs (l:CZ) (ps:List CZ):Ik l ps=Cv l ps:=by
 unfold Ik Cv;by_cases h1:CA l=false∨ps.all CA=false
 ·rw[if_pos h1,if_pos h1]
 rw[if_neg h1,if_neg h1];by_cases h2:GY l > ps.length
 ·rw[if_pos h2,if_pos h2]
 rw[if_neg h2,if_neg h2];simp only[not_or,Bool.not_eq_false] at h1;have hl:=h1.1;simp only[CA,Bool.and_eq_true,decide_eq_true_eq] at hl;have hps:∀l∈ps,CA l=true:=by simpa [List.all_eq_true] using h1.2
 have ha:=(MM hl.2).1;refine fold_eq hps l.vars _ _ (fun v hv=>?_) ⟨P8.nil,by simp[LY],by simp,fun i=>by simp[EC,J0,mg],hl.1.1,hl.1.2,by simp[Iq]⟩;have a:=QW (I8 hl.2 v hv);refine⟨a.1,a.2,?_⟩;have:=Nx ha v hv;unfold GY at h2;rw[if_pos ⟨h1.1,List.ne_nil_of_mem hv⟩] at h2;omega
def FK (ps:List CZ):Int→List CZ→List CZ×Int
 | er,[]=>([],er)
 | er,l::ls=>((Cv l ps).1::(FK ps (Gg er (Cv l ps).2) ls).1,(FK ps (Gg er (Cv l ps).2) ls).2)
mutual
def Hn (ps:List CZ):Int→Tm→Tm×Int
 | er,.mk k i n ls ks=>(.mk k i n (FK ps er ls).1 (Ge ps (FK ps er ls).2 ks).1,(Ge ps (FK ps er ls).2 ks).2)
def Ge (ps:List CZ):Int→List Tm→List Tm×Int
 | er,[]=>([],er)
 | er,t::ts=>((Hn ps er t).1::(Ge ps (Hn ps er t).2 ts).1,(Ge ps (Hn ps er t).2 ts).2)
end
def Bp (t:Tm) (ps:List CZ):Tm×Int:=if (Hn ps 0 t).2≠0 then (Bi,(Hn ps 0 t).2) else ((Hn ps 0 t).1,0)
inductive Out (α:Type) where
 | stuck
 | fail
 | ok (a:α)
def Out.bind {α β:Type}:Out α→(α→Out β)→Out β
 | .stuck,_=> .stuck
 | .fail,_=> .fail
 | .ok a,k=>k a
def Rf (n:Int):Bool:=decide (-9223372036854775808≤n)&&decide (n≤9223372036854775807)
def XJ (l:CZ):Bool:=decide (l.vars.length<Dd)&&Rf l.const&&l.vars.all fun v=>Rf v.index&&Rf v.plus
mutual
def TQ:Tm→Bool
 | .mk k i n ls ks=>decide (n.size<Dd)&&decide (ls.length<Dd)&&ls.all XJ&&decide (ks.length<Dd)&&Rf k&&Rf i&&decide ((ks.length:Int)=arity k)&&(decide (k≠12)||decide (0≤i))&&(decide (k≠0)||decide (0≤i)&&decide (i<1099511627776))&&LR ks
def LR:List Tm→Bool
 | []=>true
 | t::ts=>TQ t&&LR ts
end
def okB (t:Tm):Bool:=TQ t&&decide (size t<549755813888)
def Out.chk {σ β:Type}(o:Out (Tm×σ)) (k:Tm×σ→Out β):Out β:=o.bind fun r=>if okB r.1=true then k r else .stuck
structure Sys (σ:Type) where
 over:σ→Bool
 res:σ→Tm→Int→Option σ
 many:Nat→Bool
def Sys.put {σ α:Type}(S:Sys σ) (s:σ) (x:Tm×Int) (k:Tm→σ→Out α):Out α :=
 if okB x.1=true then (match S.res s x.1 x.2 with
  | none=> .fail
  | some s'=>k x.1 s')
 else .stuck
def EL.result (c:EL) (t:Tm) (e:Int):EL:=({ c with steps:=wr (c.steps+1),nodes:=wr (c.nodes+Eo t) }).form t e
def DD:Sys EL:=⟨EL.over,fun c t e=>some (c.result t e),fun _=>false⟩
def B5:Sys Int:=⟨fun _=>false,fun n t e=>if n - 1<0∨e≠0 then none else some (n - 1),fun k=>decide (40960<k)⟩
def HA:Tm→List Tm×Tm
 | .mk k i n l [a,b]=>if k=6 then (a::(HA b).1,(HA b).2) else ([],.mk k i n l [a,b])
 | t=>([],t)
section
variable (E:List CK)
def Cb (i:Int):CK:=E.getD i.toNat default
def Ed (d:CK) (j:Int):Ib:=d.ctors.getD j.toNat default
def E2 (d:CK) (j:Int):Hi:=d.funs.getD j.toNat default
def XI (t:Tm):Int:=((HA t).1.length:Int)
def FQ (d:CK) (j:Int):Int:=max 0 (XI (Ed d j).type - d.fixed)
def HU (nm:ByteArray):Option (CK×Int) :=
 if (Bh E nm).2≠0 then none
 else if (Bh E nm).1.kind=3 then some (Cb E (Bh E nm).1.decl,-1)
 else if (Bh E nm).1.kind=4 then some (Cb E (Bh E nm).1.decl,(Bh E nm).1.item)
 else if (Bh E nm).1.kind=5 then some (Cb E (Bh E nm).1.decl,-2)
 else none
def DE (t:Tm):Option (CK×Int×List Tm) :=
 if (A9 t).1.kind≠3 then none
 else match HU E (A9 t).1.name with
  | none=>none
  | some (d,j)=>if j<0 then none else if ((A9 t).2.length:Int)≠d.fixed+FQ d j then none else some (d,j,(A9 t).2.drop d.fixed.toNat)
def Ln (d:CK):Int:=max 0 (XI d.type - d.fixed)
def CR (d:CK):Int:=d.fixed+1+d.ctors.length+Ln d
def Cp (nm:ByteArray):List GD→Option FJ
 | []=>none
 | b::l=>if b.ctor=nm then (if b.absurd=true then none else some b.tree) else Cp nm l
def Kf (h:Tm):Option GV:=if (Bh E h.name).2=0∧(h.levels.length:Int)=(Bh E h.name).1.params then some (Bh E h.name).1 else none
variable {σ:Type}(S:Sys σ)
def Ds (W:σ→Tm→Out (Tm×σ)):Nat→FJ→List Tm→Tm→σ→Out ((Option (Tm×List Tm)×Tm)×σ)
 | 0,_,_,_,_=> .stuck
 | n+1,t,vars,last,s =>
  if t.kind=1 then
   if t.var<0∨t.var≥(vars.length:Int)∨S.over s=true then .ok ((none,last),s)
   else (W s (vars.getD t.var.toNat default)).chk fun r=>match DE E r.1 with
    | none=> .ok ((none,r.1),r.2)
    | some (d,j,fields)=>match Cp (Ed d j).name t.branches with
     | none=> .ok ((none,r.1),r.2)
     | some t'=>Ds W n t' (vars++fields) r.1 r.2
  else .ok ((some (t.body,vars),Bi),s)
def E1 (d:CK) (h:Tm) (a:List Tm) (s:σ):Out (Option Tm×σ) :=
 if (Bp d.value h.levels).2≠0 then .ok (none,s)
 else S.put s ((Bp d.value h.levels).1,0) fun t s'=> .ok (some (apply t a),s')
def UC (d:CK) (j:Int):Tm:=d.recs.rules.getD j.toNat default
def E4 (d:CK) (h:Tm) (a:List Tm) (m:Tm) (s:σ):Out (Option Tm×σ):=match DE E m with
 | none=> .ok (none,s)
 | some (e,j,fields) =>
  if e.name≠d.name∨j≥(d.recs.rules.length:Int) then .ok (none,s)
  else if (Bp (UC d j) h.levels).2≠0 then .ok (none,s)
  else S.put s (apply (apply (Bp (UC d j) h.levels).1 (a.take (d.fixed+1+d.ctors.length).toNat)) fields,0) fun t s'=> .ok (some (apply t (a.drop (CR d+1).toNat)),s')
def HL (h:Tm) (b:Tm) (vars:List Tm) (rest:List Tm) (s:σ):Out (Option Tm×σ) :=
 if (Bp b h.levels).2≠0 then .ok (none,s)
 else if okB (Bp b h.levels).1=false∨vars.all okB=false∨1125899906842624≤Bb vars then .stuck
 else S.put s (CT (Bp b h.levels).1 vars.reverse 0) fun t s'=> .ok (some (apply t rest),s')
def JO (W:σ→Tm→Out (Tm×σ)) (n:Nat) (f:Hi) (h:Tm) (a:List Tm) (s:σ):Out (Option Tm×σ) :=
 if (a.length:Int)<f.arity then .ok (none,s)
 else (Ds E S W n f.tree (a.take f.arity.toNat) Bi s).bind fun q=>match q.1.1 with
  | none=> .ok (none,q.2)
  | some (b,vars)=>if S.over q.2=true then .ok (none,q.2) else HL S h b vars (a.drop f.arity.toNat) q.2
def RV (W:σ→Tm→Out (Tm×σ)) (d:CK) (h:Tm) (a:List Tm) (s:σ):Out (Option Tm×σ) :=
 if (a.length:Int)≤CR d then .ok (none,s)
 else (W s (a.getD (CR d).toNat default)).chk fun r=>E4 E S d h a r.1 r.2
def EY (W:σ→Tm→Out (Tm×σ)) (n:Nat) (h:Tm) (a:List Tm) (s:σ):Out (Option Tm×σ):=match Kf E h with
 | none=> .ok (none,s)
 | some x =>
  if x.kind=1 then E1 S (Cb E x.decl) h a s
  else if x.kind=5 then RV E S W (Cb E x.decl) h a s
  else if x.kind=6 then JO E S W n (E2 (Cb E x.decl) x.item) h a s
  else .ok (none,s)
def Ip (k:Int) (p:Tm):Tm:= .mk k 0 ⟨#[]⟩ [] [p]
def Nw (h:Tm) (a:List Tm) (s:σ) {α:Type}(k:Tm→σ→Out α):Out α:=match h.kids[1]? with
 | none=> .stuck
 | some b=>S.put s (CT b (a.take 1) 0) fun x s'=>k (apply x (a.drop 1)) s'
def Ua (h:Tm) (a:List Tm) (s:σ) {α:Type}(k:Tm→σ→Out α):Out α:=match h.kids[1]?,h.kids[2]? with
 | some v,some b=>S.put s (CT b [v] 0) fun x s'=>k (apply x a) s'
 | _,_=> .stuck
def Ms (h p:Tm) (a:List Tm) (s:σ) {α:Type}(k:Tm→σ→Out α):Out α:=match p.kids[(1+h.kind - 9).toNat]? with
 | none=> .stuck
 | some q=>S.put s (q,0) fun x s'=>k (apply x a) s'
def EF:Nat→σ→Tm→Out (Tm×σ)
 | 0,_,_=> .stuck
 | n+1,s,t =>
  if okB t=false then .stuck
  else if S.over s=true then .ok (t,s)
  else if S.many (A9 t).2.length=true then .fail
  else if (A9 t).1.kind=5 then
   (if (A9 t).2.length=0 then .ok (t,s) else Nw S (A9 t).1 (A9 t).2 s fun x s'=>EF n s' x)
  else if (A9 t).1.kind=11 then Ua S (A9 t).1 (A9 t).2 s fun x s'=>EF n s' x
  else if (A9 t).1.kind=9∨(A9 t).1.kind=10 then match (A9 t).1.kids[0]? with
   | none=> .stuck
   | some p=>(EF n s p).chk fun r =>
    if r.1.kind≠8 then .ok (apply (Ip (A9 t).1.kind r.1) (A9 t).2,r.2)
    else Ms S (A9 t).1 r.1 (A9 t).2 r.2 fun x s'=>EF n s' x
  else if (A9 t).1.kind=3 then (EY E S (EF n) n (A9 t).1 (A9 t).2 s).bind fun r=>match r.1 with
   | none=> .ok (t,r.2)
   | some x=>EF n r.2 x
  else .ok (t,s)
noncomputable def EI:Nat→σ→Tm→Out (Option Int×σ)
 | 0,_,_=> .stuck
 | n+1,s,t=>(EF E S n s t).chk fun r =>
  if (A9 r.1).1.kind=12 then .ok (some (A9 r.1).1.index,r.2)
  else if (A9 r.1).1.kind=9∨(A9 r.1).1.kind=10 then match (A9 r.1).1.kids[0]? with
   | none=> .stuck
   | some p=>EI n r.2 p
  else if (A9 r.1).1.kind=3 then match Kf E (A9 r.1).1 with
   | none=> .ok (none,r.2)
   | some x =>
    if S.over r.2=true then .ok (none,r.2)
    else if x.kind=5∧((A9 r.1).2.length:Int) > CR (Cb E x.decl) then EI n r.2 ((A9 r.1).2.getD (CR (Cb E x.decl)).toNat default)
    else if x.kind=6∧((A9 r.1).2.length:Int)≥(E2 (Cb E x.decl) x.item).arity then
     (Ds E S (EF E S n) n (E2 (Cb E x.decl) x.item).tree ((A9 r.1).2.take (E2 (Cb E x.decl) x.item).arity.toNat) Bi r.2).bind fun q=>match q.1.1 with
      | some _=> .ok (none,q.2)
      | none=>if S.over q.2=false∧Nj q.1.2 Bi=false then EI n q.2 q.1.2 else .ok (none,q.2)
    else .ok (none,r.2)
  else .ok (none,r.2)
def Jt:Tm→List Int→Tm→Option Tm
 | _,[],x=>some x
 | t,p::ps,x=>match (A9 t).2[p.toNat]? with
  | none=>none
  | some y=>(Jt y ps x).map fun z=>apply (A9 t).1 ((A9 t).2.set p.toNat z)
def Ee (a:Int×List Int) (fx:Int) (n:Nat):List (Int×List Int):=(List.range n).map fun i:Nat=>(a.1,a.2++[fx+(i:Int)])
def Jx (T:σ→Tm→Out (Option Tm×σ)) (h:Tm) (ar:Int) (a:List Tm):Nat→FJ→List Tm→List (Int×List Int)→σ→Out (Option Tm×σ)
 | 0,_,_,_,_=> .stuck
 | n+1,t,vars,pl,s =>
  if t.kind=1 then
   if t.var<0∨t.var≥(vars.length:Int) then .ok (none,s)
   else match DE E (vars.getD t.var.toNat default) with
    | none=>(T s (vars.getD t.var.toNat default)).bind fun r=>match r.1 with
     | none=> .ok (none,r.2)
     | some x=>match Jt (a.getD (pl.getD t.var.toNat default).1.toNat default) (pl.getD t.var.toNat default).2 x with
      | none=> .stuck
      | some y=> .ok (some (apply h (a.set (pl.getD t.var.toNat default).1.toNat y)),r.2)
    | some (d,j,fields)=>match Cp (Ed d j).name t.branches with
     | none=> .ok (none,s)
     | some t'=>Jx T h ar a n t' (vars++fields) (pl++Ee (pl.getD t.var.toNat default) d.fixed fields.length) s
  else HL S h t.body vars (a.drop ar.toNat) s
def FG:Nat→σ→Tm→Out (Option Tm×σ)
 | 0,_,_=> .stuck
 | n+1,s,t =>
  if okB t=false then .stuck
  else if (A9 t).1.kind=5 then
   (if (A9 t).2.length=0 then .ok (none,s) else Nw S (A9 t).1 (A9 t).2 s fun x s'=> .ok (some x,s'))
  else if (A9 t).1.kind=11 then Ua S (A9 t).1 (A9 t).2 s fun x s'=> .ok (some x,s')
  else if (A9 t).1.kind=9∨(A9 t).1.kind=10 then match (A9 t).1.kids[0]? with
   | none=> .stuck
   | some p =>
    if p.kind=8 then Ms S (A9 t).1 p (A9 t).2 s fun x s'=> .ok (some x,s')
    else (FG n s p).bind fun r=>match r.1 with
     | none=> .ok (none,r.2)
     | some x=> .ok (some (apply (Ip (A9 t).1.kind x) (A9 t).2),r.2)
  else if (A9 t).1.kind=3 then match Kf E (A9 t).1 with
   | none=> .ok (none,s)
   | some x =>
    if x.kind=1 then E1 S (Cb E x.decl) (A9 t).1 (A9 t).2 s
    else if x.kind=5∧((A9 t).2.length:Int) > CR (Cb E x.decl) then match DE E ((A9 t).2.getD (CR (Cb E x.decl)).toNat default) with
     | some _=>E4 E S (Cb E x.decl) (A9 t).1 (A9 t).2 ((A9 t).2.getD (CR (Cb E x.decl)).toNat default) s
     | none=>(FG n s ((A9 t).2.getD (CR (Cb E x.decl)).toNat default)).bind fun r=>match r.1 with
      | none=> .ok (none,r.2)
      | some y=> .ok (some (apply (A9 t).1 ((A9 t).2.set (CR (Cb E x.decl)).toNat y)),r.2)
    else if x.kind=6∧((A9 t).2.length:Int)≥(E2 (Cb E x.decl) x.item).arity then
     Jx E S (FG n) (A9 t).1 (E2 (Cb E x.decl) x.item).arity (A9 t).2 n (E2 (Cb E x.decl) x.item).tree ((A9 t).2.take (E2 (Cb E x.decl) x.item).arity.toNat) ((List.range (E2 (Cb E x.decl) x.item).arity.toNat).map fun i:Nat=>((i:Int),[])) s
    else .ok (none,s)
  else .ok (none,s)
def sw (n:Nat) (t:FJ) (a:List Tm) (s:σ):Out (Option Tm×σ) :=
 (Ds E S (EF E S n) n t a Bi s).bind fun q=>match q.1.1 with
  | none=> .ok (none,q.2)
  | some (b,vars)=>if okB b=false∨vars.all okB=false∨1125899906842624≤Bb vars then .stuck else S.put q.2 (CT b vars.reverse 0) fun x s'=> .ok (some x,s')
end
def mv (k i:Int) (n:ByteArray) (ls:List CZ) (ks:Nat):Bool:=decide (n.size<Dd)&&decide (ls.length<Dd)&&ls.all XJ&&decide (ks<Dd)&&Rf k&&Rf i&&decide ((ks:Int)=arity k)&&(decide (k≠12)||decide (0≤i))&&(decide (k≠0)||decide (0≤i)&&decide (i<1099511627776))
theorem L5 (k i:Int) (n:ByteArray) (ls:List CZ) (ks:List Tm):TQ (.mk k i n ls ks)=(mv k i n ls ks.length&&LR ks):=by rw[TQ,mv]
theorem KI:∀{ts:List Tm},LR ts=true↔∀t∈ts,TQ t=true
 | []=>by simp[LR]
 | t::ts=>by simp only[LR,Bool.and_eq_true,KI (ts:=ts),List.mem_cons,forall_eq_or_imp]
theorem jK {l:CZ}(h:XJ l=true):M4 l:=by
 simp only[XJ,Rf,Bool.and_eq_true,decide_eq_true_eq,List.all_eq_true] at h;exact⟨h.1.1,h.1.2,fun v hv=>h.2 v hv⟩
theorem Yk {l:CZ}(h:M4 l):XJ l=true:=by
 simp only[XJ,Rf,Bool.and_eq_true,decide_eq_true_eq,List.all_eq_true];exact⟨⟨h.vars,h.c⟩,fun v hv=>h.v v hv⟩
mutual
theorem Ts:∀(t:Tm),TQ t=true→Nd t∧Wt t∧Vp t
 | .mk k i n ls ks,h=>by
  rw[L5,Bool.and_eq_true] at h;obtain⟨h1,h2⟩:=h;simp only[mv,Rf,Bool.and_eq_true,Bool.or_eq_true,decide_eq_true_eq,List.all_eq_true] at h1;obtain⟨a,b,c⟩:=NY ks h2;obtain⟨⟨⟨⟨⟨⟨⟨⟨g1,g2⟩,g3⟩,g4⟩,g5⟩,g6⟩,g7⟩,g8⟩,g9⟩:=h1;refine⟨⟨g1,g2,fun l hl=>jK (g3 l hl),g4,a,g5,g6⟩,⟨g7,fun e=>?_,b⟩,fun e=>?_,c⟩
  ·rcases g8 with g | g
   ·exact absurd e g
   exact g
  rcases g9 with g | g
  ·exact absurd e g
  exact g
theorem NY:∀(ts:List Tm),LR ts=true→Ld ts∧Nl ts∧Sy ts
 | [],_=>⟨trivial,trivial,trivial⟩
 | t::ts,h=>by
  simp only[LR,Bool.and_eq_true] at h;obtain⟨a,b,c⟩:=Ts t h.1;obtain⟨a',b',c'⟩:=NY ts h.2;exact⟨⟨a,a'⟩,⟨b,b'⟩,⟨c,c'⟩⟩
end
mutual
theorem Sr:∀(t:Tm),Nd t→Wt t→Vp t→TQ t=true
 | .mk k i n ls ks,h1,h2,h3=>by
  rw[L5,Bool.and_eq_true];simp only[Nd] at h1;simp only[Wt] at h2;simp only[Vp] at h3;obtain⟨a1,a2,a3,a4,a5,a6,a7⟩:=h1;refine⟨?_,Qr ks a5 h2.2.2 h3.2⟩;simp only[mv,Rf,Bool.and_eq_true,Bool.or_eq_true,decide_eq_true_eq,List.all_eq_true];refine⟨⟨⟨⟨⟨⟨⟨⟨a1,a2⟩,fun l hl=>Yk (a3 l hl)⟩,a4⟩,a6⟩,a7⟩,h2.1⟩,?_⟩,?_⟩
  ·by_cases e:k=12
   ·exact .inr (h2.2.1 e)
   exact .inl e
  by_cases e:k=0
  ·exact .inr (h3.1 e)
  exact .inl e
theorem Qr:∀(ts:List Tm),Ld ts→Nl ts→Sy ts→LR ts=true
 | [],_,_,_=>rfl
 | t::ts,h1,h2,h3=>by
  simp only[LR,Bool.and_eq_true];exact⟨Sr t h1.1 h2.1 h3.1,Qr ts h1.2 h2.2 h3.2⟩
end
structure te (t:Tm):Prop where
 nd:Nd t
 wt:Wt t
 vp:Vp t
 sz:size t<549755813888
theorem CP {t:Tm}:okB t=true↔te t:=by
 simp only[okB,Bool.and_eq_true,decide_eq_true_eq];exact⟨fun h=>by obtain⟨a,b,c⟩:=Ts t h.1;exact⟨a,b,c,h.2⟩,fun h=>⟨Sr t h.nd h.wt h.vp,h.sz⟩⟩
theorem PA {t:Tm}(h:TQ t=true) (hs:size t<549755813888):okB t=true:=by simp[okB,h,hs]
theorem LH {t:Tm}(h:okB t=true):TQ t=true:=by simp only[okB,Bool.and_eq_true] at h;exact h.1
theorem F9 {t:Tm}(h:okB t=true):size t<549755813888:=by simp only[okB,Bool.and_eq_true,decide_eq_true_eq] at h;exact h.2
theorem GA {t x:Tm}{i:Nat}(h:okB t=true) (hx:t.kids[i]?=some x):okB x=true:=by
 have h1:=LH h;have h2:=F9 h;obtain⟨k,j,n,ls,ks⟩:=t;rw[L5,Bool.and_eq_true] at h1;simp only[size] at h2;simp only[Tm.kids] at hx;have:=Ce hx;exact PA (KI.1 h1.2 x (List.mem_of_getElem? hx)) Ao
theorem Si:∀(t:Tm),TQ t=true→TQ (A9 t).1=true∧LR (A9 t).2=true
 | .mk k i n l [f,a],h=>by
  unfold A9;split
  ·rw[L5,Bool.and_eq_true] at h;simp only[LR,Bool.and_eq_true] at h;obtain⟨h1,h2⟩:=Si f h.2.1;refine⟨h1,KI.2 fun x hx=>?_⟩;rcases List.mem_append.1 hx with hx | hx
   ·exact KI.1 h2 x hx
   rw[List.mem_singleton.1 hx];exact h.2.2.1
  ·exact⟨h,O⟩
 | .mk k i n l [],h=>⟨h,rfl⟩
 | .mk k i n l [_],h=>⟨h,rfl⟩
 | .mk k i n l (_::_::_::_),h=>⟨h,rfl⟩
theorem Ga {t:Tm}(h:okB t=true):okB (A9 t).1=true∧∀x∈(A9 t).2,okB x=true:=by
 simp only[okB,Bool.and_eq_true,decide_eq_true_eq] at h ⊢;obtain⟨h1,h2⟩:=Si t h.1;have hs:=Ic t;refine⟨⟨h1,by omega⟩,fun x hx=>⟨KI.1 h2 x hx,?_⟩⟩;obtain⟨i,hi⟩:=List.mem_iff_getElem?.1 hx;have:=Ce hi;omega
theorem jN {f a:Tm}(h1:TQ f=true) (h2:TQ a=true):TQ (aM f a)=true:=by
 rw[aM,L5,Bool.and_eq_true];exact⟨O,by simp[LR,h1,h2]⟩
theorem KD:∀{xs:List Tm}{f:Tm},TQ f=true→(∀x∈xs,TQ x=true)→TQ (apply f xs)=true
 | [],f,h,_=>h
 | x::xs,f,h,hx=>by
  rw[apply,List.foldl_cons];exact KD (jN h (hx x Ap)) fun y hy=>hx y (by simp[hy])
theorem DL:∀(xs:List Tm) (f:Tm),size (apply f xs)=size f+Bb xs+xs.length
 | [],f=>by simp[apply,Bb]
 | x::xs,f=>by
  have:=DL xs (aM f x);rw[apply] at this ⊢;rw[List.foldl_cons,this];simp only[aM,size,Bb,List.length_cons];omega
theorem ic (m:CZ):((B0 m).map AV.p).all one=true:=rfl
def Jr (l:List CE) (i:Nat):Option Int:=if i=0 then none else (l[i - 1]?).map CE.index
def Cr (c:Int) (l:List CE) (i:Nat):Bool:=Fx c (Jr l i) (l.drop i)
theorem OS {c:Int}{l:List CE}{i:Nat}{v:CE}(h:l[i]?=some v):Cr c l i=(U4 c v&&JS (Jr l i) v.index&&Cr c l (i+1)):=by
 have e:Jr l (i+1)=some v.index:=by simp[Jr,h]
 rw[Cr,Ch h,Fx,Cr,e]
theorem eP {c:Int}{l:List CE}{i:Nat}(h:l.length≤i):Cr c l i=true:=by
 rw[Cr,List.drop_eq_nil_of_le h];rfl
theorem U6 (l:CZ):CA l=(decide (0≤l.const)&&decide (l.const≤100)&&Cr l.const l.vars 0):=rfl
theorem dL {c:Int}{l:List CE}{i:Nat}{v:CE}(h:l[i]?=some v) (hb:U4 c v=false):Cr c l i=false:=by rw[OS h,hb];rfl
theorem iS {c:Int}{l:List CE}{i:Nat}{v:CE}(h:l[i]?=some v) (h1:U4 c v=true) (h2:JS (Jr l i) v.index=true):Cr c l i=Cr c l (i+1):=by rw[OS h,h1,h2];simp
theorem dO {l:CZ}(h:l.const<0∨100<l.const):false=CA l:=by
 rw[U6];rcases h with h | h
 ·rw[decide_eq_false Ao];rfl
 rw[decide_eq_false (p:=l.const≤100) Ao];simp
theorem Ut {l:CZ}{i:Nat}(h:Cr l.const l.vars 0=Cr l.const l.vars i) (hb:Cr l.const l.vars i=false):false=CA l:=by
 rw[U6,h,hb];simp
theorem gH {l:CZ}{i:Nat}(h0:0≤l.const) (h1:l.const≤100) (h:Cr l.const l.vars 0=Cr l.const l.vars i) (hb:l.vars.length≤i):true=CA l:=by
 rw[U6,h,eP hb,decide_eq_true h0,decide_eq_true h1];rfl
theorem dB {c:Int}{v:CE}(h:((v.index < -65536∨8≤v.index)∨v.plus<0)∨100<v.plus):U4 c v=false:=by
 simp only[U4,Bool.and_eq_false_iff,decide_eq_false_iff_not];omega
theorem gP {c:Int}{v:CE}(h1:0<c) (h:c≤v.plus):U4 c v=false:=by
 simp only[U4,Bool.and_eq_false_iff,Bool.or_eq_false_iff,decide_eq_false_iff_not];omega
theorem Uc {c:Int}{v:CE}(h: -65536≤v.index∧v.index<8∧0≤v.plus∧v.plus≤100) (h1:0<c→v.plus<c):U4 c v=true:=by
 simp only[U4,Bool.and_eq_true,Bool.or_eq_true,decide_eq_true_eq];refine⟨⟨⟨⟨h.1,h.2.1⟩,h.2.2.1⟩,h.2.2.2⟩,?_⟩;by_cases q:c≤0
 ·exact .inl q
 exact .inr (h1 Ao)
theorem gK {l:List CZ}{i:Nat}{x:CZ}(hx:l[i]?=some x) (h:CA x=false):false=l.all CA:=by
 symm;rw[List.all_eq_false];exact⟨x,List.mem_of_getElem? hx,by simp[h]⟩
theorem fE {l:List CZ}(h:∀j,j<l.length→∀y,l[j]?=some y→CA y=true):true=l.all CA:=by
 symm;rw[List.all_eq_true];intro x hx;obtain⟨j,hj⟩:=List.mem_iff_getElem?.1 hx;exact h j (List.getElem?_eq_some_iff.1 hj).1 x hj
theorem WV {l:CZ}(h:CA l=true):0≤l.const∧l.const≤100:=by
 simp only[CA,Bool.and_eq_true,decide_eq_true_eq] at h;exact h.1
theorem Ke {l:CZ}{i:Nat}{x:CE}(h:CA l=true) (hx:l.vars[i]?=some x):(0≤x.plus∧x.plus≤100)∧ -65536≤x.index∧x.index<8:=by
 simp only[CA,Bool.and_eq_true,decide_eq_true_eq] at h;have:=I8 h.2 x (List.mem_of_getElem? hx);simp only[U4,Bool.and_eq_true,decide_eq_true_eq] at this;exact⟨⟨this.1.1.2,this.1.2⟩,this.1.1.1⟩
theorem Wl {l:CZ}(h:CA l=false∨l.vars.length=0):(0:Int)=GY l:=by
 unfold GY;rw[if_neg];rintro⟨h1,h2⟩;rcases h with h | h
 ·rw[h] at h1;cases h1
 exact h2 (List.length_eq_zero_iff.1 h)
theorem VL {l:CZ}{x:CE}{i:Nat}(h:CA l=true) (hx:l.vars[i]?=some x) (hi:i=l.vars.length - 1):max 0 (x.index+1)=GY l:=by
 unfold GY;have hne:l.vars≠[]:=by intro e;simp[e] at hx
 rw[if_pos ⟨h,hne⟩,RO,←hi,List.getD_eq_getElem?_getD,hx];rfl
theorem s5 {l:CZ}{n:Int}(h:CA l=false):E3 l n=(Fa,3):=by rw[E3,if_pos h]
theorem tK {l:CZ}{n:Int}(h:CA l=true) (h1:n<0):E3 l n=(Fa,2):=by rw[E3,if_neg (by simp[h]),if_pos h1]
theorem sq {l:CZ}{n:Int}(h:CA l=true) (h0:0≤n) (h1:100<n):E3 l n=(Fa,15):=by rw[E3,if_neg (by simp[h]),if_neg Ao,if_pos h1]
theorem td {l:CZ}{n:Int}(h:CA l=true) (h0:0≤n) (h1:n≤100) (h2:100<JM l n):E3 l n=(Fa,15):=by rw[E3,if_neg (by simp[h]),if_neg Ao,if_neg Ao,if_pos h2]
theorem sR {l:CZ}{n:Int}{i:Nat}{x:CE}(h:CA l=true) (h0:0≤n) (h1:n≤100) (h2:JM l n≤100) (hx:l.vars[i]?=some x) (h3:100<x.plus+n):E3 l n=(Fa,15):=by
 rw[E3,if_neg (by simp[h]),if_neg Ao,if_neg Ao,if_neg Ao,if_pos];rw[List.any_eq_true];exact⟨x,List.mem_of_getElem? hx,by simpa using h3⟩
theorem sQ {l:CZ}{n:Int}(h:CA l=true) (h0:0≤n) (h1:n≤100) (h2:JM l n≤100) (h3:∀j,j<l.vars.length→∀y,l.vars[j]?=some y→¬100<y.plus+n):E3 l n=(⟨JM l n,l.vars.map (Nk n)⟩,0):=by
 rw[E3,if_neg (by simp[h]),if_neg Ao,if_neg Ao,if_neg Ao,if_neg];rw[List.any_eq_true];rintro⟨x,hx,hq⟩;obtain⟨j,hj⟩:=List.mem_iff_getElem?.1 hx;exact h3 j (List.getElem?_eq_some_iff.1 hj).1 x hj (by simpa using hq)
theorem Mm {l:CZ}{n:Int}(h:0<l.const∨l.vars.length=0):JM l n=l.const+n:=by
 unfold JM;rw[if_pos];rcases h with h | h
 ·exact .inl h
 exact .inr (List.length_eq_zero_iff.1 h)
theorem PF {l:CZ}{n:Int}(h:¬(0<l.const∨l.vars.length=0)):JM l n=0:=by
 unfold JM;rw[if_neg];rintro(q | q)
 ·exact h (.inl q)
 exact h (.inr (by simp[q]))
theorem PT {l:List CE}{i j:Nat}{u:CE}{x:Int}(hj:l[j]?=some u) (he:i=j+1):(!JS (Jr l i) x)=decide (u.index≥x):=by
 subst he;have e:Jr l (j+1)=some u.index:=by simp[Jr,hj]
 rw[e];simp only[JS];rw[←decide_not,decide_eq_decide];omega
theorem NT {l:List CE}{i:Nat}{x:Int}(h:¬(i:Int) > 0):(!JS (Jr l i) x)=false:=by
 have:i=0:=by omega
 subst this;rfl
theorem br {x y:CE}{a b:List CE}(h:y.index<x.index):DX (x::a) (y::b)=y::DX (x::a) b:=by
 rw[DX,Fq,if_neg Ao,if_pos h];rfl
def QB (a b:List CE) (i k:Nat):Bool:=(k==b.length)||(match a[i]?,b[k]? with
 | some x,some y=>decide (x.index<y.index)
 | _,_=>false)
def VF (a b:List CE) (i k:Nat):Bool:=(i==a.length)||(match a[i]?,b[k]? with
 | some x,some y=>decide (y.index<x.index)
 | _,_=>false)
section
variable {a b:List CE}{i k:Nat}{vs:List CE}{m:Int}{x y:CE}
theorem N7 (h:k=b.length):true=QB a b i k:=by simp[QB,h]
theorem QH (h:a.length≤i) (hk:k≠b.length):false=QB a b i k:=by simp[QB,hk,List.getElem?_eq_none h]
theorem Nu (hx:a[i]?=some x) (hy:b[k]?=some y):decide (x.index<y.index)=QB a b i k:=by
 have:=(List.getElem?_eq_some_iff.1 hy).1;simp only[QB,hx,hy];rw[show (k==b.length)=false by simp;omega,Bool.false_or]
theorem Ql (h:i=a.length):true=VF a b i k:=by simp[VF,h]
theorem MU (hx:a[i]?=some x) (hy:b[k]?=some y):decide (y.index<x.index)=VF a b i k:=by
 have:=(List.getElem?_eq_some_iff.1 hx).1;simp only[VF,hx,hy];rw[show (i==a.length)=false by simp;omega,Bool.false_or]
theorem iO (h:QB a b i k=true) (hc:i<a.length∨k<b.length):i<a.length:=by
 by_cases q:k=b.length
 ·omega
 by_cases q':a.length≤i
 ·rw[←QH q' q] at h;cases h
 omega
theorem gG (h:QB a b i k=false) (hk:k≤b.length):k<b.length:=by
 by_cases q:k=b.length
 ·rw[←N7 q] at h;cases h
 omega
theorem jO (h:VF a b i k=false) (hi:i≤a.length):i<a.length:=by
 by_cases q:i=a.length
 ·rw[←Ql q] at h;cases h
 omega
structure NR (a b:List CE) (i k:Nat) (vs:List CE) (m:Int):Prop where
 hi:i≤a.length
 hk:k≤b.length
 eq:vs++DX (a.drop i) (b.drop k)=DX a b
 mo:m=Mq vs
 ln:vs.length≤i+k
theorem PJ (vs:List CE) (v:CE):Mq (vs++[v])=max (Mq vs) v.plus:=by simp[Mq]
theorem NR.zero:NR a b 0 0 [] 0:=⟨by omega,by omega,by simp,rfl,by simp⟩
theorem NR.left (h:NR a b i k vs m) (hx:a[i]?=some x) (hs:QB a b i k=true):NR a b (i+1) k (vs++[x]) (max m x.plus):=by
 have hl:=(List.getElem?_eq_some_iff.1 hx).1;have:=h.ln;refine⟨hl,h.hk,?_,by rw[PJ,←h.mo],by simp;omega⟩;rw[←h.eq,Ch hx,List.append_assoc];congr 1;by_cases q:k<b.length
 ·obtain⟨y,hy⟩:∃y,b[k]?=some y:=⟨_,List.getElem?_eq_getElem q⟩;rw[←Nu hx hy,decide_eq_true_eq] at hs;rw[Ch hy,DX,Fq,if_pos hs];rfl
 rw[List.drop_eq_nil_of_le (show b.length≤k by omega),DX,Fq];rfl
theorem NR.right (h:NR a b i k vs m) (hy:b[k]?=some y) (hs:QB a b i k=false) (h2:VF a b i k=true):NR a b i (k+1) (vs++[y]) (max m y.plus):=by
 have hl:=(List.getElem?_eq_some_iff.1 hy).1;have:=h.ln;refine⟨h.hi,hl,?_,by rw[PJ,←h.mo],by simp;omega⟩;rw[←h.eq,Ch hy,List.append_assoc];congr 1;by_cases q:i<a.length
 ·obtain⟨x,hx⟩:∃x,a[i]?=some x:=⟨_,List.getElem?_eq_getElem q⟩;rw[←MU hx hy,decide_eq_true_eq] at h2;rw[Ch hx,br h2];rfl
 rw[List.drop_eq_nil_of_le (show a.length≤i by omega),DX,DX];rfl
theorem NR.both (h:NR a b i k vs m) (hx:a[i]?=some x) (hy:b[k]?=some y) (hs:QB a b i k=false) (h2:VF a b i k=false):NR a b (i+1) (k+1) (vs++[⟨x.index,max x.plus y.plus⟩]) (max m (max x.plus y.plus)):=by
 have hl:=(List.getElem?_eq_some_iff.1 hx).1;have hl':=(List.getElem?_eq_some_iff.1 hy).1;have:=h.ln;rw[←Nu hx hy,decide_eq_false_iff_not] at hs;rw[←MU hx hy,decide_eq_false_iff_not] at h2;refine⟨hl,hl',?_,by rw[PJ,←h.mo],by simp;omega⟩;rw[←h.eq,Ch hx,Ch hy,List.append_assoc,DX,Fq,if_neg hs,if_neg h2];rfl
theorem NR.fin (h:NR a b i k vs m) (hc:¬(i<a.length∨k<b.length)):vs=DX a b∧m=Mq vs:=by
 refine⟨?_,h.mo⟩;rw[←h.eq,List.drop_eq_nil_of_le Ao,List.drop_eq_nil_of_le Ao];simp[DX]
end
theorem s9 {p q:CZ}{vs:List CE}{m:Int}(h:vs=DX p.vars q.vars∧m=Mq vs) (h1:0<vs.length) (h2:max p.const q.const≤m):Is p q=⟨0,vs⟩:=by
 rw[Is,RW,←h.1,if_pos ⟨List.ne_nil_of_length_pos h1,by rw[←h.2];exact h2⟩]
theorem s8 {p q:CZ}{vs:List CE}{m:Int}(h:vs=DX p.vars q.vars∧m=Mq vs) (h1:¬(0<vs.length∧max p.const q.const≤m)):Is p q=⟨max p.const q.const,vs⟩:=by
 rw[Is,RW,←h.1,if_neg];rintro⟨a,b⟩;exact h1 ⟨List.length_pos_iff.2 a,by rw[h.2];exact b⟩
theorem UI:∀{vs:List CE}{lo:Int},LY vs→(∀v∈vs,lo≤v.index∧v.index<8)→lo≤8→(vs.length:Int)≤8 - lo
 | [],lo,_,_,h=>by simp;omega
 | x::vs,lo,ha,hv,h=>by
  rw[LY,List.pairwise_cons] at ha;have hx:=hv x Ap;have:=UI (vs:=vs) (lo:=x.index+1) ha.2 (fun v hv'=>⟨by have:=ha.1 v hv';omega,(hv v (by simp[hv'])).2⟩) Ao;simp only[List.length_cons];omega
structure I7 (l:CZ):Prop where
 c:0≤l.const∧l.const≤100
 asc:LY l.vars
 rg:∀v∈l.vars,(0≤v.plus∧v.plus≤100)∧ -65536≤v.index∧v.index<8
theorem I7.len {l:CZ}(h:I7 l):l.vars.length≤65544:=by
 have:=UI (lo:= -65536) h.asc (fun v hv=>(h.rg v hv).2) Ao;omega
theorem I7.nd {l:CZ}(h:I7 l):M4 l :=
 ⟨by have:=h.len;simp only[Dd];omega,by have:=h.c;unfold I2;omega,fun v hv=>by have:=h.rg v hv;unfold I2;omega⟩
theorem I7.of {l:CZ}(h:CA l=true):I7 l:=by
 have h0:=WV h;have h':=h;simp only[CA,Bool.and_eq_true,decide_eq_true_eq] at h';exact⟨h0,(MM h'.2).1,fun v hv=>by obtain⟨i,hi⟩:=List.mem_iff_getElem?.1 hv;exact Ke h hi⟩
theorem I7.join {a b:CZ}(h1:I7 a) (h2:I7 b):I7 (Is a b):=by
 have hc1:=h1.c;have hc2:=h2.c;refine⟨?_,PK h1.asc h2.asc,IA (Q:=fun v=>(0≤v.plus∧v.plus≤100)∧ -65536≤v.index∧v.index<8) (fun u v g1 g2 _=>by simp only;omega) _ _ h1.rg h2.rg⟩;simp only[Is,RW];split<;>omega
theorem I7.one {v:CE}(h:(0≤v.plus∧v.plus≤100)∧ -65536≤v.index∧v.index<8):I7 ⟨0,[v]⟩:=⟨by simp,by simp[LY],by simpa using h⟩
theorem I7.num {n:Int}(h:0≤n∧n≤100):I7 ⟨n,[]⟩:=⟨h,by simp[LY],by simp⟩
theorem I7.plus {l:CZ}{n:Int}(hl:CA l=true) (h0:0≤n) (h1:n≤100) (he:(E3 l n).2=0):I7 (E3 l n).1:=by
 rcases P0 hl h0 h1 with ⟨e,_⟩ | ⟨e,q1,q2⟩
 ·rw[e] at he;simp at he
 have h:=I7.of hl;have hc:=h.c;rw[e];refine⟨?_,da h.asc,fun w hw=>?_⟩
 ·simp only[JM];split<;>omega
 simp only[List.mem_map] at hw;obtain⟨u,hu,rfl⟩:=hw;have:=h.rg u hu;have:=q2 u hu;simp only[Nk];omega
section
variable {ps:List CZ}{q p:CZ}{vs:List CE}{v:CE}{i:Nat}
theorem CJ {α:Type} [Inhabited α] {l:List α}{i:Nat}{x:α}(h:l[i]?=some x):l.getD i default=x:=by rw[List.getD_eq_getElem?_getD,h];rfl
theorem tp (hv:vs[i]?=some v) (h0:0≤v.index) (h1:v.index<ps.length) (hp:ps[v.index.toNat]?=some p) (he:(E3 p v.plus).2≠0):GN ps q (vs.drop i)=(Fa,(E3 p v.plus).2):=by
 rw[Ch hv,GN,if_pos ⟨h0,h1⟩,CJ hp,if_pos he]
theorem si (hv:vs[i]?=some v) (h0:0≤v.index) (h1:v.index<ps.length) (hp:ps[v.index.toNat]?=some p) (he:(E3 p v.plus).2=0):GN ps q (vs.drop i)=GN ps (Is q (E3 p v.plus).1) (vs.drop (i+1)):=by
 rw[Ch hv,GN,if_pos ⟨h0,h1⟩,CJ hp,if_neg (by simp[he])]
theorem p5 (hv:vs[i]?=some v) (h:¬(0≤v.index∧v.index<ps.length)):GN ps q (vs.drop i)=GN ps (Is q ⟨0,[v]⟩) (vs.drop (i+1)):=by
 rw[Ch hv,GN,if_neg h]
end
theorem Y8 {ps:List CZ}{k i:Int}{n:ByteArray}{ls ys:List CZ}{ks zs:List Tm}{er e e2:Int}(h1:FK ps er ls=(ys,e)) (h2:Ge ps e ks=(zs,e2)):Hn ps er (.mk k i n ls ks)=(.mk k i n ys zs,e2):=by rw[Hn,h1,h2]
theorem dg {ps:List CZ}{tl ys:List CZ}{e:Int}{i:Nat}{X:List CZ×Int}(h:(ys++(FK ps e (tl.drop i)).1,(FK ps e (tl.drop i)).2)=X) (hi:tl.length≤i):X=(ys,e):=by
 rw[←h,List.drop_eq_nil_of_le hi];simp[FK]
theorem eb {ps:List CZ}{ts zs:List Tm}{e:Int}{i:Nat}{X:List Tm×Int}(h:(zs++(Ge ps e (ts.drop i)).1,(Ge ps e (ts.drop i)).2)=X) (hi:ts.length≤i):X=(zs,e):=by
 rw[←h,List.drop_eq_nil_of_le hi];simp[Ge]
theorem YE (e:Int):Gg e 0=e:=by unfold Gg;split<;>simp_all
def NK {α:Type}(p:α→Bool):List α→Int→Int
 | [],_=> -1
 | x::l,i=>if p x=true then i else NK p l (i+1)
theorem UU {α:Type}{p:α→Bool}{l:List α}{i:Nat}{x:α}{k:Int}(h:l[i]?=some x):NK p (l.drop i) k=if p x=true then k else NK p (l.drop (i+1)) (k+1):=by rw[Ch h,NK]
theorem UD {α:Type}{p:α→Bool}:∀(l:List α) (i:Int),0≤i→decide (NK p l i≥0)=l.any p
 | [],i,_=>by simp[NK]
 | x::l,i,h=>by
  simp only[NK,List.any_cons];split
  ·rename_i q;simp[q,h]
  rename_i q;rw[UD l (i+1) Ao];simp[q]
theorem Jm (c:Int):∀(p:Option Int) (vs:List CE),Fx c p vs=(Fx 0 p vs&&(decide (c≤0)|| !(vs.any fun v=>decide (c≤v.plus))))
 | p,[]=>by simp[Fx]
 | p,v::vs=>by
  simp only[Fx,Jm c _ vs,List.any_cons,U4];by_cases h:c≤0
  ·simp[h]
  simp only[h,decide_false,Bool.false_or,Int.le_refl,decide_true,Bool.true_or,Bool.and_true,Bool.not_or];have:decide (v.plus<c)= !decide (c≤v.plus):=by rw[←decide_not,decide_eq_decide];omega
  rw[this];cases (!decide (c≤v.plus))<;>cases JS p v.index<;>cases Fx 0 (some v.index) vs<;>simp
theorem lK {l:CZ}(h:(l.const<0∨100<l.const)∨0<l.const∧P7 l=true):false=CA l:=by
 rcases h with h | ⟨h1,h2⟩
 ·exact dO h
 unfold P7 at h2;rw[CA,Jm,h2,decide_eq_false (p:=l.const≤0) Ao];simp
theorem ib {l:CZ}{i:Nat}(h:Cr 0 l.vars 0=Cr 0 l.vars i) (hb:Cr 0 l.vars i=false):false=CA l:=by
 rw[CA,Jm,show Fx 0 none l.vars=Cr 0 l.vars 0 from rfl,h,hb];simp
theorem gB {l:CZ}{i:Nat}(h1:¬((l.const<0∨100<l.const)∨0<l.const∧P7 l=true)) (h:Cr 0 l.vars 0=Cr 0 l.vars i) (hb:l.vars.length≤i):true=CA l:=by
 rw[CA,Jm,show Fx 0 none l.vars=Cr 0 l.vars 0 from rfl,h,eP hb];simp only[not_or,not_and] at h1;rw[decide_eq_true Ao,decide_eq_true Ao];by_cases q:l.const≤0
 ·simp[q]
 have:=h1.2 Ao;simp only[P7,Bool.not_eq_true] at this;simp[this,q]
section
variable {l:List CE}{i j:Nat}{x u:CE}
theorem Oy (h:((x.index < -65536∨7<x.index)∨x.plus<0)∨100<x.plus):true= !(U4 0 x&&JS (Jr l i) x.index):=by
 rw[dB Ao];rfl
theorem Mc (h:¬(((x.index < -65536∨7<x.index)∨x.plus<0)∨100<x.plus)) (hi:(i:Int)≤0):false= !(U4 0 x&&JS (Jr l i) x.index):=by
 rw[Uc Ao Ao,Bool.true_and,NT Ao]
theorem TO (hj:l[j]?=some u) (he:i=j+1) (h:¬(((x.index < -65536∨7<x.index)∨x.plus<0)∨100<x.plus)):decide (u.index≥x.index)= !(U4 0 x&&JS (Jr l i) x.index):=by
 rw[Uc Ao Ao,Bool.true_and,PT hj he]
end
theorem mX {l:CZ}(h:(0≤l.const∧l.const≤100)∧(0<l.const→P7 l=false)):¬((l.const<0∨100<l.const)∨0<l.const∧P7 l=true):=by
 rintro((q | q) | ⟨q1,q2⟩)
 ·omega
 ·omega
 rw[h.2 q1] at q2;cases q2
theorem mq {l:CZ}(h:CA l=true→(l.vars.length:Int)≤0):CA l=false∨l.vars.length=0:=by
 by_cases q:CA l=true
 ·exact .inr (by have:=h q;omega)
 exact .inl (by simpa using q)
def Gs (m:List (Int×Int)):List (Int×AV):=m.map fun p=>(p.1,.p (I p.2))
theorem UJ (k:Int):∀m:List (Int×Int),J1 k (Gs m)=(mg k m).map fun v=> .p (I v)
 | []=>rfl
 | (j,x)::m=>by
  have ih:=UJ k m;simp only[Gs] at ih;simp only[Gs,List.map_cons,J1,mg];split
  ·rfl
  exact ih
theorem Yn (k v:Int):∀m:List (Int×Int),NO k (.p (I v)) (Gs m)=Gs (ms k v m)
 | []=>rfl
 | (j,x)::m=>by
  have ih:=Yn k v m;simp only[Gs] at ih;simp only[Gs,List.map_cons,NO,ms];split
  ·rfl
  rw[ih];rfl
theorem WD (m:List (Int×Int)) (k:Int):(J1 k (Gs m)).getD (.p (I 0))= .p (I ((mg k m).getD 0)):=by rw[UJ];cases mg k m<;>rfl
theorem dc (m:List (Int×Int)) (k:Int):(J1 k (Gs m)).isSome=(mg k m).isSome:=by rw[UJ];cases mg k m<;>rfl
theorem Zt {m:List (Int×Int)}{i p:Int}(h:(mg i m).isSome=false∨(mg i m).getD 0<p):GR m i p=ms i p m:=by
 unfold GR;cases e:mg i m with
 | none=>rfl
 | some old =>
  rw[e] at h;simp at h;simp only;rw[if_pos Ao]
theorem XD {m:List (Int×Int)}{i p:Int}(h:(mg i m).isSome=true∧p≤(mg i m).getD 0):GR m i p=m:=by
 unfold GR;cases e:mg i m with
 | none=>rw[e] at h;simp at h
 | some old =>
  rw[e] at h;simp at h;simp only;rw[if_neg Ao]
theorem qE {l:CZ}{i:Nat}{x:CE}(hx:l.vars[i]?=some x) (h:100<x.plus):JU l=(Fa,15):=by
 unfold JU;rw[if_pos];rw[List.any_eq_true];exact⟨x,List.mem_of_getElem? hx,by simpa using h⟩
theorem qB {l:CZ}(h:100<l.const):JU l=(Fa,15):=by
 unfold JU;split
 ·rfl
 first | rfl | rw[if_pos Ao]
theorem Y7 {l:CZ}(h:∀j,j<l.vars.length→∀y,l.vars[j]?=some y→¬100<y.plus):¬(l.vars.any fun v=>decide (v.plus > 100))=true:=by
 rw[List.any_eq_true];rintro⟨x,hx,hq⟩;obtain⟨j,hj⟩:=List.mem_iff_getElem?.1 hx;exact h j (List.getElem?_eq_some_iff.1 hj).1 x hj (by simpa using hq)
theorem sE {l:CZ}(h:∀j,j<l.vars.length→∀y,l.vars[j]?=some y→¬100<y.plus) (h1:l.const≤100) (h2:P7 l=true):JU l=(⟨0,l.vars⟩,0):=by
 unfold JU;rw[if_neg (Y7 h),if_neg Ao,if_pos h2]
theorem rz {l:CZ}(h:∀j,j<l.vars.length→∀y,l.vars[j]?=some y→¬100<y.plus) (h1:l.const≤100) (h2:P7 l=false):JU l=(l,0):=by
 unfold JU;rw[if_neg (Y7 h),if_neg Ao,if_neg (by simp[h2])]
theorem aB {n:Int}{vs:List CE}{i:Nat}{x:CE}{M:List (Int×Int)}(hx:vs[i]?=some x):GR ((vs.take i).foldl (Hw n) M) x.index (x.plus+n)=(vs.take (i+1)).foldl (Hw n) M:=by
 rw[List.take_add_one,hx,List.foldl_append];rfl
theorem step_take {ps:List CZ}{vs:List CE}{i:Nat}{x:CE}{S:List (Int×Int)×Int}(hx:vs[i]?=some x):(vs.take (i+1)).foldl (EA ps) S=EA ps ((vs.take i).foldl (EA ps) S) x:=by
 rw[List.take_add_one,hx,List.foldl_append];rfl
theorem aA (M:List (Int×Int)):(G2 M).length=M.length:=by simp[G2,Sj]
def QD (M:List (Int×Int)) (k:Int):CE:=⟨k,(mg k M).getD 0⟩
theorem XZ {M:List (Int×Int)}{i:Nat}(h:(FL (M.map Prod.fst)).length≤i):((FL (M.map Prod.fst)).take i).map (QD M)=G2 M:=by
 rw[List.take_of_length_le h];rfl
theorem T8 {ps:List CZ}{S:List (Int×Int)×Int}{x:CE}(h:x.index<0):EA ps S x=(GR S.1 x.index x.plus,S.2):=by unfold EA;rw[if_pos h]
theorem UX {ps:List CZ}{S:List (Int×Int)×Int}{x:CE}{p:CZ}(h:0≤x.index) (hp:ps[x.index.toNat]?=some p):EA ps S x=Qm (S.1,S.2) p x.plus:=by unfold EA;rw[if_neg Ao,CJ hp]
theorem P8.len {m:List (Int×Int)}(h:P8 m) (hr:∀k∈m.map Prod.fst,-65536≤k∧k<8):m.length≤65544:=by
 have ha:=TL h;have:=UI (lo:= -65536) ha (fun v hv=>by
  simp only[G2,List.mem_map] at hv;obtain⟨k,hk,rfl⟩:=hv;exact hr k ((NN _).mem_iff.1 hk)) Ao
 rw[aA] at this;omega
structure XT (S:List (Int×Int)×Int):Prop where
 m:P8 S.1
 r:∀k∈S.1.map Prod.fst,-65536≤k∧k<8
theorem XT.len {S:List (Int×Int)×Int}(h:XT S):S.1.length≤65544:=h.m.len h.r
theorem RT {m:List (Int×Int)}{i p:Int}{Q:Int→Prop}(h:∀k∈m.map Prod.fst,Q k) (hi:Q i):∀k∈(GR m i p).map Prod.fst,Q k:=by
 have hs:∀k∈(ms i p m).map Prod.fst,Q k:=by
  rw[VD];split
  ·exact h
  intro k hk;rcases List.mem_append.1 hk with hk | hk
  ·exact h k hk
  rw[List.mem_singleton.1 hk];exact hi
 unfold GR;split
 ·split
  ·exact hs
  exact h
 exact hs
theorem TH {n:Int}{Q:Int→Prop}:∀(vs:List CE) (m:List (Int×Int)),(∀k∈m.map Prod.fst,Q k)→(∀v∈vs,Q v.index)→∀k∈(vs.foldl (Hw n) m).map Prod.fst,Q k
 | [],m,h,_=>h
 | v::vs,m,h,hv=>TH vs (Hw n m v) (RT h (hv v Ap)) fun w hw=>hv w (by simp[hw])
theorem XT.step {ps:List CZ}{S:List (Int×Int)×Int}{x:CE}(hps:∀l∈ps,CA l=true) (h:XT S) (hx:(0≤x.plus∧x.plus≤100)∧ -65536≤x.index∧x.index<8) (hi:x.index<ps.length):XT (EA ps S x):=by
 refine⟨(Wv hps h.m hx.1.1 hi).1,?_⟩;unfold EA;split
 ·exact RT h.r hx.2
 rename_i q;refine TH _ _ h.r fun v hv=>?_;have hlt:x.index.toNat<ps.length:=by omega
 rw[List.getD_eq_getElem?_getD,List.getElem?_eq_getElem hlt] at hv;exact((I7.of (hps _ (List.getElem_mem hlt))).rg v hv).2
theorem XT.fold {ps:List CZ}(hps:∀l∈ps,CA l=true):∀(vs:List CE) (S:List (Int×Int)×Int),XT S→(∀x∈vs,((0≤x.plus∧x.plus≤100)∧ -65536≤x.index∧x.index<8)∧x.index<ps.length)→XT (vs.foldl (EA ps) S)
 | [],S,h,_=>h
 | v::vs,S,h,hv=>XT.fold hps vs _ (h.step hps (hv v Ap).1 (hv v Ap).2) fun w hw=>hv w (by simp[hw])
theorem XT.zero (c:Int):XT ([],c):=⟨P8.nil,by simp⟩
theorem dQ {l:CZ}{ps:List CZ}{i:Nat}{x:CE}(h:CA l=true) (hp:¬(GY l > ps.length)) (hx:l.vars[i]?=some x):x.index<ps.length:=by
 have hm:=List.mem_of_getElem? hx;have:=Nx (I7.of h).asc x hm;unfold GY at hp;rw[if_pos ⟨h,List.ne_nil_of_mem hm⟩] at hp;omega
def It (ps:List CZ):List CZ→Except Int (List CZ)
 | []=> .ok []
 | l::ls=>if (Cv l ps).2≠0 then .error (Cv l ps).2 else match It ps ls with
  | .ok zs=> .ok ((Cv l ps).1::zs)
  | .error e=> .error e
def OJ (ys:List CZ):Except Int (List CZ)→Except Int (List CZ)
 | .ok zs=> .ok (ys++zs)
 | .error e=> .error e
def UE (ps:List CZ) (_:Unit) (t:Tm) (_:Int):Except Int ((Tm×Bool)×Unit):=match It ps t.levels with
 | .ok ls=> .ok ((.mk t.kind t.index t.name ls [],false),())
 | .error e=> .error e
section
variable {ps:List CZ}
theorem kI {ls ys:List CZ}{i:Nat}{l:CZ}(h:ls[i]?=some l) (h0:(Cv l ps).2=0):OJ ys (It ps (ls.drop i))=OJ (ys++[(Cv l ps).1]) (It ps (ls.drop (i+1))):=by
 rw[Ch h,It,if_neg (by simp[h0])];cases It ps (ls.drop (i+1))<;>simp[OJ]
theorem lI {ls ys:List CZ}{i:Nat}{l:CZ}(h:ls[i]?=some l) (h0:(Cv l ps).2≠0):OJ ys (It ps (ls.drop i))= .error (Cv l ps).2:=by
 rw[Ch h,It,if_pos h0];rfl
theorem Qt:∀(ls:List CZ) (er:Int),er≠0→(FK ps er ls).2=er
 | [],er,_=>rfl
 | l::ls,er,h=>by
  rw[FK];simp only;rw[show Gg er (Cv l ps).2=er by unfold Gg;rw[if_neg h]];exact Qt ls er h
mutual
theorem gu:∀(t:Tm) (er:Int),er≠0→(Hn ps er t).2=er
 | .mk k i n ls ks,er,h=>by
  rw[Hn];simp only;rw[Qt ls er h];exact N9 ks er h
theorem N9:∀(ts:List Tm) (er:Int),er≠0→(Ge ps er ts).2=er
 | [],er,_=>rfl
 | t::ts,er,h=>by
  rw[Ge];simp only;rw[gu t er h];exact N9 ts er h
end
theorem VS:∀(ls:List CZ),It ps ls=if (FK ps 0 ls).2=0 then .ok (FK ps 0 ls).1 else .error (FK ps 0 ls).2
 | []=>rfl
 | l::ls=>by
  have ih:=VS ls;rw[It,FK];simp only;by_cases h:(Cv l ps).2=0
  ·rw[if_neg (by simp[h]),h,YE,ih];by_cases q:(FK ps 0 ls).2=0
   ·rw[if_pos q,if_pos q]
   rw[if_neg q,if_neg q]
  rw[if_pos h,show Gg 0 (Cv l ps).2=(Cv l ps).2 from rfl,Qt ls _ h,if_neg h]
mutual
theorem Ox:∀(t:Tm) (d:Int),D5 (UE ps) t d ()=FW (Hn ps 0 t)
 | .mk k i n ls ks,d=>by
  rw[D5,Hn];simp only[UE,Tm.levels,Tm.kind,Tm.index,Tm.name,VS];by_cases h:(FK ps 0 ls).2=0
  ·rw[if_pos h,h];simp only[Dg];rw[if_neg Ap,Q2 k 0 ks d];unfold FW G4;simp only;by_cases q:(Ge ps 0 ks).2=0
   ·rw[if_pos q,if_pos q];rfl
   rw[if_neg q,if_neg q]
  rw[if_neg h];simp only[Dg,FW];rw[N9 ks _ h,if_neg h]
theorem Q2 (k:Int):∀(j:Nat) (ts:List Tm) (d:Int),Dy (UE ps) k j ts d ()=G4 (Ge ps 0 ts)
 | _,[],_=>rfl
 | j,t::ts,d=>by
  rw[Dy,Ox t,Ge];unfold FW G4;simp only;by_cases h:(Hn ps 0 t).2=0
  ·rw[if_pos h,h];simp only[Dg];rw[Q2 k (j+1) ts d];unfold G4;by_cases q:(Ge ps 0 ts).2=0
   ·rw[if_pos q,if_pos q]
   rw[if_neg q,if_neg q]
  rw[if_neg h,N9 ts _ h,if_neg h];rfl
end
end
theorem Zv (x:Except Int (List CZ)):x=OJ [] x:=by cases x<;>simp[OJ]
theorem iV {ps:List CZ}{s:Unit}{k i d e:Int}{n:ByteArray}{ls:List CZ}{ks:List Tm}(h:It ps ls= .error e):UE ps s (.mk k i n ls ks) d= .error e:=by
 simp only[UE,Tm.levels,h]
theorem kU {ps:List CZ}{s:Unit}{k i d:Int}{n:ByteArray}{ls ys:List CZ}{ks:List Tm}(h:It ps ls= .ok ys):UE ps s (.mk k i n ls ks) d= .ok ((.mk k i n ys [],false),()):=by
 simp only[UE,Tm.levels,Tm.kind,Tm.index,Tm.name,h]
theorem set_drop {ys tl:List CZ}{i:Nat}{x m:CZ}(h:ys.length=i) (hx:tl[i]?=some x):(ys++tl.drop i).set i m=(ys++[m])++tl.drop (i+1):=by
 subst h;rw[Ch hx];simp
theorem lp {ps:List CZ}{tl ys:List CZ}{i:Nat}{X:Except Int (List CZ)}(h:X=OJ ys (It ps (tl.drop i))) (hi:tl.length≤i):X= .ok ys:=by
 rw[h,List.drop_eq_nil_of_le hi];simp[It,OJ]
theorem Zp (m:CZ):Gf (((B0 m).map AV.p).map dn)=some (B0 m):=by obtain⟨c,v⟩:=m;rfl
theorem Vk {t:Tm}{ps:List CZ}{e:Int}(h:FW (Hn ps 0 t)= .error e):Bp t ps=(Bi,e):=by
 unfold FW at h;unfold Bp;split at h
 ·cases h
 rename_i q;cases h;rw[if_pos q]
theorem XW {t z:Tm}{ps:List CZ}{u:Unit}(h:FW (Hn ps 0 t)= .ok (z,u)):Bp t ps=(z,0):=by
 unfold FW at h;unfold Bp;split at h
 ·rename_i q;cases h;rw[if_neg (by simp[q])]
 cases h
def QX {α:Type}(a b:Out α):Prop:=a= .stuck∨a=b
section
variable {α β:Type}
theorem QX.refl (a:Out α):QX a a:= .inr rfl
theorem QX.bind {a b:Out α}{k k':α→Out β}(h:QX a b) (hk:∀x,QX (k x) (k' x)):QX (a.bind k) (b.bind k'):=by
 rcases h with rfl | rfl
 ·exact .inl O
 cases a with
 | stuck=>exact .inl rfl
 | fail=>exact .inr rfl
 | ok x=>exact hk x
theorem QX.ite {c:Prop} [Decidable c] {a a' b b':Out α}(h1:QX a a') (h2:QX b b'):QX (if c then a else b) (if c then a' else b'):=by
 split
 ·exact h1
 exact h2
theorem QX.chk {σ:Type}{a b:Out (Tm×σ)}{k k':Tm×σ→Out β}(h:QX a b) (hk:∀x,QX (k x) (k' x)):QX (a.chk k) (b.chk k'):=QX.bind h fun x=>QX.ite (hk x) (QX.refl _)
variable {σ:Type}{E:List CK}{S:Sys σ}
theorem QX.put {s:σ}{x:Tm×Int}{k k':Tm→σ→Out β}(hk:∀t s',QX (k t s') (k' t s')):QX (S.put s x k) (S.put s x k'):=by
 unfold Sys.put;refine QX.ite ?_ (QX.refl _);cases S.res s x.1 x.2 with
 | none=>exact QX.refl _
 | some s'=>exact hk _ _
variable {W W':σ→Tm→Out (Tm×σ)}(hW:∀s t,QX (W s t) (W' s t))
include hW
end
section
variable {σ:Type}{E:List CK}{S:Sys σ}
end
theorem jL {k i:Int}{n:ByteArray}{l:List CZ}{ts:List Tm}{x y:Tm}(h:k=6∧((ts.length:Nat):Int)=2) (hx:ts[0]?=some x) (hy:ts[1]?=some y):HA (.mk k i n l ts)=(x::(HA y).1,(HA y).2):=by
 obtain⟨rfl,h2⟩:=h;rw[eQ h2 hx hy,HA,if_pos rfl]
theorem jA {k i:Int}{n:ByteArray}{l:List CZ}{ts:List Tm}(h:k≠6∨((ts.length:Nat):Int)≠2):HA (.mk k i n l ts)=([],.mk k i n l ts):=by
 unfold HA;split
 ·rename_i k' i' n' l' a b e;injection e with e1 e2 e3 e4 e5;subst e1 e2 e3 e4 e5;simp at h;rw[if_neg h]
 rfl
theorem TG {k i:Int}{n:ByteArray}{ls:List CZ}{ts l:List Tm}{x y:Tm}{X:List Tm×Tm}(h:k=6∧((ts.length:Nat):Int)=2) (hx:ts[0]?=some x) (hy:ts[1]?=some y) (hX:(l++(HA (.mk k i n ls ts)).1,(HA (.mk k i n ls ts)).2)=X):((l++[x])++(HA y).1,(HA y).2)=X:=by
 rw[←hX,jL h hx hy];simp
theorem Vr {k i:Int}{n:ByteArray}{ls:List CZ}{ts l:List Tm}{X:List Tm×Tm}(h:k≠6∨((ts.length:Nat):Int)≠2) (hX:(l++(HA (.mk k i n ls ts)).1,(HA (.mk k i n ls ts)).2)=X):X=(l,.mk k i n ls ts):=by
 rw[←hX,jA h];simp
theorem IQ:∀(t:Tm),(HA t).1.length<size t
 | .mk k i n l [a,b]=>by
  unfold HA;split
  ·have:=IQ b;have:=size_pos a;simp only[List.length_cons,size,Bb];omega
  ·simp[size,Bb];omega
 | .mk k i n l []=>by simp[HA,size,Bb]
 | .mk k i n l [_]=>by simp[HA,size,Bb];omega
 | .mk k i n l (_::_::_::_)=>by simp[HA,size,Bb];omega
mutual
def Fg:FJ→Prop
 | .mk k b v l=>okB b=true∧RA l
def j0:GD→Prop
 | .mk c a t=>Fg t
def RA:List GD→Prop
 | []=>True
 | b::l=>j0 b∧RA l
end
structure DG (d:CK):Prop where
 din:Nn d
 fx:0≤d.fixed∧d.fixed≤1000000
 vl:okB d.value=true
 ru:∀t∈d.recs.rules,okB t=true
 fu:∀f∈d.funs,1≤f.arity∧f.arity≤16∧Fg f.tree
structure Ja (E:List CK):Prop where
 env:HT E
 all:∀d∈E,DG d
theorem Rc {nm:ByteArray}:∀{l:List (ByteArray×GV)}{e:GV},Cs nm l=some e→∃s,(s,e)∈l
 | (s,x)::l,e,h=>by
  simp only[Cs] at h;split at h
  ·cases h;exact⟨s,by simp⟩
  obtain⟨s',h'⟩:=Rc h;exact⟨s',List.mem_cons_of_mem _ h'⟩
theorem Vl {i p:Int}{s:ByteArray}{e:GV}:∀{cs:List Ib}{k:Int},(s,e)∈IP i p cs k→∃(j:Nat) (c:Ib),cs[j]?=some c∧e=⟨4,i,k+j,p,c.type⟩
 | c::cs,k,h=>by
  simp only[IP,List.mem_cons] at h;rcases h with h | h
  ·cases h;exact⟨0,c,rfl,by simp⟩
  obtain⟨j,c',h1,h2⟩:=Vl h;exact⟨j+1,c',by simpa using h1,by rw[h2];congr 1;omega⟩
theorem Yf {i p:Int}{s:ByteArray}{e:GV}:∀{cs:List Hi}{k:Int},(s,e)∈L1 i p cs k→∃(j:Nat) (c:Hi),cs[j]?=some c∧e=⟨6,i,k+j,p,c.type⟩
 | c::cs,k,h=>by
  simp only[L1,List.mem_cons] at h;rcases h with h | h
  ·cases h;exact⟨0,c,rfl,by simp⟩
  obtain⟨j,c',h1,h2⟩:=Yf h;exact⟨j+1,c',by simpa using h1,by rw[h2];congr 1;omega⟩
structure ZA (d:CK) (i:Int) (e:GV):Prop where
 decl:e.decl=i
 kind:0≤e.kind∧e.kind≤6
 ctor:e.kind=4→∃(j:Nat) (c:Ib),d.ctors[j]?=some c∧e.item=j
 func:e.kind=6→∃(j:Nat) (c:Hi),d.funs[j]?=some c∧e.item=j
theorem kb {d:CK}{i:Int}{s:ByteArray}{e:GV}(h:(s,e)∈FX d i):ZA d i e:=by
 unfold FX at h;split at h
 ·rename_i hk;simp only[List.mem_singleton,Prod.mk.injEq] at h;obtain⟨_,rfl⟩:=h;exact⟨O,by simp only;omega,fun q=>by simp only at q;omega,fun q=>by simp only at q;omega⟩
 split at h
 ·simp only[List.mem_cons,List.mem_append,List.mem_singleton,Prod.mk.injEq,List.not_mem_nil,or_false] at h;rcases h with ⟨_,rfl⟩ | h | ⟨_,rfl⟩
  ·exact⟨O,by simp,fun q=>by simp at q,fun q=>by simp at q⟩
  ·obtain⟨j,c,h1,rfl⟩:=Vl h;exact⟨O,by simp,fun _=>⟨j,c,h1,by simp⟩,fun q=>by simp at q⟩
  exact⟨O,by simp,fun q=>by simp at q,fun q=>by simp at q⟩
 split at h
 ·obtain⟨j,c,h1,rfl⟩:=Yf h;exact⟨O,by simp,fun q=>by simp at q,fun _=>⟨j,c,h1,by simp⟩⟩
 cases h
theorem VR {nm:ByteArray}:∀{ds:List CK}{k:Int}{e:GV},findF nm ds k=some e→∃(i:Nat) (d:CK),ds[i]?=some d∧ZA d (k+i) e
 | d::ds,k,e,h=>by
  simp only[findF] at h;split at h
  ·rename_i x hx;cases h;obtain⟨s,hs⟩:=Rc hx;exact⟨0,d,O,by simpa using kb hs⟩
  obtain⟨i,d',h1,h2⟩:=VR h;refine⟨i+1,d',by simpa using h1,?_⟩;rw[show k+((i+1:Nat):Int)=k+1+i by omega];exact h2
theorem Np {ds:List CK}{nm:ByteArray}(h:(Bh ds nm).2=0):∃(i:Nat) (d:CK),ds[i]?=some d∧ZA d i (Bh ds nm).1:=by
 unfold Bh at h ⊢;cases e:findF nm ds 0 with
 | none=>rw[e] at h;simp at h
 | some x =>
  obtain⟨i,d,h1,h2⟩:=VR e;exact⟨i,d,h1,by simpa using h2⟩
def Wu:CK:=⟨0,⟨#[]⟩,0,Bi,Bi,0,[],⟨0,Bi,[]⟩,[]⟩
def Cg (E:List CK) (nm:ByteArray):CK×Int×Bool:=match HU E nm with
 | some (d,j)=>(d,j,true)
 | none=>(Wu,0,false)
section
variable {E:List CK}{nm:ByteArray}{x:CK}
theorem Yj (h:(Bh E nm).2≠0):Cg E nm=(Wu,0,false):=by simp[Cg,HU,h]
theorem Pe (hx:E[(Bh E nm).1.decl.toNat]?=some x):Cb E (Bh E nm).1.decl=x:=CJ hx
theorem jn (h:(Bh E nm).2=0) (h3:(Bh E nm).1.kind=3) (hx:E[(Bh E nm).1.decl.toNat]?=some x):Cg E nm=(x,-1,true):=by
 simp[Cg,HU,h,h3,Pe hx]
theorem kA (h:(Bh E nm).2=0) (h3:(Bh E nm).1.kind=4) (hx:E[(Bh E nm).1.decl.toNat]?=some x):Cg E nm=(x,(Bh E nm).1.item,true):=by
 simp[Cg,HU,h,h3,Pe hx]
theorem fI (h:(Bh E nm).2=0) (h3:(Bh E nm).1.kind=5) (hx:E[(Bh E nm).1.decl.toNat]?=some x):Cg E nm=(x,-2,true):=by
 simp[Cg,HU,h,h3,Pe hx]
theorem eX (h3:(Bh E nm).1.kind≠3) (h4:(Bh E nm).1.kind≠4) (h5:(Bh E nm).1.kind≠5):Cg E nm=(Wu,0,false):=by
 simp[Cg,HU,h3,h4,h5]
end
theorem Fj {d:CK}(h:Nn d) (hf:0≤d.fixed∧d.fixed≤1000000):0≤Ln d∧Ln d≤1000000:=by
 have h1:=IQ d.type;have h2:=h.ty.sz;unfold Ln XI;omega
def QG (E:List CK) (h:Tm):Bool:=decide ((Bh E h.name).2=0)&&decide ((h.levels.length:Int)=(Bh E h.name).1.params)
theorem Cm (E:List CK) (h:Tm):Kf E h=if QG E h=true then some (Bh E h.name).1 else none:=by
 unfold Kf QG;simp only[Bool.and_eq_true,decide_eq_true_eq]
theorem Vq {l:List Tm}{m:Nat}{x:Tm}(h:l[m - 1]?=some x) (hm:0<m):(l.drop m).reverse++[x]=(l.drop (m - 1)).reverse:=by
 rw[Ch h,List.reverse_cons,show m - 1+1=m by omega]
theorem fQ {E:List CK}{k i:Int}{n:ByteArray}{ls:List CZ}{ks:List Tm}(h:(Bh E n).2=0):(((ls.length:Nat):Int)==(Bh E n).1.params)=QG E (.mk k i n ls ks):=by
 simp only[QG,Tm.name,Tm.levels,h,decide_true,Bool.true_and];rw[Bool.eq_iff_iff,beq_iff_eq];exact⟨fun q=>decide_eq_true q,fun q=>of_decide_eq_true q⟩
theorem j8 {E:List CK}{k i:Int}{n:ByteArray}{ls:List CZ}{ks:List Tm}(h:(Bh E n).2≠0):false=QG E (.mk k i n ls ks):=by
 simp[QG,Tm.name,h]
end Go.Eu
namespace Go.Proofs.YtboammbpdaoojaaGreat
open Go.Abs Go.Eu
theorem Qy:∀(ds:List CK) (nm:ByteArray),(HT ds)→Ec Tryz.prog 84 [.p (.lst (List.map Bk ds)),.p (.str nm)] (.tup [.agg ((Bk ((Cg ds nm).1)).map .p),.p (I ((Cg ds nm).2.1)),.p (.bool ((Cg ds nm).2.2))]):=by
 intro ds nm h1;have hl:=h1.len;refine A6 Tryz.func84 O rm (n:=44) O O (Az (BG O (A8 JK O) fun b4=>As Ay 2 [] O (Az (Ax Ay 2 [] O (Ar O (BF O O (Lf ds nm h1) O) (Ax Ay 3 [] O (BG O (A8 Hk O) fun b7=>As Ay 2 [0,1] O (Au (Av Ay 2 [] O (Aw O (fun c=>?_) (fun c=>?_)))))))))))
 ·(try simp only[sd,se] at c);refine Av Ay 4 [1,0] O (BI (BT (i:=1) O) (A1 (⟨O,_,_,⟨_,_,O,(BB (i:=1) FM O O O),⟨_,_,O,O,⟨_,_,O,O,O⟩⟩⟩,(List.nil_sublist _),?_⟩)))
  all_goals exact⟨by show (.tup [.agg [.p (I 0),.p (.str ⟨#[]⟩),.p (I 0),.p (I 0),.p (I 0),.p (.str ⟨#[]⟩),.p (.lst []),.p (.lst []),.p (I 0),.p (I 0),.p (.str ⟨#[]⟩),.p (.lst []),.p (.lst []),.p (I 0),.p (.lst []),.p (I 0),.p (I 0),.p (I 0),.p (.str ⟨#[]⟩),.p (.lst []),.p (.lst []),.p (.lst []),.p (.lst [])],.p (I 0),.p (.bool false)]:AV)=_;rw[Yj Ao];rfl,rfl⟩
 (try simp only[sd,se] at c);obtain⟨fi,fd,hfi,hfo⟩:=Np (ds:=ds) (nm:=nm) Ao;have hdl:=hfo.decl;have hfl:=(List.getElem?_eq_some_iff.1 hfi).1;refine A2 (Au (Az (Ar O (A0 Fe O O) (Ar O (A3 (i:=0) DH O O (DB _)) (Bj O (BA (Av Ay 2 [] O (Aw O (fun c1=>?_) (fun c1=>?_)))))))))
 ·(try simp only[sd,se] at c1);refine Az (Ax Ay 2 [] O (Ar O (A3 (i:=0) DH O O (DR _)) ?_));obtain⟨x,hx⟩:=A7 (l:=ds) (i:=(((Bh ds nm).1).decl:Int).toNat) Ao;refine Ar O (A5 Hj O O Ao (D4 hx) (Cl _)) (As Ay 4 [1,1] O (A1 (⟨O,_,_,⟨_,_,O,(BB (i:=1) FM O O Ae),⟨_,_,O,O,⟨_,_,O,O,O⟩⟩⟩,(List.nil_sublist _),?_⟩)))
  all_goals exact⟨by show (.tup [.agg ((Bk x).map .p),.p (I (-1)),.p (.bool true)]:AV)=_;rw[jn Ao Ao hx],rfl⟩
 (try simp only[sd,se] at c1);refine Av Ay 2 [] O (Aw O (fun c2=>?_) (fun c2=>?_))
 ·(try simp only[sd,se] at c2);refine Au (Bu (fun k=>false) Dt (BQ Ay 2 [] O (CX (j:=0) O O O (fun H i hi=>A3 (i:=i) DH O hi (DR _)) AB Aq ?_)));obtain⟨x,hx⟩:=A7 (l:=ds) (i:=(((Bh ds nm).1).decl:Int).toNat) Ao;refine BH O (fun _=>A5 Hj O O Ao (D4 hx) (Cl _)) Aq (BQ Ay 2 [] O (CX (j:=0) O O O (fun H i hi=>A3 (i:=i) DH O hi (Dq _)) AB Aq (Bn Ay 3 [1,1] O (A1 (⟨O,_,_,⟨_,_,O,(BB (i:=1) FM O O Ae),⟨_,_,O,O,⟨_,_,O,O,O⟩⟩⟩,(List.nil_sublist _),?_⟩)))))
  all_goals exact⟨by show (.tup [.agg ((Bk x).map .p),.p (I (((Bh ds nm).1).item)),.p (.bool true)]:AV)=_;rw[kA Ao Ao hx],rfl⟩
 (try simp only[sd,se] at c2);refine Av Ay 2 [] O (Aw O (fun c3=>?_) (fun c3=>?_))
 ·(try simp only[sd,se] at c3);refine Az (Ax Ay 2 [] O (Ar O (A3 (i:=0) DH O O (DR _)) ?_));obtain⟨x,hx⟩:=A7 (l:=ds) (i:=(((Bh ds nm).1).decl:Int).toNat) Ao;refine Ar O (A5 Hj O O Ao (D4 hx) (Cl _)) (As Ay 4 [1,1] O (A1 (⟨O,_,_,⟨_,_,O,(BB (i:=1) FM O O Ae),⟨_,_,O,O,⟨_,_,O,O,O⟩⟩⟩,(List.nil_sublist _),?_⟩)))
  all_goals exact⟨by show (.tup [.agg ((Bk x).map .p),.p (I (-2)),.p (.bool true)]:AV)=_;rw[fI Ao Ao hx],rfl⟩
 (try simp only[sd,se] at c3);refine A2 (Av Ay 4 [1,0] O (BI (BT (i:=1) O) (A1 (⟨O,_,_,⟨_,_,O,(BB (i:=1) FM O O O),⟨_,_,O,O,⟨_,_,O,O,O⟩⟩⟩,(List.nil_sublist _),?_⟩))))
 all_goals exact⟨by show (.tup [.agg [.p (I 0),.p (.str ⟨#[]⟩),.p (I 0),.p (I 0),.p (I 0),.p (.str ⟨#[]⟩),.p (.lst []),.p (.lst []),.p (I 0),.p (I 0),.p (.str ⟨#[]⟩),.p (.lst []),.p (.lst []),.p (I 0),.p (.lst []),.p (I 0),.p (I 0),.p (I 0),.p (.str ⟨#[]⟩),.p (.lst []),.p (.lst []),.p (.lst []),.p (.lst [])],.p (I 0),.p (.bool false)]:AV)=_;rw[eX Ao Ao Ao];rfl,rfl⟩
theorem _root_.Go.AI {α:Prop}(h:α:=by first | rfl | (refine pB ?_;simp_all;done) | (refine pB ?_;simp_all<;>(intros;omega))):α:=h
theorem N6:∀(l:CZ),(M4 l)→Ec Tryz.prog 148 [.agg ((B0 l).map .p)] (.p (.bool (CA l))):=by
 intro l h1;have hl:=h1.vars;simp only[Dd] at hl;refine A6 Tryz.func148 O j9 (n:=67) O O (Az (BG O (BP O) fun b1=>As Ay 1 [] O (Au (Au (BR [1] 12 (fun y=>y= .p (.bool ((decide ((l.const:Int)<(0:Int)))||(decide ((l.const:Int) > (100:Int)))))) ?_ ?_)))))
 ·refine A4 (Ax Ay 4 [0] O (BL 8 O (fun g=>?_) (fun g=>?_)))
  ·(try simp only[sd,se] at g);exact As Ay 4 [] O (⟨O,O,AK,AI,⟨O,Aq⟩⟩)
  (try simp only[sd,se] at g);exact As Ay 4 [0] O (⟨O,O,AK,AI,⟨O,Aq⟩⟩)
 rintro _ rfl;refine Aw O (fun c=>?_) (fun c=>?_)
 ·(try simp only[sd,se] at c);refine Av Ay 1 [] O (A1 (⟨O,_,_,⟨_,_,O,O,O⟩,(List.nil_sublist _),?_⟩))
  all_goals exact⟨pB (dO c),rfl⟩
 (try simp only[sd,se] at c);refine A2 (Au (Av Ay 1 [] O (BA (Be (α:=Nat) (fun i=>⟨67,mk [(1,.ptr b1 0),(3,.p (I (i:Int)))],[.box b1 [.p (I l.const),.p (.lst (List.map D1 l.vars))]],[]⟩) (fun i=>l.vars.length - i) (fun i=>i≤l.vars.length∧(Cr l.const l.vars 0=Cr l.const l.vars i)) 0 (⟨by omega,rfl⟩) ?_ ?_))))
 ·exact BY ⟨we O,we O,Aq⟩ (leH (is:=[0]) O (wl (oe O) (C7)))
 rintro i hC
 try simp only at hC
 obtain⟨hi,hC⟩:=hC;refine Au (Az (Ax Ay 3 [0] O (Ar O (BM CW O (List.length_map _)) (As Ay 1 [] O (Aw O (fun c1=>?_) (fun c1=>?_))))))
 ·(try simp only[sd,se] at c1);refine A2 (Au (BA (Az (Ax Ay 3 [0] O ?_))));obtain⟨x,hx⟩:=A7 (l:=l.vars) (i:=i) Ao;refine Ar O (A5 CW O O Ao (Ci hx) (O)) (Ar O (BN Mw O (O)) (BG O (A8 Fy O) fun b4=>As Ay 1 [0,1] O (Au (Au (BR [1,3,4] 42 (fun y=>y= .p (.bool ((((decide ((x.index:Int)<(-65536:Int)))||(decide ((x.index:Int)≥(8:Int))))||(decide ((x.plus:Int)<(0:Int))))||(decide ((x.plus:Int) > (100:Int)))))) ?_ ?_)))))
  ·refine A4 (Ax Ay 4 [0] O (BL 28 O (fun g=>?_) (fun g=>?_)))
   ·(try simp only[sd,se] at g);exact As Ay 14 [] O (⟨O,O,AK,AI,⟨O,O,O,Aq⟩⟩)
   (try simp only[sd,se] at g);refine Ax Ay 5 [0] O (BL 33 O (fun g1=>?_) (fun g1=>?_))
   ·(try simp only[sd,se] at g1);exact As Ay 9 [] O (⟨O,O,AK,AI,⟨O,O,O,Aq⟩⟩)
   (try simp only[sd,se] at g1);refine Ax Ay 5 [0] O (BL 38 O (fun g2=>?_) (fun g2=>?_))
   ·(try simp only[sd,se] at g2);exact As Ay 4 [] O (⟨O,O,AK,AI,⟨O,O,O,Aq⟩⟩)
   (try simp only[sd,se] at g2);exact As Ay 4 [0] O (⟨O,O,AK,AI,⟨O,O,O,Aq⟩⟩)
  rintro _ rfl;refine Aw O (fun c2=>?_) (fun c2=>?_)
  ·(try simp only[sd,se] at c2);refine Av Ay 1 [] O (A1 (⟨O,_,_,⟨_,_,O,O,O⟩,(List.nil_sublist _),?_⟩))
   all_goals exact⟨pB (Ut hC (dL hx (dB c2))),rfl⟩
  (try simp only[sd,se] at c2);refine A2 (Au (Au (BR [1,3,4] 56 (fun y=>y= .p (.bool (!(JS (Jr l.vars i) x.index)))) ?_ ?_)))
  ·refine Bu (fun k=>false) Dt (BQ Ay 3 [] O (Dx 45 O (fun g=>?_) (fun g=>?_)))
   ·(try simp only[sd,se] at g);refine BQ Ay 4 [1] O ?_;obtain⟨x1,hx1⟩:=A7 (l:=l.vars) (i:=(((i:Int):Int) - (1:Int):Int).toNat) Ao;exact Cc O (fun _=>A5 CW O O Ao (Ci hx1) (O)) Aq (Bn Ay 6 [0] O (⟨O,O,AK,(by first | (refine pB ?_;exact(NT Ao).symm) | (refine pB ?_;exact(PT hx1 Ao).symm)),⟨O,O,O,Aq⟩⟩))
   (try simp only[sd,se] at g);exact Bn Ay 11 [] O (⟨O,O,AK,(by first | (refine pB ?_;exact(NT Ao).symm) | (refine pB ?_;exact(PT hx1 Ao).symm)),⟨O,O,O,Aq⟩⟩)
  rintro _ rfl;refine Aw O (fun c3=>?_) (fun c3=>?_)
  ·(try simp only[sd,se] at c3);refine Av Ay 1 [] O (A1 (⟨O,_,_,⟨_,_,O,O,O⟩,(List.nil_sublist _),?_⟩))
   all_goals exact⟨pB (Ut hC (by rw[OS hx];rw[c3];simp)),rfl⟩
  (try simp only[sd,se] at c3);refine A2 (Au (BR [1,3] 66 (fun y=>y= .p (.bool ((decide ((l.const:Int) > (0:Int)))&&(decide ((x.plus:Int)≥(l.const:Int)))))) ?_ ?_))
  ·refine A4 (Ax Ay 4 [1] O (BL 60 O (fun g=>?_) (fun g=>?_)))
   ·(try simp only[sd,se] at g);exact As Ay 6 [0,1] O (⟨O,O,AK,AI,⟨O,O,Aq⟩⟩)
   (try simp only[sd,se] at g);exact As Ay 6 [] O (⟨O,O,AK,AI,⟨O,O,Aq⟩⟩)
  rintro _ rfl;refine Aw O (fun c4=>?_) (fun c4=>?_)
  ·(try simp only[sd,se] at c4);refine Av Ay 1 [] O (A1 (⟨O,_,_,⟨_,_,O,O,O⟩,(List.nil_sublist _),?_⟩))
   all_goals exact⟨pB (Ut hC (dL hx (gP c4.1 c4.2))),rfl⟩
  (try simp only[sd,se] at c4);refine A2 (A4 (As Ay 3 [] O (⟨(i+1),AU,⟨by omega,(hC.trans (iS hx (Uc Ao (by simpa using c4)) (by simpa using c3)))⟩,BY ⟨we rfl,we rfl,trivial⟩ (leH (is:=[1]) rfl (wl (oe rfl) (C7)))⟩)))
 (try simp only[sd,se] at c1);refine Bg (Av Ay 1 [] O (A1 (⟨O,_,_,⟨_,_,O,O,O⟩,(List.nil_sublist _),?_⟩)))
 all_goals exact⟨pB (gH Ao Ao hC Ao),rfl⟩
theorem Z1:∀(n:Int),Ec Tryz.prog 187 [.p (I n)] (.agg ((B0 (⟨n,[]⟩:CZ)).map .p)):=by
 intro n;refine A6 Tryz.func187 O mU (n:=5) O O (Az (BG O (A8 ER O) fun b2=>Bj O (Av Ay 3 [0,0] O (BI (BT (i:=0) O) (A1 (⟨O,_,_,⟨_,_,O,(BB (i:=0) Dc O O O),O⟩,(List.nil_sublist _),?_⟩))))))
 all_goals exact⟨rfl,rfl⟩
theorem WA:∀(l:List CZ),(l.length<Dd)→(∀x∈l,M4 x)→Ec Tryz.prog 167 [.p (.lst (List.map B0 l))] (.p (.bool (l.all CA))):=by
 intro l h1 h2;simp only[Dd] at h1;refine A6 Tryz.func167 O mG (n:=16) O O (Av Ay 1 [] O (Au (Av Ay 1 [] O (BA ?_))));refine Be (α:=Nat) (fun i=>⟨16,mk [(0,.p (.lst (List.map B0 l))),(3,.p (I (i:Int)))],[],[]⟩) (fun i=>l.length - i) (fun i=>i≤l.length∧(∀j,j<i→∀y,l[j]?=some y→CA y=true)) 0 (⟨by omega,fun j h=>by omega⟩) ?_ ?_
 ·exact BY ⟨we O,we O,Aq⟩ (leH (is:=[]) O (C7))
 rintro i hC
 try simp only at hC
 obtain⟨hi,hC⟩:=hC;refine Au (Az (Ax Ay 2 [] O (Ar O (BM EZ O (List.length_map _)) (As Ay 1 [] O (Aw O (fun c=>?_) (fun c=>?_))))))
 ·(try simp only[sd,se] at c);refine A2 (Au (BA (Az (Ax Ay 2 [] O ?_))));obtain⟨x,hx⟩:=A7 (l:=l) (i:=i) Ao;refine Ar O (A5 EZ O O Ao (Fz hx) (Dm _)) (Ar O (BN Dc O (Dm _)) (Ar O (BF O O (N6 x (h2 _ (List.mem_of_getElem? hx))) O) (As Ay 1 [] O (Aw O (fun c1=>?_) (fun c1=>?_)))))
  ·(try simp only[sd,se] at c1);refine Av Ay 1 [] O (A1 (⟨O,_,_,⟨_,_,O,O,O⟩,(List.nil_sublist _),?_⟩))
   all_goals exact⟨pB (gK hx (by simpa using c1)),rfl⟩
  (try simp only[sd,se] at c1);refine A2 (A4 (As Ay 3 [] O (⟨(i+1),AU,⟨by omega,Cw (p:=fun _ (y:CZ)=>CA y=true) hC hx (by simpa using c1)⟩,BY ⟨we rfl,we rfl,trivial⟩ (leH (is:=[]) rfl (C7))⟩)))
 (try simp only[sd,se] at c);refine Bg (Av Ay 1 [] O (A1 (⟨O,_,_,⟨_,_,O,O,O⟩,(List.nil_sublist _),?_⟩)))
 all_goals exact⟨pB (fE fun j hj=>hC j Ao),rfl⟩
theorem Ze:∀(l:CZ),(M4 l)→Ec Tryz.prog 168 [.agg ((B0 l).map .p)] (.p (I (GY l))):=by
 intro l h1;have hl:=h1.vars;simp only[Dd] at hl;refine A6 Tryz.func168 O nX (n:=23) O O (Az (BG O (BP O) fun b1=>As Ay 1 [] O (Au (Au (BR [1] 11 (fun y=>y= .p (.bool ((!(CA l))||(((l.vars.length:Nat):Int)==(0:Int))))) ?_ ?_)))))
 ·refine A4 (Ar O (BU (i:=0) Dc O O O) (Ar O (BF O O (N6 (CZ.mk l.const l.vars) h1) O) (Ax Ay 2 [] O (BL 6 O (fun g=>?_) (fun g=>?_)))))
  ·(try simp only[sd,se] at g);exact As Ay 5 [] O (⟨O,O,AK,AI,⟨O,Aq⟩⟩)
  (try simp only[sd,se] at g);exact Ax Ay 2 [0] O (BC O (BM CW O (List.length_map _)) (As Ay 2 [] O (⟨O,O,AK,AI,⟨O,Aq⟩⟩)))
 rintro _ rfl;refine Aw O (fun c=>?_) (fun c=>?_)
 ·(try simp only[sd,se] at c);refine Av Ay 1 [] O (A1 (⟨O,_,_,⟨_,_,O,O,O⟩,(List.nil_sublist _),?_⟩))
  all_goals exact⟨pI (Wl (by simpa using c)),rfl⟩
 (try simp only[sd,se] at c);obtain⟨hv,hn⟩:CA l=true∧l.vars.length≠0:=by simpa using c
 refine A2 (Az (Ax Ay 4 [0,0] O (Ar O (BM CW O (List.length_map _)) (Ar O (Kh O O Ao Ao) ?_))));obtain⟨x,hx⟩:=A7 (l:=l.vars) (i:=(((l.vars.length:Nat):Int) - (1:Int):Int).toNat) Ao;have hw:=Ke hv hx;refine Ar O (A5 CW O O Ao (Ci hx) (O)) (Ax Ay 3 [] O (Ar O (FR O O) (As Ay 1 [] O (A1 (⟨O,_,_,⟨_,_,O,O,O⟩,(List.nil_sublist _),?_⟩)))))
 all_goals exact⟨pI (VL hv hx Ao),rfl⟩
theorem _root_.Go.AF {α:Prop}(h:α:=by simp only[List.length_map,List.length_append,List.length_take,List.length_cons,List.length_nil];omega):α:=h
theorem _root_.Go.Ag {α:Prop}(h:α:=by simp[Dm]):α:=h
theorem iR:∀(l:CZ) (n:Int),(M4 l)→Ec Tryz.prog 188 [.agg ((B0 l).map .p),.p (I n)] (.tup [.agg ((B0 ((E3 l n).1)).map .p),.p (I ((E3 l n).2))]):=by
 intro l n h1;have hl:=h1.vars;simp only[Dd] at hl;refine A6 Tryz.func188 O nu (n:=75) O O (Az (BG O (BP O) fun b2=>BG O (A8 ER O) fun b4=>As Ay 1 [] O (Au (Az (Ar O (BU (i:=1) Dc O O Ag) (Ar O (BF O O (N6 l h1) O) (As Ay 1 [] O (Aw O (fun c=>?_) (fun c=>?_)))))))))
 ·(try simp only[sd,se] at c);refine Av Ay 3 [0,0] O (BI (BT (i:=0) O) (A1 (⟨O,_,_,⟨_,_,O,(BB (i:=0) Dc O O O),⟨_,_,O,O,O⟩⟩,(List.nil_sublist _),?_⟩)))
  all_goals exact⟨by show (.tup [.agg [.p (I 0),.p (.lst [])],.p (I 3)]:AV)=_;rw[s5 (by simpa using c)];rfl,rfl⟩
 (try simp only[sd,se] at c);have hv:CA l=true:=by simpa using c
 have hv0:=WV hv;refine A2 (Au (Av Ay 2 [] O (Aw O (fun c1=>?_) (fun c1=>?_))))
 ·(try simp only[sd,se] at c1);refine Av Ay 3 [0,0] O (BI (BT (i:=0) O) (A1 (⟨O,_,_,⟨_,_,O,(BB (i:=0) Dc O O O),⟨_,_,O,O,O⟩⟩,(List.nil_sublist _),?_⟩)))
  all_goals exact⟨by show (.tup [.agg [.p (I 0),.p (.lst [])],.p (I 2)]:AV)=_;rw[tK hv c1];rfl,rfl⟩
 (try simp only[sd,se] at c1);refine A2 (Au (Av Ay 2 [] O (Aw O (fun c2=>?_) (fun c2=>?_))))
 ·(try simp only[sd,se] at c2);refine Av Ay 3 [0,0] O (BI (BT (i:=0) O) (A1 (⟨O,_,_,⟨_,_,O,(BB (i:=0) Dc O O O),⟨_,_,O,O,O⟩⟩,(List.nil_sublist _),?_⟩)))
  all_goals exact⟨by show (.tup [.agg [.p (I 0),.p (.lst [])],.p (I 15)]:AV)=_;rw[sq hv Ao c2];rfl,rfl⟩
 (try simp only[sd,se] at c2);refine A2 (Az (Ar O (CO Tz ER O) (BG O (A8 ER O) fun b6=>As Ay 1 [0,0] O (Au (Au (BR [1,2,4,6] 27 (fun y=>y= .p (.bool ((decide ((l.const:Int) > (0:Int)))||(((l.vars.length:Nat):Int)==(0:Int))))) ?_ ?_))))))
 ·refine A4 (Ax Ay 4 [2] O (BL 22 O (fun g=>?_) (fun g=>?_)))
  ·(try simp only[sd,se] at g);exact As Ay 5 [] O (⟨O,O,AK,AI,⟨O,O,O,O,Aq⟩⟩)
  (try simp only[sd,se] at g);exact Ax Ay 2 [2] O (BC O (BM CW O (List.length_map _)) (As Ay 2 [] O (⟨O,O,AK,AI,⟨O,O,O,O,Aq⟩⟩)))
 rintro _ rfl;refine Aw O (fun c3=>?_) (fun c3=>?_)
 ·(try simp only[sd,se] at c3);refine A4 (As Ay 6 [2,0,0] O (Au (Av Ay 3 [0] O (Aw O (fun c4=>?_) (fun c4=>?_)))))
  ·(try simp only[sd,se] at c4);refine Av Ay 3 [1,0] O (BI (BT (i:=1) O) (A1 (⟨O,_,_,⟨_,_,O,(BB (i:=1) Dc O O O),⟨_,_,O,O,O⟩⟩,(List.nil_sublist _),?_⟩)))
   all_goals exact⟨by show (.tup [.agg [.p (I 0),.p (.lst [])],.p (I 15)]:AV)=_;rw[td hv Ao Ao (by rw[Mm Ao];omega)];rfl,rfl⟩
  (try simp only[sd,se] at c4);refine A2 (Au (Az (B3 (H5 (i:=0) O (XY (aw (we O) (aw (I4) (Et))))) (B3 (Hu (sz:=2)) (As Ay 1 [] O (BA ?_))))));refine Be (α:=Nat×Option Nat×Nat) (fun(i,o,cp)=>⟨75,mk [(1,.p (I n)),(2,.ptr b2 0),(4,.ptr b4 0),(6,.ptr b6 0),(7,.p (I (i:Int)))],[.vec o 2 (List.map D1 ((l.vars.take i).map (Nk n))) cp,.box b6 [.p (I ((l.const:Int)+(n:Int))),.vs o (List.map D1 ((l.vars.take i).map (Nk n))).length cp],.box b4 [.p (I 0),.p (.nils)],.box b2 [.p (I l.const),.p (.lst (List.map D1 l.vars))]],[]⟩) (fun(i,o,cp)=>l.vars.length - i) (fun(i,o,cp)=>i≤l.vars.length∧(∀j,j<i→∀y,l.vars[j]?=some y→¬100<y.plus+n)) ⟨0,none,0⟩ (⟨by omega,fun j h=>by omega⟩) ?_ ?_
  ·exact BY ⟨we O,we O,we O,we O,we O,Aq⟩ (leH (is:=[0,1,2,3]) O (wl (oe O) (wl (oe O) (wl (oe O) (wl (oe O) (C7))))))
  rintro⟨i,o,cp⟩ hC
  try simp only at hC
  obtain⟨hi,hC⟩:=hC;refine Au (Az (Ax Ay 3 [3] O (Ar O (BM CW O (List.length_map _)) (As Ay 1 [] O (Aw O (fun c5=>?_) (fun c5=>?_))))))
  ·(try simp only[sd,se] at c5);refine A2 (Au (BA (Au (Az (Ax Ay 3 [3] O ?_)))));obtain⟨x,hx⟩:=A7 (l:=l.vars) (i:=i) Ao;have hw:=Ke hv hx;refine Ar O (A5 CW O O Ao (Ci hx) (O)) (As Ay 5 [] O (Aw O (fun c6=>?_) (fun c6=>?_)))
   ·(try simp only[sd,se] at c6);refine Av Ay 3 [2,0] O (BI (BT (i:=2) O) (A1 (⟨O,_,_,⟨_,_,O,(BB (i:=2) Dc O O O),⟨_,_,O,O,O⟩⟩,(List.nil_sublist _),?_⟩)))
    all_goals exact⟨by show (.tup [.agg [.p (I 0),.p (.lst [])],.p (I 15)]:AV)=_;rw[sR hv Ao Ao (by rw[Mm Ao];omega) hx c6];rfl,rfl⟩
   (try simp only[sd,se] at c6);refine A2 (Bu (fun k=>Nat.beq k 18) Dt (BQ Ay 5 [1,3] O (BH O (fun _=>A5 CW O O Ao (Ci hx) (O)) Aq (BQ Ay 5 [3] O (BH O (fun _=>A5 CW O O Ao (Ci hx) (O)) Aq (BQ Ay 5 [] O (BH O (fun _=>Bo CW Fy O O O O O) Aq (LC [] O O (CQ (i:=0) (rows':=List.map D1 [(CE.mk x.index ((x.plus:Int)+(n:Int)))]) CW CW Fy O O O O O O (GK _) AF (GJ (f:=D1) ((l.vars.take i).map (Nk n)) [(CE.mk x.index ((x.plus:Int)+(n:Int)))])) Ak fun o1 cp1=>⟨AB,Aq,?_⟩))))))));refine Bn Ay 2 [1,0] O (A4 (As Ay 3 [] O (⟨⟨i+1,o1,cp1⟩,AU,⟨by omega,Cw (p:=fun _ (y:CE)=>¬100<y.plus+n) hC hx Ao⟩,BY ⟨we rfl,we rfl,we rfl,we rfl,we rfl,trivial⟩ (leH (is:=[0,1,2,3]) rfl (wl (Fk (f:=D1) ((l.vars.take i).map (Nk n)++[(CE.mk x.index ((x.plus:Int)+(n:Int)))]) (by rw[List.take_add_one,hx];simp[Nk])) (wl (XY (aw (we rfl) (aw (we (Gb (f:=D1) ((l.vars.take i).map (Nk n)++[(CE.mk x.index ((x.plus:Int)+(n:Int)))]) (by rw[List.take_add_one,hx];simp[Nk]))) (Et)))) (wl (oe rfl) (wl (oe rfl) (C7))))))⟩)))
  (try simp only[sd,se] at c5);refine Bg (Az (B3 (DQ (i:=0) (j:=1) (q:=1) [] O O O (D6 Aq)) (As Ay 3 [0,1,0] O (A1 (⟨O,_,_,⟨_,_,O,(BB (i:=1) Dc O O O),⟨_,_,O,O,O⟩⟩,(List.nil_sublist _),?_⟩)))))
  all_goals exact⟨by show (.tup [.agg [.p (I ((l.const:Int)+(n:Int))),.p (.lst (List.map D1 ((l.vars.take i).map (Nk n))))],.p (I 0)]:AV)=_;rw[sQ hv Ao Ao (by rw[Mm Ao];omega) fun j hj=>hC j Ao,Mm Ao,List.take_of_length_le Ao];rfl,rfl⟩
 (try simp only[sd,se] at c3);refine A2 (Au (Av Ay 3 [0] O (Aw O (fun c4=>?_) (fun c4=>?_))))
 ·(try simp only[sd,se] at c4);refine Av Ay 3 [1,0] O (BI (BT (i:=1) O) (A1 (⟨O,_,_,⟨_,_,O,(BB (i:=1) Dc O O O),⟨_,_,O,O,O⟩⟩,(List.nil_sublist _),?_⟩)))
  all_goals exact⟨by show (.tup [.agg [.p (I 0),.p (.lst [])],.p (I 15)]:AV)=_;exfalso;simp at c4,rfl⟩
 (try simp only[sd,se] at c4);refine A2 (Au (Az (B3 (H5 (i:=0) O (XY (aw (we O) (aw (I4) (Et))))) (B3 (Hu (sz:=2)) (As Ay 1 [] O (BA ?_))))));refine Be (α:=Nat×Option Nat×Nat) (fun(i,o,cp)=>⟨75,mk [(1,.p (I n)),(2,.ptr b2 0),(4,.ptr b4 0),(6,.ptr b6 0),(7,.p (I (i:Int)))],[.vec o 2 (List.map D1 ((l.vars.take i).map (Nk n))) cp,.box b6 [.p (I 0),.vs o (List.map D1 ((l.vars.take i).map (Nk n))).length cp],.box b4 [.p (I 0),.p (.nils)],.box b2 [.p (I l.const),.p (.lst (List.map D1 l.vars))]],[]⟩) (fun(i,o,cp)=>l.vars.length - i) (fun(i,o,cp)=>i≤l.vars.length∧(∀j,j<i→∀y,l.vars[j]?=some y→¬100<y.plus+n)) ⟨0,none,0⟩ (⟨by omega,fun j h=>by omega⟩) ?_ ?_
 ·exact BY ⟨we O,we O,we O,we O,we O,Aq⟩ (leH (is:=[0,1,2,3]) O (wl (oe O) (wl (oe O) (wl (oe O) (wl (oe O) (C7))))))
 rintro⟨i,o,cp⟩ hC
 try simp only at hC
 obtain⟨hi,hC⟩:=hC;refine Au (Az (Ax Ay 3 [3] O (Ar O (BM CW O (List.length_map _)) (As Ay 1 [] O (Aw O (fun c5=>?_) (fun c5=>?_))))))
 ·(try simp only[sd,se] at c5);refine A2 (Au (BA (Au (Az (Ax Ay 3 [3] O ?_)))));obtain⟨x,hx⟩:=A7 (l:=l.vars) (i:=i) Ao;have hw:=Ke hv hx;refine Ar O (A5 CW O O Ao (Ci hx) (O)) (As Ay 5 [] O (Aw O (fun c6=>?_) (fun c6=>?_)))
  ·(try simp only[sd,se] at c6);refine Av Ay 3 [2,0] O (BI (BT (i:=2) O) (A1 (⟨O,_,_,⟨_,_,O,(BB (i:=2) Dc O O O),⟨_,_,O,O,O⟩⟩,(List.nil_sublist _),?_⟩)))
   all_goals exact⟨by show (.tup [.agg [.p (I 0),.p (.lst [])],.p (I 15)]:AV)=_;rw[sR hv Ao Ao (by rw[PF Ao];omega) hx c6];rfl,rfl⟩
  (try simp only[sd,se] at c6);refine A2 (Bu (fun k=>Nat.beq k 18) Dt (BQ Ay 5 [1,3] O (BH O (fun _=>A5 CW O O Ao (Ci hx) (O)) Aq (BQ Ay 5 [3] O (BH O (fun _=>A5 CW O O Ao (Ci hx) (O)) Aq (BQ Ay 5 [] O (BH O (fun _=>Bo CW Fy O O O O O) Aq (LC [] O O (CQ (i:=0) (rows':=List.map D1 [(CE.mk x.index ((x.plus:Int)+(n:Int)))]) CW CW Fy O O O O O O (GK _) AF (GJ (f:=D1) ((l.vars.take i).map (Nk n)) [(CE.mk x.index ((x.plus:Int)+(n:Int)))])) Ak fun o1 cp1=>⟨AB,Aq,?_⟩))))))));refine Bn Ay 2 [1,0] O (A4 (As Ay 3 [] O (⟨⟨i+1,o1,cp1⟩,AU,⟨by omega,Cw (p:=fun _ (y:CE)=>¬100<y.plus+n) hC hx Ao⟩,BY ⟨we rfl,we rfl,we rfl,we rfl,we rfl,trivial⟩ (leH (is:=[0,1,2,3]) rfl (wl (Fk (f:=D1) ((l.vars.take i).map (Nk n)++[(CE.mk x.index ((x.plus:Int)+(n:Int)))]) (by rw[List.take_add_one,hx];simp[Nk])) (wl (XY (aw (we rfl) (aw (we (Gb (f:=D1) ((l.vars.take i).map (Nk n)++[(CE.mk x.index ((x.plus:Int)+(n:Int)))]) (by rw[List.take_add_one,hx];simp[Nk]))) (Et)))) (wl (oe rfl) (wl (oe rfl) (C7))))))⟩)))
 (try simp only[sd,se] at c5);refine Bg (Az (B3 (DQ (i:=0) (j:=1) (q:=1) [] O O O (D6 Aq)) (As Ay 3 [0,1,0] O (A1 (⟨O,_,_,⟨_,_,O,(BB (i:=1) Dc O O O),⟨_,_,O,O,O⟩⟩,(List.nil_sublist _),?_⟩)))))
 all_goals exact⟨by show (.tup [.agg [.p (I 0),.p (.lst (List.map D1 ((l.vars.take i).map (Nk n))))],.p (I 0)]:AV)=_;rw[sQ hv Ao Ao (by rw[PF Ao];omega) fun j hj=>hC j Ao,PF Ao,List.take_of_length_le Ao];rfl,rfl⟩
theorem lX:∀(b0:Nat) (l:CZ) (x:CE),Bq Tryz.prog 196 [.agg ((D1 x).map .p),.ptr b0 0] [.box b0 ((B0 l).map .p)] (GW (.p (.bool (decide (l.const≤x.plus)))) [.box b0 ((B0 l).map .p)]):=by
 intro b0 l x;refine A6 Tryz.func196 O oz (n:=9) O O (Az (BG O (BP O) fun b2=>As Ay 1 [] O (Av Ay 6 [0,1] O (A1 (⟨O,_,_,⟨_,_,O,O,O⟩,(B4 (is:=[1]) O),?_⟩)))))
 all_goals exact⟨rfl,rfl⟩
theorem ky:∀(b0:Nat) (l:CZ) (vs:List CE),(vs.length<Dd)→Bq Tryz.prog 200 [.p (.lst (List.map D1 vs)),.fn (.func 196) [] [.ptr b0 0]] [.box b0 ((B0 l).map .p)] (GW (.p (I (NK (fun v=>decide (l.const≤v.plus)) vs 0))) [.box b0 ((B0 l).map .p)]):=by
 intro b0 l vs h1;simp only[Dd] at h1;refine A6 Tryz.func200 O mN (n:=19) O O (Av Ay 1 [] O (Au (Az (Bt O (Ar O (BM CW O (List.length_map _)) (As Ay 1 [] O (BA (Be (α:=Nat) (fun i=>⟨19,mk [(0,.p (.lst (List.map D1 vs))),(1,.fn (.func 196) [] [.ptr b0 0]),(7,.p (I (vs.length:Nat))),(8,.p (I (i:Int)))],[.box b0 ((B0 l).map .p)],[]⟩) (fun i=>vs.length - i) (fun i=>i≤vs.length∧(NK (fun v=>decide (l.const≤v.plus)) (vs.drop i) i=NK (fun v=>decide (l.const≤v.plus)) vs 0)) 0 (⟨by omega,rfl⟩) ?_ ?_))))))))
 ·exact BY ⟨we O,we O,we O,we O,Aq⟩ (leH (is:=[0]) O (wl (oe O) (C7)))
 rintro i hC
 try simp only at hC
 obtain⟨hi,hC⟩:=hC;refine Av Ay 1 [] O (Au (Aw O (fun c=>?_) (fun c=>?_)))
 ·(try simp only[sd,se] at c);refine A2 (Au (BA (Av Ay 2 [] O (Az (Ax Ay 3 [] O ?_)))));obtain⟨x,hx⟩:=A7 (l:=vs) (i:=i) Ao;refine Ar O (A5 CW O O Ao (Ci hx) (O)) (Ar O (BN Mw O (O)) (Ar O (B8 [0] O (.inr O) (lX b0 l x) ⟨_,_,O,O,O⟩ An O (.inl O)) (Bj O (Aw O (fun c1=>?_) (fun c1=>?_)))))
  ·(try simp only[sd,se] at c1);refine Av Ay 2 [] O (A1 (⟨O,_,_,⟨_,_,O,O,O⟩,(B4 (is:=[0]) O),?_⟩))
   all_goals exact⟨by show (.p (I (i:Int)):AV)=_;rw[←hC,UU hx,if_pos (by simpa using c1)],rfl⟩
  (try simp only[sd,se] at c1);refine A2 (A4 (As Ay 2 [] O ?_));refine⟨(i+1),AU,⟨by omega,by rw[←hC,UU hx,if_neg (by simpa using c1)];rfl⟩,BY ⟨we rfl,we rfl,we rfl,we rfl,trivial⟩ (leH (is:=[0]) rfl (wl (oe rfl) (C7)))⟩
 (try simp only[sd,se] at c);refine Bg (Av Ay 1 [] O (A1 (⟨O,_,_,⟨_,_,O,O,O⟩,(B4 (is:=[0]) O),?_⟩)))
 all_goals exact⟨by show (.p (I (-1)):AV)=_;rw[←hC,List.drop_eq_nil_of_le Ao];rfl,rfl⟩
theorem kQ:∀(b0:Nat) (l:CZ) (vs:List CE),(vs.length<Dd)→Bq Tryz.prog 195 [.p (.lst (List.map D1 vs)),.fn (.func 196) [] [.ptr b0 0]] [.box b0 ((B0 l).map .p)] (GW (.p (.bool (vs.any (fun v=>decide (l.const≤v.plus))))) [.box b0 ((B0 l).map .p)]):=by
 intro b0 l vs h1;refine A6 Tryz.func195 O nJ (n:=9) O O (Av Ay 1 [] O (Az (Ax Ay 2 [] O (Ar O (B8 [0] O (.inl ⟨O,O,O⟩) (ky b0 l vs h1) ⟨_,_,O,O,O⟩ An O (.inl O)) (As Ay 2 [] O (A1 (⟨O,_,_,⟨_,_,O,O,O⟩,(B4 (is:=[0]) O),?_⟩)))))))
 all_goals exact⟨by show (.p (.bool (decide ((NK (fun v=>decide (l.const≤v.plus)) vs 0:Int)≥(0:Int)))):AV)=_;rw[←UD vs 0 Ao],rfl⟩
theorem Q6:∀(l:CZ),(l.vars.length<Dd)→Ec Tryz.prog 190 [.agg ((B0 l).map .p)] (.p (.bool (P7 l))):=by
 intro l h1;refine A6 Tryz.func190 O ng (n:=7) O O (Az (BG O (BP O) fun b1=>As Ay 1 [] O (Az (Ax Ay 3 [0] O (Ar O (B8 [0] O (.inl ⟨O,O,O⟩) (kQ b1 l l.vars h1) ⟨_,_,O,O,O⟩ An O (.inl O)) (As Ay 1 [] O (A1 (⟨O,_,_,⟨_,_,O,O,O⟩,(List.nil_sublist _),?_⟩))))))))
 all_goals exact⟨rfl,rfl⟩
theorem RU:∀(l:CZ),(M4 l)→Ec Tryz.prog 180 [.agg ((B0 l).map .p)] (.p (.bool (CA l))):=by
 intro l h1;have hl:=h1.vars;simp only[Dd] at hl;refine A6 Tryz.func180 O nT (n:=65) O O (Az (BG O (BP O) fun b1=>As Ay 1 [] O (Au (Au (BR [1] 21 (fun y=>y= .p (.bool (((decide ((l.const:Int)<(0:Int)))||(decide ((l.const:Int) > (100:Int))))||((decide ((l.const:Int) > (0:Int)))&&(P7 (CZ.mk l.const l.vars)))))) ?_ ?_)))))
 ·refine A4 (Ax Ay 4 [0] O (BL 8 O (fun g=>?_) (fun g=>?_)))
  ·(try simp only[sd,se] at g);exact As Ay 13 [] O (⟨O,O,AK,AI,⟨O,Aq⟩⟩)
  (try simp only[sd,se] at g);refine Ax Ay 5 [0] O (BL 13 O (fun g1=>?_) (fun g1=>?_))
  ·(try simp only[sd,se] at g1);exact As Ay 8 [] O (⟨O,O,AK,AI,⟨O,Aq⟩⟩)
  (try simp only[sd,se] at g1);refine Ax Ay 4 [0] O (BL 17 O (fun g2=>?_) (fun g2=>?_))
  ·(try simp only[sd,se] at g2);exact BC O (BU (i:=0) Dc O O O) (BC O (BF O O (Q6 (CZ.mk l.const l.vars) h1.vars) O) (As Ay 2 [] O (⟨O,O,AK,AI,⟨O,Aq⟩⟩)))
  (try simp only[sd,se] at g2);exact As Ay 4 [] O (⟨O,O,AK,AI,⟨O,Aq⟩⟩)
 rintro _ rfl;refine Aw O (fun c=>?_) (fun c=>?_)
 ·(try simp only[sd,se] at c);refine Av Ay 1 [] O (A1 (⟨O,_,_,⟨_,_,O,O,O⟩,(List.nil_sublist _),?_⟩))
  all_goals exact⟨pB (lK c),rfl⟩
 (try simp only[sd,se] at c);refine A2 (Au (Az (Ax Ay 2 [0] O (Ar O (BM CW O (List.length_map _)) (As Ay 1 [] O (BA (Be (α:=Nat) (fun i=>⟨65,mk [(1,.ptr b1 0),(23,.p (.lst (List.map D1 l.vars))),(24,.p (I (l.vars.length:Nat))),(25,.p (I (i:Int)))],[.box b1 [.p (I l.const),.p (.lst (List.map D1 l.vars))]],[]⟩) (fun i=>l.vars.length - i) (fun i=>i≤l.vars.length∧(Cr 0 l.vars 0=Cr 0 l.vars i)) 0 (⟨by omega,rfl⟩) ?_ ?_)))))))
 ·exact BY ⟨we O,we O,we O,we O,Aq⟩ (leH (is:=[0]) O (wl (oe O) (C7)))
 rintro i hC
 try simp only at hC
 obtain⟨hi,hC⟩:=hC;refine Av Ay 1 [] O (Au (Aw O (fun c1=>?_) (fun c1=>?_)))
 ·(try simp only[sd,se] at c1);refine A2 (Au (BA (Az (Bt O ?_))));obtain⟨x,hx⟩:=A7 (l:=l.vars) (i:=i) Ao;refine Ar O (A5 CW O O Ao (Ci hx) (O)) (Ar O (BN Mw O (O)) (BG O (A8 Fy O) fun b4=>As Ay 2 [0,1] O (Au (BR [1,23,24,25] 63 (fun y=>y= .p (.bool (!(U4 0 x&&JS (Jr l.vars i) x.index)))) ?_ ?_))))
  ·refine Bu (fun k=>false) Dt (BQ Ay 4 [0] O (Dx 33 O (fun g=>?_) (fun g=>?_)))
   ·(try simp only[sd,se] at g);exact Bn Ay 30 [] O (⟨O,O,AK,(by first | exact pB (Oy Ao) | exact pB (Mc Ao Ao) | exact pB (TO hx1 Ao Ao)),⟨O,O,O,O,Aq⟩⟩)
   (try simp only[sd,se] at g);refine BQ Ay 5 [0] O (Dx 38 O (fun g1=>?_) (fun g1=>?_))
   ·(try simp only[sd,se] at g1);exact Bn Ay 25 [] O (⟨O,O,AK,(by first | exact pB (Oy Ao) | exact pB (Mc Ao Ao) | exact pB (TO hx1 Ao Ao)),⟨O,O,O,O,Aq⟩⟩)
   (try simp only[sd,se] at g1);refine BQ Ay 5 [0] O (Dx 43 O (fun g2=>?_) (fun g2=>?_))
   ·(try simp only[sd,se] at g2);exact Bn Ay 20 [] O (⟨O,O,AK,(by first | exact pB (Oy Ao) | exact pB (Mc Ao Ao) | exact pB (TO hx1 Ao Ao)),⟨O,O,O,O,Aq⟩⟩)
   (try simp only[sd,se] at g2);refine BQ Ay 5 [0] O (Dx 48 O (fun g3=>?_) (fun g3=>?_))
   ·(try simp only[sd,se] at g3);exact Bn Ay 15 [] O (⟨O,O,AK,(by first | exact pB (Oy Ao) | exact pB (Mc Ao Ao) | exact pB (TO hx1 Ao Ao)),⟨O,O,O,O,Aq⟩⟩)
   (try simp only[sd,se] at g3);refine BQ Ay 3 [] O (Dx 51 O (fun g4=>?_) (fun g4=>?_))
   ·(try simp only[sd,se] at g4);refine BQ Ay 4 [1] O ?_;obtain⟨x1,hx1⟩:=A7 (l:=l.vars) (i:=(((i:Int):Int) - (1:Int):Int).toNat) Ao;exact Cc O (fun _=>A5 CW O O Ao (Ci hx1) (O)) Aq (Bn Ay 7 [0] O (⟨O,O,AK,(by first | exact pB (Oy Ao) | exact pB (Mc Ao Ao) | exact pB (TO hx1 Ao Ao)),⟨O,O,O,O,Aq⟩⟩))
   (try simp only[sd,se] at g4);exact Bn Ay 12 [] O (⟨O,O,AK,(by first | exact pB (Oy Ao) | exact pB (Mc Ao Ao) | exact pB (TO hx1 Ao Ao)),⟨O,O,O,O,Aq⟩⟩)
  rintro _ rfl;refine Aw O (fun c2=>?_) (fun c2=>?_)
  ·(try simp only[sd,se] at c2);refine Av Ay 1 [] O (A1 (⟨O,_,_,⟨_,_,O,O,O⟩,(List.nil_sublist _),?_⟩))
   all_goals exact⟨pB (ib hC (by rw[OS hx];simp at c2 ⊢;intro q1 q2;simp[c2 q1] at q2)),rfl⟩
  (try simp only[sd,se] at c2);refine A2 (A4 (As Ay 2 [] O (⟨(i+1),AU,⟨by omega,(hC.trans (by rw[OS hx,c2.1,c2.2];rfl))⟩,BY ⟨we rfl,we rfl,we rfl,we rfl,trivial⟩ (leH (is:=[1]) rfl (wl (oe rfl) (C7)))⟩)))
 (try simp only[sd,se] at c1);refine Bg (Av Ay 1 [] O (A1 (⟨O,_,_,⟨_,_,O,O,O⟩,(List.nil_sublist _),?_⟩)))
 all_goals exact⟨pB (gB (mX c) hC Ao),rfl⟩
theorem jE:∀(x:CZ),(M4 x)→Ec Tryz.prog 191 [.agg ((B0 x).map .p)] (.p (.bool (!CA x))):=by
 intro x h1;refine A6 Tryz.func191 O oE (n:=6) O O (Az (BG O (BP O) fun b1=>As Ay 1 [] O (Az (Ar O (BU (i:=0) Dc O O Ag) (Ar O (BF O O (RU x h1) O) (As Ay 2 [] O (A1 (⟨O,_,_,⟨_,_,O,O,O⟩,(List.nil_sublist _),?_⟩))))))))
 all_goals exact⟨rfl,rfl⟩
theorem ga:∀(l:List CZ),(l.length<Dd)→(∀x∈l,M4 x)→Ec Tryz.prog 130 [.p (.lst (List.map B0 l)),.p (.fn 191)] (.p (I (NK (fun x=> !CA x) l 0))):=by
 intro l h1 h2;simp only[Dd] at h1;refine A6 Tryz.func130 O jr (n:=19) O O (Av Ay 1 [] O (Au (Az (Bt O (Ar O (BM EZ O (List.length_map _)) (As Ay 1 [] O (BA (Be (α:=Nat) (fun i=>⟨19,mk [(0,.p (.lst (List.map B0 l))),(1,.p (.fn 191)),(7,.p (I (l.length:Nat))),(8,.p (I (i:Int)))],[],[]⟩) (fun i=>l.length - i) (fun i=>i≤l.length∧(NK (fun x=> !CA x) (l.drop i) i=NK (fun x=> !CA x) l 0)) 0 (⟨by omega,rfl⟩) ?_ ?_))))))))
 ·exact BY ⟨we O,we O,we O,we O,Aq⟩ (leH (is:=[]) O (C7))
 rintro i hC
 try simp only at hC
 obtain⟨hi,hC⟩:=hC;refine Av Ay 1 [] O (Au (Aw O (fun c=>?_) (fun c=>?_)))
 ·(try simp only[sd,se] at c);refine A2 (Au (BA (Av Ay 2 [] O (Az (Ax Ay 3 [] O ?_)))));obtain⟨x,hx⟩:=A7 (l:=l) (i:=i) Ao;refine Ar O (A5 EZ O O Ao (Fz hx) (Dm _)) (Ar O (BN Dc O (Dm _)) (Ar O (BF O O (jE x (h2 x (List.mem_of_getElem? hx))) O) (Bj O (Aw O (fun c1=>?_) (fun c1=>?_)))))
  ·(try simp only[sd,se] at c1);refine Av Ay 2 [] O (A1 (⟨O,_,_,⟨_,_,O,O,O⟩,(List.nil_sublist _),?_⟩))
   all_goals exact⟨by show (.p (I (i:Int)):AV)=_;rw[←hC,UU hx,if_pos (by simpa using c1)],rfl⟩
  (try simp only[sd,se] at c1);refine A2 (A4 (As Ay 2 [] O ?_));refine⟨(i+1),AU,⟨by omega,by rw[←hC,UU hx,if_neg (by simpa using c1)];rfl⟩,BY ⟨we rfl,we rfl,we rfl,we rfl,trivial⟩ (leH (is:=[]) rfl (C7))⟩
 (try simp only[sd,se] at c);refine Bg (Av Ay 1 [] O (A1 (⟨O,_,_,⟨_,_,O,O,O⟩,(List.nil_sublist _),?_⟩)))
 all_goals exact⟨by show (.p (I (-1)):AV)=_;rw[←hC,List.drop_eq_nil_of_le Ao];rfl,rfl⟩
theorem gU:∀(l:List CZ),(l.length<Dd)→(∀x∈l,M4 x)→Ec Tryz.prog 99 [.p (.lst (List.map B0 l)),.p (.fn 191)] (.p (.bool (l.any (fun x=> !CA x)))):=by
 intro l h1 h2;refine A6 Tryz.func99 O mF (n:=9) O O (Av Ay 1 [] O (Az (Ax Ay 2 [] O (Ar O (BF O O (ga l h1 h2) O) (As Ay 2 [] O (A1 (⟨O,_,_,⟨_,_,O,O,O⟩,(List.nil_sublist _),?_⟩)))))))
 all_goals exact⟨by show (.p (.bool (decide ((NK (fun x=> !CA x) l 0:Int)≥(0:Int)))):AV)=_;rw[←UD l 0 Ao],rfl⟩
theorem Ve:∀(l:List CZ),(l.length<Dd)→(∀x∈l,M4 x)→Ec Tryz.prog 181 [.p (.lst (List.map B0 l))] (.p (.bool (l.all CA))):=by
 intro l h1 h2;refine A6 Tryz.func181 O po (n:=6) O O (Av Ay 1 [] O (Az (Bt O (Ar O (BF O O (gU l h1 h2) O) (As Ay 2 [] O (A1 (⟨O,_,_,⟨_,_,O,O,O⟩,(List.nil_sublist _),?_⟩)))))))
 all_goals exact⟨pB (by rw[List.all_eq_not_any_not]),rfl⟩
theorem Z7:∀(l:CZ),(M4 l)→Ec Tryz.prog 182 [.agg ((B0 l).map .p)] (.p (I (GY l))):=by
 intro l h1;have hl:=h1.vars;simp only[Dd] at hl;refine A6 Tryz.func182 O nV (n:=22) O O (Az (BG O (BP O) fun b1=>As Ay 1 [] O (Au (Az (Ax Ay 2 [0] O (Ar O (BM CW O (List.length_map _)) (As Ay 1 [] O (Au (BR [1,3] 12 (fun y=>y= .p (.bool ((CA (CZ.mk l.const l.vars))&&(decide (((l.vars.length:Nat):Int) > (0:Int)))))) ?_ ?_)))))))))
 ·refine A4 (Ar O (BU (i:=0) Dc O O O) (Ar O (BF O O (RU (CZ.mk l.const l.vars) h1) O) (Bt O (BL 9 O (fun g=>?_) (fun g=>?_)))))
  ·(try simp only[sd,se] at g);exact As Ay 3 [] O (⟨O,O,AK,AI,⟨O,O,Aq⟩⟩)
  (try simp only[sd,se] at g);exact As Ay 3 [] O (⟨O,O,AK,AI,⟨O,O,Aq⟩⟩)
 rintro _ rfl;refine Aw O (fun c=>?_) (fun c=>?_)
 ·(try simp only[sd,se] at c);obtain⟨hv,hn⟩:CA l=true∧0<l.vars.length:=by simpa using c
  refine Az (Ax Ay 4 [0] O ?_);obtain⟨x,hx⟩:=A7 (l:=l.vars) (i:=(((l.vars.length:Nat):Int) - (1:Int):Int).toNat) Ao;have hw:=Ke hv hx;refine Ar O (A5 CW O O Ao (Ci hx) (O)) (Ax Ay 3 [] O (Ar O (FR O O) (As Ay 1 [] O (A1 (⟨O,_,_,⟨_,_,O,O,O⟩,(List.nil_sublist _),?_⟩)))))
  all_goals exact⟨pI (VL hv hx Ao),rfl⟩
 (try simp only[sd,se] at c);refine A2 (Av Ay 1 [] O (A1 (⟨O,_,_,⟨_,_,O,O,O⟩,(List.nil_sublist _),?_⟩)))
 all_goals exact⟨pI (Wl (mq c)),rfl⟩
theorem dU:Bq Tryz.prog 183 [] [] (iT (fun b:Nat×Nat=> .ptr b.1 0) (fun b=>[.box b.1 [.map b.2,.p (I 0)],.map b.2 (EJ (Gs []))])):=by
 refine A6 Tryz.func183 O oG (n:=4) O O (Av Ay 1 [] O (Az (ko O O WJ fun m1=>Ar O (CO nI nP O) (BG O (BP O) fun b3=>As Ay 1 [] O (A1 (⟨O,_,_,⟨_,_,O,O,O⟩,(B4 (is:=[0,1]) O),?_⟩))))));exact⟨(_,_),O,O⟩
theorem Vs:∀(m:Nat) (M:List (Int×Int)) (i p:Int),Bq Tryz.prog 184 [.map m,.p (I i),.p (I p)] [.map m (EJ (Gs M))] (GW (.tup []) [.map m (EJ (Gs (GR M i p)))]):=by
 intro m M i p;refine A6 Tryz.func184 O mP (n:=24) O O (Az (Ax Ay 2 [] O ?_));refine Ar O (SX (i:=0) bO hG (fun _ _=>by simp[CH,CN]) rfl rfl rfl (WD _ _) (dc _ _)) ?_;refine As Ay 5 [] O (Au (BR [0,1,2] 20 (fun y=>y= .p (.bool ((!((mg i M).isSome))||(decide ((p:Int) > ((mg i M).getD 0:Int)))))) ?_ ?_))
 ·refine A4 (Ax Ay 3 [] O (BL 16 O (fun g=>?_) (fun g=>?_)))
  ·(try simp only[sd,se] at g);exact As Ay 4 [] O (⟨O,O,AK,AI,⟨O,O,O,Aq⟩⟩)
  (try simp only[sd,se] at g);exact As Ay 4 [] O (⟨O,O,AK,AI,⟨O,O,O,Aq⟩⟩)
 rintro _ rfl;refine Aw O (fun c=>?_) (fun c=>?_)
 ·(try simp only[sd,se] at c);refine A4 (Ax Ay 3 [] O (Ar O (SU (i:=0) bO O O O O) (Bj O ⟨O,_,_,O,(B4 (is:=[0]) O),?_⟩)));refine⟨O,?_⟩;show ([.map m (EJ (NO i (.p (I p)) (Gs M)))]:List BJ)=_;rw[Zt c,←Yn]
 (try simp only[sd,se] at c);refine A2 ⟨O,_,_,O,(B4 (is:=[0]) O),?_⟩;refine⟨O,?_⟩;show ([.map m (EJ (Gs M))]:List BJ)=_;rw[XD c]
theorem Xh:∀(l:CZ),(l.vars.length<Dd)→Ec Tryz.prog 194 [.agg ((B0 l).map .p)] (.tup [.agg ((B0 ((JU l).1)).map .p),.p (I ((JU l).2))]):=by
 intro l h1;have hl:=h1;simp only[Dd] at hl;refine A6 Tryz.func194 O nU (n:=26) O O (Az (BG O (BP O) fun b1=>BG O (A8 ER O) fun b2=>As Ay 1 [] O (Au (Az (Ax Ay 2 [1] O (Ar O (BM CW O (List.length_map _)) (As Ay 1 [] O (BA ?_))))))));refine Be (α:=Nat) (fun i=>⟨26,mk [(1,.ptr b1 0),(2,.ptr b2 0),(7,.p (.lst (List.map D1 l.vars))),(8,.p (I (l.vars.length:Nat))),(9,.p (I (i:Int)))],[.box b2 [.p (I 0),.p (.nils)],.box b1 [.p (I l.const),.p (.lst (List.map D1 l.vars))]],[]⟩) (fun i=>l.vars.length - i) (fun i=>i≤l.vars.length∧(∀j,j<i→∀y,l.vars[j]?=some y→¬100<y.plus)) 0 (⟨by omega,fun j h=>by omega⟩) ?_ ?_
 ·exact BY ⟨we O,we O,we O,we O,we O,Aq⟩ (leH (is:=[0,1]) O (wl (oe O) (wl (oe O) (C7))))
 rintro i hC
 try simp only at hC
 obtain⟨hi,hC⟩:=hC;refine Av Ay 1 [] O (Au (Aw O (fun c=>?_) (fun c=>?_)))
 ·(try simp only[sd,se] at c);refine A2 (Au (BA (Az ?_)));obtain⟨x,hx⟩:=A7 (l:=l.vars) (i:=i) Ao;refine Ar O (A5 CW O O Ao (Ci hx) (O)) (Ar O (BN Mw O (O)) (BG O (A8 Fy O) fun b5=>As Ay 1 [0,1] O (Av Ay 3 [0] O (Aw O (fun c1=>?_) (fun c1=>?_)))))
  ·(try simp only[sd,se] at c1);refine Av Ay 3 [1,0] O (BI (BT (i:=1) O) (A1 (⟨O,_,_,⟨_,_,O,(BB (i:=1) Dc O O O),⟨_,_,O,O,O⟩⟩,(List.nil_sublist _),?_⟩)))
   all_goals exact⟨by show (.tup [.agg [.p (I 0),.p (.lst [])],.p (I 15)]:AV)=_;rw[qE hx c1];rfl,rfl⟩
  (try simp only[sd,se] at c1);refine A2 (A4 (As Ay 2 [] O (⟨(i+1),AU,⟨by omega,Cw (p:=fun _ (y:CE)=>¬100<y.plus) hC hx Ao⟩,BY ⟨we rfl,we rfl,we rfl,we rfl,we rfl,trivial⟩ (leH (is:=[1,2]) rfl (wl (oe rfl) (wl (oe rfl) (C7))))⟩)))
 (try simp only[sd,se] at c);refine Bg (Au (Av Ay 3 [1] O (Aw O (fun c1=>?_) (fun c1=>?_))))
 ·(try simp only[sd,se] at c1);refine Av Ay 3 [0,0] O (BI (BT (i:=0) O) (A1 (⟨O,_,_,⟨_,_,O,(BB (i:=0) Dc O O O),⟨_,_,O,O,O⟩⟩,(List.nil_sublist _),?_⟩)))
  all_goals exact⟨by show (.tup [.agg [.p (I 0),.p (.lst [])],.p (I 15)]:AV)=_;rw[qB c1];rfl,rfl⟩
 (try simp only[sd,se] at c1);refine A2 (Au (Az (Ar O (BU (i:=1) Dc O O O) (Ar O (BF O O (Q6 (CZ.mk l.const l.vars) h1) O) (Bj O (Aw O (fun c2=>?_) (fun c2=>?_)))))))
 ·(try simp only[sd,se] at c2);refine A4 (As Ay 2 [1,0] O (Av Ay 3 [1,0,0] O (A1 (⟨O,_,_,⟨_,_,O,(BB (i:=0) Dc O O O),⟨_,_,O,O,O⟩⟩,(List.nil_sublist _),?_⟩))))
  all_goals exact⟨by show (.tup [.agg [.p (I 0),.p (.lst (List.map D1 l.vars))],.p (I 0)]:AV)=_;rw[sE (fun j hj=>hC j Ao) Ao c2];rfl,rfl⟩
 (try simp only[sd,se] at c2);refine A2 (Av Ay 3 [1,0,0] O (A1 (⟨O,_,_,⟨_,_,O,(BB (i:=0) Dc O O O),⟨_,_,O,O,O⟩⟩,(List.nil_sublist _),?_⟩)))
 all_goals exact⟨by show (.tup [.agg [.p (I l.const),.p (.lst (List.map D1 l.vars))],.p (I 0)]:AV)=_;rw[rz (fun j hj=>hC j Ao) Ao (by simpa using c2)];rfl,rfl⟩
theorem iF:∀(s m:Nat) (M:List (Int×Int)) (C:Int) (l:CZ) (n:Int),(I7 l)→(0≤n)→(n≤100)→Bq Tryz.prog 185 [.ptr s 0,.agg ((B0 l).map .p),.p (I n)] [.box s [.map m,.p (I C)],.map m (EJ (Gs M))] (GW (.tup []) [.box s [.map m,.p (I ((Qm (M,C) l n).2))],.map m (EJ (Gs (Qm (M,C) l n).1))]):=by
 intro s m M C l n h1 h2 h3;have hl:=h1.len;have hc:=h1.c;refine A6 Tryz.func185 O pE (n:=39) O O (Az (BG O (BP O) fun b4=>Bj O (Au (Bu (fun k=>false) Dt (BQ Ay 9 [1,0] O (BH O (fun _=>FR O O) Aq (Bn Ay 3 [1,0] O (Az (Ax Ay 2 [0] O (Ar O (BM CW O (List.length_map _)) (As Ay 1 [] O (BA (Be (α:=Nat) (fun i=>⟨39,mk [(0,.ptr s 0),(2,.p (I n)),(21,.p (.lst (List.map D1 l.vars))),(22,.p (I (l.vars.length:Nat))),(23,.p (I (i:Int)))],[.box s [.map m,.p (I (max (C:Int) ((l.const:Int)+(n:Int):Int)))],.map m (EJ (Gs ((l.vars.take i).foldl (Hw n) M)))],[]⟩) (fun i=>l.vars.length - i) (fun i=>i≤l.vars.length) 0 AQ ?_ ?_)))))))))))))
 ·exact BY ⟨we O,we O,we O,we O,we O,Aq⟩ (leH (is:=[1,2]) O (wl (oe O) (wl (oe O) (C7))))
 rintro i hC
 try simp only at hC
 have hi:=hC;refine Av Ay 1 [] O (Au (Aw O (fun c=>?_) (fun c=>?_)))
 ·(try simp only[sd,se] at c);refine A2 (Au (BA (Az ?_)));obtain⟨x,hx⟩:=A7 (l:=l.vars) (i:=i) Ao;have hv:=h1.rg x (List.mem_of_getElem? hx);refine Ar O (A5 CW O O Ao (Ci hx) (O)) (Ar O (BN Mw O (O)) (BG O (A8 Fy O) fun b7=>As Ay 1 [0,1] O (Bu (fun k=>false) Dt (BQ Ay 10 [1,0,0] O (GP O O (B8 [2] O (.inl ⟨O,O,O⟩) (Vs m ((l.vars.take i).foldl (Hw n) M) x.index ((x.plus:Int)+(n:Int))) ⟨_,_,O,O,O⟩ An O (.inl O)) AB Aq (JN O Ak (A4 (B3 (H5 (i:=2) O (om (congrArg EJ (congrArg Gs (aB hx))))) (As Ay 2 [] O ?_)))))))));refine⟨(i+1),AU,by omega,BY ⟨we rfl,we rfl,we rfl,we rfl,we rfl,trivial⟩ (leH (is:=[1,2]) rfl (wl (oe rfl) (wl (oe rfl) (C7))))⟩
 (try simp only[sd,se] at c);refine Bg ⟨O,_,_,O,(B4 (is:=[0,1]) O),?_⟩;refine⟨O,?_⟩;show ([.box s [.map m,.p (I (max (C:Int) ((l.const:Int)+(n:Int):Int)))],.map m (EJ (Gs ((l.vars.take i).foldl (Hw n) M)))]:List BJ)=_;rw[show l.vars.take i=l.vars from List.take_of_length_le Ao];rfl
end Go.Proofs.YtboammbpdaoojaaGreat
