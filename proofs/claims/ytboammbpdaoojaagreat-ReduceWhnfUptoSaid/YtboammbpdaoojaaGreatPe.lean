/- Part of the proofs: an abstract program logic, plain models and contracts of functions. -/
import Derived.Test.YtboammbpdaoojaaGreatPb
import Derived.Shelf.Sort.Plain
import Derived.Shelf.Slices.In.SortNone
import Derived.Test.YtboammbpdaoojaaGreatPc
import Derived.Test.YtboammbpdaoojaaGreatPd
set_option linter.unusedVariables false
set_option linter.unusedSimpArgs false
set_option maxRecDepth 100000
namespace Go.Eu
open Go.Abs Go.Sort
def FX (zs:List Int):List Int:=zs.mergeSort fun x y=>decide (x≤y)
theorem Tc (zs:List Int):(FX zs).length=zs.length:=List.length_mergeSort _
end Go.Eu
namespace Go.Eu
open Go.Abs
def Ud (c:Int) (v:CR):Bool:=decide (-65536≤v.index)&&decide (v.index<8)&&decide (0≤v.plus)&&decide (v.plus≤100)&&(decide (c≤0)||decide (v.plus<c))
def JQ (p:Option Int) (i:Int):Bool:=match p with
 | none=>true
 | some j=>decide (j<i)
def F3 (c:Int):Option Int→List CR→Bool
 | _,[]=>true
 | p,v::vs=>Ud c v&&JQ p v.index&&F3 c (some v.index) vs
def CK (l:Cl):Bool:=decide (0≤l.const)&&decide (l.const≤100)&&F3 l.const none l.vars
def Fq:Cl:=⟨0,[]⟩
def QI (l:Cl):Bool:=l.vars.any fun v=>decide (l.const≤v.plus)
def RJ (vs:List CR):Int:=(vs.getD (vs.length - 1) default).index
def Gj (l:Cl):Int:=if CK l=true∧l.vars≠[] then max 0 (RJ l.vars+1) else 0
def F7 (x:CR) (rec:List CR→List CR):List CR→List CR
 | []=>x::rec []
 | y::b=>if x.index<y.index then x::rec (y::b) else if y.index<x.index then y::F7 x rec b else ⟨x.index,max x.plus y.plus⟩::rec b
def Dl:List CR→List CR→List CR
 | [],b=>b
 | x::a,b=>F7 x (Dl a) b
def M7 (vs:List CR):Int:=vs.foldl (fun m v=>max m v.plus) 0
def Rv (c:Int) (vs:List CR):Cl:=⟨if vs≠[]∧c≤M7 vs then 0 else c,vs⟩
def I2 (a b:Cl):Cl:=Rv (max a.const b.const) (Dl a.vars b.vars)
def No (n:Int) (v:CR):CR:=⟨v.index,v.plus+n⟩
def JO (l:Cl) (n:Int):Int:=if l.const > 0∨l.vars=[] then l.const+n else 0
def FK (l:Cl) (n:Int):Cl×Int :=
 if CK l=false then (Fq,3) else if n<0 then (Fq,2) else if n > 100 then (Fq,15)
 else if JO l n > 100 then (Fq,15)
 else if (l.vars.any fun v=>decide (v.plus+n > 100))=true then (Fq,15)
 else (⟨JO l n,l.vars.map (No n)⟩,0)
def GN (ps:List Cl):Cl→List CR→Cl×Int
 | out,[]=>(out,0)
 | out,v::vs =>
  if 0≤v.index∧v.index<ps.length then
   (if (FK (ps.getD v.index.toNat default) v.plus).2≠0 then (Fq,(FK (ps.getD v.index.toNat default) v.plus).2)
    else GN ps (I2 out (FK (ps.getD v.index.toNat default) v.plus).1) vs)
  else GN ps (I2 out ⟨0,[v]⟩) vs
def DB (l:Cl) (ps:List Cl):Cl×Int :=
 if CK l=false∨ps.all CK=false then (Fq,3)
 else if Gj l > ps.length then (Fq,24)
 else GN ps ⟨l.const,[]⟩ l.vars
-- the program's way
def mg (k:Int):List (Int×Int)→Option Int
 | []=>none
 | (j,x)::r=>if j=k then some x else mg k r
def ms (k v:Int):List (Int×Int)→List (Int×Int)
 | []=>[(k,v)]
 | (j,x)::r=>if j=k then (j,v)::r else (j,x)::ms k v r
def GY (m:List (Int×Int)) (i p:Int):List (Int×Int):=match mg i m with
 | some old=>if p > old then ms i p m else m
 | none=>ms i p m
def ID (n:Int) (m:List (Int×Int)) (v:CR):List (Int×Int):=GY m v.index (v.plus+n)
def Rx (s:List (Int×Int)×Int) (l:Cl) (n:Int):List (Int×Int)×Int:=(l.vars.foldl (ID n) s.1,max s.2 (l.const+n))
def EO (ps:List Cl) (s:List (Int×Int)×Int) (v:CR):List (Int×Int)×Int :=
 if v.index<0 then (GY s.1 v.index v.plus,s.2) else Rx s (ps.getD v.index.toNat default) v.plus
def G5 (m:List (Int×Int)):List CR:=(FX (m.map Prod.fst)).map fun i=>⟨i,(mg i m).getD 0⟩
def Jc (l:Cl):Cl×Int :=
 if (l.vars.any fun v=>decide (v.plus > 100))=true then (Fq,15)
 else if l.const > 100 then (Fq,15)
 else if QI l=true then (⟨0,l.vars⟩,0) else (l,0)
def Is (l:Cl) (ps:List Cl):Cl×Int :=
 if CK l=false∨ps.all CK=false then (Fq,3)
 else if Gj l > ps.length then (Fq,24)
 else Jc ⟨(l.vars.foldl (EO ps) ([],l.const)).2,G5 (l.vars.foldl (EO ps) ([],l.const)).1⟩
-- offsets
def ES:List CR→Int→Int
 | [],_=> -1
 | v::vs,i=>if v.index=i then max v.plus (ES vs i) else ES vs i
abbrev Ln (l:List CR):Prop:=l.Pairwise fun a b=>a.index<b.index
theorem OP:∀(vs:List CR) (i:Int),-1≤ES vs i
 | [],i=>by simp[ES]
 | v::vs,i=>by have:=OP vs i;simp only[ES];split<;>omega
theorem Ke:∀{vs:List CR}{i:Int},(∀v∈vs,v.index≠i)→ES vs i= -1
 | [],i,_=>rfl
 | v::vs,i,h=>by simp only[ES,if_neg (h v Av)];exact Ke fun w hw=>h w (by simp[hw])
theorem MG:∀{vs:List CR}{v:CR},v∈vs→v.plus≤ES vs v.index
 | w::vs,v,h=>by
  rcases List.mem_cons.1 h with rfl | h
  ·simp only[ES,if_true];omega
  have:=MG h;simp only[ES];split<;>omega
theorem Y4:∀{a b:List CR},Ln a→Ln b→(∀v∈a,0≤v.plus)→(∀v∈b,0≤v.plus)→(∀i,ES a i=ES b i)→a=b
 | [],[],_,_,_,_,_=>rfl
 | [],y::b,_,_,_,hb,h=>by
  have:=h y.index;have:=hb y Av;have:=MG (vs:=y::b) (v:=y) Av;simp only[ES] at *;omega
 | x::a,[],_,_,ha,_,h=>by
  have:=h x.index;have:=ha x Av;have:=MG (vs:=x::a) (v:=x) Av;simp only[ES] at *;omega
 | x::a,y::b,h1,h2,ha,hb,h=>by
  have hx:=ha x Av;have hy:=hb y Av;rw[Ln,List.pairwise_cons] at h1 h2;have na:ES a x.index= -1:=Ke fun v hv=>by have:=h1.1 v hv;omega
  have nb:ES b y.index= -1:=Ke fun v hv=>by have:=h2.1 v hv;omega
  have e:x.index=y.index:=by
   rcases Int.lt_trichotomy x.index y.index with q | q | q
   ·have:=h x.index;have nb':ES b x.index= -1:=Ke fun v hv=>by have:=h2.1 v hv;omega
    simp only[ES,if_true,if_neg (show ¬y.index=x.index by omega),nb'] at this;omega
   ·exact q
   have:=h y.index;have na':ES a y.index= -1:=Ke fun v hv=>by have:=h1.1 v hv;omega
   simp only[ES,if_true,if_neg (show ¬x.index=y.index by omega),na'] at this;omega
  have e2:x.plus=y.plus:=by
   have:=h x.index;simp only[ES,if_true,if_pos e.symm] at this;rw[←e] at nb;omega
  have exy:x=y:=by cases x;cases y;simp_all
  subst exy;congr 1;refine Y4 h1.2 h2.2 (fun v hv=>ha v (by simp[hv])) (fun v hv=>hb v (by simp[hv])) fun i=>?_;by_cases q:x.index=i
  ·subst q;rw[na,nb]
  have:=h i;simpa only[ES,if_neg q] using this
-- merging
theorem N0 {x:CR}{rec:List CR→List CR}{g:Int→Int}(hg:∀i,-1≤g i) (hr:∀b i,ES (rec b) i=max (g i) (ES b i)):∀(b:List CR) (i:Int),ES (F7 x rec b) i=max (ES [x] i) (max (g i) (ES b i))
 | [],i=>by have:=hg i;simp only[F7,ES,hr];split<;>omega
 | y::b,i=>by
  have:=hg i;have h0:=OP b i;have ih:=N0 (x:=x) hg hr b i;simp only[ES] at ih;simp only[F7];split
  ·simp only[ES,hr]
   repeat' split
   all_goals omega
  split
  ·simp only[ES,ih]
   repeat' split
   all_goals omega
  have e:x.index=y.index:=by omega
  simp only[ES,hr,e]
  repeat' split
  all_goals omega
theorem NB:∀(a b:List CR) (i:Int),ES (Dl a b) i=max (ES a i) (ES b i)
 | [],b,i=>by have:=OP b i;simp only[Dl,ES];omega
 | x::a,b,i=>by
  have h:=N0 (x:=x) (rec:=Dl a) (g:=ES a) (OP a) (fun b i=>NB a b i) b i;have h1:=OP a i;rw[Dl,h];simp only[ES];split<;>omega
theorem L4 {Q:CR→Prop}{x:CR}{rec:List CR→List CR}(hx:Q x) (hm:∀u v:CR,Q u→Q v→u.index=v.index→Q ⟨u.index,max u.plus v.plus⟩) (hr:∀b,(∀v∈b,Q v)→∀v∈rec b,Q v):∀(b:List CR),(∀v∈b,Q v)→∀v∈F7 x rec b,Q v
 | [],hb,v,hv=>by
  simp only[F7,List.mem_cons] at hv;rcases hv with rfl | hv
  ·exact hx
  ·exact hr [] Av v hv
 | y::b,hb,v,hv=>by
  simp only[F7] at hv;have hy:=hb y Av;have hb':∀v∈b,Q v:=fun v hv=>hb v (by simp[hv]);split at hv
  ·rcases List.mem_cons.1 hv with rfl | hv
   ·exact hx
   exact hr _ hb v hv
  split at hv
  ·rcases List.mem_cons.1 hv with rfl | hv
   ·exact hy
   exact L4 hx hm hr b hb' v hv
  rcases List.mem_cons.1 hv with rfl | hv
  ·exact hm x y hx hy Au
  exact hr _ hb' v hv
theorem IB {Q:CR→Prop}(hm:∀u v:CR,Q u→Q v→u.index=v.index→Q ⟨u.index,max u.plus v.plus⟩):∀(a b:List CR),(∀v∈a,Q v)→(∀v∈b,Q v)→∀v∈Dl a b,Q v
 | [],b,_,hb=>by simpa [Dl] using hb
 | x::a,b,ha,hb=>by
  rw[Dl];exact L4 (ha x Av) hm (fun b hb=>IB hm a b (fun v hv=>ha v (by simp[hv])) hb) b hb
theorem Pt {x:CR}{a:List CR}(hr:∀b,Ln b→Ln (Dl a b)) (hx:∀v∈a,x.index<v.index):∀(b:List CR),Ln b→Ln (F7 x (Dl a) b)
 | [],_=>by
  rw[F7,Ln,List.pairwise_cons];exact⟨IB (Q:=fun v=>x.index<v.index) (fun u v h _ _=>h) a [] hx Av,hr [] (by simp[Ln])⟩
 | y::b,hb=>by
  have hb':=hb;rw[Ln,List.pairwise_cons] at hb';simp only[F7];split
  ·rename_i q;rw[Ln,List.pairwise_cons];refine⟨IB (Q:=fun v=>x.index<v.index) (fun u v h _ _=>h) a _ hx fun v hv=>?_,hr _ hb⟩;rcases List.mem_cons.1 hv with rfl | hv
   ·exact q
   have:=hb'.1 v hv;omega
  split
  ·rename_i q;rw[Ln,List.pairwise_cons];refine⟨L4 (Q:=fun v=>y.index<v.index) q (fun u v h _ _=>h) (fun c hc=>IB (Q:=fun v=>y.index<v.index) (fun u v h _ _=>h) a c (fun v hv=>by have:=hx v hv;omega) hc) b hb'.1,Pt hr hx b hb'.2⟩
  have e:x.index=y.index:=by omega
  rw[Ln,List.pairwise_cons];refine⟨IB (Q:=fun v=>x.index<v.index) (fun u v h _ _=>h) a b hx (fun v hv=>by have:=hb'.1 v hv;omega),hr _ hb'.2⟩
theorem O1:∀{a b:List CR},Ln a→Ln b→Ln (Dl a b)
 | [],b,_,hb=>by simpa [Dl] using hb
 | x::a,b,ha,hb=>by
  rw[Ln,List.pairwise_cons] at ha;rw[Dl];exact Pt (fun b hb=>O1 ha.2 hb) ha.1 b hb
-- the greatest offset
theorem Vx:∀(vs:List CR) (m:Int),m≤vs.foldl (fun m v=>max m v.plus) m
 | [],m=>by simp
 | v::vs,m=>by have:=Vx vs (max m v.plus);simp only[List.foldl_cons];omega
theorem Tu:∀{vs:List CR}{m:Int}{v:CR},v∈vs→v.plus≤vs.foldl (fun m v=>max m v.plus) m
 | w::vs,m,v,h=>by
  rcases List.mem_cons.1 h with rfl | h
  ·have:=Vx vs (max m v.plus);simp only[List.foldl_cons];omega
  rw[List.foldl_cons];exact Tu (vs:=vs) h
theorem VG:∀{vs:List CR}{m c:Int},m<c→(∀v∈vs,v.plus<c)→vs.foldl (fun m v=>max m v.plus) m<c
 | [],m,c,h,_=>by simpa using h
 | v::vs,m,c,h,hv=>by
  have:=hv v Av;simp only[List.foldl_cons];exact VG Au fun w hw=>hv w (by simp[hw])
def I1 (c:Int) (vs:List CR):Int:=if (vs.any fun v=>decide (c≤v.plus))=true then 0 else c
theorem VS {c:Int}{vs:List CR}(hc:0≤c) (hv:∀v∈vs,0≤v.plus):(Rv c vs).const=I1 c vs:=by
 simp only[Rv,I1];by_cases h:(vs.any fun v=>decide (c≤v.plus))=true
 ·rw[if_pos h];simp only[List.any_eq_true,decide_eq_true_eq] at h;obtain⟨v,hm,hp⟩:=h;have h1:=Tu (m:=0) hm;rw[if_pos ⟨List.ne_nil_of_mem hm,by unfold M7;omega⟩]
 rw[if_neg h];simp only[List.any_eq_true,decide_eq_true_eq,not_exists,not_and] at h;split
 ·rename_i q;by_cases hc0:c=0
  ·exact hc0.symm
  have:=VG (vs:=vs) (m:=0) (c:=c) Au fun v hv=>by have:=h v hv;omega
  have:=q.2;unfold M7 at this;omega
 rfl
-- the offsets of the program
def KD (m:List (Int×Int)) (i:Int):Int:=(mg i m).getD (-1)
theorem cH (k v:Int):∀(m:List (Int×Int)) (j:Int),mg j (ms k v m)=if k=j then some v else mg j m
 | [],j=>by simp[ms,mg]
 | (i,x)::m,j=>by
  have ih:=cH k v m j;simp only[ms];split
  ·rename_i q;subst q;simp only[mg];split<;>rfl
  rename_i q;simp only[mg,ih];by_cases h1:i=j
  ·subst h1;rw[if_pos rfl,if_neg (Ne.symm q),if_pos rfl]
  simp[h1]
theorem U0 (k v:Int):∀(m:List (Int×Int)),(ms k v m).map Prod.fst=if k∈m.map Prod.fst then m.map Prod.fst else m.map Prod.fst++[k]
 | []=>by simp[ms]
 | (i,x)::m=>by
  have ih:=U0 k v m;simp only[ms];split
  ·rename_i q;subst q;simp
  rename_i q;simp only[List.map_cons,ih,List.mem_cons,(show (k=i)=False by simp;exact fun h=>q h.symm),false_or];split<;>simp
theorem Us:∀{m:List (Int×Int)}{k:Int},mg k m=none↔k ∉ m.map Prod.fst
 | [],k=>by simp[mg]
 | (i,x)::m,k=>by
  simp only[mg,List.map_cons,List.mem_cons,not_or];split
  ·rename_i q;subst q;simp
  rename_i q;rw[Us];exact⟨fun h=>⟨fun e=>q e.symm,h⟩,fun h=>h.2⟩
structure QB (m:List (Int×Int)):Prop where
 nd:(m.map Prod.fst).Nodup
 pos:∀k v,mg k m=some v→0≤v
theorem QB.nil:QB []:=⟨by simp,fun k v h=>by simp[mg] at h⟩
theorem dy {m:List (Int×Int)}(k v:Int) (h:(m.map Prod.fst).Nodup):((ms k v m).map Prod.fst).Nodup:=by
 rw[U0];split
 ·exact h
 rename_i q;rw[List.nodup_append];refine⟨h,by simp,fun a ha b hb=>?_⟩;simp only[List.mem_singleton] at hb;subst hb;exact fun e=>q (e▸ha)
theorem Qx {m:List (Int×Int)}{i p:Int}(h:QB m) (hp:0≤p):QB (GY m i p):=by
 have hs:QB (ms i p m):=⟨dy i p h.nd,fun k v hk=>by
  rw[cH] at hk;split at hk
  ·cases hk;exact hp
  exact h.pos k v hk⟩
 unfold GY;split
 ·split
  ·exact hs
  exact h
 exact hs
theorem UN {m:List (Int×Int)}(h:QB m) (i:Int): -1≤KD m i:=by
 unfold KD;cases e:mg i m with
 | none=>simp
 | some v=>have:=h.pos i v e;simp;omega
theorem NC {m:List (Int×Int)}{i p:Int}(h:QB m) (hp:0≤p) (j:Int):KD (GY m i p) j=max (ES [⟨i,p⟩] j) (KD m j):=by
 have h1:KD (ms i p m) j=if i=j then p else KD m j:=by unfold KD;rw[cH];split<;>rfl
 have h2:=UN h j;unfold GY;simp only[ES];cases e:mg i m with
 | none =>
  simp only[h1];split
  ·rename_i q;subst q;simp only[KD,e,Option.getD_none];omega
  ·omega
 | some old =>
  simp only;split
  ·rw[h1];split
   ·rename_i q;subst q;simp only[KD,e,Option.getD_some];omega
   omega
  split
  ·rename_i q;subst q;simp only[KD,e,Option.getD_some];omega
  omega
theorem NX {n:Int}:∀(vs:List CR) (m:List (Int×Int)),QB m→(∀v∈vs,0≤v.plus+n)→QB (vs.foldl (ID n) m)∧∀i,KD (vs.foldl (ID n) m) i=max (ES (vs.map (No n)) i) (KD m i)
 | [],m,h,_=>⟨h,fun i=>by have:=UN h i;simp only[List.foldl_nil,List.map_nil,ES];omega⟩
 | v::vs,m,h,hv=>by
  have hp:=hv v Av;have h1:QB (ID n m v):=Qx h hp;obtain⟨h2,h3⟩:=NX vs (ID n m v) h1 fun w hw=>hv w (by simp[hw]);refine⟨h2,fun i=>?_⟩;rw[List.foldl_cons,h3 i,show KD (ID n m v) i=max (ES [⟨v.index,v.plus+n⟩] i) (KD m i) from NC h hp i];have:=UN h i;simp only[List.map_cons,ES,No];split<;>omega
theorem NA (zs:List Int):(FX zs).Perm zs:=List.mergeSort_perm _ _
theorem UX (zs:List Int):(FX zs).Pairwise fun a b=>a≤b:=by
 have:=List.pairwise_mergeSort (le:=fun(x y:Int)=>decide (x≤y)) (fun a b c h1 h2=>by simp at *;omega) (fun a b=>by simp;omega) zs;exact this.imp fun h=>by simpa using h
theorem TG {m:List (Int×Int)}(h:QB m):Ln (G5 m):=by
 have hn:(FX (m.map Prod.fst)).Nodup:=(NA _).nodup_iff.2 h.nd;have hs:=UX (m.map Prod.fst);rw[Ln,G5,List.pairwise_map];exact(hs.and hn).imp fun⟨h1,h2⟩=>by simp only;omega
theorem Vf {f:Int→Int}:∀(ks:List Int) (i:Int),(∀k∈ks,0≤f k)→ES (ks.map fun k=>(⟨k,f k⟩:CR)) i=if i∈ks then f i else -1
 | [],i,_=>by simp[ES]
 | k::ks,i,h=>by
  have ih:=Vf ks i fun k hk=>h k (by simp[hk]);simp only[List.map_cons,ES,ih,List.mem_cons];by_cases q:k=i
  ·subst q;have:=h k Av;simp only[if_true,true_or];split<;>omega
  simp[q,Ne.symm q]
theorem Ro {m:List (Int×Int)}(h:QB m) (i:Int):ES (G5 m) i=KD m i:=by
 rw[G5,Vf (f:=fun i=>(mg i m).getD 0)]
 ·simp only[(NA _).mem_iff,KD];split
  ·rename_i q;cases e:mg i m with
   | none=>exact absurd q (Us.1 e)
   | some v=>simp
  rename_i q;rw[Us.2 q];rfl
 intro k hk;cases e:mg k m with
 | none=>simp
 | some v=>simpa using h.pos k v e
theorem Z5 {m:List (Int×Int)}(h:QB m):∀v∈G5 m,0≤v.plus:=by
 intro v hv;simp only[G5,List.mem_map] at hv;obtain⟨k,_,rfl⟩:=hv;simp only;cases e:mg k m with
 | none=>simp
 | some v=>simpa using h.pos k v e
-- valid levels
theorem JK:∀{c:Int}{vs:List CR}{p:Option Int},F3 c p vs=true→∀v∈vs,Ud c v=true
 | c,w::vs,p,h,v,hv=>by
  simp only[F3,Bool.and_eq_true] at h;rcases List.mem_cons.1 hv with rfl | hv
  ·exact h.1.1
  exact JK h.2 v hv
theorem QZ {c:Int}{v:CR}(h:Ud c v=true):0≤v.plus∧v.plus≤100:=by
 simp only[Ud,Bool.and_eq_true,decide_eq_true_eq] at h;exact⟨h.1.1.2,h.1.2⟩
theorem Ma:∀{c:Int}{vs:List CR}{p:Option Int},F3 c p vs=true→Ln vs∧∀v∈vs,JQ p v.index=true
 | c,[],p,_=>⟨by simp[Ln],by simp⟩
 | c,w::vs,p,h=>by
  simp only[F3,Bool.and_eq_true] at h;obtain⟨h1,h2⟩:=Ma h.2;simp only[JQ,decide_eq_true_eq] at h2;refine⟨?_,fun v hv=>?_⟩
  ·rw[Ln,List.pairwise_cons];exact⟨h2,h1⟩
  rcases List.mem_cons.1 hv with rfl | hv
  ·exact h.1.2
  have a:=h.1.2;have b:=h2 v hv;unfold JQ at a ⊢;cases p with
  | none=>rfl
  | some j=>simp only[decide_eq_true_eq] at a ⊢;omega
theorem fU {n:Int}{vs:List CR}(h:Ln vs):Ln (vs.map (No n)):=by
 rw[Ln,List.pairwise_map];exact h.imp fun h=>h
structure gH (m:List (Int×Int)) (c:Int) (out:Cl):Prop where
 ok:QB m
 asc:Ln out.vars
 pos:∀v∈out.vars,0≤v.plus∧v.plus≤100
 off:∀i,ES out.vars i=KD m i
 c0:0≤c
 c1:c≤100
 con:out.const=I1 c out.vars
theorem Vo {m m' : List (Int × Int)} {c cx : Int} {out x : Cl} (h : gH m c out) (hm : QB m') (hx : Ln x.vars) (hp : ∀ v ∈ x.vars, 0 ≤ v.plus ∧ v.plus ≤ 100) (ho : ∀ i, KD m' i = max (ES x.vars i) (KD m i)) (h0 : 0 ≤ cx) (h1 : cx ≤ 100) (hc : x.const = cx ∨ x.const = 0 ∧ ∃ v ∈ x.vars, cx ≤ v.plus) : gH m' (max c cx) (I2 out x) := by
 have hv : ∀ v ∈ Dl out.vars x.vars, 0 ≤ v.plus ∧ v.plus ≤ 100 := IB (Q := fun v => 0 ≤ v.plus ∧ v.plus ≤ 100) (fun u v h1 h2 _ => by simp only; omega) _ _ h.pos hp
 have hx0 : 0 ≤ x.const := by rcases hc with h | h <;> omega
 have ho0 : 0 ≤ out.const := by rw [h.con]; unfold I1; split; · omega
                                exact h.c0
 refine ⟨hm, O1 h.asc hx, hv, fun i => ?_, by have := h.c0; omega, by have := h.c1; omega, ?_⟩
 ·simp only [I2, Rv, NB, h.off i, ho i]; omega
 have hmem : ∀ v, (v ∈ out.vars ∨ v ∈ x.vars) → ∃ u ∈ Dl out.vars x.vars, v.plus ≤ u.plus := by
  intro v hv'
  have h1 : v.plus ≤ ES (Dl out.vars x.vars) v.index := by
   rw [NB]
   rcases hv' with h | h <;> have := MG h <;> omega
  have h2 : 0 ≤ v.plus := by
   rcases hv' with q | q
   ·exact (h.pos v q).1
   exact (hp v q).1
  revert h1
  generalize Dl out.vars x.vars = l
  intro h1
  induction l with
  | nil => simp only [ES] at h1; omega
  | cons y l ih =>
   simp only [ES] at h1
   by_cases q : v.plus ≤ y.plus
   ·exact ⟨y, by simp, q⟩
   obtain ⟨u, hu, hl⟩ := ih (by split at h1 <;> omega)
   exact ⟨u, by simp [hu], hl⟩
 rw [I2, VS Au fun v hv' => (hv v hv').1]
 show I1 (max out.const x.const) (Dl out.vars x.vars) = I1 (max c cx) (Dl out.vars x.vars)
 generalize hl : Dl out.vars x.vars = l
 rw [hl] at hmem hv
 have e1 : out.const = c ∨ out.const = 0 ∧ ∃ v ∈ l, c ≤ v.plus := by
  rw [h.con]
  unfold I1
  split
  ·rename_i q
   simp only [List.any_eq_true, decide_eq_true_eq] at q
   obtain ⟨v, q1, q2⟩ := q
   obtain ⟨u, hu, hle⟩ := hmem v (.inl q1)
   exact .inr ⟨O, u, hu, by omega⟩
  exact .inl O
 have e2 : x.const = cx ∨ x.const = 0 ∧ ∃ v ∈ l, cx ≤ v.plus := by
  rcases hc with q | ⟨q, v, q1, q2⟩
  ·exact .inl q
  obtain ⟨u, hu, hle⟩ := hmem v (.inr q1)
  exact .inr ⟨q, u, hu, by omega⟩
 have hc0 := h.c0
 have key : ∀ a b : Int, (∀ v ∈ l, a ≤ v.plus ↔ b ≤ v.plus) → (a = b ∨ ∃ v ∈ l, a ≤ v.plus) → I1 a l = I1 b l := by
  intro a b h1 h2
  unfold I1
  have : (l.any fun v => decide (a ≤ v.plus)) = (l.any fun v => decide (b ≤ v.plus)) := by
   rw [Bool.eq_iff_iff]
   simp only [List.any_eq_true, decide_eq_true_eq]
   exact ⟨fun ⟨v, q1, q2⟩ => ⟨v, q1, (h1 v q1).1 q2⟩, fun ⟨v, q1, q2⟩ => ⟨v, q1, (h1 v q1).2 q2⟩⟩
  rw [this]
  rcases h2 with rfl | ⟨v, q1, q2⟩
  ·rfl
  have : (l.any fun v => decide (b ≤ v.plus)) = true := by
   simp only [List.any_eq_true, decide_eq_true_eq]; exact ⟨v, q1, (h1 v q1).1 q2⟩
  rw [if_pos this, if_pos this]
 by_cases hM : ∃ v ∈ l, max c cx ≤ v.plus
 ·obtain ⟨v, q1, q2⟩ := hM
  have a1 : I1 (max c cx) l = 0 := by
   unfold I1; rw [if_pos]; simp only [List.any_eq_true, decide_eq_true_eq]; exact ⟨v, q1, q2⟩
  have a2 : I1 (max out.const x.const) l = 0 := by
   unfold I1; rw [if_pos]; simp only [List.any_eq_true, decide_eq_true_eq]
   exact ⟨v, q1, by rcases e1 with q | q <;> rcases e2 with q' | q' <;> omega⟩
  rw [a1, a2]
 have hM' : ∀ v ∈ l, v.plus < max c cx := fun v hv' => by
  exact Int.not_le.1 fun q => hM ⟨v, hv', q⟩
 have : max out.const x.const = max c cx := by
  rcases e1 with q | ⟨q, v, v1, v2⟩
  ·rcases e2 with q' | ⟨q', u, u1, u2⟩
   ·omega
   have := hM' u u1; omega
  have := hM' v v1
  rcases e2 with q' | ⟨q', u, u1, u2⟩
  ·omega
  have := hM' u u1; omega
 rw [this]
-- errors stay
def aX (s:List (Int×Int)×Int):Prop:=(∃i,100<KD s.1 i)∨100<s.2
theorem VF {ps:List Cl}(hps:∀l∈ps,CK l=true) {s:List (Int×Int)×Int}{v:CR}(hm:QB s.1) (hv:0≤v.plus) (hi:v.index<ps.length):QB (EO ps s v).1∧(aX s→aX (EO ps s v)):=by
 unfold EO;split
 ·refine⟨Qx hm hv,fun h=>?_⟩;rcases h with ⟨i,h⟩ | h
  ·exact .inl ⟨i,by rw[NC hm hv];omega⟩
  exact .inr h
 rename_i q;have hmem:ps.getD v.index.toNat default∈ps:=by
  have hlt:v.index.toNat<ps.length:=by omega
  rw[List.getD_eq_getElem?_getD,List.getElem?_eq_getElem hlt];exact List.getElem_mem hlt
 have hl:=hps _ hmem;simp only[CK,Bool.and_eq_true,decide_eq_true_eq] at hl;obtain⟨h1,h2⟩:=NX (n:=v.plus) (ps.getD v.index.toNat default).vars s.1 hm fun w hw=>by have:=(QZ (JK hl.2 w hw)).1;omega
 refine⟨h1,fun h=>?_⟩;rcases h with ⟨i,h⟩ | h
 ·exact .inl ⟨i,by simp only[Rx,h2];omega⟩
 exact .inr (by simp only[Rx];omega)
theorem Vz {ps:List Cl}(hps:∀l∈ps,CK l=true):∀(vs:List CR) (s:List (Int×Int)×Int),(∀v∈vs,0≤v.plus∧v.index<ps.length)→QB s.1→QB (vs.foldl (EO ps) s).1∧(aX s→aX (vs.foldl (EO ps) s))
 | [],s,_,h=>⟨h,id⟩
 | v::vs,s,hv,h=>by
  have hv0:=hv v Av;obtain⟨h1,h2⟩:=VF hps (s:=s) h hv0.1 hv0.2;obtain⟨h3,h4⟩:=Vz hps vs (EO ps s v) (fun w hw=>hv w (by simp[hw])) h1;exact⟨h3,fun b=>h4 (h2 b)⟩
theorem gX {s:List (Int×Int)×Int}(hm:QB s.1) (h:aX s):Jc ⟨s.2,G5 s.1⟩=(Fq,15):=by
 unfold Jc;rcases h with ⟨i,h⟩ | h
 ·rw[if_pos];simp only[List.any_eq_true,decide_eq_true_eq];rw[←Ro hm] at h;have:∀l:List CR,100<ES l i→∃v∈l,100<v.plus:=by
   intro l h
   induction l with
   | nil=>simp only[ES] at h;omega
   | cons y l ih =>
    simp only[ES] at h;by_cases q:100<y.plus
    ·exact⟨y,by simp,q⟩
    obtain⟨u,hu,hl⟩:=ih (by split at h<;>omega);exact⟨u,by simp[hu],hl⟩
  obtain⟨v,hv,hl⟩:=this _ h;exact⟨v,hv,by omega⟩
 split
 ·rfl
 first | rfl | (split<;>first | rfl | (rename_i q;exact absurd h q)) | simp[h]
theorem bh {m:List (Int×Int)}{c:Int}{out:Cl}(h:gH m c out):Jc ⟨c,G5 m⟩=(out,0):=by
 have e:G5 m=out.vars:=Y4 (TG h.ok) h.asc (Z5 h.ok) (fun v hv=>(h.pos v hv).1) fun i=>by rw[Ro h.ok,h.off i]
 unfold Jc;simp only[e];rw[if_neg,if_neg (by have:=h.c1;omega)]
 ·have hc:=h.con;unfold QI I1 at *;simp only;split
  ·rename_i q;rw[if_pos q] at hc;rw[←hc]
  rename_i q;rw[if_neg q] at hc;rw[←hc]
 simp only[List.any_eq_true,decide_eq_true_eq,not_exists,not_and];intro v hv;have:=(h.pos v hv).2;omega
theorem Pp {l:Cl}{n:Int}(hl:CK l=true) (h0:0≤n) (h1:n≤100) :
  (FK l n=(Fq,15)∧(100<l.const+n∨∃v∈l.vars,100<v.plus+n)) ∨
  (FK l n=(⟨JO l n,l.vars.map (No n)⟩,0)∧l.const+n≤100∧∀v∈l.vars,v.plus+n≤100):=by
 have hl':=hl;simp only[CK,Bool.and_eq_true,decide_eq_true_eq] at hl';unfold FK;rw[if_neg (by simp[hl]),if_neg Au,if_neg Au];split
 ·rename_i q;refine .inl ⟨O,.inl ?_⟩;unfold JO at q;split at q<;>omega
 rename_i q;split
 ·rename_i q';simp only[List.any_eq_true,decide_eq_true_eq] at q';obtain⟨v,h1,h2⟩:=q';exact .inl ⟨O,.inr ⟨v,h1,by omega⟩⟩
 rename_i q';simp only[List.any_eq_true,decide_eq_true_eq,not_exists,not_and] at q';refine .inr ⟨O,?_,fun v hv=>by have:=q' v hv;omega⟩;unfold JO at q;split at q<;>omega
theorem fold_eq {ps:List Cl}(hps:∀l∈ps,CK l=true):∀(vs:List CR) (s:List (Int×Int)×Int) (out:Cl),(∀v∈vs,0≤v.plus∧v.plus≤100∧v.index<ps.length)→gH s.1 s.2 out →
  Jc ⟨(vs.foldl (EO ps) s).2,G5 (vs.foldl (EO ps) s).1⟩=GN ps out vs
 | [],s,out,_,h=>bh h
 | v::vs,s,out,hv,h=>by
  obtain⟨p0,p1,pi⟩:=hv v Av;have hv':∀w∈vs,0≤w.plus∧w.plus≤100∧w.index<ps.length:=fun w hw=>hv w (by simp[hw]);have hb:∀w∈vs,0≤w.plus∧w.index<ps.length:=fun w hw=>⟨(hv' w hw).1,(hv' w hw).2.2⟩;rw[List.foldl_cons,GN];by_cases hi:0≤v.index
  ·rw[if_pos ⟨hi,pi⟩];have hst:EO ps s v=Rx s (ps.getD v.index.toNat default) v.plus:=by unfold EO;rw[if_neg Au]
   have hmem:ps.getD v.index.toNat default∈ps:=by
    have hlt:v.index.toNat<ps.length:=by omega
    rw[List.getD_eq_getElem?_getD,List.getElem?_eq_getElem hlt];exact List.getElem_mem hlt
   rw[hst];generalize ps.getD v.index.toNat default=l at hmem ⊢;have hl:=hps l hmem;have hl':=hl;simp only[CK,Bool.and_eq_true,decide_eq_true_eq] at hl';have hpos:∀w∈l.vars,0≤w.plus+v.plus:=fun w hw=>by have:=(QZ (JK hl'.2 w hw)).1;omega
   obtain⟨hm,ho⟩:=NX (n:=v.plus) l.vars s.1 h.ok hpos;rcases Pp hl p0 p1 with ⟨e,q⟩ | ⟨e,q1,q2⟩
   ·rw[e,if_pos Av];have hB:aX (Rx s l v.plus):=by
     rcases q with q | ⟨w,q1,q2⟩
     ·exact .inr (by simp only[Rx];omega)
     refine .inl ⟨w.index,?_⟩;simp only[Rx,ho];have:=MG (vs:=l.vars.map (No v.plus)) (v:=No v.plus w) (List.mem_map_of_mem q1);simp only[No] at this;omega
    obtain⟨g1,g2⟩:=Vz hps vs (Rx s l v.plus) hb hm;exact gX g1 (g2 hB)
   rw[e,if_neg Av];refine fold_eq hps vs _ _ hv' (Vo h hm (fU (Ma hl'.2).1) (fun w hw=>?_) ho Au q1 ?_)
   ·simp only[List.mem_map] at hw;obtain⟨u,hu,rfl⟩:=hw;exact⟨by have:=hpos u hu;simp only[No];omega,by have:=q2 u hu;simp only[No];omega⟩
   simp only[JO];split
   ·exact .inl O
   rename_i q;simp only[not_or] at q;refine .inr ⟨O,?_⟩;obtain⟨w,hw⟩:=List.exists_mem_of_ne_nil _ q.2;exact⟨No v.plus w,List.mem_map_of_mem hw,by have:=(QZ (JK hl'.2 w hw)).1;simp only[No];omega⟩
  rw[if_neg Au];have hst:EO ps s v=(GY s.1 v.index v.plus,s.2):=by unfold EO;rw[if_pos Au]
  rw[hst];refine fold_eq hps vs _ _ hv' ?_;have:=Vo (m':=GY s.1 v.index v.plus) (cx:=0) (x:=⟨0,[v]⟩) h (Qx h.ok p0) (by simp[Ln]) (by simp;exact⟨p0,p1⟩) (fun i=>NC h.ok p0 i) Au Au (.inl rfl)
  rwa [show max s.2 0=s.2 by have:=h.c0;omega] at this
theorem N3:∀{vs:List CR},Ln vs→∀v∈vs,v.index≤RJ vs
 | [w],_,v,hv=>by simp only[List.mem_singleton] at hv;subst hv;simp[RJ]
 | w::u::vs,h,v,hv=>by
  rw[Ln,List.pairwise_cons] at h;have e:RJ (w::u::vs)=RJ (u::vs):=by simp[RJ]
  rw[e];rcases List.mem_cons.1 hv with rfl | hv
  ·have:=h.1 u Av;have:=N3 h.2 u Av;omega
  exact N3 h.2 v hv
theorem Zo (l:Cl) (ps:List Cl):Is l ps=DB l ps:=by
 unfold Is DB;by_cases h1:CK l=false∨ps.all CK=false
 ·rw[if_pos h1,if_pos h1]
 rw[if_neg h1,if_neg h1];by_cases h2:Gj l > ps.length
 ·rw[if_pos h2,if_pos h2]
 rw[if_neg h2,if_neg h2];simp only[not_or,Bool.not_eq_false] at h1;have hl:=h1.1;simp only[CK,Bool.and_eq_true,decide_eq_true_eq] at hl;have hps:∀l∈ps,CK l=true:=by simpa [List.all_eq_true] using h1.2
 have ha:=(Ma hl.2).1;refine fold_eq hps l.vars _ _ (fun v hv=>?_) ⟨QB.nil,by simp[Ln],by simp,fun i=>by simp[ES,KD,mg],hl.1.1,hl.1.2,by simp[I1]⟩;have a:=QZ (JK hl.2 v hv);refine⟨a.1,a.2,?_⟩;have:=N3 ha v hv;unfold Gj at h2;rw[if_pos ⟨h1.1,List.ne_nil_of_mem hv⟩] at h2;omega
def FY (ps:List Cl):Int→List Cl→List Cl×Int
 | er,[]=>([],er)
 | er,l::ls=>((DB l ps).1::(FY ps (Gs er (DB l ps).2) ls).1,(FY ps (Gs er (DB l ps).2) ls).2)
mutual
def Ho (ps:List Cl):Int→Tm→Tm×Int
 | er,.mk k i n ls ks=>(.mk k i n (FY ps er ls).1 (Gp ps (FY ps er ls).2 ks).1,(Gp ps (FY ps er ls).2 ks).2)
def Gp (ps:List Cl):Int→List Tm→List Tm×Int
 | er,[]=>([],er)
 | er,t::ts=>((Ho ps er t).1::(Gp ps (Ho ps er t).2 ts).1,(Gp ps (Ho ps er t).2 ts).2)
end
def B1 (t:Tm) (ps:List Cl):Tm×Int:=if (Ho ps 0 t).2≠0 then (Bu,(Ho ps 0 t).2) else ((Ho ps 0 t).1,0)
inductive Out (α:Type) where
 | stuck
 | fail
 | ok (a:α)
def Out.bind {α β:Type}:Out α→(α→Out β)→Out β
 | .stuck,_=> .stuck
 | .fail,_=> .fail
 | .ok a,k=>k a
def Qt (n:Int):Bool:=decide (-9223372036854775808≤n)&&decide (n≤9223372036854775807)
def XF (l:Cl):Bool:=decide (l.vars.length<Dt)&&Qt l.const&&l.vars.all fun v=>Qt v.index&&Qt v.plus
mutual
def To:Tm→Bool
 | .mk k i n ls ks=>decide (n.size<Dt)&&decide (ls.length<Dt)&&ls.all XF&&decide (ks.length<Dt)&&Qt k&&Qt i&&decide ((ks.length:Int)=arity k)&&(decide (k≠12)||decide (0≤i))&&(decide (k≠0)||decide (0≤i)&&decide (i<1099511627776))&&Lk ks
def Lk:List Tm→Bool
 | []=>true
 | t::ts=>To t&&Lk ts
end
def okB (t:Tm):Bool:=To t&&decide (size t<549755813888)
def Out.chk {σ β:Type}(o:Out (Tm×σ)) (k:Tm×σ→Out β):Out β:=o.bind fun r=>if okB r.1=true then k r else .stuck
structure Sys (σ:Type) where
 over:σ→Bool
 res:σ→Tm→Int→Option σ
 many:Nat→Bool
def Sys.put {σ α:Type}(S:Sys σ) (s:σ) (x:Tm×Int) (k:Tm→σ→Out α):Out α :=
 if okB x.1=true then (match S.res s x.1 x.2 with
  | none=> .fail
  | some s'=>k x.1 s')
 else .stuck
def Ev.result (c:Ev) (t:Tm) (e:Int):Ev:=({ c with steps:=wr (c.steps+1),nodes:=wr (c.nodes+FC t) }).form t e
def Du:Sys Ev:=⟨Ev.over,fun c t e=>some (c.result t e),fun _=>false⟩
def CI:Sys Int:=⟨fun _=>false,fun n t e=>if n - 1<0∨e≠0 then none else some (n - 1),fun k=>decide (40960<k)⟩
def HL:Tm→List Tm×Tm
 | .mk k i n l [a,b]=>if k=6 then (a::(HL b).1,(HL b).2) else ([],.mk k i n l [a,b])
 | t=>([],t)
section
variable (E:List Cc)
def Cr (i:Int):Cc:=E.getD i.toNat default
def FD (d:Cc) (j:Int):Im:=d.ctors.getD j.toNat default
def Gm (d:Cc) (j:Int):Hj:=d.funs.getD j.toNat default
def W8 (t:Tm):Int:=((HL t).1.length:Int)
def Fe (d:Cc) (j:Int):Int:=max 0 (W8 (FD d j).type - d.fixed)
def Hg (nm:ByteArray):Option (Cc×Int) :=
 if (B3 E nm).2≠0 then none
 else if (B3 E nm).1.kind=3 then some (Cr E (B3 E nm).1.decl,-1)
 else if (B3 E nm).1.kind=4 then some (Cr E (B3 E nm).1.decl,(B3 E nm).1.item)
 else if (B3 E nm).1.kind=5 then some (Cr E (B3 E nm).1.decl,-2)
 else none
def DW (t:Tm):Option (Cc×Int×List Tm) :=
 if (BK t).1.kind≠3 then none
 else match Hg E (BK t).1.name with
  | none=>none
  | some (d,j)=>if j<0 then none else if ((BK t).2.length:Int)≠d.fixed+Fe d j then none else some (d,j,(BK t).2.drop d.fixed.toNat)
def L9 (d:Cc):Int:=max 0 (W8 d.type - d.fixed)
def Cj (d:Cc):Int:=d.fixed+1+d.ctors.length+L9 d
def C8 (nm:ByteArray):List GP→Option Fl
 | []=>none
 | b::l=>if b.ctor=nm then (if b.absurd=true then none else some b.tree) else C8 nm l
def K7 (h:Tm):Option Gf:=if (B3 E h.name).2=0∧(h.levels.length:Int)=(B3 E h.name).1.params then some (B3 E h.name).1 else none
variable {σ:Type}(S:Sys σ)
def EE (W:σ→Tm→Out (Tm×σ)):Nat→Fl→List Tm→Tm→σ→Out ((Option (Tm×List Tm)×Tm)×σ)
 | 0,_,_,_,_=> .stuck
 | n+1,t,vars,last,s =>
  if t.kind=1 then
   if t.var<0∨t.var≥(vars.length:Int)∨S.over s=true then .ok ((none,last),s)
   else (W s (vars.getD t.var.toNat default)).chk fun r=>match DW E r.1 with
    | none=> .ok ((none,r.1),r.2)
    | some (d,j,fields)=>match C8 (FD d j).name t.branches with
     | none=> .ok ((none,r.1),r.2)
     | some t'=>EE W n t' (vars++fields) r.1 r.2
  else .ok ((some (t.body,vars),Bu),s)
def FF (d:Cc) (h:Tm) (a:List Tm) (s:σ):Out (Option Tm×σ) :=
 if (B1 d.value h.levels).2≠0 then .ok (none,s)
 else S.put s ((B1 d.value h.levels).1,0) fun t s'=> .ok (some (apply t a),s')
def Uq (d:Cc) (j:Int):Tm:=d.recs.rules.getD j.toNat default
def FQ (d:Cc) (h:Tm) (a:List Tm) (m:Tm) (s:σ):Out (Option Tm×σ):=match DW E m with
 | none=> .ok (none,s)
 | some (e,j,fields) =>
  if e.name≠d.name∨j≥(d.recs.rules.length:Int) then .ok (none,s)
  else if (B1 (Uq d j) h.levels).2≠0 then .ok (none,s)
  else S.put s (apply (apply (B1 (Uq d j) h.levels).1 (a.take (d.fixed+1+d.ctors.length).toNat)) fields,0) fun t s'=> .ok (some (apply t (a.drop (Cj d+1).toNat)),s')
def HR (h:Tm) (b:Tm) (vars:List Tm) (rest:List Tm) (s:σ):Out (Option Tm×σ) :=
 if (B1 b h.levels).2≠0 then .ok (none,s)
 else if okB (B1 b h.levels).1=false∨vars.all okB=false∨1125899906842624≤Bl vars then .stuck
 else S.put s (Ce (B1 b h.levels).1 vars.reverse 0) fun t s'=> .ok (some (apply t rest),s')
def JP (W:σ→Tm→Out (Tm×σ)) (n:Nat) (f:Hj) (h:Tm) (a:List Tm) (s:σ):Out (Option Tm×σ) :=
 if (a.length:Int)<f.arity then .ok (none,s)
 else (EE E S W n f.tree (a.take f.arity.toNat) Bu s).bind fun q=>match q.1.1 with
  | none=> .ok (none,q.2)
  | some (b,vars)=>if S.over q.2=true then .ok (none,q.2) else HR S h b vars (a.drop f.arity.toNat) q.2
def RA (W:σ→Tm→Out (Tm×σ)) (d:Cc) (h:Tm) (a:List Tm) (s:σ):Out (Option Tm×σ) :=
 if (a.length:Int)≤Cj d then .ok (none,s)
 else (W s (a.getD (Cj d).toNat default)).chk fun r=>FQ E S d h a r.1 r.2
def Eo (W:σ→Tm→Out (Tm×σ)) (n:Nat) (h:Tm) (a:List Tm) (s:σ):Out (Option Tm×σ):=match K7 E h with
 | none=> .ok (none,s)
 | some x =>
  if x.kind=1 then FF S (Cr E x.decl) h a s
  else if x.kind=5 then RA E S W (Cr E x.decl) h a s
  else if x.kind=6 then JP E S W n (Gm (Cr E x.decl) x.item) h a s
  else .ok (none,s)
def Iz (k:Int) (p:Tm):Tm:= .mk k 0 ⟨#[]⟩ [] [p]
def Oq (h:Tm) (a:List Tm) (s:σ) {α:Type}(k:Tm→σ→Out α):Out α:=match h.kids[1]? with
 | none=> .stuck
 | some b=>S.put s (Ce b (a.take 1) 0) fun x s'=>k (apply x (a.drop 1)) s'
def Un (h:Tm) (a:List Tm) (s:σ) {α:Type}(k:Tm→σ→Out α):Out α:=match h.kids[1]?,h.kids[2]? with
 | some v,some b=>S.put s (Ce b [v] 0) fun x s'=>k (apply x a) s'
 | _,_=> .stuck
def Mx (h p:Tm) (a:List Tm) (s:σ) {α:Type}(k:Tm→σ→Out α):Out α:=match p.kids[(1+h.kind - 9).toNat]? with
 | none=> .stuck
 | some q=>S.put s (q,0) fun x s'=>k (apply x a) s'
def D6:Nat→σ→Tm→Out (Tm×σ)
 | 0,_,_=> .stuck
 | n+1,s,t =>
  if okB t=false then .stuck
  else if S.over s=true then .ok (t,s)
  else if S.many (BK t).2.length=true then .fail
  else if (BK t).1.kind=5 then
   (if (BK t).2.length=0 then .ok (t,s) else Oq S (BK t).1 (BK t).2 s fun x s'=>D6 n s' x)
  else if (BK t).1.kind=11 then Un S (BK t).1 (BK t).2 s fun x s'=>D6 n s' x
  else if (BK t).1.kind=9∨(BK t).1.kind=10 then match (BK t).1.kids[0]? with
   | none=> .stuck
   | some p=>(D6 n s p).chk fun r =>
    if r.1.kind≠8 then .ok (apply (Iz (BK t).1.kind r.1) (BK t).2,r.2)
    else Mx S (BK t).1 r.1 (BK t).2 r.2 fun x s'=>D6 n s' x
  else if (BK t).1.kind=3 then (Eo E S (D6 n) n (BK t).1 (BK t).2 s).bind fun r=>match r.1 with
   | none=> .ok (t,r.2)
   | some x=>D6 n r.2 x
  else .ok (t,s)
noncomputable def Ib:Nat→σ→Tm→Out (Option Int×σ)
 | 0,_,_=> .stuck
 | n+1,s,t=>(D6 E S n s t).chk fun r =>
  if (BK r.1).1.kind=12 then .ok (some (BK r.1).1.index,r.2)
  else if (BK r.1).1.kind=9∨(BK r.1).1.kind=10 then match (BK r.1).1.kids[0]? with
   | none=> .stuck
   | some p=>Ib n r.2 p
  else if (BK r.1).1.kind=3 then match K7 E (BK r.1).1 with
   | none=> .ok (none,r.2)
   | some x =>
    if S.over r.2=true then .ok (none,r.2)
    else if x.kind=5∧((BK r.1).2.length:Int) > Cj (Cr E x.decl) then Ib n r.2 ((BK r.1).2.getD (Cj (Cr E x.decl)).toNat default)
    else if x.kind=6∧((BK r.1).2.length:Int)≥(Gm (Cr E x.decl) x.item).arity then
     (EE E S (D6 E S n) n (Gm (Cr E x.decl) x.item).tree ((BK r.1).2.take (Gm (Cr E x.decl) x.item).arity.toNat) Bu r.2).bind fun q=>match q.1.1 with
      | some _=> .ok (none,q.2)
      | none=>if S.over q.2=false∧Ng q.1.2 Bu=false then Ib n q.2 q.1.2 else .ok (none,q.2)
    else .ok (none,r.2)
  else .ok (none,r.2)
def Jq:Tm→List Int→Tm→Option Tm
 | _,[],x=>some x
 | t,p::ps,x=>match (BK t).2[p.toNat]? with
  | none=>none
  | some y=>(Jq y ps x).map fun z=>apply (BK t).1 ((BK t).2.set p.toNat z)
def E6 (a:Int×List Int) (fx:Int) (n:Nat):List (Int×List Int):=(List.range n).map fun i:Nat=>(a.1,a.2++[fx+(i:Int)])
def J4 (T:σ→Tm→Out (Option Tm×σ)) (h:Tm) (ar:Int) (a:List Tm):Nat→Fl→List Tm→List (Int×List Int)→σ→Out (Option Tm×σ)
 | 0,_,_,_,_=> .stuck
 | n+1,t,vars,pl,s =>
  if t.kind=1 then
   if t.var<0∨t.var≥(vars.length:Int) then .ok (none,s)
   else match DW E (vars.getD t.var.toNat default) with
    | none=>(T s (vars.getD t.var.toNat default)).bind fun r=>match r.1 with
     | none=> .ok (none,r.2)
     | some x=>match Jq (a.getD (pl.getD t.var.toNat default).1.toNat default) (pl.getD t.var.toNat default).2 x with
      | none=> .stuck
      | some y=> .ok (some (apply h (a.set (pl.getD t.var.toNat default).1.toNat y)),r.2)
    | some (d,j,fields)=>match C8 (FD d j).name t.branches with
     | none=> .ok (none,s)
     | some t'=>J4 T h ar a n t' (vars++fields) (pl++E6 (pl.getD t.var.toNat default) d.fixed fields.length) s
  else HR S h t.body vars (a.drop ar.toNat) s
def FU:Nat→σ→Tm→Out (Option Tm×σ)
 | 0,_,_=> .stuck
 | n+1,s,t =>
  if okB t=false then .stuck
  else if (BK t).1.kind=5 then
   (if (BK t).2.length=0 then .ok (none,s) else Oq S (BK t).1 (BK t).2 s fun x s'=> .ok (some x,s'))
  else if (BK t).1.kind=11 then Un S (BK t).1 (BK t).2 s fun x s'=> .ok (some x,s')
  else if (BK t).1.kind=9∨(BK t).1.kind=10 then match (BK t).1.kids[0]? with
   | none=> .stuck
   | some p =>
    if p.kind=8 then Mx S (BK t).1 p (BK t).2 s fun x s'=> .ok (some x,s')
    else (FU n s p).bind fun r=>match r.1 with
     | none=> .ok (none,r.2)
     | some x=> .ok (some (apply (Iz (BK t).1.kind x) (BK t).2),r.2)
  else if (BK t).1.kind=3 then match K7 E (BK t).1 with
   | none=> .ok (none,s)
   | some x =>
    if x.kind=1 then FF S (Cr E x.decl) (BK t).1 (BK t).2 s
    else if x.kind=5∧((BK t).2.length:Int) > Cj (Cr E x.decl) then match DW E ((BK t).2.getD (Cj (Cr E x.decl)).toNat default) with
     | some _=>FQ E S (Cr E x.decl) (BK t).1 (BK t).2 ((BK t).2.getD (Cj (Cr E x.decl)).toNat default) s
     | none=>(FU n s ((BK t).2.getD (Cj (Cr E x.decl)).toNat default)).bind fun r=>match r.1 with
      | none=> .ok (none,r.2)
      | some y=> .ok (some (apply (BK t).1 ((BK t).2.set (Cj (Cr E x.decl)).toNat y)),r.2)
    else if x.kind=6∧((BK t).2.length:Int)≥(Gm (Cr E x.decl) x.item).arity then
     J4 E S (FU n) (BK t).1 (Gm (Cr E x.decl) x.item).arity (BK t).2 n (Gm (Cr E x.decl) x.item).tree ((BK t).2.take (Gm (Cr E x.decl) x.item).arity.toNat) ((List.range (Gm (Cr E x.decl) x.item).arity.toNat).map fun i:Nat=>((i:Int),[])) s
    else .ok (none,s)
  else .ok (none,s)
def sY (n:Nat) (t:Fl) (a:List Tm) (s:σ):Out (Option Tm×σ) :=
 (EE E S (D6 E S n) n t a Bu s).bind fun q=>match q.1.1 with
  | none=> .ok (none,q.2)
  | some (b,vars)=>if okB b=false∨vars.all okB=false∨1125899906842624≤Bl vars then .stuck else S.put q.2 (Ce b vars.reverse 0) fun x s'=> .ok (some x,s')
end
def oO (k i:Int) (n:ByteArray) (ls:List Cl) (ks:Nat):Bool:=decide (n.size<Dt)&&decide (ls.length<Dt)&&ls.all XF&&decide (ks<Dt)&&Qt k&&Qt i&&decide ((ks:Int)=arity k)&&(decide (k≠12)||decide (0≤i))&&(decide (k≠0)||decide (0≤i)&&decide (i<1099511627776))
theorem Lp (k i:Int) (n:ByteArray) (ls:List Cl) (ks:List Tm):To (.mk k i n ls ks)=(oO k i n ls ks.length&&Lk ks):=by rw[To,oO]
theorem Kd:∀{ts:List Tm},Lk ts=true↔∀t∈ts,To t=true
 | []=>by simp[Lk]
 | t::ts=>by simp only[Lk,Bool.and_eq_true,Kd (ts:=ts),List.mem_cons,forall_eq_or_imp]
theorem fy {l:Cl}(h:XF l=true):M6 l:=by
 simp only[XF,Qt,Bool.and_eq_true,decide_eq_true_eq,List.all_eq_true] at h;exact⟨h.1.1,h.1.2,fun v hv=>h.2 v hv⟩
theorem Yh {l:Cl}(h:M6 l):XF l=true:=by
 simp only[XF,Qt,Bool.and_eq_true,decide_eq_true_eq,List.all_eq_true];exact⟨⟨h.vars,h.c⟩,fun v hv=>h.v v hv⟩
mutual
theorem Sq:∀(t:Tm),To t=true→Nd t∧Wt t∧Vp t
 | .mk k i n ls ks,h=>by
  rw[Lp,Bool.and_eq_true] at h;obtain⟨h1,h2⟩:=h;simp only[oO,Qt,Bool.and_eq_true,Bool.or_eq_true,decide_eq_true_eq,List.all_eq_true] at h1;obtain⟨a,b,c⟩:=NL ks h2;obtain⟨⟨⟨⟨⟨⟨⟨⟨g1,g2⟩,g3⟩,g4⟩,g5⟩,g6⟩,g7⟩,g8⟩,g9⟩:=h1;refine⟨⟨g1,g2,fun l hl=>fy (g3 l hl),g4,a,g5,g6⟩,⟨g7,fun e=>?_,b⟩,fun e=>?_,c⟩
  ·rcases g8 with g | g
   ·exact absurd e g
   exact g
  rcases g9 with g | g
  ·exact absurd e g
  exact g
theorem NL:∀(ts:List Tm),Lk ts=true→Lo ts∧Nk ts∧TE ts
 | [],_=>⟨trivial,trivial,trivial⟩
 | t::ts,h=>by
  simp only[Lk,Bool.and_eq_true] at h;obtain⟨a,b,c⟩:=Sq t h.1;obtain⟨a',b',c'⟩:=NL ts h.2;exact⟨⟨a,a'⟩,⟨b,b'⟩,⟨c,c'⟩⟩
end
mutual
theorem Ta:∀(t:Tm),Nd t→Wt t→Vp t→To t=true
 | .mk k i n ls ks,h1,h2,h3=>by
  rw[Lp,Bool.and_eq_true];simp only[Nd] at h1;simp only[Wt] at h2;simp only[Vp] at h3;obtain⟨a1,a2,a3,a4,a5,a6,a7⟩:=h1;refine⟨?_,Ql ks a5 h2.2.2 h3.2⟩;simp only[oO,Qt,Bool.and_eq_true,Bool.or_eq_true,decide_eq_true_eq,List.all_eq_true];refine⟨⟨⟨⟨⟨⟨⟨⟨a1,a2⟩,fun l hl=>Yh (a3 l hl)⟩,a4⟩,a6⟩,a7⟩,h2.1⟩,?_⟩,?_⟩
  ·by_cases e:k=12
   ·exact .inr (h2.2.1 e)
   exact .inl e
  by_cases e:k=0
  ·exact .inr (h3.1 e)
  exact .inl e
theorem Ql:∀(ts:List Tm),Lo ts→Nk ts→TE ts→Lk ts=true
 | [],_,_,_=>rfl
 | t::ts,h1,h2,h3=>by
  simp only[Lk,Bool.and_eq_true];exact⟨Ta t h1.1 h2.1 h3.1,Ql ts h1.2 h2.2 h3.2⟩
end
structure sc (t:Tm):Prop where
 nd:Nd t
 wt:Wt t
 vp:Vp t
 sz:size t<549755813888
theorem Cd {t:Tm}:okB t=true↔sc t:=by
 simp only[okB,Bool.and_eq_true,decide_eq_true_eq];exact⟨fun h=>by obtain⟨a,b,c⟩:=Sq t h.1;exact⟨a,b,c,h.2⟩,fun h=>⟨Ta t h.nd h.wt h.vp,h.sz⟩⟩
theorem Pc {t:Tm}(h:To t=true) (hs:size t<549755813888):okB t=true:=by simp[okB,h,hs]
theorem Lh {t:Tm}(h:okB t=true):To t=true:=by simp only[okB,Bool.and_eq_true] at h;exact h.1
theorem F8 {t:Tm}(h:okB t=true):size t<549755813888:=by simp only[okB,Bool.and_eq_true,decide_eq_true_eq] at h;exact h.2
theorem GJ {t x:Tm}{i:Nat}(h:okB t=true) (hx:t.kids[i]?=some x):okB x=true:=by
 have h1:=Lh h;have h2:=F8 h;obtain⟨k,j,n,ls,ks⟩:=t;rw[Lp,Bool.and_eq_true] at h1;simp only[size] at h2;simp only[Tm.kids] at hx;have:=Cs hx;exact Pc (Kd.1 h1.2 x (List.mem_of_getElem? hx)) Au
theorem Tr:∀(t:Tm),To t=true→To (BK t).1=true∧Lk (BK t).2=true
 | .mk k i n l [f,a],h=>by
  unfold BK;split
  ·rw[Lp,Bool.and_eq_true] at h;simp only[Lk,Bool.and_eq_true] at h;obtain⟨h1,h2⟩:=Tr f h.2.1;refine⟨h1,Kd.2 fun x hx=>?_⟩;rcases List.mem_append.1 hx with hx | hx
   ·exact Kd.1 h2 x hx
   rw[List.mem_singleton.1 hx];exact h.2.2.1
  ·exact⟨h,O⟩
 | .mk k i n l [],h=>⟨h,rfl⟩
 | .mk k i n l [_],h=>⟨h,rfl⟩
 | .mk k i n l (_::_::_::_),h=>⟨h,rfl⟩
theorem IE {t:Tm}(h:okB t=true):okB (BK t).1=true∧∀x∈(BK t).2,okB x=true:=by
 simp only[okB,Bool.and_eq_true,decide_eq_true_eq] at h ⊢;obtain⟨h1,h2⟩:=Tr t h.1;have hs:=Iu t;refine⟨⟨h1,by omega⟩,fun x hx=>⟨Kd.1 h2 x hx,?_⟩⟩;obtain⟨i,hi⟩:=List.mem_iff_getElem?.1 hx;have:=Cs hi;omega
theorem ij {f a:Tm}(h1:To f=true) (h2:To a=true):To (Zj f a)=true:=by
 rw[Zj,Lp,Bool.and_eq_true];exact⟨O,by simp[Lk,h1,h2]⟩
theorem Km:∀{xs:List Tm}{f:Tm},To f=true→(∀x∈xs,To x=true)→To (apply f xs)=true
 | [],f,h,_=>h
 | x::xs,f,h,hx=>by
  rw[apply,List.foldl_cons];exact Km (ij h (hx x Av)) fun y hy=>hx y (by simp[hy])
theorem Da:∀(xs:List Tm) (f:Tm),size (apply f xs)=size f+Bl xs+xs.length
 | [],f=>by simp[apply,Bl]
 | x::xs,f=>by
  have:=Da xs (Zj f x);rw[apply] at this ⊢;rw[List.foldl_cons,this];simp only[Zj,size,Bl,List.length_cons];omega
theorem ZH (m:Cl):((CE m).map AV.p).all one=true:=rfl
def Jp (l:List CR) (i:Nat):Option Int:=if i=0 then none else (l[i - 1]?).map CR.index
def C9 (c:Int) (l:List CR) (i:Nat):Bool:=F3 c (Jp l i) (l.drop i)
theorem Oi {c:Int}{l:List CR}{i:Nat}{v:CR}(h:l[i]?=some v):C9 c l i=(Ud c v&&JQ (Jp l i) v.index&&C9 c l (i+1)):=by
 have e:Jp l (i+1)=some v.index:=by simp[Jp,h]
 rw[C9,Cy h,F3,C9,e]
theorem e8 {c:Int}{l:List CR}{i:Nat}(h:l.length≤i):C9 c l i=true:=by
 rw[C9,List.drop_eq_nil_of_le h];rfl
theorem Uw (l:Cl):CK l=(decide (0≤l.const)&&decide (l.const≤100)&&C9 l.const l.vars 0):=rfl
theorem bw {c:Int}{l:List CR}{i:Nat}{v:CR}(h:l[i]?=some v) (hb:Ud c v=false):C9 c l i=false:=by rw[Oi h,hb];rfl
theorem jP {c:Int}{l:List CR}{i:Nat}{v:CR}(h:l[i]?=some v) (h1:Ud c v=true) (h2:JQ (Jp l i) v.index=true):C9 c l i=C9 c l (i+1):=by rw[Oi h,h1,h2];simp
theorem dH {l:Cl}(h:l.const<0∨100<l.const):false=CK l:=by
 rw[Uw];rcases h with h | h
 ·rw[decide_eq_false Au];rfl
 rw[decide_eq_false (p:=l.const≤100) Au];simp
theorem Ug {l:Cl}{i:Nat}(h:C9 l.const l.vars 0=C9 l.const l.vars i) (hb:C9 l.const l.vars i=false):false=CK l:=by
 rw[Uw,h,hb];simp
theorem iN {l:Cl}{i:Nat}(h0:0≤l.const) (h1:l.const≤100) (h:C9 l.const l.vars 0=C9 l.const l.vars i) (hb:l.vars.length≤i):true=CK l:=by
 rw[Uw,h,e8 hb,decide_eq_true h0,decide_eq_true h1];rfl
theorem br {c:Int}{v:CR}(h:((v.index < -65536∨8≤v.index)∨v.plus<0)∨100<v.plus):Ud c v=false:=by
 simp only[Ud,Bool.and_eq_false_iff,decide_eq_false_iff_not];omega
theorem jF {c:Int}{v:CR}(h1:0<c) (h:c≤v.plus):Ud c v=false:=by
 simp only[Ud,Bool.and_eq_false_iff,Bool.or_eq_false_iff,decide_eq_false_iff_not];omega
theorem Uo {c:Int}{v:CR}(h: -65536≤v.index∧v.index<8∧0≤v.plus∧v.plus≤100) (h1:0<c→v.plus<c):Ud c v=true:=by
 simp only[Ud,Bool.and_eq_true,Bool.or_eq_true,decide_eq_true_eq];refine⟨⟨⟨⟨h.1,h.2.1⟩,h.2.2.1⟩,h.2.2.2⟩,?_⟩;by_cases q:c≤0
 ·exact .inl q
 exact .inr (h1 Au)
theorem iI {l:List Cl}{i:Nat}{x:Cl}(hx:l[i]?=some x) (h:CK x=false):false=l.all CK:=by
 symm;rw[List.all_eq_false];exact⟨x,List.mem_of_getElem? hx,by simp[h]⟩
theorem eS {l:List Cl}(h:∀j,j<l.length→∀y,l[j]?=some y→CK y=true):true=l.all CK:=by
 symm;rw[List.all_eq_true];intro x hx;obtain⟨j,hj⟩:=List.mem_iff_getElem?.1 hx;exact h j (List.getElem?_eq_some_iff.1 hj).1 x hj
theorem Wc {l:Cl}(h:CK l=true):0≤l.const∧l.const≤100:=by
 simp only[CK,Bool.and_eq_true,decide_eq_true_eq] at h;exact h.1
theorem LI {l:Cl}{i:Nat}{x:CR}(h:CK l=true) (hx:l.vars[i]?=some x):(0≤x.plus∧x.plus≤100)∧ -65536≤x.index∧x.index<8:=by
 simp only[CK,Bool.and_eq_true,decide_eq_true_eq] at h;have:=JK h.2 x (List.mem_of_getElem? hx);simp only[Ud,Bool.and_eq_true,decide_eq_true_eq] at this;exact⟨⟨this.1.1.2,this.1.2⟩,this.1.1.1⟩
theorem WQ {l:Cl}(h:CK l=false∨l.vars.length=0):(0:Int)=Gj l:=by
 unfold Gj;rw[if_neg];rintro⟨h1,h2⟩;rcases h with h | h
 ·rw[h] at h1;cases h1
 exact h2 (List.length_eq_zero_iff.1 h)
theorem Wk {l:Cl}{x:CR}{i:Nat}(h:CK l=true) (hx:l.vars[i]?=some x) (hi:i=l.vars.length - 1):max 0 (x.index+1)=Gj l:=by
 unfold Gj;have hne:l.vars≠[]:=by intro e;simp[e] at hx
 rw[if_pos ⟨h,hne⟩,RJ,←hi,List.getD_eq_getElem?_getD,hx];rfl
theorem sV {l:Cl}{n:Int}(h:CK l=false):FK l n=(Fq,3):=by rw[FK,if_pos h]
theorem sg {l:Cl}{n:Int}(h:CK l=true) (h1:n<0):FK l n=(Fq,2):=by rw[FK,if_neg (by simp[h]),if_pos h1]
theorem s4 {l:Cl}{n:Int}(h:CK l=true) (h0:0≤n) (h1:100<n):FK l n=(Fq,15):=by rw[FK,if_neg (by simp[h]),if_neg Au,if_pos h1]
theorem tA {l:Cl}{n:Int}(h:CK l=true) (h0:0≤n) (h1:n≤100) (h2:100<JO l n):FK l n=(Fq,15):=by rw[FK,if_neg (by simp[h]),if_neg Au,if_neg Au,if_pos h2]
theorem sB {l:Cl}{n:Int}{i:Nat}{x:CR}(h:CK l=true) (h0:0≤n) (h1:n≤100) (h2:JO l n≤100) (hx:l.vars[i]?=some x) (h3:100<x.plus+n):FK l n=(Fq,15):=by
 rw[FK,if_neg (by simp[h]),if_neg Au,if_neg Au,if_neg Au,if_pos];rw[List.any_eq_true];exact⟨x,List.mem_of_getElem? hx,by simpa using h3⟩
theorem sJ {l:Cl}{n:Int}(h:CK l=true) (h0:0≤n) (h1:n≤100) (h2:JO l n≤100) (h3:∀j,j<l.vars.length→∀y,l.vars[j]?=some y→¬100<y.plus+n):FK l n=(⟨JO l n,l.vars.map (No n)⟩,0):=by
 rw[FK,if_neg (by simp[h]),if_neg Au,if_neg Au,if_neg Au,if_neg];rw[List.any_eq_true];rintro⟨x,hx,hq⟩;obtain⟨j,hj⟩:=List.mem_iff_getElem?.1 hx;exact h3 j (List.getElem?_eq_some_iff.1 hj).1 x hj (by simpa using hq)
theorem Md {l:Cl}{n:Int}(h:0<l.const∨l.vars.length=0):JO l n=l.const+n:=by
 unfold JO;rw[if_pos];rcases h with h | h
 ·exact .inl h
 exact .inr (List.length_eq_zero_iff.1 h)
theorem Pf {l:Cl}{n:Int}(h:¬(0<l.const∨l.vars.length=0)):JO l n=0:=by
 unfold JO;rw[if_neg];rintro(q | q)
 ·exact h (.inl q)
 exact h (.inr (by simp[q]))
theorem O5 {l:List CR}{i j:Nat}{u:CR}{x:Int}(hj:l[j]?=some u) (he:i=j+1):(!JQ (Jp l i) x)=decide (u.index≥x):=by
 subst he;have e:Jp l (j+1)=some u.index:=by simp[Jp,hj]
 rw[e];simp only[JQ];rw[←decide_not,decide_eq_decide];omega
theorem Na {l:List CR}{i:Nat}{x:Int}(h:¬(i:Int) > 0):(!JQ (Jp l i) x)=false:=by
 have:i=0:=by omega
 subst this;rfl
theorem eJ {x y:CR}{a b:List CR}(h:y.index<x.index):Dl (x::a) (y::b)=y::Dl (x::a) b:=by
 rw[Dl,F7,if_neg Au,if_pos h];rfl
def QF (a b:List CR) (i k:Nat):Bool:=(k==b.length)||(match a[i]?,b[k]? with
 | some x,some y=>decide (x.index<y.index)
 | _,_=>false)
def V9 (a b:List CR) (i k:Nat):Bool:=(i==a.length)||(match a[i]?,b[k]? with
 | some x,some y=>decide (y.index<x.index)
 | _,_=>false)
section
variable {a b:List CR}{i k:Nat}{vs:List CR}{m:Int}{x y:CR}
theorem OK (h:k=b.length):true=QF a b i k:=by simp[QF,h]
theorem Qb (h:a.length≤i) (hk:k≠b.length):false=QF a b i k:=by simp[QF,hk,List.getElem?_eq_none h]
theorem N4 (hx:a[i]?=some x) (hy:b[k]?=some y):decide (x.index<y.index)=QF a b i k:=by
 have:=(List.getElem?_eq_some_iff.1 hy).1;simp only[QF,hx,hy];rw[show (k==b.length)=false by simp;omega,Bool.false_or]
theorem Rj (h:i=a.length):true=V9 a b i k:=by simp[V9,h]
theorem Mj (hx:a[i]?=some x) (hy:b[k]?=some y):decide (y.index<x.index)=V9 a b i k:=by
 have:=(List.getElem?_eq_some_iff.1 hx).1;simp only[V9,hx,hy];rw[show (i==a.length)=false by simp;omega,Bool.false_or]
theorem gP (h:QF a b i k=true) (hc:i<a.length∨k<b.length):i<a.length:=by
 by_cases q:k=b.length
 ·omega
 by_cases q':a.length≤i
 ·rw[←Qb q' q] at h;cases h
 omega
theorem gv (h:QF a b i k=false) (hk:k≤b.length):k<b.length:=by
 by_cases q:k=b.length
 ·rw[←OK q] at h;cases h
 omega
theorem iO (h:V9 a b i k=false) (hi:i≤a.length):i<a.length:=by
 by_cases q:i=a.length
 ·rw[←Rj q] at h;cases h
 omega
structure Nc (a b:List CR) (i k:Nat) (vs:List CR) (m:Int):Prop where
 hi:i≤a.length
 hk:k≤b.length
 eq:vs++Dl (a.drop i) (b.drop k)=Dl a b
 mo:m=M7 vs
 ln:vs.length≤i+k
theorem PO (vs:List CR) (v:CR):M7 (vs++[v])=max (M7 vs) v.plus:=by simp[M7]
theorem Nc.zero:Nc a b 0 0 [] 0:=⟨by omega,by omega,by simp,rfl,by simp⟩
theorem Nc.left (h:Nc a b i k vs m) (hx:a[i]?=some x) (hs:QF a b i k=true):Nc a b (i+1) k (vs++[x]) (max m x.plus):=by
 have hl:=(List.getElem?_eq_some_iff.1 hx).1;have:=h.ln;refine⟨hl,h.hk,?_,by rw[PO,←h.mo],by simp;omega⟩;rw[←h.eq,Cy hx,List.append_assoc];congr 1;by_cases q:k<b.length
 ·obtain⟨y,hy⟩:∃y,b[k]?=some y:=⟨_,List.getElem?_eq_getElem q⟩;rw[←N4 hx hy,decide_eq_true_eq] at hs;rw[Cy hy,Dl,F7,if_pos hs];rfl
 rw[List.drop_eq_nil_of_le (show b.length≤k by omega),Dl,F7];rfl
theorem Nc.right (h:Nc a b i k vs m) (hy:b[k]?=some y) (hs:QF a b i k=false) (h2:V9 a b i k=true):Nc a b i (k+1) (vs++[y]) (max m y.plus):=by
 have hl:=(List.getElem?_eq_some_iff.1 hy).1;have:=h.ln;refine⟨h.hi,hl,?_,by rw[PO,←h.mo],by simp;omega⟩;rw[←h.eq,Cy hy,List.append_assoc];congr 1;by_cases q:i<a.length
 ·obtain⟨x,hx⟩:∃x,a[i]?=some x:=⟨_,List.getElem?_eq_getElem q⟩;rw[←Mj hx hy,decide_eq_true_eq] at h2;rw[Cy hx,eJ h2];rfl
 rw[List.drop_eq_nil_of_le (show a.length≤i by omega),Dl,Dl];rfl
theorem Nc.both (h:Nc a b i k vs m) (hx:a[i]?=some x) (hy:b[k]?=some y) (hs:QF a b i k=false) (h2:V9 a b i k=false):Nc a b (i+1) (k+1) (vs++[⟨x.index,max x.plus y.plus⟩]) (max m (max x.plus y.plus)):=by
 have hl:=(List.getElem?_eq_some_iff.1 hx).1;have hl':=(List.getElem?_eq_some_iff.1 hy).1;have:=h.ln;rw[←N4 hx hy,decide_eq_false_iff_not] at hs;rw[←Mj hx hy,decide_eq_false_iff_not] at h2;refine⟨hl,hl',?_,by rw[PO,←h.mo],by simp;omega⟩;rw[←h.eq,Cy hx,Cy hy,List.append_assoc,Dl,F7,if_neg hs,if_neg h2];rfl
theorem Nc.fin (h:Nc a b i k vs m) (hc:¬(i<a.length∨k<b.length)):vs=Dl a b∧m=M7 vs:=by
 refine⟨?_,h.mo⟩;rw[←h.eq,List.drop_eq_nil_of_le Au,List.drop_eq_nil_of_le Au];simp[Dl]
end
theorem tO {p q:Cl}{vs:List CR}{m:Int}(h:vs=Dl p.vars q.vars∧m=M7 vs) (h1:0<vs.length) (h2:max p.const q.const≤m):I2 p q=⟨0,vs⟩:=by
 rw[I2,Rv,←h.1,if_pos ⟨List.ne_nil_of_length_pos h1,by rw[←h.2];exact h2⟩]
theorem sj {p q:Cl}{vs:List CR}{m:Int}(h:vs=Dl p.vars q.vars∧m=M7 vs) (h1:¬(0<vs.length∧max p.const q.const≤m)):I2 p q=⟨max p.const q.const,vs⟩:=by
 rw[I2,Rv,←h.1,if_neg];rintro⟨a,b⟩;exact h1 ⟨List.length_pos_iff.2 a,by rw[h.2];exact b⟩
theorem UG:∀{vs:List CR}{lo:Int},Ln vs→(∀v∈vs,lo≤v.index∧v.index<8)→lo≤8→(vs.length:Int)≤8 - lo
 | [],lo,_,_,h=>by simp;omega
 | x::vs,lo,ha,hv,h=>by
  rw[Ln,List.pairwise_cons] at ha;have hx:=hv x Av;have:=UG (vs:=vs) (lo:=x.index+1) ha.2 (fun v hv'=>⟨by have:=ha.1 v hv';omega,(hv v (by simp[hv'])).2⟩) Au;simp only[List.length_cons];omega
structure JG (l:Cl):Prop where
 c:0≤l.const∧l.const≤100
 asc:Ln l.vars
 rg:∀v∈l.vars,(0≤v.plus∧v.plus≤100)∧ -65536≤v.index∧v.index<8
theorem JG.len {l:Cl}(h:JG l):l.vars.length≤65544:=by
 have:=UG (lo:= -65536) h.asc (fun v hv=>(h.rg v hv).2) Au;omega
theorem JG.nd {l:Cl}(h:JG l):M6 l :=
 ⟨by have:=h.len;simp only[Dt];omega,by have:=h.c;unfold I3;omega,fun v hv=>by have:=h.rg v hv;unfold I3;omega⟩
theorem JG.of {l:Cl}(h:CK l=true):JG l:=by
 have h0:=Wc h;have h':=h;simp only[CK,Bool.and_eq_true,decide_eq_true_eq] at h';exact⟨h0,(Ma h'.2).1,fun v hv=>by obtain⟨i,hi⟩:=List.mem_iff_getElem?.1 hv;exact LI h hi⟩
theorem JG.join {a b:Cl}(h1:JG a) (h2:JG b):JG (I2 a b):=by
 have hc1:=h1.c;have hc2:=h2.c;refine⟨?_,O1 h1.asc h2.asc,IB (Q:=fun v=>(0≤v.plus∧v.plus≤100)∧ -65536≤v.index∧v.index<8) (fun u v g1 g2 _=>by simp only;omega) _ _ h1.rg h2.rg⟩;simp only[I2,Rv];split<;>omega
theorem JG.one {v:CR}(h:(0≤v.plus∧v.plus≤100)∧ -65536≤v.index∧v.index<8):JG ⟨0,[v]⟩:=⟨by simp,by simp[Ln],by simpa using h⟩
theorem JG.num {n:Int}(h:0≤n∧n≤100):JG ⟨n,[]⟩:=⟨h,by simp[Ln],by simp⟩
theorem JG.plus {l:Cl}{n:Int}(hl:CK l=true) (h0:0≤n) (h1:n≤100) (he:(FK l n).2=0):JG (FK l n).1:=by
 rcases Pp hl h0 h1 with ⟨e,_⟩ | ⟨e,q1,q2⟩
 ·rw[e] at he;simp at he
 have h:=JG.of hl;have hc:=h.c;rw[e];refine⟨?_,fU h.asc,fun w hw=>?_⟩
 ·simp only[JO];split<;>omega
 simp only[List.mem_map] at hw;obtain⟨u,hu,rfl⟩:=hw;have:=h.rg u hu;have:=q2 u hu;simp only[No];omega
section
variable {ps:List Cl}{q p:Cl}{vs:List CR}{v:CR}{i:Nat}
theorem Cm {α:Type} [Inhabited α] {l:List α}{i:Nat}{x:α}(h:l[i]?=some x):l.getD i default=x:=by rw[List.getD_eq_getElem?_getD,h];rfl
theorem s9 (hv:vs[i]?=some v) (h0:0≤v.index) (h1:v.index<ps.length) (hp:ps[v.index.toNat]?=some p) (he:(FK p v.plus).2≠0):GN ps q (vs.drop i)=(Fq,(FK p v.plus).2):=by
 rw[Cy hv,GN,if_pos ⟨h0,h1⟩,Cm hp,if_pos he]
theorem sN (hv:vs[i]?=some v) (h0:0≤v.index) (h1:v.index<ps.length) (hp:ps[v.index.toNat]?=some p) (he:(FK p v.plus).2=0):GN ps q (vs.drop i)=GN ps (I2 q (FK p v.plus).1) (vs.drop (i+1)):=by
 rw[Cy hv,GN,if_pos ⟨h0,h1⟩,Cm hp,if_neg (by simp[he])]
theorem pY (hv:vs[i]?=some v) (h:¬(0≤v.index∧v.index<ps.length)):GN ps q (vs.drop i)=GN ps (I2 q ⟨0,[v]⟩) (vs.drop (i+1)):=by
 rw[Cy hv,GN,if_neg h]
end
theorem Y5 {ps:List Cl}{k i:Int}{n:ByteArray}{ls ys:List Cl}{ks zs:List Tm}{er e e2:Int}(h1:FY ps er ls=(ys,e)) (h2:Gp ps e ks=(zs,e2)):Ho ps er (.mk k i n ls ks)=(.mk k i n ys zs,e2):=by rw[Ho,h1,h2]
theorem dc {ps:List Cl}{tl ys:List Cl}{e:Int}{i:Nat}{X:List Cl×Int}(h:(ys++(FY ps e (tl.drop i)).1,(FY ps e (tl.drop i)).2)=X) (hi:tl.length≤i):X=(ys,e):=by
 rw[←h,List.drop_eq_nil_of_le hi];simp[FY]
theorem dI {ps:List Cl}{ts zs:List Tm}{e:Int}{i:Nat}{X:List Tm×Int}(h:(zs++(Gp ps e (ts.drop i)).1,(Gp ps e (ts.drop i)).2)=X) (hi:ts.length≤i):X=(zs,e):=by
 rw[←h,List.drop_eq_nil_of_le hi];simp[Gp]
theorem XE (e:Int):Gs e 0=e:=by unfold Gs;split<;>simp_all
def NS {α:Type}(p:α→Bool):List α→Int→Int
 | [],_=> -1
 | x::l,i=>if p x=true then i else NS p l (i+1)
theorem Ua {α:Type}{p:α→Bool}{l:List α}{i:Nat}{x:α}{k:Int}(h:l[i]?=some x):NS p (l.drop i) k=if p x=true then k else NS p (l.drop (i+1)) (k+1):=by rw[Cy h,NS]
theorem Uh {α:Type}{p:α→Bool}:∀(l:List α) (i:Int),0≤i→decide (NS p l i≥0)=l.any p
 | [],i,_=>by simp[NS]
 | x::l,i,h=>by
  simp only[NS,List.any_cons];split
  ·rename_i q;simp[q,h]
  rename_i q;rw[Uh l (i+1) Au];simp[q]
theorem Jh (c:Int):∀(p:Option Int) (vs:List CR),F3 c p vs=(F3 0 p vs&&(decide (c≤0)|| !(vs.any fun v=>decide (c≤v.plus))))
 | p,[]=>by simp[F3]
 | p,v::vs=>by
  simp only[F3,Jh c _ vs,List.any_cons,Ud];by_cases h:c≤0
  ·simp[h]
  simp only[h,decide_false,Bool.false_or,Int.le_refl,decide_true,Bool.true_or,Bool.and_true,Bool.not_or];have:decide (v.plus<c)= !decide (c≤v.plus):=by rw[←decide_not,decide_eq_decide];omega
  rw[this];cases (!decide (c≤v.plus))<;>cases JQ p v.index<;>cases F3 0 (some v.index) vs<;>simp
theorem lP {l:Cl}(h:(l.const<0∨100<l.const)∨0<l.const∧QI l=true):false=CK l:=by
 rcases h with h | ⟨h1,h2⟩
 ·exact dH h
 unfold QI at h2;rw[CK,Jh,h2,decide_eq_false (p:=l.const≤0) Au];simp
theorem jX {l:Cl}{i:Nat}(h:C9 0 l.vars 0=C9 0 l.vars i) (hb:C9 0 l.vars i=false):false=CK l:=by
 rw[CK,Jh,show F3 0 none l.vars=C9 0 l.vars 0 from rfl,h,hb];simp
theorem iH {l:Cl}{i:Nat}(h1:¬((l.const<0∨100<l.const)∨0<l.const∧QI l=true)) (h:C9 0 l.vars 0=C9 0 l.vars i) (hb:l.vars.length≤i):true=CK l:=by
 rw[CK,Jh,show F3 0 none l.vars=C9 0 l.vars 0 from rfl,h,e8 hb];simp only[not_or,not_and] at h1;rw[decide_eq_true Au,decide_eq_true Au];by_cases q:l.const≤0
 ·simp[q]
 have:=h1.2 Au;simp only[QI,Bool.not_eq_true] at this;simp[this,q]
section
variable {l:List CR}{i j:Nat}{x u:CR}
theorem Ox (h:((x.index < -65536∨7<x.index)∨x.plus<0)∨100<x.plus):true= !(Ud 0 x&&JQ (Jp l i) x.index):=by
 rw[br Au];rfl
theorem MQ (h:¬(((x.index < -65536∨7<x.index)∨x.plus<0)∨100<x.plus)) (hi:(i:Int)≤0):false= !(Ud 0 x&&JQ (Jp l i) x.index):=by
 rw[Uo Au Au,Bool.true_and,Na Au]
theorem TD (hj:l[j]?=some u) (he:i=j+1) (h:¬(((x.index < -65536∨7<x.index)∨x.plus<0)∨100<x.plus)):decide (u.index≥x.index)= !(Ud 0 x&&JQ (Jp l i) x.index):=by
 rw[Uo Au Au,Bool.true_and,O5 hj he]
end
theorem oU {l:Cl}(h:(0≤l.const∧l.const≤100)∧(0<l.const→QI l=false)):¬((l.const<0∨100<l.const)∨0<l.const∧QI l=true):=by
 rintro((q | q) | ⟨q1,q2⟩)
 ·omega
 ·omega
 rw[h.2 q1] at q2;cases q2
theorem mG {l:Cl}(h:CK l=true→(l.vars.length:Int)≤0):CK l=false∨l.vars.length=0:=by
 by_cases q:CK l=true
 ·exact .inr (by have:=h q;omega)
 exact .inl (by simpa using q)
def Gy (m:List (Int×Int)):List (Int×AV):=m.map fun p=>(p.1,.p (I p.2))
theorem Ub (k:Int):∀m:List (Int×Int),KB k (Gy m)=(mg k m).map fun v=> .p (I v)
 | []=>rfl
 | (j,x)::m=>by
  have ih:=Ub k m;simp only[Gy] at ih;simp only[Gy,List.map_cons,KB,mg];split
  ·rfl
  exact ih
theorem ZE (k v:Int):∀m:List (Int×Int),NT k (.p (I v)) (Gy m)=Gy (ms k v m)
 | []=>rfl
 | (j,x)::m=>by
  have ih:=ZE k v m;simp only[Gy] at ih;simp only[Gy,List.map_cons,NT,ms];split
  ·rfl
  rw[ih];rfl
theorem Vk (m:List (Int×Int)) (k:Int):(KB k (Gy m)).getD (.p (I 0))= .p (I ((mg k m).getD 0)):=by rw[Ub];cases mg k m<;>rfl
theorem dK (m:List (Int×Int)) (k:Int):(KB k (Gy m)).isSome=(mg k m).isSome:=by rw[Ub];cases mg k m<;>rfl
theorem ZV {m:List (Int×Int)}{i p:Int}(h:(mg i m).isSome=false∨(mg i m).getD 0<p):GY m i p=ms i p m:=by
 unfold GY;cases e:mg i m with
 | none=>rfl
 | some old =>
  rw[e] at h;simp at h;simp only;rw[if_pos Au]
theorem Xl {m:List (Int×Int)}{i p:Int}(h:(mg i m).isSome=true∧p≤(mg i m).getD 0):GY m i p=m:=by
 unfold GY;cases e:mg i m with
 | none=>rw[e] at h;simp at h
 | some old =>
  rw[e] at h;simp at h;simp only;rw[if_neg Au]
theorem rH {l:Cl}{i:Nat}{x:CR}(hx:l.vars[i]?=some x) (h:100<x.plus):Jc l=(Fq,15):=by
 unfold Jc;rw[if_pos];rw[List.any_eq_true];exact⟨x,List.mem_of_getElem? hx,by simpa using h⟩
theorem rz {l:Cl}(h:100<l.const):Jc l=(Fq,15):=by
 unfold Jc;split
 ·rfl
 first | rfl | rw[if_pos Au]
theorem Y3 {l:Cl}(h:∀j,j<l.vars.length→∀y,l.vars[j]?=some y→¬100<y.plus):¬(l.vars.any fun v=>decide (v.plus > 100))=true:=by
 rw[List.any_eq_true];rintro⟨x,hx,hq⟩;obtain⟨j,hj⟩:=List.mem_iff_getElem?.1 hx;exact h j (List.getElem?_eq_some_iff.1 hj).1 x hj (by simpa using hq)
theorem qY {l:Cl}(h:∀j,j<l.vars.length→∀y,l.vars[j]?=some y→¬100<y.plus) (h1:l.const≤100) (h2:QI l=true):Jc l=(⟨0,l.vars⟩,0):=by
 unfold Jc;rw[if_neg (Y3 h),if_neg Au,if_pos h2]
theorem qH {l:Cl}(h:∀j,j<l.vars.length→∀y,l.vars[j]?=some y→¬100<y.plus) (h1:l.const≤100) (h2:QI l=false):Jc l=(l,0):=by
 unfold Jc;rw[if_neg (Y3 h),if_neg Au,if_neg (by simp[h2])]
theorem aQ {n:Int}{vs:List CR}{i:Nat}{x:CR}{M:List (Int×Int)}(hx:vs[i]?=some x):GY ((vs.take i).foldl (ID n) M) x.index (x.plus+n)=(vs.take (i+1)).foldl (ID n) M:=by
 rw[List.take_add_one,hx,List.foldl_append];rfl
theorem step_take {ps:List Cl}{vs:List CR}{i:Nat}{x:CR}{S:List (Int×Int)×Int}(hx:vs[i]?=some x):(vs.take (i+1)).foldl (EO ps) S=EO ps ((vs.take i).foldl (EO ps) S) x:=by
 rw[List.take_add_one,hx,List.foldl_append];rfl
theorem az (M:List (Int×Int)):(G5 M).length=M.length:=by simp[G5,Tc]
def QH (M:List (Int×Int)) (k:Int):CR:=⟨k,(mg k M).getD 0⟩
theorem XK {M:List (Int×Int)}{i:Nat}(h:(FX (M.map Prod.fst)).length≤i):((FX (M.map Prod.fst)).take i).map (QH M)=G5 M:=by
 rw[List.take_of_length_le h];rfl
theorem T8 {ps:List Cl}{S:List (Int×Int)×Int}{x:CR}(h:x.index<0):EO ps S x=(GY S.1 x.index x.plus,S.2):=by unfold EO;rw[if_pos h]
theorem UI {ps:List Cl}{S:List (Int×Int)×Int}{x:CR}{p:Cl}(h:0≤x.index) (hp:ps[x.index.toNat]?=some p):EO ps S x=Rx (S.1,S.2) p x.plus:=by unfold EO;rw[if_neg Au,Cm hp]
theorem QB.len {m:List (Int×Int)}(h:QB m) (hr:∀k∈m.map Prod.fst,-65536≤k∧k<8):m.length≤65544:=by
 have ha:=TG h;have:=UG (lo:= -65536) ha (fun v hv=>by
  simp only[G5,List.mem_map] at hv;obtain⟨k,hk,rfl⟩:=hv;exact hr k ((NA _).mem_iff.1 hk)) Au
 rw[az] at this;omega
structure YB (S:List (Int×Int)×Int):Prop where
 m:QB S.1
 r:∀k∈S.1.map Prod.fst,-65536≤k∧k<8
theorem YB.len {S:List (Int×Int)×Int}(h:YB S):S.1.length≤65544:=h.m.len h.r
theorem RQ {m:List (Int×Int)}{i p:Int}{Q:Int→Prop}(h:∀k∈m.map Prod.fst,Q k) (hi:Q i):∀k∈(GY m i p).map Prod.fst,Q k:=by
 have hs:∀k∈(ms i p m).map Prod.fst,Q k:=by
  rw[U0];split
  ·exact h
  intro k hk;rcases List.mem_append.1 hk with hk | hk
  ·exact h k hk
  rw[List.mem_singleton.1 hk];exact hi
 unfold GY;split
 ·split
  ·exact hs
  exact h
 exact hs
theorem Sw {n:Int}{Q:Int→Prop}:∀(vs:List CR) (m:List (Int×Int)),(∀k∈m.map Prod.fst,Q k)→(∀v∈vs,Q v.index)→∀k∈(vs.foldl (ID n) m).map Prod.fst,Q k
 | [],m,h,_=>h
 | v::vs,m,h,hv=>Sw vs (ID n m v) (RQ h (hv v Av)) fun w hw=>hv w (by simp[hw])
theorem YB.step {ps:List Cl}{S:List (Int×Int)×Int}{x:CR}(hps:∀l∈ps,CK l=true) (h:YB S) (hx:(0≤x.plus∧x.plus≤100)∧ -65536≤x.index∧x.index<8) (hi:x.index<ps.length):YB (EO ps S x):=by
 refine⟨(VF hps h.m hx.1.1 hi).1,?_⟩;unfold EO;split
 ·exact RQ h.r hx.2
 rename_i q;refine Sw _ _ h.r fun v hv=>?_;have hlt:x.index.toNat<ps.length:=by omega
 rw[List.getD_eq_getElem?_getD,List.getElem?_eq_getElem hlt] at hv;exact((JG.of (hps _ (List.getElem_mem hlt))).rg v hv).2
theorem YB.fold {ps:List Cl}(hps:∀l∈ps,CK l=true):∀(vs:List CR) (S:List (Int×Int)×Int),YB S→(∀x∈vs,((0≤x.plus∧x.plus≤100)∧ -65536≤x.index∧x.index<8)∧x.index<ps.length)→YB (vs.foldl (EO ps) S)
 | [],S,h,_=>h
 | v::vs,S,h,hv=>YB.fold hps vs _ (h.step hps (hv v Av).1 (hv v Av).2) fun w hw=>hv w (by simp[hw])
theorem YB.zero (c:Int):YB ([],c):=⟨QB.nil,by simp⟩
theorem eG {l:Cl}{ps:List Cl}{i:Nat}{x:CR}(h:CK l=true) (hp:¬(Gj l > ps.length)) (hx:l.vars[i]?=some x):x.index<ps.length:=by
 have hm:=List.mem_of_getElem? hx;have:=N3 (JG.of h).asc x hm;unfold Gj at hp;rw[if_pos ⟨h,List.ne_nil_of_mem hm⟩] at hp;omega
def Ix (ps:List Cl):List Cl→Except Int (List Cl)
 | []=> .ok []
 | l::ls=>if (DB l ps).2≠0 then .error (DB l ps).2 else match Ix ps ls with
  | .ok zs=> .ok ((DB l ps).1::zs)
  | .error e=> .error e
def Np (ys:List Cl):Except Int (List Cl)→Except Int (List Cl)
 | .ok zs=> .ok (ys++zs)
 | .error e=> .error e
def U7 (ps:List Cl) (_:Unit) (t:Tm) (_:Int):Except Int ((Tm×Bool)×Unit):=match Ix ps t.levels with
 | .ok ls=> .ok ((.mk t.kind t.index t.name ls [],false),())
 | .error e=> .error e
section
variable {ps:List Cl}
theorem kr {ls ys:List Cl}{i:Nat}{l:Cl}(h:ls[i]?=some l) (h0:(DB l ps).2=0):Np ys (Ix ps (ls.drop i))=Np (ys++[(DB l ps).1]) (Ix ps (ls.drop (i+1))):=by
 rw[Cy h,Ix,if_neg (by simp[h0])];cases Ix ps (ls.drop (i+1))<;>simp[Np]
theorem lU {ls ys:List Cl}{i:Nat}{l:Cl}(h:ls[i]?=some l) (h0:(DB l ps).2≠0):Np ys (Ix ps (ls.drop i))= .error (DB l ps).2:=by
 rw[Cy h,Ix,if_pos h0];rfl
theorem Rh:∀(ls:List Cl) (er:Int),er≠0→(FY ps er ls).2=er
 | [],er,_=>rfl
 | l::ls,er,h=>by
  rw[FY];simp only;rw[show Gs er (DB l ps).2=er by unfold Gs;rw[if_neg h]];exact Rh ls er h
mutual
theorem iu:∀(t:Tm) (er:Int),er≠0→(Ho ps er t).2=er
 | .mk k i n ls ks,er,h=>by
  rw[Ho];simp only;rw[Rh ls er h];exact Od ks er h
theorem Od:∀(ts:List Tm) (er:Int),er≠0→(Gp ps er ts).2=er
 | [],er,_=>rfl
 | t::ts,er,h=>by
  rw[Gp];simp only;rw[iu t er h];exact Od ts er h
end
theorem WG:∀(ls:List Cl),Ix ps ls=if (FY ps 0 ls).2=0 then .ok (FY ps 0 ls).1 else .error (FY ps 0 ls).2
 | []=>rfl
 | l::ls=>by
  have ih:=WG ls;rw[Ix,FY];simp only;by_cases h:(DB l ps).2=0
  ·rw[if_neg (by simp[h]),h,XE,ih];by_cases q:(FY ps 0 ls).2=0
   ·rw[if_pos q,if_pos q]
   rw[if_neg q,if_neg q]
  rw[if_pos h,show Gs 0 (DB l ps).2=(DB l ps).2 from rfl,Rh ls _ h,if_neg h]
mutual
theorem Ow:∀(t:Tm) (d:Int),EL (U7 ps) t d ()=Fo (Ho ps 0 t)
 | .mk k i n ls ks,d=>by
  rw[EL,Ho];simp only[U7,Tm.levels,Tm.kind,Tm.index,Tm.name,WG];by_cases h:(FY ps 0 ls).2=0
  ·rw[if_pos h,h];simp only[Dz];rw[if_neg Av,Qv k 0 ks d];unfold Fo HE;simp only;by_cases q:(Gp ps 0 ks).2=0
   ·rw[if_pos q,if_pos q];rfl
   rw[if_neg q,if_neg q]
  rw[if_neg h];simp only[Dz,Fo];rw[Od ks _ h,if_neg h]
theorem Qv (k:Int):∀(j:Nat) (ts:List Tm) (d:Int),EC (U7 ps) k j ts d ()=HE (Gp ps 0 ts)
 | _,[],_=>rfl
 | j,t::ts,d=>by
  rw[EC,Ow t,Gp];unfold Fo HE;simp only;by_cases h:(Ho ps 0 t).2=0
  ·rw[if_pos h,h];simp only[Dz];rw[Qv k (j+1) ts d];unfold HE;by_cases q:(Gp ps 0 ts).2=0
   ·rw[if_pos q,if_pos q]
   rw[if_neg q,if_neg q]
  rw[if_neg h,Od ts _ h,if_neg h];rfl
end
end
theorem Z0 (x:Except Int (List Cl)):x=Np [] x:=by cases x<;>simp[Np]
theorem iZ {ps:List Cl}{s:Unit}{k i d e:Int}{n:ByteArray}{ls:List Cl}{ks:List Tm}(h:Ix ps ls= .error e):U7 ps s (.mk k i n ls ks) d= .error e:=by
 simp only[U7,Tm.levels,h]
theorem kD {ps:List Cl}{s:Unit}{k i d:Int}{n:ByteArray}{ls ys:List Cl}{ks:List Tm}(h:Ix ps ls= .ok ys):U7 ps s (.mk k i n ls ks) d= .ok ((.mk k i n ys [],false),()):=by
 simp only[U7,Tm.levels,Tm.kind,Tm.index,Tm.name,h]
theorem set_drop {ys tl:List Cl}{i:Nat}{x m:Cl}(h:ys.length=i) (hx:tl[i]?=some x):(ys++tl.drop i).set i m=(ys++[m])++tl.drop (i+1):=by
 subst h;rw[Cy hx];simp
theorem lj {ps:List Cl}{tl ys:List Cl}{i:Nat}{X:Except Int (List Cl)}(h:X=Np ys (Ix ps (tl.drop i))) (hi:tl.length≤i):X= .ok ys:=by
 rw[h,List.drop_eq_nil_of_le hi];simp[Ix,Np]
theorem Zl (m:Cl):Gr (((CE m).map AV.p).map dn)=some (CE m):=by obtain⟨c,v⟩:=m;rfl
theorem Vi {t:Tm}{ps:List Cl}{e:Int}(h:Fo (Ho ps 0 t)= .error e):B1 t ps=(Bu,e):=by
 unfold Fo at h;unfold B1;split at h
 ·cases h
 rename_i q;cases h;rw[if_pos q]
theorem X0 {t z:Tm}{ps:List Cl}{u:Unit}(h:Fo (Ho ps 0 t)= .ok (z,u)):B1 t ps=(z,0):=by
 unfold Fo at h;unfold B1;split at h
 ·rename_i q;cases h;rw[if_neg (by simp[q])]
 cases h
def QP {α:Type}(a b:Out α):Prop:=a= .stuck∨a=b
section
variable {α β:Type}
theorem QP.refl (a:Out α):QP a a:= .inr rfl
theorem QP.bind {a b:Out α}{k k':α→Out β}(h:QP a b) (hk:∀x,QP (k x) (k' x)):QP (a.bind k) (b.bind k'):=by
 rcases h with rfl | rfl
 ·exact .inl O
 cases a with
 | stuck=>exact .inl rfl
 | fail=>exact .inr rfl
 | ok x=>exact hk x
theorem QP.ite {c:Prop} [Decidable c] {a a' b b':Out α}(h1:QP a a') (h2:QP b b'):QP (if c then a else b) (if c then a' else b'):=by
 split
 ·exact h1
 exact h2
theorem QP.chk {σ:Type}{a b:Out (Tm×σ)}{k k':Tm×σ→Out β}(h:QP a b) (hk:∀x,QP (k x) (k' x)):QP (a.chk k) (b.chk k'):=QP.bind h fun x=>QP.ite (hk x) (QP.refl _)
variable {σ:Type}{E:List Cc}{S:Sys σ}
theorem QP.put {s:σ}{x:Tm×Int}{k k':Tm→σ→Out β}(hk:∀t s',QP (k t s') (k' t s')):QP (S.put s x k) (S.put s x k'):=by
 unfold Sys.put;refine QP.ite ?_ (QP.refl _);cases S.res s x.1 x.2 with
 | none=>exact QP.refl _
 | some s'=>exact hk _ _
variable {W W':σ→Tm→Out (Tm×σ)}(hW:∀s t,QP (W s t) (W' s t))
include hW
end
section
variable {σ:Type}{E:List Cc}{S:Sys σ}
end
theorem gI {k i:Int}{n:ByteArray}{l:List Cl}{ts:List Tm}{x y:Tm}(h:k=6∧((ts.length:Nat):Int)=2) (hx:ts[0]?=some x) (hy:ts[1]?=some y):HL (.mk k i n l ts)=(x::(HL y).1,(HL y).2):=by
 obtain⟨rfl,h2⟩:=h;rw[eM h2 hx hy,HL,if_pos rfl]
theorem gF {k i:Int}{n:ByteArray}{l:List Cl}{ts:List Tm}(h:k≠6∨((ts.length:Nat):Int)≠2):HL (.mk k i n l ts)=([],.mk k i n l ts):=by
 unfold HL;split
 ·rename_i k' i' n' l' a b e;injection e with e1 e2 e3 e4 e5;subst e1 e2 e3 e4 e5;simp at h;rw[if_neg h]
 rfl
theorem Sj {k i:Int}{n:ByteArray}{ls:List Cl}{ts l:List Tm}{x y:Tm}{X:List Tm×Tm}(h:k=6∧((ts.length:Nat):Int)=2) (hx:ts[0]?=some x) (hy:ts[1]?=some y) (hX:(l++(HL (.mk k i n ls ts)).1,(HL (.mk k i n ls ts)).2)=X):((l++[x])++(HL y).1,(HL y).2)=X:=by
 rw[←hX,gI h hx hy];simp
theorem WR {k i:Int}{n:ByteArray}{ls:List Cl}{ts l:List Tm}{X:List Tm×Tm}(h:k≠6∨((ts.length:Nat):Int)≠2) (hX:(l++(HL (.mk k i n ls ts)).1,(HL (.mk k i n ls ts)).2)=X):X=(l,.mk k i n ls ts):=by
 rw[←hX,gF h];simp
theorem Ih:∀(t:Tm),(HL t).1.length<size t
 | .mk k i n l [a,b]=>by
  unfold HL;split
  ·have:=Ih b;have:=size_pos a;simp only[List.length_cons,size,Bl];omega
  ·simp[size,Bl];omega
 | .mk k i n l []=>by simp[HL,size,Bl]
 | .mk k i n l [_]=>by simp[HL,size,Bl];omega
 | .mk k i n l (_::_::_::_)=>by simp[HL,size,Bl];omega
mutual
def GA:Fl→Prop
 | .mk k b v l=>okB b=true∧Qm l
def jk:GP→Prop
 | .mk c a t=>GA t
def Qm:List GP→Prop
 | []=>True
 | b::l=>jk b∧Qm l
end
structure DG (d:Cc):Prop where
 din:Nn d
 fx:0≤d.fixed∧d.fixed≤1000000
 vl:okB d.value=true
 ru:∀t∈d.recs.rules,okB t=true
 fu:∀f∈d.funs,1≤f.arity∧f.arity≤16∧GA f.tree
structure J7 (E:List Cc):Prop where
 env:Hd E
 all:∀d∈E,DG d
theorem Qo {nm:ByteArray}:∀{l:List (ByteArray×Gf)}{e:Gf},DA nm l=some e→∃s,(s,e)∈l
 | (s,x)::l,e,h=>by
  simp only[DA] at h;split at h
  ·cases h;exact⟨s,by simp⟩
  obtain⟨s',h'⟩:=Qo h;exact⟨s',List.mem_cons_of_mem _ h'⟩
theorem WW {i p:Int}{s:ByteArray}{e:Gf}:∀{cs:List Im}{k:Int},(s,e)∈Ij i p cs k→∃(j:Nat) (c:Im),cs[j]?=some c∧e=⟨4,i,k+j,p,c.type⟩
 | c::cs,k,h=>by
  simp only[Ij,List.mem_cons] at h;rcases h with h | h
  ·cases h;exact⟨0,c,rfl,by simp⟩
  obtain⟨j,c',h1,h2⟩:=WW h;exact⟨j+1,c',by simpa using h1,by rw[h2];congr 1;omega⟩
theorem ZK {i p:Int}{s:ByteArray}{e:Gf}:∀{cs:List Hj}{k:Int},(s,e)∈L2 i p cs k→∃(j:Nat) (c:Hj),cs[j]?=some c∧e=⟨6,i,k+j,p,c.type⟩
 | c::cs,k,h=>by
  simp only[L2,List.mem_cons] at h;rcases h with h | h
  ·cases h;exact⟨0,c,rfl,by simp⟩
  obtain⟨j,c',h1,h2⟩:=ZK h;exact⟨j+1,c',by simpa using h1,by rw[h2];congr 1;omega⟩
structure Yn (d:Cc) (i:Int) (e:Gf):Prop where
 decl:e.decl=i
 kind:0≤e.kind∧e.kind≤6
 ctor:e.kind=4→∃(j:Nat) (c:Im),d.ctors[j]?=some c∧e.item=j
 func:e.kind=6→∃(j:Nat) (c:Hj),d.funs[j]?=some c∧e.item=j
theorem ke {d:Cc}{i:Int}{s:ByteArray}{e:Gf}(h:(s,e)∈Fg d i):Yn d i e:=by
 unfold Fg at h;split at h
 ·rename_i hk;simp only[List.mem_singleton,Prod.mk.injEq] at h;obtain⟨_,rfl⟩:=h;exact⟨O,by simp only;omega,fun q=>by simp only at q;omega,fun q=>by simp only at q;omega⟩
 split at h
 ·simp only[List.mem_cons,List.mem_append,List.mem_singleton,Prod.mk.injEq,List.not_mem_nil,or_false] at h;rcases h with ⟨_,rfl⟩ | h | ⟨_,rfl⟩
  ·exact⟨O,by simp,fun q=>by simp at q,fun q=>by simp at q⟩
  ·obtain⟨j,c,h1,rfl⟩:=WW h;exact⟨O,by simp,fun _=>⟨j,c,h1,by simp⟩,fun q=>by simp at q⟩
  exact⟨O,by simp,fun q=>by simp at q,fun q=>by simp at q⟩
 split at h
 ·obtain⟨j,c,h1,rfl⟩:=ZK h;exact⟨O,by simp,fun q=>by simp at q,fun _=>⟨j,c,h1,by simp⟩⟩
 cases h
theorem V5 {nm:ByteArray}:∀{ds:List Cc}{k:Int}{e:Gf},findF nm ds k=some e→∃(i:Nat) (d:Cc),ds[i]?=some d∧Yn d (k+i) e
 | d::ds,k,e,h=>by
  simp only[findF] at h;split at h
  ·rename_i x hx;cases h;obtain⟨s,hs⟩:=Qo hx;exact⟨0,d,O,by simpa using ke hs⟩
  obtain⟨i,d',h1,h2⟩:=V5 h;refine⟨i+1,d',by simpa using h1,?_⟩;rw[show k+((i+1:Nat):Int)=k+1+i by omega];exact h2
theorem Oa {ds:List Cc}{nm:ByteArray}(h:(B3 ds nm).2=0):∃(i:Nat) (d:Cc),ds[i]?=some d∧Yn d i (B3 ds nm).1:=by
 unfold B3 at h ⊢;cases e:findF nm ds 0 with
 | none=>rw[e] at h;simp at h
 | some x =>
  obtain⟨i,d,h1,h2⟩:=V5 e;exact⟨i,d,h1,by simpa using h2⟩
def Vc:Cc:=⟨0,⟨#[]⟩,0,Bu,Bu,0,[],⟨0,Bu,[]⟩,[]⟩
def Ct (E:List Cc) (nm:ByteArray):Cc×Int×Bool:=match Hg E nm with
 | some (d,j)=>(d,j,true)
 | none=>(Vc,0,false)
section
variable {E:List Cc}{nm:ByteArray}{x:Cc}
theorem Y7 (h:(B3 E nm).2≠0):Ct E nm=(Vc,0,false):=by simp[Ct,Hg,h]
theorem PW (hx:E[(B3 E nm).1.decl.toNat]?=some x):Cr E (B3 E nm).1.decl=x:=Cm hx
theorem jd (h:(B3 E nm).2=0) (h3:(B3 E nm).1.kind=3) (hx:E[(B3 E nm).1.decl.toNat]?=some x):Ct E nm=(x,-1,true):=by
 simp[Ct,Hg,h,h3,PW hx]
theorem ji (h:(B3 E nm).2=0) (h3:(B3 E nm).1.kind=4) (hx:E[(B3 E nm).1.decl.toNat]?=some x):Ct E nm=(x,(B3 E nm).1.item,true):=by
 simp[Ct,Hg,h,h3,PW hx]
theorem fJ (h:(B3 E nm).2=0) (h3:(B3 E nm).1.kind=5) (hx:E[(B3 E nm).1.decl.toNat]?=some x):Ct E nm=(x,-2,true):=by
 simp[Ct,Hg,h,h3,PW hx]
theorem fI (h3:(B3 E nm).1.kind≠3) (h4:(B3 E nm).1.kind≠4) (h5:(B3 E nm).1.kind≠5):Ct E nm=(Vc,0,false):=by
 simp[Ct,Hg,h3,h4,h5]
end
theorem GX {d:Cc}(h:Nn d) (hf:0≤d.fixed∧d.fixed≤1000000):0≤L9 d∧L9 d≤1000000:=by
 have h1:=Ih d.type;have h2:=h.ty.sz;unfold L9 W8;omega
def Sv (E:List Cc) (h:Tm):Bool:=decide ((B3 E h.name).2=0)&&decide ((h.levels.length:Int)=(B3 E h.name).1.params)
theorem DR (E:List Cc) (h:Tm):K7 E h=if Sv E h=true then some (B3 E h.name).1 else none:=by
 unfold K7 Sv;simp only[Bool.and_eq_true,decide_eq_true_eq]
theorem VU {l:List Tm}{m:Nat}{x:Tm}(h:l[m - 1]?=some x) (hm:0<m):(l.drop m).reverse++[x]=(l.drop (m - 1)).reverse:=by
 rw[Cy h,List.reverse_cons,show m - 1+1=m by omega]
theorem eH {E:List Cc}{k i:Int}{n:ByteArray}{ls:List Cl}{ks:List Tm}(h:(B3 E n).2=0):(((ls.length:Nat):Int)==(B3 E n).1.params)=Sv E (.mk k i n ls ks):=by
 simp only[Sv,Tm.name,Tm.levels,h,decide_true,Bool.true_and];rw[Bool.eq_iff_iff,beq_iff_eq];exact⟨fun q=>decide_eq_true q,fun q=>of_decide_eq_true q⟩
theorem j6 {E:List Cc}{k i:Int}{n:ByteArray}{ls:List Cl}{ks:List Tm}(h:(B3 E n).2≠0):false=Sv E (.mk k i n ls ks):=by
 simp[Sv,Tm.name,h]
end Go.Eu
namespace Go.Proofs.YtboammbpdaoojaaGreat
open Go.Abs Go.Eu
theorem _root_.Go.AZ {α:Prop}(h:α:=by first | rfl | simp[Cw]):α:=h
theorem RD:∀(ds:List Cc) (nm:ByteArray),(Hd ds)→Et Tryz.prog 84 [.p (.lst (List.map Bw ds)),.p (.str nm)] (.tup [.agg ((Bw ((Ct ds nm).1)).map .p),.p (I ((Ct ds nm).2.1)),.p (.bool ((Ct ds nm).2.2))]):=by
 intro ds nm h1;have hl:=h1.len;refine BD Tryz.func84 O rS (n:=44) O O (A4 (BP O (BF Je O) fun b4=>Az BA 2 [] O (A4 (A5 BA 2 [] O (Ay O (BN O O (Lx ds nm h1) O) (A5 BA 3 [] O (BP O (BF IA O) fun b7=>Az BA 2 [0,1] O (A1 (A2 BA 2 [] O (A3 O (fun c=>?_) (fun c=>?_)))))))))))
 ·(try simp only[sd,se] at c);refine A2 BA 4 [1,0] O (BS (Bj (i:=1) O) (A6 (⟨O,_,_,⟨_,_,O,(BJ (i:=1) EJ O O O),⟨_,_,O,O,⟨_,_,O,O,O⟩⟩⟩,(List.nil_sublist _),?_⟩)))
  all_goals exact⟨by show (.tup [.agg [.p (I 0),.p (.str ⟨#[]⟩),.p (I 0),.p (I 0),.p (I 0),.p (.str ⟨#[]⟩),.p (.lst []),.p (.lst []),.p (I 0),.p (I 0),.p (.str ⟨#[]⟩),.p (.lst []),.p (.lst []),.p (I 0),.p (.lst []),.p (I 0),.p (I 0),.p (I 0),.p (.str ⟨#[]⟩),.p (.lst []),.p (.lst []),.p (.lst []),.p (.lst [])],.p (I 0),.p (.bool false)]:AV)=_;rw[Y7 Au];rfl,rfl⟩
 (try simp only[sd,se] at c);obtain⟨fi,fd,hfi,hfo⟩:=Oa (ds:=ds) (nm:=nm) Au;have hdl:=hfo.decl;have hfl:=(List.getElem?_eq_some_iff.1 hfi).1;refine A7 (A1 (A4 (Ay O (Ax FG O O) (Ay O (A9 (i:=0) C0 O O (Dq _)) (Bt O (BH (A2 BA 2 [] O (A3 O (fun c1=>?_) (fun c1=>?_)))))))))
 ·(try simp only[sd,se] at c1);refine A4 (A5 BA 2 [] O (Ay O (A9 (i:=0) C0 O O (Ds _)) ?_));obtain⟨x,hx⟩:=BE (l:=ds) (i:=(((B3 ds nm).1).decl:Int).toNat) Au;refine Ay O (BC Hv O O Au (EX hx) (Cw _)) (Az BA 4 [1,1] O (A6 (⟨O,_,_,⟨_,_,O,(BJ (i:=1) EJ O O Aj),⟨_,_,O,O,⟨_,_,O,O,O⟩⟩⟩,(List.nil_sublist _),?_⟩)))
  all_goals exact⟨by show (.tup [.agg ((Bw x).map .p),.p (I (-1)),.p (.bool true)]:AV)=_;rw[jd Au Au hx],rfl⟩
 (try simp only[sd,se] at c1);refine A2 BA 2 [] O (A3 O (fun c2=>?_) (fun c2=>?_))
 ·(try simp only[sd,se] at c2);refine A1 (B7 (fun k=>false) D7 (A0 O (fun _=>BB O) Aw (A0 O (fun _=>Ax FG O O) Aw (BT (j:=0) O O O (fun H i hi=>A9 (i:=i) C0 O hi (Ds _)) AB Aw ?_))));obtain⟨x,hx⟩:=BE (l:=ds) (i:=(((B3 ds nm).1).decl:Int).toNat) Au;refine A0 O (fun _=>BC Hv O O Au (EX hx) (Cw _)) Aw (A0 O (fun _=>BQ EJ O (Cw _)) Aw (A0 O (fun _=>Ax FG O O) Aw (BT (j:=0) O O O (fun H i hi=>A9 (i:=i) C0 O hi (F6 _)) AB Aw (CF O O (Bc (i:=1) EJ O O O Aj AZ (Jt _)) AB Aw (A0 O (fun _=>Bb O) Aw (A0 O (fun _=>Bb O) Aw (Bv O Ap (A6 (⟨O,_,_,⟨_,_,O,(BJ (i:=1) EJ O O Aj),⟨_,_,O,O,⟨_,_,O,O,O⟩⟩⟩,(List.nil_sublist _),?_⟩)))))))))
  all_goals exact⟨by show (.tup [.agg ((Bw x).map .p),.p (I (((B3 ds nm).1).item)),.p (.bool true)]:AV)=_;rw[ji Au Au hx],rfl⟩
 (try simp only[sd,se] at c2);refine A2 BA 2 [] O (A3 O (fun c3=>?_) (fun c3=>?_))
 ·(try simp only[sd,se] at c3);refine A4 (A5 BA 2 [] O (Ay O (A9 (i:=0) C0 O O (Ds _)) ?_));obtain⟨x,hx⟩:=BE (l:=ds) (i:=(((B3 ds nm).1).decl:Int).toNat) Au;refine Ay O (BC Hv O O Au (EX hx) (Cw _)) (Az BA 4 [1,1] O (A6 (⟨O,_,_,⟨_,_,O,(BJ (i:=1) EJ O O Aj),⟨_,_,O,O,⟨_,_,O,O,O⟩⟩⟩,(List.nil_sublist _),?_⟩)))
  all_goals exact⟨by show (.tup [.agg ((Bw x).map .p),.p (I (-2)),.p (.bool true)]:AV)=_;rw[fJ Au Au hx],rfl⟩
 (try simp only[sd,se] at c3);refine A7 (A2 BA 4 [1,0] O (BS (Bj (i:=1) O) (A6 (⟨O,_,_,⟨_,_,O,(BJ (i:=1) EJ O O O),⟨_,_,O,O,⟨_,_,O,O,O⟩⟩⟩,(List.nil_sublist _),?_⟩))))
 all_goals exact⟨by show (.tup [.agg [.p (I 0),.p (.str ⟨#[]⟩),.p (I 0),.p (I 0),.p (I 0),.p (.str ⟨#[]⟩),.p (.lst []),.p (.lst []),.p (I 0),.p (I 0),.p (.str ⟨#[]⟩),.p (.lst []),.p (.lst []),.p (I 0),.p (.lst []),.p (I 0),.p (I 0),.p (I 0),.p (.str ⟨#[]⟩),.p (.lst []),.p (.lst []),.p (.lst []),.p (.lst [])],.p (I 0),.p (.bool false)]:AV)=_;rw[fI Au Au Au];rfl,rfl⟩
theorem _root_.Go.AJ {α:Prop}(h:α:=by first | rfl | (refine pB ?_;simp_all;done) | (refine pB ?_;simp_all<;>(intros;omega))):α:=h
theorem On:∀(l:Cl),(M6 l)→Et Tryz.prog 148 [.agg ((CE l).map .p)] (.p (.bool (CK l))):=by
 intro l h1;have hl:=h1.vars;simp only[Dt] at hl;refine BD Tryz.func148 O j0 (n:=67) O O (A4 (BP O (Bf O) fun b1=>Az BA 1 [] O (A1 (A1 (Bi [1] 12 (fun y=>y= .p (.bool ((decide ((l.const:Int)<(0:Int)))||(decide ((l.const:Int) > (100:Int)))))) ?_ ?_)))))
 ·refine A8 (A5 BA 4 [0] O (Ba 8 O (fun g=>?_) (fun g=>?_)))
  ·(try simp only[sd,se] at g);exact Az BA 4 [] O (⟨O,O,AM,AJ,⟨O,Aw⟩⟩)
  (try simp only[sd,se] at g);exact Az BA 4 [0] O (⟨O,O,AM,AJ,⟨O,Aw⟩⟩)
 rintro _ rfl;refine A3 O (fun c=>?_) (fun c=>?_)
 ·(try simp only[sd,se] at c);refine A2 BA 1 [] O (A6 (⟨O,_,_,⟨_,_,O,O,O⟩,(List.nil_sublist _),?_⟩))
  all_goals exact⟨pB (dH c),rfl⟩
 (try simp only[sd,se] at c);refine A7 (A1 (A2 BA 1 [] O (BH (Bo (α:=Nat) (fun i=>⟨67,mk [(1,.ptr b1 0),(3,.p (I (i:Int)))],[.box b1 [.p (I l.const),.p (.lst (List.map EF l.vars))]],[]⟩) (fun i=>l.vars.length - i) (fun i=>i≤l.vars.length∧(C9 l.const l.vars 0=C9 l.const l.vars i)) 0 (⟨by omega,rfl⟩) ?_ ?_))))
 ·exact Bk ⟨we O,we O,Aw⟩ (leH (is:=[0]) O (wl (oe O) (DN)))
 rintro i hC
 try simp only at hC
 obtain⟨hi,hC⟩:=hC;refine A1 (A4 (A5 BA 3 [0] O (Ay O (BZ Ck O (List.length_map _)) (Az BA 1 [] O (A3 O (fun c1=>?_) (fun c1=>?_))))))
 ·(try simp only[sd,se] at c1);refine A7 (A1 (BH (A4 (A5 BA 3 [0] O ?_))));obtain⟨x,hx⟩:=BE (l:=l.vars) (i:=i) Au;refine Ay O (BC Ck O O Au (Cz hx) (O)) (Ay O (BQ Ld O (O)) (BP O (BF FZ O) fun b4=>Az BA 1 [0,1] O (A1 (A1 (Bi [1,3,4] 42 (fun y=>y= .p (.bool ((((decide ((x.index:Int)<(-65536:Int)))||(decide ((x.index:Int)≥(8:Int))))||(decide ((x.plus:Int)<(0:Int))))||(decide ((x.plus:Int) > (100:Int)))))) ?_ ?_)))))
  ·refine A8 (A5 BA 4 [0] O (Ba 28 O (fun g=>?_) (fun g=>?_)))
   ·(try simp only[sd,se] at g);exact Az BA 14 [] O (⟨O,O,AM,AJ,⟨O,O,O,Aw⟩⟩)
   (try simp only[sd,se] at g);refine A5 BA 5 [0] O (Ba 33 O (fun g1=>?_) (fun g1=>?_))
   ·(try simp only[sd,se] at g1);exact Az BA 9 [] O (⟨O,O,AM,AJ,⟨O,O,O,Aw⟩⟩)
   (try simp only[sd,se] at g1);refine A5 BA 5 [0] O (Ba 38 O (fun g2=>?_) (fun g2=>?_))
   ·(try simp only[sd,se] at g2);exact Az BA 4 [] O (⟨O,O,AM,AJ,⟨O,O,O,Aw⟩⟩)
   (try simp only[sd,se] at g2);exact Az BA 4 [0] O (⟨O,O,AM,AJ,⟨O,O,O,Aw⟩⟩)
  rintro _ rfl;refine A3 O (fun c2=>?_) (fun c2=>?_)
  ·(try simp only[sd,se] at c2);refine A2 BA 1 [] O (A6 (⟨O,_,_,⟨_,_,O,O,O⟩,(List.nil_sublist _),?_⟩))
   all_goals exact⟨pB (Ug hC (bw hx (br c2))),rfl⟩
  (try simp only[sd,se] at c2);refine A7 (A1 (A1 (Bi [1,3,4] 56 (fun y=>y= .p (.bool (!(JQ (Jp l.vars i) x.index)))) ?_ ?_)))
  ·refine B7 (fun k=>false) D7 (A0 O (fun _=>BB O) Aw (A0 O (fun _=>C4 O O O) Aw (A0 O (fun _=>BB O) Aw (EB 45 O (fun g=>?_) (fun g=>?_)))))
   ·(try simp only[sd,se] at g);refine Be O (fun _=>Ax Ea O O) Aw (Co (i:=1) O O O O O (fun H i hi=>BG (i:=i) Fp O hi O) AB Aw (Be O (fun _=>BB O) Aw (Be O (fun _=>IP O O Au Au) Aw ?_)));obtain⟨x1,hx1⟩:=BE (l:=l.vars) (i:=(((i:Int):Int) - (1:Int):Int).toNat) Au;exact Be O (fun _=>BC Ck O O Au (Cz hx1) (O)) Aw (Be O (fun _=>Bp Ep O O) Aw (Be O (fun _=>Ci C0 O) Aw (Be O (fun _=>Ax Ep O O) Aw (Co (i:=0) O O O O O (fun H i hi=>BG (i:=i) C0 O hi O) AB Aw (Be O (fun _=>C4 O O O) Aw (A0 O (fun _=>B2 O O) Aw (Bv O Ap (⟨O,O,AM,(by first | (refine pB ?_;exact(Na Au).symm) | (refine pB ?_;exact(O5 hx1 Au).symm)),⟨O,O,O,Aw⟩⟩))))))))
   (try simp only[sd,se] at g);exact BR O Aw (BR O Aw (BR O Aw (BR O Aw (BR O Aw (BR O Aw (BR O Aw (BR O Aw (BR O Aw (BR O Aw (A0 O (fun _=>B2 O O) Aw (Bv O Ap (⟨O,O,AM,(by first | (refine pB ?_;exact(Na Au).symm) | (refine pB ?_;exact(O5 hx1 Au).symm)),⟨O,O,O,Aw⟩⟩))))))))))))
  rintro _ rfl;refine A3 O (fun c3=>?_) (fun c3=>?_)
  ·(try simp only[sd,se] at c3);refine A2 BA 1 [] O (A6 (⟨O,_,_,⟨_,_,O,O,O⟩,(List.nil_sublist _),?_⟩))
   all_goals exact⟨pB (Ug hC (by rw[Oi hx];rw[c3];simp)),rfl⟩
  (try simp only[sd,se] at c3);refine A7 (A1 (Bi [1,3] 66 (fun y=>y= .p (.bool ((decide ((l.const:Int) > (0:Int)))&&(decide ((x.plus:Int)≥(l.const:Int)))))) ?_ ?_))
  ·refine A8 (A5 BA 4 [1] O (Ba 60 O (fun g=>?_) (fun g=>?_)))
   ·(try simp only[sd,se] at g);exact Az BA 6 [0,1] O (⟨O,O,AM,AJ,⟨O,O,Aw⟩⟩)
   (try simp only[sd,se] at g);exact Az BA 6 [] O (⟨O,O,AM,AJ,⟨O,O,Aw⟩⟩)
  rintro _ rfl;refine A3 O (fun c4=>?_) (fun c4=>?_)
  ·(try simp only[sd,se] at c4);refine A2 BA 1 [] O (A6 (⟨O,_,_,⟨_,_,O,O,O⟩,(List.nil_sublist _),?_⟩))
   all_goals exact⟨pB (Ug hC (bw hx (jF c4.1 c4.2))),rfl⟩
  (try simp only[sd,se] at c4);refine A7 (A8 (Az BA 3 [] O (⟨(i+1),AU,⟨by omega,(hC.trans (jP hx (Uo Au (by simpa using c4)) (by simpa using c3)))⟩,Bk ⟨we rfl,we rfl,trivial⟩ (leH (is:=[1]) rfl (wl (oe rfl) (DN)))⟩)))
 (try simp only[sd,se] at c1);refine Br (A2 BA 1 [] O (A6 (⟨O,_,_,⟨_,_,O,O,O⟩,(List.nil_sublist _),?_⟩)))
 all_goals exact⟨pB (iN Au Au hC Au),rfl⟩
theorem aO:∀(n:Int),Et Tryz.prog 187 [.p (I n)] (.agg ((CE (⟨n,[]⟩:Cl)).map .p)):=by
 intro n;refine BD Tryz.func187 O mn (n:=5) O O (A4 (BP O (BF Ef O) fun b2=>Bt O (A2 BA 3 [0,0] O (BS (Bj (i:=0) O) (A6 (⟨O,_,_,⟨_,_,O,(BJ (i:=0) DY O O O),O⟩,(List.nil_sublist _),?_⟩))))))
 all_goals exact⟨rfl,rfl⟩
theorem WZ:∀(l:List Cl),(l.length<Dt)→(∀x∈l,M6 x)→Et Tryz.prog 167 [.p (.lst (List.map CE l))] (.p (.bool (l.all CK))):=by
 intro l h1 h2;simp only[Dt] at h1;refine BD Tryz.func167 O mJ (n:=16) O O (A2 BA 1 [] O (A1 (A2 BA 1 [] O (BH ?_))));refine Bo (α:=Nat) (fun i=>⟨16,mk [(0,.p (.lst (List.map CE l))),(3,.p (I (i:Int)))],[],[]⟩) (fun i=>l.length - i) (fun i=>i≤l.length∧(∀j,j<i→∀y,l[j]?=some y→CK y=true)) 0 (⟨by omega,fun j h=>by omega⟩) ?_ ?_
 ·exact Bk ⟨we O,we O,Aw⟩ (leH (is:=[]) O (DN))
 rintro i hC
 try simp only at hC
 obtain⟨hi,hC⟩:=hC;refine A1 (A4 (A5 BA 2 [] O (Ay O (BZ En O (List.length_map _)) (Az BA 1 [] O (A3 O (fun c=>?_) (fun c=>?_))))))
 ·(try simp only[sd,se] at c);refine A7 (A1 (BH (A4 (A5 BA 2 [] O ?_))));obtain⟨x,hx⟩:=BE (l:=l) (i:=i) Au;refine Ay O (BC En O O Au (GC hx) (DT _)) (Ay O (BQ DY O (DT _)) (Ay O (BN O O (On x (h2 _ (List.mem_of_getElem? hx))) O) (Az BA 1 [] O (A3 O (fun c1=>?_) (fun c1=>?_)))))
  ·(try simp only[sd,se] at c1);refine A2 BA 1 [] O (A6 (⟨O,_,_,⟨_,_,O,O,O⟩,(List.nil_sublist _),?_⟩))
   all_goals exact⟨pB (iI hx (by simpa using c1)),rfl⟩
  (try simp only[sd,se] at c1);refine A7 (A8 (Az BA 3 [] O (⟨(i+1),AU,⟨by omega,DD (p:=fun _ (y:Cl)=>CK y=true) hC hx (by simpa using c1)⟩,Bk ⟨we rfl,we rfl,trivial⟩ (leH (is:=[]) rfl (DN))⟩)))
 (try simp only[sd,se] at c);refine Br (A2 BA 1 [] O (A6 (⟨O,_,_,⟨_,_,O,O,O⟩,(List.nil_sublist _),?_⟩)))
 all_goals exact⟨pB (eS fun j hj=>hC j Au),rfl⟩
theorem Z2:∀(l:Cl),(M6 l)→Et Tryz.prog 168 [.agg ((CE l).map .p)] (.p (I (Gj l))):=by
 intro l h1;have hl:=h1.vars;simp only[Dt] at hl;refine BD Tryz.func168 O pP (n:=23) O O (A4 (BP O (Bf O) fun b1=>Az BA 1 [] O (A1 (A1 (Bi [1] 11 (fun y=>y= .p (.bool ((!(CK l))||(((l.vars.length:Nat):Int)==(0:Int))))) ?_ ?_)))))
 ·refine A8 (Ay O (BI (i:=0) DY O O O) (Ay O (BN O O (On (Cl.mk l.const l.vars) h1) O) (A5 BA 2 [] O (Ba 6 O (fun g=>?_) (fun g=>?_)))))
  ·(try simp only[sd,se] at g);exact Az BA 5 [] O (⟨O,O,AM,AJ,⟨O,Aw⟩⟩)
  (try simp only[sd,se] at g);exact A5 BA 2 [0] O (BM O (BZ Ck O (List.length_map _)) (Az BA 2 [] O (⟨O,O,AM,AJ,⟨O,Aw⟩⟩)))
 rintro _ rfl;refine A3 O (fun c=>?_) (fun c=>?_)
 ·(try simp only[sd,se] at c);refine A2 BA 1 [] O (A6 (⟨O,_,_,⟨_,_,O,O,O⟩,(List.nil_sublist _),?_⟩))
  all_goals exact⟨pI (WQ (by simpa using c)),rfl⟩
 (try simp only[sd,se] at c);obtain⟨hv,hn⟩:CK l=true∧l.vars.length≠0:=by simpa using c
 refine A7 (A4 (A5 BA 4 [0,0] O (Ay O (BZ Ck O (List.length_map _)) (Ay O (IP O O Au Au) ?_))));obtain⟨x,hx⟩:=BE (l:=l.vars) (i:=(((l.vars.length:Nat):Int) - (1:Int):Int).toNat) Au;have hw:=LI hv hx;refine Ay O (BC Ck O O Au (Cz hx) (O)) (A5 BA 3 [] O (Ay O (Ff O O) (Az BA 1 [] O (A6 (⟨O,_,_,⟨_,_,O,O,O⟩,(List.nil_sublist _),?_⟩)))))
 all_goals exact⟨pI (Wk hv hx Au),rfl⟩
theorem _root_.Go.AG {α:Prop}(h:α:=by simp only[List.length_map,List.length_append,List.length_take,List.length_cons,List.length_nil];omega):α:=h
theorem _root_.Go.Al {α:Prop}(h:α:=by simp[DT]):α:=h
theorem iF:∀(l:Cl) (n:Int),(M6 l)→Et Tryz.prog 188 [.agg ((CE l).map .p),.p (I n)] (.tup [.agg ((CE ((FK l n).1)).map .p),.p (I ((FK l n).2))]):=by
 intro l n h1;have hl:=h1.vars;simp only[Dt] at hl;refine BD Tryz.func188 O ox (n:=75) O O (A4 (BP O (Bf O) fun b2=>BP O (BF Ef O) fun b4=>Az BA 1 [] O (A1 (A4 (Ay O (BI (i:=1) DY O O Al) (Ay O (BN O O (On l h1) O) (Az BA 1 [] O (A3 O (fun c=>?_) (fun c=>?_)))))))))
 ·(try simp only[sd,se] at c);refine A2 BA 3 [0,0] O (BS (Bj (i:=0) O) (A6 (⟨O,_,_,⟨_,_,O,(BJ (i:=0) DY O O O),⟨_,_,O,O,O⟩⟩,(List.nil_sublist _),?_⟩)))
  all_goals exact⟨by show (.tup [.agg [.p (I 0),.p (.lst [])],.p (I 3)]:AV)=_;rw[sV (by simpa using c)];rfl,rfl⟩
 (try simp only[sd,se] at c);have hv:CK l=true:=by simpa using c
 have hv0:=Wc hv;refine A7 (A1 (A2 BA 2 [] O (A3 O (fun c1=>?_) (fun c1=>?_))))
 ·(try simp only[sd,se] at c1);refine A2 BA 3 [0,0] O (BS (Bj (i:=0) O) (A6 (⟨O,_,_,⟨_,_,O,(BJ (i:=0) DY O O O),⟨_,_,O,O,O⟩⟩,(List.nil_sublist _),?_⟩)))
  all_goals exact⟨by show (.tup [.agg [.p (I 0),.p (.lst [])],.p (I 2)]:AV)=_;rw[sg hv c1];rfl,rfl⟩
 (try simp only[sd,se] at c1);refine A7 (A1 (A2 BA 2 [] O (A3 O (fun c2=>?_) (fun c2=>?_))))
 ·(try simp only[sd,se] at c2);refine A2 BA 3 [0,0] O (BS (Bj (i:=0) O) (A6 (⟨O,_,_,⟨_,_,O,(BJ (i:=0) DY O O O),⟨_,_,O,O,O⟩⟩,(List.nil_sublist _),?_⟩)))
  all_goals exact⟨by show (.tup [.agg [.p (I 0),.p (.lst [])],.p (I 15)]:AV)=_;rw[s4 hv Au c2];rfl,rfl⟩
 (try simp only[sd,se] at c2);refine A7 (A4 (Ay O (CB Ea Ef O) (BP O (BF Ef O) fun b6=>Az BA 1 [0,0] O (A1 (A1 (Bi [1,2,4,6] 27 (fun y=>y= .p (.bool ((decide ((l.const:Int) > (0:Int)))||(((l.vars.length:Nat):Int)==(0:Int))))) ?_ ?_))))))
 ·refine A8 (A5 BA 4 [2] O (Ba 22 O (fun g=>?_) (fun g=>?_)))
  ·(try simp only[sd,se] at g);exact Az BA 5 [] O (⟨O,O,AM,AJ,⟨O,O,O,O,Aw⟩⟩)
  (try simp only[sd,se] at g);exact A5 BA 2 [2] O (BM O (BZ Ck O (List.length_map _)) (Az BA 2 [] O (⟨O,O,AM,AJ,⟨O,O,O,O,Aw⟩⟩)))
 rintro _ rfl;refine A3 O (fun c3=>?_) (fun c3=>?_)
 ·(try simp only[sd,se] at c3);refine A8 (Az BA 6 [2,0,0] O (A1 (A2 BA 3 [0] O (A3 O (fun c4=>?_) (fun c4=>?_)))))
  ·(try simp only[sd,se] at c4);refine A2 BA 3 [1,0] O (BS (Bj (i:=1) O) (A6 (⟨O,_,_,⟨_,_,O,(BJ (i:=1) DY O O O),⟨_,_,O,O,O⟩⟩,(List.nil_sublist _),?_⟩)))
   all_goals exact⟨by show (.tup [.agg [.p (I 0),.p (.lst [])],.p (I 15)]:AV)=_;rw[tA hv Au Au (by rw[Md Au];omega)];rfl,rfl⟩
  (try simp only[sd,se] at c4);refine A7 (A1 (A4 (CH (Hw (i:=0) O (YA (aw (we O) (aw (JJ) (FH))))) (CH (H8 (sz:=2)) (Az BA 1 [] O (BH ?_))))));refine Bo (α:=Nat×Option Nat×Nat) (fun(i,o,cp)=>⟨75,mk [(1,.p (I n)),(2,.ptr b2 0),(4,.ptr b4 0),(6,.ptr b6 0),(7,.p (I (i:Int)))],[.vec o 2 (List.map EF ((l.vars.take i).map (No n))) cp,.box b6 [.p (I ((l.const:Int)+(n:Int))),.vs o (List.map EF ((l.vars.take i).map (No n))).length cp],.box b4 [.p (I 0),.p (.nils)],.box b2 [.p (I l.const),.p (.lst (List.map EF l.vars))]],[]⟩) (fun(i,o,cp)=>l.vars.length - i) (fun(i,o,cp)=>i≤l.vars.length∧(∀j,j<i→∀y,l.vars[j]?=some y→¬100<y.plus+n)) ⟨0,none,0⟩ (⟨by omega,fun j h=>by omega⟩) ?_ ?_
  ·exact Bk ⟨we O,we O,we O,we O,we O,Aw⟩ (leH (is:=[0,1,2,3]) O (wl (oe O) (wl (oe O) (wl (oe O) (wl (oe O) (DN))))))
  rintro⟨i,o,cp⟩ hC
  try simp only at hC
  obtain⟨hi,hC⟩:=hC;refine A1 (A4 (A5 BA 3 [3] O (Ay O (BZ Ck O (List.length_map _)) (Az BA 1 [] O (A3 O (fun c5=>?_) (fun c5=>?_))))))
  ·(try simp only[sd,se] at c5);refine A7 (A1 (BH (A1 (A4 (A5 BA 3 [3] O ?_)))));obtain⟨x,hx⟩:=BE (l:=l.vars) (i:=i) Au;have hw:=LI hv hx;refine Ay O (BC Ck O O Au (Cz hx) (O)) (Az BA 5 [] O (A3 O (fun c6=>?_) (fun c6=>?_)))
   ·(try simp only[sd,se] at c6);refine A2 BA 3 [2,0] O (BS (Bj (i:=2) O) (A6 (⟨O,_,_,⟨_,_,O,(BJ (i:=2) DY O O O),⟨_,_,O,O,O⟩⟩,(List.nil_sublist _),?_⟩)))
    all_goals exact⟨by show (.tup [.agg [.p (I 0),.p (.lst [])],.p (I 15)]:AV)=_;rw[sB hv Au Au (by rw[Md Au];omega) hx c6];rfl,rfl⟩
   (try simp only[sd,se] at c6);refine A7 (B7 (fun k=>Nat.beq k 18) D7 (A0 O (fun _=>Ax Ea O O) Aw (BT (j:=1) O O O (fun H i hi=>BG (i:=i) Fp O hi O) AB Aw (A0 O (fun _=>Ax Ea O O) Aw (BT (j:=3) O O O (fun H i hi=>BG (i:=i) Fp O hi O) AB Aw (A0 O (fun _=>BB O) Aw (A0 O (fun _=>BC Ck O O Au (Cz hx) (O)) Aw (A0 O (fun _=>Bp Ep O O) Aw (A0 O (fun _=>Ci C0 O) Aw (A0 O (fun _=>Ax Ea O O) Aw (BT (j:=3) O O O (fun H i hi=>BG (i:=i) Fp O hi O) AB Aw (A0 O (fun _=>BB O) Aw (A0 O (fun _=>BC Ck O O Au (Cz hx) (O)) Aw (A0 O (fun _=>Bp Ep O O) Aw (A0 O (fun _=>Ci C0 O) Aw (A0 O (fun _=>BB O) Aw ?_))))))))))))))));refine A0 O (fun _=>ET O O Au Au) Aw (A0 O (fun _=>CB Ep FZ O) Aw (A0 O (fun _=>B0 Ck FZ O O O O O) Aw (LS [] O O (Cb (i:=0) (rows':=List.map EF [(CR.mk x.index ((x.plus:Int)+(n:Int)))]) Ck Ck FZ O O O O O O (Ga _) AG (GW (f:=EF) ((l.vars.take i).map (No n)) [(CR.mk x.index ((x.plus:Int)+(n:Int)))])) Ap fun o1 cp1=>⟨AB,Aw,?_⟩)));refine A0 O (fun _=>Ax Ea O O) Aw (CF O O (CO (i:=1) Fp O O O O O O) AB Aw (Bv O Ap (A8 (Az BA 3 [] O (⟨⟨i+1,o1,cp1⟩,AU,⟨by omega,DD (p:=fun _ (y:CR)=>¬100<y.plus+n) hC hx Au⟩,Bk ⟨we rfl,we rfl,we rfl,we rfl,we rfl,trivial⟩ (leH (is:=[0,1,2,3]) rfl (wl (F5 (f:=EF) ((l.vars.take i).map (No n)++[(CR.mk x.index ((x.plus:Int)+(n:Int)))]) (by rw[List.take_add_one,hx];simp[No])) (wl (YA (aw (we rfl) (aw (we (Gg (f:=EF) ((l.vars.take i).map (No n)++[(CR.mk x.index ((x.plus:Int)+(n:Int)))]) (by rw[List.take_add_one,hx];simp[No]))) (FH)))) (wl (oe rfl) (wl (oe rfl) (DN))))))⟩)))))
  (try simp only[sd,se] at c5);refine Br (A4 (CH (Df (i:=0) (j:=1) (q:=1) [] O O O (EH Aw)) (Az BA 3 [0,1,0] O (A6 (⟨O,_,_,⟨_,_,O,(BJ (i:=1) DY O O O),⟨_,_,O,O,O⟩⟩,(List.nil_sublist _),?_⟩)))))
  all_goals exact⟨by show (.tup [.agg [.p (I ((l.const:Int)+(n:Int))),.p (.lst (List.map EF ((l.vars.take i).map (No n))))],.p (I 0)]:AV)=_;rw[sJ hv Au Au (by rw[Md Au];omega) fun j hj=>hC j Au,Md Au,List.take_of_length_le Au];rfl,rfl⟩
 (try simp only[sd,se] at c3);refine A7 (A1 (A2 BA 3 [0] O (A3 O (fun c4=>?_) (fun c4=>?_))))
 ·(try simp only[sd,se] at c4);refine A2 BA 3 [1,0] O (BS (Bj (i:=1) O) (A6 (⟨O,_,_,⟨_,_,O,(BJ (i:=1) DY O O O),⟨_,_,O,O,O⟩⟩,(List.nil_sublist _),?_⟩)))
  all_goals exact⟨by show (.tup [.agg [.p (I 0),.p (.lst [])],.p (I 15)]:AV)=_;exfalso;simp at c4,rfl⟩
 (try simp only[sd,se] at c4);refine A7 (A1 (A4 (CH (Hw (i:=0) O (YA (aw (we O) (aw (JJ) (FH))))) (CH (H8 (sz:=2)) (Az BA 1 [] O (BH ?_))))));refine Bo (α:=Nat×Option Nat×Nat) (fun(i,o,cp)=>⟨75,mk [(1,.p (I n)),(2,.ptr b2 0),(4,.ptr b4 0),(6,.ptr b6 0),(7,.p (I (i:Int)))],[.vec o 2 (List.map EF ((l.vars.take i).map (No n))) cp,.box b6 [.p (I 0),.vs o (List.map EF ((l.vars.take i).map (No n))).length cp],.box b4 [.p (I 0),.p (.nils)],.box b2 [.p (I l.const),.p (.lst (List.map EF l.vars))]],[]⟩) (fun(i,o,cp)=>l.vars.length - i) (fun(i,o,cp)=>i≤l.vars.length∧(∀j,j<i→∀y,l.vars[j]?=some y→¬100<y.plus+n)) ⟨0,none,0⟩ (⟨by omega,fun j h=>by omega⟩) ?_ ?_
 ·exact Bk ⟨we O,we O,we O,we O,we O,Aw⟩ (leH (is:=[0,1,2,3]) O (wl (oe O) (wl (oe O) (wl (oe O) (wl (oe O) (DN))))))
 rintro⟨i,o,cp⟩ hC
 try simp only at hC
 obtain⟨hi,hC⟩:=hC;refine A1 (A4 (A5 BA 3 [3] O (Ay O (BZ Ck O (List.length_map _)) (Az BA 1 [] O (A3 O (fun c5=>?_) (fun c5=>?_))))))
 ·(try simp only[sd,se] at c5);refine A7 (A1 (BH (A1 (A4 (A5 BA 3 [3] O ?_)))));obtain⟨x,hx⟩:=BE (l:=l.vars) (i:=i) Au;have hw:=LI hv hx;refine Ay O (BC Ck O O Au (Cz hx) (O)) (Az BA 5 [] O (A3 O (fun c6=>?_) (fun c6=>?_)))
  ·(try simp only[sd,se] at c6);refine A2 BA 3 [2,0] O (BS (Bj (i:=2) O) (A6 (⟨O,_,_,⟨_,_,O,(BJ (i:=2) DY O O O),⟨_,_,O,O,O⟩⟩,(List.nil_sublist _),?_⟩)))
   all_goals exact⟨by show (.tup [.agg [.p (I 0),.p (.lst [])],.p (I 15)]:AV)=_;rw[sB hv Au Au (by rw[Pf Au];omega) hx c6];rfl,rfl⟩
  (try simp only[sd,se] at c6);refine A7 (B7 (fun k=>Nat.beq k 18) D7 (A0 O (fun _=>Ax Ea O O) Aw (BT (j:=1) O O O (fun H i hi=>BG (i:=i) Fp O hi O) AB Aw (A0 O (fun _=>Ax Ea O O) Aw (BT (j:=3) O O O (fun H i hi=>BG (i:=i) Fp O hi O) AB Aw (A0 O (fun _=>BB O) Aw (A0 O (fun _=>BC Ck O O Au (Cz hx) (O)) Aw (A0 O (fun _=>Bp Ep O O) Aw (A0 O (fun _=>Ci C0 O) Aw (A0 O (fun _=>Ax Ea O O) Aw (BT (j:=3) O O O (fun H i hi=>BG (i:=i) Fp O hi O) AB Aw (A0 O (fun _=>BB O) Aw (A0 O (fun _=>BC Ck O O Au (Cz hx) (O)) Aw (A0 O (fun _=>Bp Ep O O) Aw (A0 O (fun _=>Ci C0 O) Aw (A0 O (fun _=>BB O) Aw ?_))))))))))))))));refine A0 O (fun _=>ET O O Au Au) Aw (A0 O (fun _=>CB Ep FZ O) Aw (A0 O (fun _=>B0 Ck FZ O O O O O) Aw (LS [] O O (Cb (i:=0) (rows':=List.map EF [(CR.mk x.index ((x.plus:Int)+(n:Int)))]) Ck Ck FZ O O O O O O (Ga _) AG (GW (f:=EF) ((l.vars.take i).map (No n)) [(CR.mk x.index ((x.plus:Int)+(n:Int)))])) Ap fun o1 cp1=>⟨AB,Aw,?_⟩)));refine A0 O (fun _=>Ax Ea O O) Aw (CF O O (CO (i:=1) Fp O O O O O O) AB Aw (Bv O Ap (A8 (Az BA 3 [] O (⟨⟨i+1,o1,cp1⟩,AU,⟨by omega,DD (p:=fun _ (y:CR)=>¬100<y.plus+n) hC hx Au⟩,Bk ⟨we rfl,we rfl,we rfl,we rfl,we rfl,trivial⟩ (leH (is:=[0,1,2,3]) rfl (wl (F5 (f:=EF) ((l.vars.take i).map (No n)++[(CR.mk x.index ((x.plus:Int)+(n:Int)))]) (by rw[List.take_add_one,hx];simp[No])) (wl (YA (aw (we rfl) (aw (we (Gg (f:=EF) ((l.vars.take i).map (No n)++[(CR.mk x.index ((x.plus:Int)+(n:Int)))]) (by rw[List.take_add_one,hx];simp[No]))) (FH)))) (wl (oe rfl) (wl (oe rfl) (DN))))))⟩)))))
 (try simp only[sd,se] at c5);refine Br (A4 (CH (Df (i:=0) (j:=1) (q:=1) [] O O O (EH Aw)) (Az BA 3 [0,1,0] O (A6 (⟨O,_,_,⟨_,_,O,(BJ (i:=1) DY O O O),⟨_,_,O,O,O⟩⟩,(List.nil_sublist _),?_⟩)))))
 all_goals exact⟨by show (.tup [.agg [.p (I 0),.p (.lst (List.map EF ((l.vars.take i).map (No n))))],.p (I 0)]:AV)=_;rw[sJ hv Au Au (by rw[Pf Au];omega) fun j hj=>hC j Au,Pf Au,List.take_of_length_le Au];rfl,rfl⟩
theorem ld:∀(b0:Nat) (l:Cl) (x:CR),B4 Tryz.prog 196 [.agg ((EF x).map .p),.ptr b0 0] [.box b0 ((CE l).map .p)] (Gx (.p (.bool (decide (l.const≤x.plus)))) [.box b0 ((CE l).map .p)]):=by
 intro b0 l x;refine BD Tryz.func196 O mO (n:=9) O O (A4 (BP O (Bf O) fun b2=>Az BA 1 [] O (A2 BA 6 [0,1] O (A6 (⟨O,_,_,⟨_,_,O,O,O⟩,(CJ (is:=[1]) O),?_⟩)))))
 all_goals exact⟨rfl,rfl⟩
theorem lS:∀(b0:Nat) (l:Cl) (vs:List CR),(vs.length<Dt)→B4 Tryz.prog 200 [.p (.lst (List.map EF vs)),.fn (.func 196) [] [.ptr b0 0]] [.box b0 ((CE l).map .p)] (Gx (.p (I (NS (fun v=>decide (l.const≤v.plus)) vs 0))) [.box b0 ((CE l).map .p)]):=by
 intro b0 l vs h1;simp only[Dt] at h1;refine BD Tryz.func200 O mW (n:=19) O O (A2 BA 1 [] O (A1 (A4 (B6 O (Ay O (BZ Ck O (List.length_map _)) (Az BA 1 [] O (BH (Bo (α:=Nat) (fun i=>⟨19,mk [(0,.p (.lst (List.map EF vs))),(1,.fn (.func 196) [] [.ptr b0 0]),(7,.p (I (vs.length:Nat))),(8,.p (I (i:Int)))],[.box b0 ((CE l).map .p)],[]⟩) (fun i=>vs.length - i) (fun i=>i≤vs.length∧(NS (fun v=>decide (l.const≤v.plus)) (vs.drop i) i=NS (fun v=>decide (l.const≤v.plus)) vs 0)) 0 (⟨by omega,rfl⟩) ?_ ?_))))))))
 ·exact Bk ⟨we O,we O,we O,we O,Aw⟩ (leH (is:=[0]) O (wl (oe O) (DN)))
 rintro i hC
 try simp only at hC
 obtain⟨hi,hC⟩:=hC;refine A2 BA 1 [] O (A1 (A3 O (fun c=>?_) (fun c=>?_)))
 ·(try simp only[sd,se] at c);refine A7 (A1 (BH (A2 BA 2 [] O (A4 (A5 BA 3 [] O ?_)))));obtain⟨x,hx⟩:=BE (l:=vs) (i:=i) Au;refine Ay O (BC Ck O O Au (Cz hx) (O)) (Ay O (BQ Ld O (O)) (Ay O (CS [0] O (.inr O) (ld b0 l x) ⟨_,_,O,O,O⟩ As O (.inl O)) (Bt O (A3 O (fun c1=>?_) (fun c1=>?_)))))
  ·(try simp only[sd,se] at c1);refine A2 BA 2 [] O (A6 (⟨O,_,_,⟨_,_,O,O,O⟩,(CJ (is:=[0]) O),?_⟩))
   all_goals exact⟨by show (.p (I (i:Int)):AV)=_;rw[←hC,Ua hx,if_pos (by simpa using c1)],rfl⟩
  (try simp only[sd,se] at c1);refine A7 (A8 (Az BA 2 [] O ?_));refine⟨(i+1),AU,⟨by omega,by rw[←hC,Ua hx,if_neg (by simpa using c1)];rfl⟩,Bk ⟨we rfl,we rfl,we rfl,we rfl,trivial⟩ (leH (is:=[0]) rfl (wl (oe rfl) (DN)))⟩
 (try simp only[sd,se] at c);refine Br (A2 BA 1 [] O (A6 (⟨O,_,_,⟨_,_,O,O,O⟩,(CJ (is:=[0]) O),?_⟩)))
 all_goals exact⟨by show (.p (I (-1)):AV)=_;rw[←hC,List.drop_eq_nil_of_le Au];rfl,rfl⟩
theorem kx:∀(b0:Nat) (l:Cl) (vs:List CR),(vs.length<Dt)→B4 Tryz.prog 195 [.p (.lst (List.map EF vs)),.fn (.func 196) [] [.ptr b0 0]] [.box b0 ((CE l).map .p)] (Gx (.p (.bool (vs.any (fun v=>decide (l.const≤v.plus))))) [.box b0 ((CE l).map .p)]):=by
 intro b0 l vs h1;refine BD Tryz.func195 O mR (n:=9) O O (A2 BA 1 [] O (A4 (A5 BA 2 [] O (Ay O (CS [0] O (.inl ⟨O,O,O⟩) (lS b0 l vs h1) ⟨_,_,O,O,O⟩ As O (.inl O)) (Az BA 2 [] O (A6 (⟨O,_,_,⟨_,_,O,O,O⟩,(CJ (is:=[0]) O),?_⟩)))))))
 all_goals exact⟨by show (.p (.bool (decide ((NS (fun v=>decide (l.const≤v.plus)) vs 0:Int)≥(0:Int)))):AV)=_;rw[←Uh vs 0 Au],rfl⟩
theorem R8:∀(l:Cl),(l.vars.length<Dt)→Et Tryz.prog 190 [.agg ((CE l).map .p)] (.p (.bool (QI l))):=by
 intro l h1;refine BD Tryz.func190 O mH (n:=7) O O (A4 (BP O (Bf O) fun b1=>Az BA 1 [] O (A4 (A5 BA 3 [0] O (Ay O (CS [0] O (.inl ⟨O,O,O⟩) (kx b1 l l.vars h1) ⟨_,_,O,O,O⟩ As O (.inl O)) (Az BA 1 [] O (A6 (⟨O,_,_,⟨_,_,O,O,O⟩,(List.nil_sublist _),?_⟩))))))))
 all_goals exact⟨rfl,rfl⟩
theorem Q6:∀(l:Cl),(M6 l)→Et Tryz.prog 180 [.agg ((CE l).map .p)] (.p (.bool (CK l))):=by
 intro l h1;have hl:=h1.vars;simp only[Dt] at hl;refine BD Tryz.func180 O oL (n:=65) O O (A4 (BP O (Bf O) fun b1=>Az BA 1 [] O (A1 (A1 (Bi [1] 21 (fun y=>y= .p (.bool (((decide ((l.const:Int)<(0:Int)))||(decide ((l.const:Int) > (100:Int))))||((decide ((l.const:Int) > (0:Int)))&&(QI (Cl.mk l.const l.vars)))))) ?_ ?_)))))
 ·refine A8 (A5 BA 4 [0] O (Ba 8 O (fun g=>?_) (fun g=>?_)))
  ·(try simp only[sd,se] at g);exact Az BA 13 [] O (⟨O,O,AM,AJ,⟨O,Aw⟩⟩)
  (try simp only[sd,se] at g);refine A5 BA 5 [0] O (Ba 13 O (fun g1=>?_) (fun g1=>?_))
  ·(try simp only[sd,se] at g1);exact Az BA 8 [] O (⟨O,O,AM,AJ,⟨O,Aw⟩⟩)
  (try simp only[sd,se] at g1);refine A5 BA 4 [0] O (Ba 17 O (fun g2=>?_) (fun g2=>?_))
  ·(try simp only[sd,se] at g2);exact BM O (BI (i:=0) DY O O O) (BM O (BN O O (R8 (Cl.mk l.const l.vars) h1.vars) O) (Az BA 2 [] O (⟨O,O,AM,AJ,⟨O,Aw⟩⟩)))
  (try simp only[sd,se] at g2);exact Az BA 4 [] O (⟨O,O,AM,AJ,⟨O,Aw⟩⟩)
 rintro _ rfl;refine A3 O (fun c=>?_) (fun c=>?_)
 ·(try simp only[sd,se] at c);refine A2 BA 1 [] O (A6 (⟨O,_,_,⟨_,_,O,O,O⟩,(List.nil_sublist _),?_⟩))
  all_goals exact⟨pB (lP c),rfl⟩
 (try simp only[sd,se] at c);refine A7 (A1 (A4 (A5 BA 2 [0] O (Ay O (BZ Ck O (List.length_map _)) (Az BA 1 [] O (BH (Bo (α:=Nat) (fun i=>⟨65,mk [(1,.ptr b1 0),(23,.p (.lst (List.map EF l.vars))),(24,.p (I (l.vars.length:Nat))),(25,.p (I (i:Int)))],[.box b1 [.p (I l.const),.p (.lst (List.map EF l.vars))]],[]⟩) (fun i=>l.vars.length - i) (fun i=>i≤l.vars.length∧(C9 0 l.vars 0=C9 0 l.vars i)) 0 (⟨by omega,rfl⟩) ?_ ?_)))))))
 ·exact Bk ⟨we O,we O,we O,we O,Aw⟩ (leH (is:=[0]) O (wl (oe O) (DN)))
 rintro i hC
 try simp only at hC
 obtain⟨hi,hC⟩:=hC;refine A2 BA 1 [] O (A1 (A3 O (fun c1=>?_) (fun c1=>?_)))
 ·(try simp only[sd,se] at c1);refine A7 (A1 (BH (A4 (B6 O ?_))));obtain⟨x,hx⟩:=BE (l:=l.vars) (i:=i) Au;refine Ay O (BC Ck O O Au (Cz hx) (O)) (Ay O (BQ Ld O (O)) (BP O (BF FZ O) fun b4=>Az BA 2 [0,1] O (A1 (Bi [1,23,24,25] 63 (fun y=>y= .p (.bool (!(Ud 0 x&&JQ (Jp l.vars i) x.index)))) ?_ ?_))))
  ·refine B7 (fun k=>false) D7 (A0 O (fun _=>Ax Ep O O) Aw (BT (j:=0) O O O (fun H i hi=>BG (i:=i) C0 O hi O) AB Aw (A0 O (fun _=>C4 O O O) Aw (A0 O (fun _=>BB O) Aw (EB 33 O (fun g=>?_) (fun g=>?_))))))
   ·(try simp only[sd,se] at g);exact BR O Aw (BR O Aw (BR O Aw (A0 O (fun _=>B2 O O) Aw (A0 O (fun _=>BB O) Aw (BR O Aw (BR O Aw (BR O Aw (A0 O (fun _=>B2 O O) Aw (A0 O (fun _=>BB O) Aw (BR O Aw (BR O Aw (BR O Aw (A0 O (fun _=>B2 O O) Aw (A0 O (fun _=>BB O) Aw (BR O Aw (BR O Aw (BR O Aw (CM O O O O Aw (CM O O O O Aw (CM O O O O Aw (CM O O O O Aw (CM O O O O Aw (CM O O O O Aw (CM O O O O Aw (CM O O O O Aw (CM O O O O Aw (CM O O O O Aw (BR O Aw (A0 O (fun _=>B2 O O) Aw (Bv O Ap (⟨O,O,AM,(by first | exact pB (Ox Au) | exact pB (MQ Au Au) | exact pB (TD hx1 Au Au)),⟨O,O,O,O,Aw⟩⟩)))))))))))))))))))))))))))))))
   (try simp only[sd,se] at g);refine Be O (fun _=>Ax Ep O O) Aw (Co (i:=0) O O O O O (fun H i hi=>BG (i:=i) C0 O hi O) AB Aw (Be O (fun _=>C4 O O O) Aw (A0 O (fun _=>B2 O O) Aw (A0 O (fun _=>BB O) Aw (EB 38 O (fun g1=>?_) (fun g1=>?_))))))
   ·(try simp only[sd,se] at g1);exact BR O Aw (BR O Aw (BR O Aw (A0 O (fun _=>B2 O O) Aw (A0 O (fun _=>BB O) Aw (BR O Aw (BR O Aw (BR O Aw (A0 O (fun _=>B2 O O) Aw (A0 O (fun _=>BB O) Aw (BR O Aw (BR O Aw (BR O Aw (CM O O O O Aw (CM O O O O Aw (CM O O O O Aw (CM O O O O Aw (CM O O O O Aw (CM O O O O Aw (CM O O O O Aw (CM O O O O Aw (CM O O O O Aw (CM O O O O Aw (BR O Aw (A0 O (fun _=>B2 O O) Aw (Bv O Ap (⟨O,O,AM,(by first | exact pB (Ox Au) | exact pB (MQ Au Au) | exact pB (TD hx1 Au Au)),⟨O,O,O,O,Aw⟩⟩))))))))))))))))))))))))))
   (try simp only[sd,se] at g1);refine Be O (fun _=>Ax Ep O O) Aw (Co (i:=0) O O O O O (fun H i hi=>BG (i:=i) C0 O hi O) AB Aw (Be O (fun _=>C4 O O O) Aw (A0 O (fun _=>B2 O O) Aw (A0 O (fun _=>BB O) Aw (EB 43 O (fun g2=>?_) (fun g2=>?_))))))
   ·(try simp only[sd,se] at g2);exact BR O Aw (BR O Aw (BR O Aw (A0 O (fun _=>B2 O O) Aw (A0 O (fun _=>BB O) Aw (BR O Aw (BR O Aw (BR O Aw (CM O O O O Aw (CM O O O O Aw (CM O O O O Aw (CM O O O O Aw (CM O O O O Aw (CM O O O O Aw (CM O O O O Aw (CM O O O O Aw (CM O O O O Aw (CM O O O O Aw (BR O Aw (A0 O (fun _=>B2 O O) Aw (Bv O Ap (⟨O,O,AM,(by first | exact pB (Ox Au) | exact pB (MQ Au Au) | exact pB (TD hx1 Au Au)),⟨O,O,O,O,Aw⟩⟩)))))))))))))))))))))
   (try simp only[sd,se] at g2);refine Be O (fun _=>Ax Ep O O) Aw (Co (i:=0) O O O O O (fun H i hi=>BG (i:=i) C0 O hi O) AB Aw (Be O (fun _=>C4 O O O) Aw (A0 O (fun _=>B2 O O) Aw (A0 O (fun _=>BB O) Aw (EB 48 O (fun g3=>?_) (fun g3=>?_))))))
   ·(try simp only[sd,se] at g3);exact BR O Aw (BR O Aw (BR O Aw (CM O O O O Aw (CM O O O O Aw (CM O O O O Aw (CM O O O O Aw (CM O O O O Aw (CM O O O O Aw (CM O O O O Aw (CM O O O O Aw (CM O O O O Aw (CM O O O O Aw (BR O Aw (A0 O (fun _=>B2 O O) Aw (Bv O Ap (⟨O,O,AM,(by first | exact pB (Ox Au) | exact pB (MQ Au Au) | exact pB (TD hx1 Au Au)),⟨O,O,O,O,Aw⟩⟩))))))))))))))))
   (try simp only[sd,se] at g3);refine Be O (fun _=>BB O) Aw (Be O (fun _=>C4 O O O) Aw (Be O (fun _=>BB O) Aw (EB 51 O (fun g4=>?_) (fun g4=>?_))))
   ·(try simp only[sd,se] at g4);refine Be O (fun _=>Ax Ea O O) Aw (Co (i:=1) O O O O O (fun H i hi=>BG (i:=i) Fp O hi O) AB Aw (Be O (fun _=>BB O) Aw (Be O (fun _=>IP O O Au Au) Aw ?_)));obtain⟨x1,hx1⟩:=BE (l:=l.vars) (i:=(((i:Int):Int) - (1:Int):Int).toNat) Au;exact Be O (fun _=>BC Ck O O Au (Cz hx1) (O)) Aw (Be O (fun _=>Bp Ep O O) Aw (Be O (fun _=>Ci C0 O) Aw (Be O (fun _=>Ax Ep O O) Aw (Co (i:=0) O O O O O (fun H i hi=>BG (i:=i) C0 O hi O) AB Aw (Be O (fun _=>C4 O O O) Aw (Be O (fun _=>B2 O O) Aw (A0 O (fun _=>B2 O O) Aw (Bv O Ap (⟨O,O,AM,(by first | exact pB (Ox Au) | exact pB (MQ Au Au) | exact pB (TD hx1 Au Au)),⟨O,O,O,O,Aw⟩⟩)))))))))
   (try simp only[sd,se] at g4);exact BR O Aw (BR O Aw (BR O Aw (BR O Aw (BR O Aw (BR O Aw (BR O Aw (BR O Aw (BR O Aw (BR O Aw (Be O (fun _=>B2 O O) Aw (A0 O (fun _=>B2 O O) Aw (Bv O Ap (⟨O,O,AM,(by first | exact pB (Ox Au) | exact pB (MQ Au Au) | exact pB (TD hx1 Au Au)),⟨O,O,O,O,Aw⟩⟩)))))))))))))
  rintro _ rfl;refine A3 O (fun c2=>?_) (fun c2=>?_)
  ·(try simp only[sd,se] at c2);refine A2 BA 1 [] O (A6 (⟨O,_,_,⟨_,_,O,O,O⟩,(List.nil_sublist _),?_⟩))
   all_goals exact⟨pB (jX hC (by rw[Oi hx];simp at c2 ⊢;intro q1 q2;simp[c2 q1] at q2)),rfl⟩
  (try simp only[sd,se] at c2);refine A7 (A8 (Az BA 2 [] O (⟨(i+1),AU,⟨by omega,(hC.trans (by rw[Oi hx,c2.1,c2.2];rfl))⟩,Bk ⟨we rfl,we rfl,we rfl,we rfl,trivial⟩ (leH (is:=[1]) rfl (wl (oe rfl) (DN)))⟩)))
 (try simp only[sd,se] at c1);refine Br (A2 BA 1 [] O (A6 (⟨O,_,_,⟨_,_,O,O,O⟩,(List.nil_sublist _),?_⟩)))
 all_goals exact⟨pB (iH (oU c) hC Au),rfl⟩
theorem gC:∀(x:Cl),(M6 x)→Et Tryz.prog 191 [.agg ((CE x).map .p)] (.p (.bool (!CK x))):=by
 intro x h1;refine BD Tryz.func191 O nY (n:=6) O O (A4 (BP O (Bf O) fun b1=>Az BA 1 [] O (A4 (Ay O (BI (i:=0) DY O O Al) (Ay O (BN O O (Q6 x h1) O) (Az BA 2 [] O (A6 (⟨O,_,_,⟨_,_,O,O,O⟩,(List.nil_sublist _),?_⟩))))))))
 all_goals exact⟨rfl,rfl⟩
theorem gN:∀(l:List Cl),(l.length<Dt)→(∀x∈l,M6 x)→Et Tryz.prog 130 [.p (.lst (List.map CE l)),.p (.fn 191)] (.p (I (NS (fun x=> !CK x) l 0))):=by
 intro l h1 h2;simp only[Dt] at h1;refine BD Tryz.func130 O j8 (n:=19) O O (A2 BA 1 [] O (A1 (A4 (B6 O (Ay O (BZ En O (List.length_map _)) (Az BA 1 [] O (BH (Bo (α:=Nat) (fun i=>⟨19,mk [(0,.p (.lst (List.map CE l))),(1,.p (.fn 191)),(7,.p (I (l.length:Nat))),(8,.p (I (i:Int)))],[],[]⟩) (fun i=>l.length - i) (fun i=>i≤l.length∧(NS (fun x=> !CK x) (l.drop i) i=NS (fun x=> !CK x) l 0)) 0 (⟨by omega,rfl⟩) ?_ ?_))))))))
 ·exact Bk ⟨we O,we O,we O,we O,Aw⟩ (leH (is:=[]) O (DN))
 rintro i hC
 try simp only at hC
 obtain⟨hi,hC⟩:=hC;refine A2 BA 1 [] O (A1 (A3 O (fun c=>?_) (fun c=>?_)))
 ·(try simp only[sd,se] at c);refine A7 (A1 (BH (A2 BA 2 [] O (A4 (A5 BA 3 [] O ?_)))));obtain⟨x,hx⟩:=BE (l:=l) (i:=i) Au;refine Ay O (BC En O O Au (GC hx) (DT _)) (Ay O (BQ DY O (DT _)) (Ay O (BN O O (gC x (h2 x (List.mem_of_getElem? hx))) O) (Bt O (A3 O (fun c1=>?_) (fun c1=>?_)))))
  ·(try simp only[sd,se] at c1);refine A2 BA 2 [] O (A6 (⟨O,_,_,⟨_,_,O,O,O⟩,(List.nil_sublist _),?_⟩))
   all_goals exact⟨by show (.p (I (i:Int)):AV)=_;rw[←hC,Ua hx,if_pos (by simpa using c1)],rfl⟩
  (try simp only[sd,se] at c1);refine A7 (A8 (Az BA 2 [] O ?_));refine⟨(i+1),AU,⟨by omega,by rw[←hC,Ua hx,if_neg (by simpa using c1)];rfl⟩,Bk ⟨we rfl,we rfl,we rfl,we rfl,trivial⟩ (leH (is:=[]) rfl (DN))⟩
 (try simp only[sd,se] at c);refine Br (A2 BA 1 [] O (A6 (⟨O,_,_,⟨_,_,O,O,O⟩,(List.nil_sublist _),?_⟩)))
 all_goals exact⟨by show (.p (I (-1)):AV)=_;rw[←hC,List.drop_eq_nil_of_le Au];rfl,rfl⟩
theorem jY:∀(l:List Cl),(l.length<Dt)→(∀x∈l,M6 x)→Et Tryz.prog 99 [.p (.lst (List.map CE l)),.p (.fn 191)] (.p (.bool (l.any (fun x=> !CK x)))):=by
 intro l h1 h2;refine BD Tryz.func99 O pX (n:=9) O O (A2 BA 1 [] O (A4 (A5 BA 2 [] O (Ay O (BN O O (gN l h1 h2) O) (Az BA 2 [] O (A6 (⟨O,_,_,⟨_,_,O,O,O⟩,(List.nil_sublist _),?_⟩)))))))
 all_goals exact⟨by show (.p (.bool (decide ((NS (fun x=> !CK x) l 0:Int)≥(0:Int)))):AV)=_;rw[←Uh l 0 Au],rfl⟩
theorem Vg:∀(l:List Cl),(l.length<Dt)→(∀x∈l,M6 x)→Et Tryz.prog 181 [.p (.lst (List.map CE l))] (.p (.bool (l.all CK))):=by
 intro l h1 h2;refine BD Tryz.func181 O oz (n:=6) O O (A2 BA 1 [] O (A4 (B6 O (Ay O (BN O O (jY l h1 h2) O) (Az BA 2 [] O (A6 (⟨O,_,_,⟨_,_,O,O,O⟩,(List.nil_sublist _),?_⟩)))))))
 all_goals exact⟨pB (by rw[List.all_eq_not_any_not]),rfl⟩
theorem ah:∀(l:Cl),(M6 l)→Et Tryz.prog 182 [.agg ((CE l).map .p)] (.p (I (Gj l))):=by
 intro l h1;have hl:=h1.vars;simp only[Dt] at hl;refine BD Tryz.func182 O nU (n:=22) O O (A4 (BP O (Bf O) fun b1=>Az BA 1 [] O (A1 (A4 (A5 BA 2 [0] O (Ay O (BZ Ck O (List.length_map _)) (Az BA 1 [] O (A1 (Bi [1,3] 12 (fun y=>y= .p (.bool ((CK (Cl.mk l.const l.vars))&&(decide (((l.vars.length:Nat):Int) > (0:Int)))))) ?_ ?_)))))))))
 ·refine A8 (Ay O (BI (i:=0) DY O O O) (Ay O (BN O O (Q6 (Cl.mk l.const l.vars) h1) O) (B6 O (Ba 9 O (fun g=>?_) (fun g=>?_)))))
  ·(try simp only[sd,se] at g);exact Az BA 3 [] O (⟨O,O,AM,AJ,⟨O,O,Aw⟩⟩)
  (try simp only[sd,se] at g);exact Az BA 3 [] O (⟨O,O,AM,AJ,⟨O,O,Aw⟩⟩)
 rintro _ rfl;refine A3 O (fun c=>?_) (fun c=>?_)
 ·(try simp only[sd,se] at c);obtain⟨hv,hn⟩:CK l=true∧0<l.vars.length:=by simpa using c
  refine A4 (A5 BA 4 [0] O ?_);obtain⟨x,hx⟩:=BE (l:=l.vars) (i:=(((l.vars.length:Nat):Int) - (1:Int):Int).toNat) Au;have hw:=LI hv hx;refine Ay O (BC Ck O O Au (Cz hx) (O)) (A5 BA 3 [] O (Ay O (Ff O O) (Az BA 1 [] O (A6 (⟨O,_,_,⟨_,_,O,O,O⟩,(List.nil_sublist _),?_⟩)))))
  all_goals exact⟨pI (Wk hv hx Au),rfl⟩
 (try simp only[sd,se] at c);refine A7 (A2 BA 1 [] O (A6 (⟨O,_,_,⟨_,_,O,O,O⟩,(List.nil_sublist _),?_⟩)))
 all_goals exact⟨pI (WQ (mG c)),rfl⟩
theorem dU:B4 Tryz.prog 183 [] [] (jU (fun b:Nat×Nat=> .ptr b.1 0) (fun b=>[.box b.1 [.map b.2,.p (I 0)],.map b.2 (Ec (Gy []))])):=by
 refine BD Tryz.func183 O m8 (n:=4) O O (A2 BA 1 [] O (A4 (kP O O Wj fun m1=>Ay O (CB Tz mb O) (BP O (Bf O) fun b3=>Az BA 1 [] O (A6 (⟨O,_,_,⟨_,_,O,O,O⟩,(CJ (is:=[0,1]) O),?_⟩))))));exact⟨(_,_),O,O⟩
theorem Vy:∀(m:Nat) (M:List (Int×Int)) (i p:Int),B4 Tryz.prog 184 [.map m,.p (I i),.p (I p)] [.map m (Ec (Gy M))] (Gx (.tup []) [.map m (Ec (Gy (GY M i p)))]):=by
 intro m M i p;refine BD Tryz.func184 O oD (n:=24) O O (A4 (A5 BA 2 [] O ?_));refine Ay O (Si (i:=0) ec hY (fun _ _=>by simp[CX,Ca]) rfl rfl rfl (Vk _ _) (dK _ _)) ?_;refine Az BA 5 [] O (A1 (Bi [0,1,2] 20 (fun y=>y= .p (.bool ((!((mg i M).isSome))||(decide ((p:Int) > ((mg i M).getD 0:Int)))))) ?_ ?_))
 ·refine A8 (A5 BA 3 [] O (Ba 16 O (fun g=>?_) (fun g=>?_)))
  ·(try simp only[sd,se] at g);exact Az BA 4 [] O (⟨O,O,AM,AJ,⟨O,O,O,Aw⟩⟩)
  (try simp only[sd,se] at g);exact Az BA 4 [] O (⟨O,O,AM,AJ,⟨O,O,O,Aw⟩⟩)
 rintro _ rfl;refine A3 O (fun c=>?_) (fun c=>?_)
 ·(try simp only[sd,se] at c);refine A8 (A5 BA 3 [] O (Ay O (Sd (i:=0) ec O O O O) (Bt O ⟨O,_,_,O,(CJ (is:=[0]) O),?_⟩)));refine⟨O,?_⟩;show ([.map m (Ec (NT i (.p (I p)) (Gy M)))]:List BU)=_;rw[ZV c,←ZE]
 (try simp only[sd,se] at c);refine A7 ⟨O,_,_,O,(CJ (is:=[0]) O),?_⟩;refine⟨O,?_⟩;show ([.map m (Ec (Gy M))]:List BU)=_;rw[Xl c]
theorem YI:∀(l:Cl),(l.vars.length<Dt)→Et Tryz.prog 194 [.agg ((CE l).map .p)] (.tup [.agg ((CE ((Jc l).1)).map .p),.p (I ((Jc l).2))]):=by
 intro l h1;have hl:=h1;simp only[Dt] at hl;refine BD Tryz.func194 O mc (n:=26) O O (A4 (BP O (Bf O) fun b1=>BP O (BF Ef O) fun b2=>Az BA 1 [] O (A1 (A4 (A5 BA 2 [1] O (Ay O (BZ Ck O (List.length_map _)) (Az BA 1 [] O (BH ?_))))))));refine Bo (α:=Nat) (fun i=>⟨26,mk [(1,.ptr b1 0),(2,.ptr b2 0),(7,.p (.lst (List.map EF l.vars))),(8,.p (I (l.vars.length:Nat))),(9,.p (I (i:Int)))],[.box b2 [.p (I 0),.p (.nils)],.box b1 [.p (I l.const),.p (.lst (List.map EF l.vars))]],[]⟩) (fun i=>l.vars.length - i) (fun i=>i≤l.vars.length∧(∀j,j<i→∀y,l.vars[j]?=some y→¬100<y.plus)) 0 (⟨by omega,fun j h=>by omega⟩) ?_ ?_
 ·exact Bk ⟨we O,we O,we O,we O,we O,Aw⟩ (leH (is:=[0,1]) O (wl (oe O) (wl (oe O) (DN))))
 rintro i hC
 try simp only at hC
 obtain⟨hi,hC⟩:=hC;refine A2 BA 1 [] O (A1 (A3 O (fun c=>?_) (fun c=>?_)))
 ·(try simp only[sd,se] at c);refine A7 (A1 (BH (A4 ?_)));obtain⟨x,hx⟩:=BE (l:=l.vars) (i:=i) Au;refine Ay O (BC Ck O O Au (Cz hx) (O)) (Ay O (BQ Ld O (O)) (BP O (BF FZ O) fun b5=>Az BA 1 [0,1] O (A2 BA 3 [0] O (A3 O (fun c1=>?_) (fun c1=>?_)))))
  ·(try simp only[sd,se] at c1);refine A2 BA 3 [1,0] O (BS (Bj (i:=1) O) (A6 (⟨O,_,_,⟨_,_,O,(BJ (i:=1) DY O O O),⟨_,_,O,O,O⟩⟩,(List.nil_sublist _),?_⟩)))
   all_goals exact⟨by show (.tup [.agg [.p (I 0),.p (.lst [])],.p (I 15)]:AV)=_;rw[rH hx c1];rfl,rfl⟩
  (try simp only[sd,se] at c1);refine A7 (A8 (Az BA 2 [] O (⟨(i+1),AU,⟨by omega,DD (p:=fun _ (y:CR)=>¬100<y.plus) hC hx Au⟩,Bk ⟨we rfl,we rfl,we rfl,we rfl,we rfl,trivial⟩ (leH (is:=[1,2]) rfl (wl (oe rfl) (wl (oe rfl) (DN))))⟩)))
 (try simp only[sd,se] at c);refine Br (A1 (A2 BA 3 [1] O (A3 O (fun c1=>?_) (fun c1=>?_))))
 ·(try simp only[sd,se] at c1);refine A2 BA 3 [0,0] O (BS (Bj (i:=0) O) (A6 (⟨O,_,_,⟨_,_,O,(BJ (i:=0) DY O O O),⟨_,_,O,O,O⟩⟩,(List.nil_sublist _),?_⟩)))
  all_goals exact⟨by show (.tup [.agg [.p (I 0),.p (.lst [])],.p (I 15)]:AV)=_;rw[rz c1];rfl,rfl⟩
 (try simp only[sd,se] at c1);refine A7 (A1 (A4 (Ay O (BI (i:=1) DY O O O) (Ay O (BN O O (R8 (Cl.mk l.const l.vars) h1) O) (Bt O (A3 O (fun c2=>?_) (fun c2=>?_)))))))
 ·(try simp only[sd,se] at c2);refine A8 (Az BA 2 [1,0] O (A2 BA 3 [1,0,0] O (A6 (⟨O,_,_,⟨_,_,O,(BJ (i:=0) DY O O O),⟨_,_,O,O,O⟩⟩,(List.nil_sublist _),?_⟩))))
  all_goals exact⟨by show (.tup [.agg [.p (I 0),.p (.lst (List.map EF l.vars))],.p (I 0)]:AV)=_;rw[qY (fun j hj=>hC j Au) Au c2];rfl,rfl⟩
 (try simp only[sd,se] at c2);refine A7 (A2 BA 3 [1,0,0] O (A6 (⟨O,_,_,⟨_,_,O,(BJ (i:=0) DY O O O),⟨_,_,O,O,O⟩⟩,(List.nil_sublist _),?_⟩)))
 all_goals exact⟨by show (.tup [.agg [.p (I l.const),.p (.lst (List.map EF l.vars))],.p (I 0)]:AV)=_;rw[qH (fun j hj=>hC j Au) Au (by simpa using c2)];rfl,rfl⟩
theorem gS:∀(s m:Nat) (M:List (Int×Int)) (C:Int) (l:Cl) (n:Int),(JG l)→(0≤n)→(n≤100)→B4 Tryz.prog 185 [.ptr s 0,.agg ((CE l).map .p),.p (I n)] [.box s [.map m,.p (I C)],.map m (Ec (Gy M))] (Gx (.tup []) [.box s [.map m,.p (I ((Rx (M,C) l n).2))],.map m (Ec (Gy (Rx (M,C) l n).1))]):=by
 intro s m M C l n h1 h2 h3;have hl:=h1.len;have hc:=h1.c;refine BD Tryz.func185 O nM (n:=39) O O (A4 (BP O (Bf O) fun b4=>Bt O (A1 (B7 (fun k=>false) D7 (A0 O (fun _=>BB O) Aw (A0 O (fun _=>BB O) Aw (A0 O (fun _=>CW O) Aw (A0 O (fun _=>Ax Tz O O) Aw (BT (j:=1) O O O (fun H i hi=>BG (i:=i) C0 O hi O) AB Aw (A0 O (fun _=>Ax Ea O O) Aw (BT (j:=0) O O O (fun H i hi=>BG (i:=i) C0 O hi O) AB Aw (A0 O (fun _=>BB O) Aw (A0 O (fun _=>ET O O Au Au) Aw (A0 O (fun _=>Ff O O) Aw (A0 O (fun _=>CW O) Aw (A0 O (fun _=>Ax Tz O O) Aw (CF O O (CO (i:=1) C0 O O O O O O) AB Aw (Bv O Ap (A4 (A5 BA 2 [0] O (Ay O (BZ Ck O (List.length_map _)) (Az BA 1 [] O ?_))))))))))))))))))))));refine BH (Bo (α:=Nat) (fun i=>⟨39,mk [(0,.ptr s 0),(2,.p (I n)),(21,.p (.lst (List.map EF l.vars))),(22,.p (I (l.vars.length:Nat))),(23,.p (I (i:Int)))],[.box s [.map m,.p (I (max (C:Int) ((l.const:Int)+(n:Int):Int)))],.map m (Ec (Gy ((l.vars.take i).foldl (ID n) M)))],[]⟩) (fun i=>l.vars.length - i) (fun i=>i≤l.vars.length) 0 AQ ?_ ?_)
 ·exact Bk ⟨we O,we O,we O,we O,we O,Aw⟩ (leH (is:=[1,2]) O (wl (oe O) (wl (oe O) (DN))))
 rintro i hC
 try simp only at hC
 have hi:=hC;refine A2 BA 1 [] O (A1 (A3 O (fun c=>?_) (fun c=>?_)))
 ·(try simp only[sd,se] at c);refine A7 (A1 (BH (A4 ?_)));obtain⟨x,hx⟩:=BE (l:=l.vars) (i:=i) Au;have hv:=h1.rg x (List.mem_of_getElem? hx);refine Ay O (BC Ck O O Au (Cz hx) (O)) (Ay O (BQ Ld O (O)) (BP O (BF FZ O) fun b7=>Az BA 1 [0,1] O (B7 (fun k=>false) D7 (A0 O (fun _=>BB O) Aw (A0 O (fun _=>CW O) Aw (A0 O (fun _=>Ax Tz O O) Aw (BT (j:=1) O O O (fun H i hi=>BG (i:=i) cg O hi O) AB Aw (A0 O (fun _=>Ax Ep O O) Aw (BT (j:=0) O O O (fun H i hi=>BG (i:=i) C0 O hi O) AB Aw (A0 O (fun _=>Ax Ep O O) Aw (BT (j:=0) O O O (fun H i hi=>BG (i:=i) C0 O hi O) AB Aw (A0 O (fun _=>BB O) Aw (A0 O (fun _=>ET O O Au Au) Aw ?_)))))))))))));refine CF O O (CS [2] O (.inl ⟨O,O,O⟩) (Vy m ((l.vars.take i).foldl (ID n) M) x.index ((x.plus:Int)+(n:Int))) ⟨_,_,O,O,O⟩ As O (.inl O)) AB Aw (Bv O Ap (A8 (CH (Hw (i:=2) O (om (congrArg Ec (congrArg Gy (aQ hx))))) (Az BA 2 [] O ?_))));refine⟨(i+1),AU,by omega,Bk ⟨we rfl,we rfl,we rfl,we rfl,we rfl,trivial⟩ (leH (is:=[1,2]) rfl (wl (oe rfl) (wl (oe rfl) (DN))))⟩
 (try simp only[sd,se] at c);refine Br ⟨O,_,_,O,(CJ (is:=[0,1]) O),?_⟩;refine⟨O,?_⟩;show ([.box s [.map m,.p (I (max (C:Int) ((l.const:Int)+(n:Int):Int)))],.map m (Ec (Gy ((l.vars.take i).foldl (ID n) M)))]:List BU)=_;rw[show l.vars.take i=l.vars from List.take_of_length_le Au];rfl
end Go.Proofs.YtboammbpdaoojaaGreat
