/- Part of the proofs: an abstract program logic, plain models and contracts of functions. -/
import Derived.Test.YtboammbpdaoojaaGreatPb
import Derived.Shelf.Sort.Plain
import Derived.Shelf.Slices.In.SortNone
import Derived.Test.YtboammbpdaoojaaGreatPc
import Derived.Test.YtboammbpdaoojaaGreatPd
set_option linter.unusedVariables false
set_option linter.unusedSimpArgs false
set_option maxRecDepth 100000
namespace Go.Eu
open Go.Abs Go.Sort
def Eo (zs:List Int):List Int:=zs.mergeSort fun x y=>decide (x≤y)
theorem Sl (zs:List Int):(Eo zs).length=zs.length:=List.length_mergeSort _
end Go.Eu
namespace Go.Eu
open Go.Abs
def We (c:Int) (v:CK):Bool:=decide (-65536≤v.index)&&decide (v.index<8)&&decide (0≤v.plus)&&decide (v.plus≤100)&&(decide (c≤0)||decide (v.plus<c))
def Jp (p:Option Int) (i:Int):Bool:=match p with
 | none=>true
 | some j=>decide (j<i)
def FE (c:Int):Option Int→List CK→Bool
 | _,[]=>true
 | p,v::vs=>We c v&&Jp p v.index&&FE c (some v.index) vs
def CP (l:CX):Bool:=decide (0≤l.const)&&decide (l.const≤100)&&FE l.const none l.vars
def Gy:CX:=⟨0,[]⟩
def PB (l:CX):Bool:=l.vars.any fun v=>decide (l.const≤v.plus)
def QC (vs:List CK):Int:=(vs.getD (vs.length - 1) default).index
def GO (l:CX):Int:=if CP l=true∧l.vars≠[] then max 0 (QC l.vars+1) else 0
def FG (x:CK) (rec:List CK→List CK):List CK→List CK
 | []=>x::rec []
 | y::b=>if x.index<y.index then x::rec (y::b) else if y.index<x.index then y::FG x rec b else ⟨x.index,max x.plus y.plus⟩::rec b
def DC:List CK→List CK→List CK
 | [],b=>b
 | x::a,b=>FG x (DC a) b
def O3 (vs:List CK):Int:=vs.foldl (fun m v=>max m v.plus) 0
def UU (c:Int) (vs:List CK):CX:=⟨if vs≠[]∧c≤O3 vs then 0 else c,vs⟩
def Ql (a b:CX):CX:=UU (max a.const b.const) (DC a.vars b.vars)
def Yq (n:Int) (v:CK):CK:=⟨v.index,v.plus+n⟩
def Qo (l:CX) (n:Int):Int:=if l.const > 0∨l.vars=[] then l.const+n else 0
def PA (l:CX) (n:Int):CX×Int :=
 if CP l=false then (Gy,3) else if n<0 then (Gy,2) else if n > 100 then (Gy,15)
 else if Qo l n > 100 then (Gy,15)
 else if (l.vars.any fun v=>decide (v.plus+n > 100))=true then (Gy,15)
 else (⟨Qo l n,l.vars.map (Yq n)⟩,0)
def RE (ps:List CX):CX→List CK→CX×Int
 | out,[]=>(out,0)
 | out,v::vs =>
  if 0≤v.index∧v.index<ps.length then
   (if (PA (ps.getD v.index.toNat default) v.plus).2≠0 then (Gy,(PA (ps.getD v.index.toNat default) v.plus).2)
    else RE ps (Ql out (PA (ps.getD v.index.toNat default) v.plus).1) vs)
  else RE ps (Ql out ⟨0,[v]⟩) vs
def EC (l:CX) (ps:List CX):CX×Int :=
 if CP l=false∨ps.all CP=false then (Gy,3)
 else if GO l > ps.length then (Gy,24)
 else RE ps ⟨l.const,[]⟩ l.vars
-- the program's way
def mg (k:Int):List (Int×Int)→Option Int
 | []=>none
 | (j,x)::r=>if j=k then some x else mg k r
def ms (k v:Int):List (Int×Int)→List (Int×Int)
 | []=>[(k,v)]
 | (j,x)::r=>if j=k then (j,v)::r else (j,x)::ms k v r
def FZ (m:List (Int×Int)) (i p:Int):List (Int×Int):=match mg i m with
 | some old=>if p > old then ms i p m else m
 | none=>ms i p m
def HA (n:Int) (m:List (Int×Int)) (v:CK):List (Int×Int):=FZ m v.index (v.plus+n)
def RI (s:List (Int×Int)×Int) (l:CX) (n:Int):List (Int×Int)×Int:=(l.vars.foldl (HA n) s.1,max s.2 (l.const+n))
def Dn (ps:List CX) (s:List (Int×Int)×Int) (v:CK):List (Int×Int)×Int :=
 if v.index<0 then (FZ s.1 v.index v.plus,s.2) else RI s (ps.getD v.index.toNat default) v.plus
def GJ (m:List (Int×Int)):List CK:=(Eo (m.map Prod.fst)).map fun i=>⟨i,(mg i m).getD 0⟩
def Ij (l:CX):CX×Int :=
 if (l.vars.any fun v=>decide (v.plus > 100))=true then (Gy,15)
 else if l.const > 100 then (Gy,15)
 else if PB l=true then (⟨0,l.vars⟩,0) else (l,0)
def Ht (l:CX) (ps:List CX):CX×Int :=
 if CP l=false∨ps.all CP=false then (Gy,3)
 else if GO l > ps.length then (Gy,24)
 else Ij ⟨(l.vars.foldl (Dn ps) ([],l.const)).2,GJ (l.vars.foldl (Dn ps) ([],l.const)).1⟩
-- offsets
def Dq:List CK→Int→Int
 | [],_=> -1
 | v::vs,i=>if v.index=i then max v.plus (Dq vs i) else Dq vs i
abbrev Kh (l:List CK):Prop:=l.Pairwise fun a b=>a.index<b.index
theorem NY:∀(vs:List CK) (i:Int),-1≤Dq vs i
 | [],i=>by simp[Dq]
 | v::vs,i=>by have:=NY vs i;simp only[Dq];split<;>omega
theorem JR:∀{vs:List CK}{i:Int},(∀v∈vs,v.index≠i)→Dq vs i= -1
 | [],i,_=>rfl
 | v::vs,i,h=>by simp only[Dq,if_neg (h v Ao)];exact JR fun w hw=>h w (by simp[hw])
theorem LF:∀{vs:List CK}{v:CK},v∈vs→v.plus≤Dq vs v.index
 | w::vs,v,h=>by
  rcases List.mem_cons.1 h with rfl | h
  ·simp only[Dq,if_true];omega
  have:=LF h;simp only[Dq];split<;>omega
theorem X5:∀{a b:List CK},Kh a→Kh b→(∀v∈a,0≤v.plus)→(∀v∈b,0≤v.plus)→(∀i,Dq a i=Dq b i)→a=b
 | [],[],_,_,_,_,_=>rfl
 | [],y::b,_,_,_,hb,h=>by
  have:=h y.index;have:=hb y Ao;have:=LF (vs:=y::b) (v:=y) Ao;simp only[Dq] at *;omega
 | x::a,[],_,_,ha,_,h=>by
  have:=h x.index;have:=ha x Ao;have:=LF (vs:=x::a) (v:=x) Ao;simp only[Dq] at *;omega
 | x::a,y::b,h1,h2,ha,hb,h=>by
  have hx:=ha x Ao;have hy:=hb y Ao;rw[Kh,List.pairwise_cons] at h1 h2;have na:Dq a x.index= -1:=JR fun v hv=>by have:=h1.1 v hv;omega
  have nb:Dq b y.index= -1:=JR fun v hv=>by have:=h2.1 v hv;omega
  have e:x.index=y.index:=by
   rcases Int.lt_trichotomy x.index y.index with q | q | q
   ·have:=h x.index;have nb':Dq b x.index= -1:=JR fun v hv=>by have:=h2.1 v hv;omega
    simp only[Dq,if_true,if_neg (show ¬y.index=x.index by omega),nb'] at this;omega
   ·exact q
   have:=h y.index;have na':Dq a y.index= -1:=JR fun v hv=>by have:=h1.1 v hv;omega
   simp only[Dq,if_true,if_neg (show ¬x.index=y.index by omega),na'] at this;omega
  have e2:x.plus=y.plus:=by
   have:=h x.index;simp only[Dq,if_true,if_pos e.symm] at this;rw[←e] at nb;omega
  have exy:x=y:=by cases x;cases y;simp_all
  subst exy;congr 1;refine X5 h1.2 h2.2 (fun v hv=>ha v (by simp[hv])) (fun v hv=>hb v (by simp[hv])) fun i=>?_;by_cases q:x.index=i
  ·subst q;rw[na,nb]
  have:=h i;simpa only[Dq,if_neg q] using this
-- merging
theorem M5 {x:CK}{rec:List CK→List CK}{g:Int→Int}(hg:∀i,-1≤g i) (hr:∀b i,Dq (rec b) i=max (g i) (Dq b i)):∀(b:List CK) (i:Int),Dq (FG x rec b) i=max (Dq [x] i) (max (g i) (Dq b i))
 | [],i=>by have:=hg i;simp only[FG,Dq,hr];split<;>omega
 | y::b,i=>by
  have:=hg i;have h0:=NY b i;have ih:=M5 (x:=x) hg hr b i;simp only[Dq] at ih;simp only[FG];split
  ·simp only[Dq,hr]
   repeat' split
   all_goals omega
  split
  ·simp only[Dq,ih]
   repeat' split
   all_goals omega
  have e:x.index=y.index:=by omega
  simp only[Dq,hr,e]
  repeat' split
  all_goals omega
theorem MT:∀(a b:List CK) (i:Int),Dq (DC a b) i=max (Dq a i) (Dq b i)
 | [],b,i=>by have:=NY b i;simp only[DC,Dq];omega
 | x::a,b,i=>by
  have h:=M5 (x:=x) (rec:=DC a) (g:=Dq a) (NY a) (fun b i=>MT a b i) b i;have h1:=NY a i;rw[DC,h];simp only[Dq];split<;>omega
theorem K6 {Q:CK→Prop}{x:CK}{rec:List CK→List CK}(hx:Q x) (hm:∀u v:CK,Q u→Q v→u.index=v.index→Q ⟨u.index,max u.plus v.plus⟩) (hr:∀b,(∀v∈b,Q v)→∀v∈rec b,Q v):∀(b:List CK),(∀v∈b,Q v)→∀v∈FG x rec b,Q v
 | [],hb,v,hv=>by
  simp only[FG,List.mem_cons] at hv;rcases hv with rfl | hv
  ·exact hx
  ·exact hr [] Ao v hv
 | y::b,hb,v,hv=>by
  simp only[FG] at hv;have hy:=hb y Ao;have hb':∀v∈b,Q v:=fun v hv=>hb v (by simp[hv]);split at hv
  ·rcases List.mem_cons.1 hv with rfl | hv
   ·exact hx
   exact hr _ hb v hv
  split at hv
  ·rcases List.mem_cons.1 hv with rfl | hv
   ·exact hy
   exact K6 hx hm hr b hb' v hv
  rcases List.mem_cons.1 hv with rfl | hv
  ·exact hm x y hx hy An
  exact hr _ hb' v hv
theorem HN {Q:CK→Prop}(hm:∀u v:CK,Q u→Q v→u.index=v.index→Q ⟨u.index,max u.plus v.plus⟩):∀(a b:List CK),(∀v∈a,Q v)→(∀v∈b,Q v)→∀v∈DC a b,Q v
 | [],b,_,hb=>by simpa [DC] using hb
 | x::a,b,ha,hb=>by
  rw[DC];exact K6 (ha x Ao) hm (fun b hb=>HN hm a b (fun v hv=>ha v (by simp[hv])) hb) b hb
theorem Ol {x:CK}{a:List CK}(hr:∀b,Kh b→Kh (DC a b)) (hx:∀v∈a,x.index<v.index):∀(b:List CK),Kh b→Kh (FG x (DC a) b)
 | [],_=>by
  rw[FG,Kh,List.pairwise_cons];exact⟨HN (Q:=fun v=>x.index<v.index) (fun u v h _ _=>h) a [] hx Ao,hr [] (by simp[Kh])⟩
 | y::b,hb=>by
  have hb':=hb;rw[Kh,List.pairwise_cons] at hb';simp only[FG];split
  ·rename_i q;rw[Kh,List.pairwise_cons];refine⟨HN (Q:=fun v=>x.index<v.index) (fun u v h _ _=>h) a _ hx fun v hv=>?_,hr _ hb⟩;rcases List.mem_cons.1 hv with rfl | hv
   ·exact q
   have:=hb'.1 v hv;omega
  split
  ·rename_i q;rw[Kh,List.pairwise_cons];refine⟨K6 (Q:=fun v=>y.index<v.index) q (fun u v h _ _=>h) (fun c hc=>HN (Q:=fun v=>y.index<v.index) (fun u v h _ _=>h) a c (fun v hv=>by have:=hx v hv;omega) hc) b hb'.1,Ol hr hx b hb'.2⟩
  have e:x.index=y.index:=by omega
  rw[Kh,List.pairwise_cons];refine⟨HN (Q:=fun v=>x.index<v.index) (fun u v h _ _=>h) a b hx (fun v hv=>by have:=hb'.1 v hv;omega),hr _ hb'.2⟩
theorem N1:∀{a b:List CK},Kh a→Kh b→Kh (DC a b)
 | [],b,_,hb=>by simpa [DC] using hb
 | x::a,b,ha,hb=>by
  rw[Kh,List.pairwise_cons] at ha;rw[DC];exact Ol (fun b hb=>N1 ha.2 hb) ha.1 b hb
-- the greatest offset
theorem Ub:∀(vs:List CK) (m:Int),m≤vs.foldl (fun m v=>max m v.plus) m
 | [],m=>by simp
 | v::vs,m=>by have:=Ub vs (max m v.plus);simp only[List.foldl_cons];omega
theorem SM:∀{vs:List CK}{m:Int}{v:CK},v∈vs→v.plus≤vs.foldl (fun m v=>max m v.plus) m
 | w::vs,m,v,h=>by
  rcases List.mem_cons.1 h with rfl | h
  ·have:=Ub vs (max m v.plus);simp only[List.foldl_cons];omega
  rw[List.foldl_cons];exact SM (vs:=vs) h
theorem Vy:∀{vs:List CK}{m c:Int},m<c→(∀v∈vs,v.plus<c)→vs.foldl (fun m v=>max m v.plus) m<c
 | [],m,c,h,_=>by simpa using h
 | v::vs,m,c,h,hv=>by
  have:=hv v Ao;simp only[List.foldl_cons];exact Vy An fun w hw=>hv w (by simp[hw])
def H9 (c:Int) (vs:List CK):Int:=if (vs.any fun v=>decide (c≤v.plus))=true then 0 else c
theorem Vw {c:Int}{vs:List CK}(hc:0≤c) (hv:∀v∈vs,0≤v.plus):(UU c vs).const=H9 c vs:=by
 simp only[UU,H9];by_cases h:(vs.any fun v=>decide (c≤v.plus))=true
 ·rw[if_pos h];simp only[List.any_eq_true,decide_eq_true_eq] at h;obtain⟨v,hm,hp⟩:=h;have h1:=SM (m:=0) hm;rw[if_pos ⟨List.ne_nil_of_mem hm,by unfold O3;omega⟩]
 rw[if_neg h];simp only[List.any_eq_true,decide_eq_true_eq,not_exists,not_and] at h;split
 ·rename_i q;by_cases hc0:c=0
  ·exact hc0.symm
  have:=Vy (vs:=vs) (m:=0) (c:=c) An fun v hv=>by have:=h v hv;omega
  have:=q.2;unfold O3 at this;omega
 rfl
-- the offsets of the program
def JK (m:List (Int×Int)) (i:Int):Int:=(mg i m).getD (-1)
theorem bI (k v:Int):∀(m:List (Int×Int)) (j:Int),mg j (ms k v m)=if k=j then some v else mg j m
 | [],j=>by simp[ms,mg]
 | (i,x)::m,j=>by
  have ih:=bI k v m j;simp only[ms];split
  ·rename_i q;subst q;simp only[mg];split<;>rfl
  rename_i q;simp only[mg,ih];by_cases h1:i=j
  ·subst h1;rw[if_pos rfl,if_neg (Ne.symm q),if_pos rfl]
  simp[h1]
theorem Tq (k v:Int):∀(m:List (Int×Int)),(ms k v m).map Prod.fst=if k∈m.map Prod.fst then m.map Prod.fst else m.map Prod.fst++[k]
 | []=>by simp[ms]
 | (i,x)::m=>by
  have ih:=Tq k v m;simp only[ms];split
  ·rename_i q;subst q;simp
  rename_i q;simp only[List.map_cons,ih,List.mem_cons,(show (k=i)=False by simp;exact fun h=>q h.symm),false_or];split<;>simp
theorem TO:∀{m:List (Int×Int)}{k:Int},mg k m=none↔k ∉ m.map Prod.fst
 | [],k=>by simp[mg]
 | (i,x)::m,k=>by
  simp only[mg,List.map_cons,List.mem_cons,not_or];split
  ·rename_i q;subst q;simp
  rename_i q;rw[TO];exact⟨fun h=>⟨fun e=>q e.symm,h⟩,fun h=>h.2⟩
structure PH (m:List (Int×Int)):Prop where
 nd:(m.map Prod.fst).Nodup
 pos:∀k v,mg k m=some v→0≤v
theorem PH.nil:PH []:=⟨by simp,fun k v h=>by simp[mg] at h⟩
theorem bw {m:List (Int×Int)}(k v:Int) (h:(m.map Prod.fst).Nodup):((ms k v m).map Prod.fst).Nodup:=by
 rw[Tq];split
 ·exact h
 rename_i q;rw[List.nodup_append];refine⟨h,by simp,fun a ha b hb=>?_⟩;simp only[List.mem_singleton] at hb;subst hb;exact fun e=>q (e▸ha)
theorem RG {m:List (Int×Int)}{i p:Int}(h:PH m) (hp:0≤p):PH (FZ m i p):=by
 have hs:PH (ms i p m):=⟨bw i p h.nd,fun k v hk=>by
  rw[bI] at hk;split at hk
  ·cases hk;exact hp
  exact h.pos k v hk⟩
 unfold FZ;split
 ·split
  ·exact hs
  exact h
 exact hs
theorem Tx {m:List (Int×Int)}(h:PH m) (i:Int): -1≤JK m i:=by
 unfold JK;cases e:mg i m with
 | none=>simp
 | some v=>have:=h.pos i v e;simp;omega
theorem MG {m:List (Int×Int)}{i p:Int}(h:PH m) (hp:0≤p) (j:Int):JK (FZ m i p) j=max (Dq [⟨i,p⟩] j) (JK m j):=by
 have h1:JK (ms i p m) j=if i=j then p else JK m j:=by unfold JK;rw[bI];split<;>rfl
 have h2:=Tx h j;unfold FZ;simp only[Dq];cases e:mg i m with
 | none =>
  simp only[h1];split
  ·rename_i q;subst q;simp only[JK,e,Option.getD_none];omega
  ·omega
 | some old =>
  simp only;split
  ·rw[h1];split
   ·rename_i q;subst q;simp only[JK,e,Option.getD_some];omega
   omega
  split
  ·rename_i q;subst q;simp only[JK,e,Option.getD_some];omega
  omega
theorem MI {n:Int}:∀(vs:List CK) (m:List (Int×Int)),PH m→(∀v∈vs,0≤v.plus+n)→PH (vs.foldl (HA n) m)∧∀i,JK (vs.foldl (HA n) m) i=max (Dq (vs.map (Yq n)) i) (JK m i)
 | [],m,h,_=>⟨h,fun i=>by have:=Tx h i;simp only[List.foldl_nil,List.map_nil,Dq];omega⟩
 | v::vs,m,h,hv=>by
  have hp:=hv v Ao;have h1:PH (HA n m v):=RG h hp;obtain⟨h2,h3⟩:=MI vs (HA n m v) h1 fun w hw=>hv w (by simp[hw]);refine⟨h2,fun i=>?_⟩;rw[List.foldl_cons,h3 i,show JK (HA n m v) i=max (Dq [⟨v.index,v.plus+n⟩] i) (JK m i) from MG h hp i];have:=Tx h i;simp only[List.map_cons,Dq,Yq];split<;>omega
theorem Mf (zs:List Int):(Eo zs).Perm zs:=List.mergeSort_perm _ _
theorem UN (zs:List Int):(Eo zs).Pairwise fun a b=>a≤b:=by
 have:=List.pairwise_mergeSort (le:=fun(x y:Int)=>decide (x≤y)) (fun a b c h1 h2=>by simp at *;omega) (fun a b=>by simp;omega) zs;exact this.imp fun h=>by simpa using h
theorem SG {m:List (Int×Int)}(h:PH m):Kh (GJ m):=by
 have hn:(Eo (m.map Prod.fst)).Nodup:=(Mf _).nodup_iff.2 h.nd;have hs:=UN (m.map Prod.fst);rw[Kh,GJ,List.pairwise_map];exact(hs.and hn).imp fun⟨h1,h2⟩=>by simp only;omega
theorem Vc {f:Int→Int}:∀(ks:List Int) (i:Int),(∀k∈ks,0≤f k)→Dq (ks.map fun k=>(⟨k,f k⟩:CK)) i=if i∈ks then f i else -1
 | [],i,_=>by simp[Dq]
 | k::ks,i,h=>by
  have ih:=Vc ks i fun k hk=>h k (by simp[hk]);simp only[List.map_cons,Dq,ih,List.mem_cons];by_cases q:k=i
  ·subst q;have:=h k Ao;simp only[if_true,true_or];split<;>omega
  simp[q,Ne.symm q]
theorem Qk {m:List (Int×Int)}(h:PH m) (i:Int):Dq (GJ m) i=JK m i:=by
 rw[GJ,Vc (f:=fun i=>(mg i m).getD 0)]
 ·simp only[(Mf _).mem_iff,JK];split
  ·rename_i q;cases e:mg i m with
   | none=>exact absurd q (TO.1 e)
   | some v=>simp
  rename_i q;rw[TO.2 q];rfl
 intro k hk;cases e:mg k m with
 | none=>simp
 | some v=>simpa using h.pos k v e
theorem Zu {m:List (Int×Int)}(h:PH m):∀v∈GJ m,0≤v.plus:=by
 intro v hv;simp only[GJ,List.mem_map] at hv;obtain⟨k,_,rfl⟩:=hv;simp only;cases e:mg k m with
 | none=>simp
 | some v=>simpa using h.pos k v e
-- valid levels
theorem IM:∀{c:Int}{vs:List CK}{p:Option Int},FE c p vs=true→∀v∈vs,We c v=true
 | c,w::vs,p,h,v,hv=>by
  simp only[FE,Bool.and_eq_true] at h;rcases List.mem_cons.1 hv with rfl | hv
  ·exact h.1.1
  exact IM h.2 v hv
theorem PQ {c:Int}{v:CK}(h:We c v=true):0≤v.plus∧v.plus≤100:=by
 simp only[We,Bool.and_eq_true,decide_eq_true_eq] at h;exact⟨h.1.1.2,h.1.2⟩
theorem Lb:∀{c:Int}{vs:List CK}{p:Option Int},FE c p vs=true→Kh vs∧∀v∈vs,Jp p v.index=true
 | c,[],p,_=>⟨by simp[Kh],by simp⟩
 | c,w::vs,p,h=>by
  simp only[FE,Bool.and_eq_true] at h;obtain⟨h1,h2⟩:=Lb h.2;simp only[Jp,decide_eq_true_eq] at h2;refine⟨?_,fun v hv=>?_⟩
  ·rw[Kh,List.pairwise_cons];exact⟨h2,h1⟩
  rcases List.mem_cons.1 hv with rfl | hv
  ·exact h.1.2
  have a:=h.1.2;have b:=h2 v hv;unfold Jp at a ⊢;cases p with
  | none=>rfl
  | some j=>simp only[decide_eq_true_eq] at a ⊢;omega
theorem bG {n:Int}{vs:List CK}(h:Kh vs):Kh (vs.map (Yq n)):=by
 rw[Kh,List.pairwise_map];exact h.imp fun h=>h
structure gK (m:List (Int×Int)) (c:Int) (out:CX):Prop where
 ok:PH m
 asc:Kh out.vars
 pos:∀v∈out.vars,0≤v.plus∧v.plus≤100
 off:∀i,Dq out.vars i=JK m i
 c0:0≤c
 c1:c≤100
 con:out.const=H9 c out.vars
theorem Uo {m m' : List (Int × Int)} {c cx : Int} {out x : CX} (h : gK m c out) (hm : PH m') (hx : Kh x.vars) (hp : ∀ v ∈ x.vars, 0 ≤ v.plus ∧ v.plus ≤ 100) (ho : ∀ i, JK m' i = max (Dq x.vars i) (JK m i)) (h0 : 0 ≤ cx) (h1 : cx ≤ 100) (hc : x.const = cx ∨ x.const = 0 ∧ ∃ v ∈ x.vars, cx ≤ v.plus) : gK m' (max c cx) (Ql out x) := by
 have hv : ∀ v ∈ DC out.vars x.vars, 0 ≤ v.plus ∧ v.plus ≤ 100 := HN (Q := fun v => 0 ≤ v.plus ∧ v.plus ≤ 100) (fun u v h1 h2 _ => by simp only; omega) _ _ h.pos hp
 have hx0 : 0 ≤ x.const := by rcases hc with h | h <;> omega
 have ho0 : 0 ≤ out.const := by rw [h.con]; unfold H9; split; · omega
                                exact h.c0
 refine ⟨hm, N1 h.asc hx, hv, fun i => ?_, by have := h.c0; omega, by have := h.c1; omega, ?_⟩
 ·simp only [Ql, UU, MT, h.off i, ho i]; omega
 have hmem : ∀ v, (v ∈ out.vars ∨ v ∈ x.vars) → ∃ u ∈ DC out.vars x.vars, v.plus ≤ u.plus := by
  intro v hv'
  have h1 : v.plus ≤ Dq (DC out.vars x.vars) v.index := by
   rw [MT]
   rcases hv' with h | h <;> have := LF h <;> omega
  have h2 : 0 ≤ v.plus := by
   rcases hv' with q | q
   ·exact (h.pos v q).1
   exact (hp v q).1
  revert h1
  generalize DC out.vars x.vars = l
  intro h1
  induction l with
  | nil => simp only [Dq] at h1; omega
  | cons y l ih =>
   simp only [Dq] at h1
   by_cases q : v.plus ≤ y.plus
   ·exact ⟨y, by simp, q⟩
   obtain ⟨u, hu, hl⟩ := ih (by split at h1 <;> omega)
   exact ⟨u, by simp [hu], hl⟩
 rw [Ql, Vw An fun v hv' => (hv v hv').1]
 show H9 (max out.const x.const) (DC out.vars x.vars) = H9 (max c cx) (DC out.vars x.vars)
 generalize hl : DC out.vars x.vars = l
 rw [hl] at hmem hv
 have e1 : out.const = c ∨ out.const = 0 ∧ ∃ v ∈ l, c ≤ v.plus := by
  rw [h.con]
  unfold H9
  split
  ·rename_i q
   simp only [List.any_eq_true, decide_eq_true_eq] at q
   obtain ⟨v, q1, q2⟩ := q
   obtain ⟨u, hu, hle⟩ := hmem v (.inl q1)
   exact .inr ⟨O, u, hu, by omega⟩
  exact .inl O
 have e2 : x.const = cx ∨ x.const = 0 ∧ ∃ v ∈ l, cx ≤ v.plus := by
  rcases hc with q | ⟨q, v, q1, q2⟩
  ·exact .inl q
  obtain ⟨u, hu, hle⟩ := hmem v (.inr q1)
  exact .inr ⟨q, u, hu, by omega⟩
 have hc0 := h.c0
 have key : ∀ a b : Int, (∀ v ∈ l, a ≤ v.plus ↔ b ≤ v.plus) → (a = b ∨ ∃ v ∈ l, a ≤ v.plus) → H9 a l = H9 b l := by
  intro a b h1 h2
  unfold H9
  have : (l.any fun v => decide (a ≤ v.plus)) = (l.any fun v => decide (b ≤ v.plus)) := by
   rw [Bool.eq_iff_iff]
   simp only [List.any_eq_true, decide_eq_true_eq]
   exact ⟨fun ⟨v, q1, q2⟩ => ⟨v, q1, (h1 v q1).1 q2⟩, fun ⟨v, q1, q2⟩ => ⟨v, q1, (h1 v q1).2 q2⟩⟩
  rw [this]
  rcases h2 with rfl | ⟨v, q1, q2⟩
  ·rfl
  have : (l.any fun v => decide (b ≤ v.plus)) = true := by
   simp only [List.any_eq_true, decide_eq_true_eq]; exact ⟨v, q1, (h1 v q1).1 q2⟩
  rw [if_pos this, if_pos this]
 by_cases hM : ∃ v ∈ l, max c cx ≤ v.plus
 ·obtain ⟨v, q1, q2⟩ := hM
  have a1 : H9 (max c cx) l = 0 := by
   unfold H9; rw [if_pos]; simp only [List.any_eq_true, decide_eq_true_eq]; exact ⟨v, q1, q2⟩
  have a2 : H9 (max out.const x.const) l = 0 := by
   unfold H9; rw [if_pos]; simp only [List.any_eq_true, decide_eq_true_eq]
   exact ⟨v, q1, by rcases e1 with q | q <;> rcases e2 with q' | q' <;> omega⟩
  rw [a1, a2]
 have hM' : ∀ v ∈ l, v.plus < max c cx := fun v hv' => by
  exact Int.not_le.1 fun q => hM ⟨v, hv', q⟩
 have : max out.const x.const = max c cx := by
  rcases e1 with q | ⟨q, v, v1, v2⟩
  ·rcases e2 with q' | ⟨q', u, u1, u2⟩
   ·omega
   have := hM' u u1; omega
  have := hM' v v1
  rcases e2 with q' | ⟨q', u, u1, u2⟩
  ·omega
  have := hM' u u1; omega
 rw [this]
-- errors stay
def Y7 (s:List (Int×Int)×Int):Prop:=(∃i,100<JK s.1 i)∨100<s.2
theorem Vl {ps:List CX}(hps:∀l∈ps,CP l=true) {s:List (Int×Int)×Int}{v:CK}(hm:PH s.1) (hv:0≤v.plus) (hi:v.index<ps.length):PH (Dn ps s v).1∧(Y7 s→Y7 (Dn ps s v)):=by
 unfold Dn;split
 ·refine⟨RG hm hv,fun h=>?_⟩;rcases h with ⟨i,h⟩ | h
  ·exact .inl ⟨i,by rw[MG hm hv];omega⟩
  exact .inr h
 rename_i q;have hmem:ps.getD v.index.toNat default∈ps:=by
  have hlt:v.index.toNat<ps.length:=by omega
  rw[List.getD_eq_getElem?_getD,List.getElem?_eq_getElem hlt];exact List.getElem_mem hlt
 have hl:=hps _ hmem;simp only[CP,Bool.and_eq_true,decide_eq_true_eq] at hl;obtain⟨h1,h2⟩:=MI (n:=v.plus) (ps.getD v.index.toNat default).vars s.1 hm fun w hw=>by have:=(PQ (IM hl.2 w hw)).1;omega
 refine⟨h1,fun h=>?_⟩;rcases h with ⟨i,h⟩ | h
 ·exact .inl ⟨i,by simp only[RI,h2];omega⟩
 exact .inr (by simp only[RI];omega)
theorem Vd {ps:List CX}(hps:∀l∈ps,CP l=true):∀(vs:List CK) (s:List (Int×Int)×Int),(∀v∈vs,0≤v.plus∧v.index<ps.length)→PH s.1→PH (vs.foldl (Dn ps) s).1∧(Y7 s→Y7 (vs.foldl (Dn ps) s))
 | [],s,_,h=>⟨h,id⟩
 | v::vs,s,hv,h=>by
  have hv0:=hv v Ao;obtain⟨h1,h2⟩:=Vl hps (s:=s) h hv0.1 hv0.2;obtain⟨h3,h4⟩:=Vd hps vs (Dn ps s v) (fun w hw=>hv w (by simp[hw])) h1;exact⟨h3,fun b=>h4 (h2 b)⟩
theorem fH {s:List (Int×Int)×Int}(hm:PH s.1) (h:Y7 s):Ij ⟨s.2,GJ s.1⟩=(Gy,15):=by
 unfold Ij;rcases h with ⟨i,h⟩ | h
 ·rw[if_pos];simp only[List.any_eq_true,decide_eq_true_eq];rw[←Qk hm] at h;have:∀l:List CK,100<Dq l i→∃v∈l,100<v.plus:=by
   intro l h
   induction l with
   | nil=>simp only[Dq] at h;omega
   | cons y l ih =>
    simp only[Dq] at h;by_cases q:100<y.plus
    ·exact⟨y,by simp,q⟩
    obtain⟨u,hu,hl⟩:=ih (by split at h<;>omega);exact⟨u,by simp[hu],hl⟩
  obtain⟨v,hv,hl⟩:=this _ h;exact⟨v,hv,by omega⟩
 split
 ·rfl
 first | rfl | (split<;>first | rfl | (rename_i q;exact absurd h q)) | simp[h]
theorem aK {m:List (Int×Int)}{c:Int}{out:CX}(h:gK m c out):Ij ⟨c,GJ m⟩=(out,0):=by
 have e:GJ m=out.vars:=X5 (SG h.ok) h.asc (Zu h.ok) (fun v hv=>(h.pos v hv).1) fun i=>by rw[Qk h.ok,h.off i]
 unfold Ij;simp only[e];rw[if_neg,if_neg (by have:=h.c1;omega)]
 ·have hc:=h.con;unfold PB H9 at *;simp only;split
  ·rename_i q;rw[if_pos q] at hc;rw[←hc]
  rename_i q;rw[if_neg q] at hc;rw[←hc]
 simp only[List.any_eq_true,decide_eq_true_eq,not_exists,not_and];intro v hv;have:=(h.pos v hv).2;omega
theorem Ot {l:CX}{n:Int}(hl:CP l=true) (h0:0≤n) (h1:n≤100) :
  (PA l n=(Gy,15)∧(100<l.const+n∨∃v∈l.vars,100<v.plus+n)) ∨
  (PA l n=(⟨Qo l n,l.vars.map (Yq n)⟩,0)∧l.const+n≤100∧∀v∈l.vars,v.plus+n≤100):=by
 have hl':=hl;simp only[CP,Bool.and_eq_true,decide_eq_true_eq] at hl';unfold PA;rw[if_neg (by simp[hl]),if_neg An,if_neg An];split
 ·rename_i q;refine .inl ⟨O,.inl ?_⟩;unfold Qo at q;split at q<;>omega
 rename_i q;split
 ·rename_i q';simp only[List.any_eq_true,decide_eq_true_eq] at q';obtain⟨v,h1,h2⟩:=q';exact .inl ⟨O,.inr ⟨v,h1,by omega⟩⟩
 rename_i q';simp only[List.any_eq_true,decide_eq_true_eq,not_exists,not_and] at q';refine .inr ⟨O,?_,fun v hv=>by have:=q' v hv;omega⟩;unfold Qo at q;split at q<;>omega
theorem fold_eq {ps:List CX}(hps:∀l∈ps,CP l=true):∀(vs:List CK) (s:List (Int×Int)×Int) (out:CX),(∀v∈vs,0≤v.plus∧v.plus≤100∧v.index<ps.length)→gK s.1 s.2 out →
  Ij ⟨(vs.foldl (Dn ps) s).2,GJ (vs.foldl (Dn ps) s).1⟩=RE ps out vs
 | [],s,out,_,h=>aK h
 | v::vs,s,out,hv,h=>by
  obtain⟨p0,p1,pi⟩:=hv v Ao;have hv':∀w∈vs,0≤w.plus∧w.plus≤100∧w.index<ps.length:=fun w hw=>hv w (by simp[hw]);have hb:∀w∈vs,0≤w.plus∧w.index<ps.length:=fun w hw=>⟨(hv' w hw).1,(hv' w hw).2.2⟩;rw[List.foldl_cons,RE];by_cases hi:0≤v.index
  ·rw[if_pos ⟨hi,pi⟩];have hst:Dn ps s v=RI s (ps.getD v.index.toNat default) v.plus:=by unfold Dn;rw[if_neg An]
   have hmem:ps.getD v.index.toNat default∈ps:=by
    have hlt:v.index.toNat<ps.length:=by omega
    rw[List.getD_eq_getElem?_getD,List.getElem?_eq_getElem hlt];exact List.getElem_mem hlt
   rw[hst];generalize ps.getD v.index.toNat default=l at hmem ⊢;have hl:=hps l hmem;have hl':=hl;simp only[CP,Bool.and_eq_true,decide_eq_true_eq] at hl';have hpos:∀w∈l.vars,0≤w.plus+v.plus:=fun w hw=>by have:=(PQ (IM hl'.2 w hw)).1;omega
   obtain⟨hm,ho⟩:=MI (n:=v.plus) l.vars s.1 h.ok hpos;rcases Ot hl p0 p1 with ⟨e,q⟩ | ⟨e,q1,q2⟩
   ·rw[e,if_pos Ao];have hB:Y7 (RI s l v.plus):=by
     rcases q with q | ⟨w,q1,q2⟩
     ·exact .inr (by simp only[RI];omega)
     refine .inl ⟨w.index,?_⟩;simp only[RI,ho];have:=LF (vs:=l.vars.map (Yq v.plus)) (v:=Yq v.plus w) (List.mem_map_of_mem q1);simp only[Yq] at this;omega
    obtain⟨g1,g2⟩:=Vd hps vs (RI s l v.plus) hb hm;exact fH g1 (g2 hB)
   rw[e,if_neg Ao];refine fold_eq hps vs _ _ hv' (Uo h hm (bG (Lb hl'.2).1) (fun w hw=>?_) ho An q1 ?_)
   ·simp only[List.mem_map] at hw;obtain⟨u,hu,rfl⟩:=hw;exact⟨by have:=hpos u hu;simp only[Yq];omega,by have:=q2 u hu;simp only[Yq];omega⟩
   simp only[Qo];split
   ·exact .inl O
   rename_i q;simp only[not_or] at q;refine .inr ⟨O,?_⟩;obtain⟨w,hw⟩:=List.exists_mem_of_ne_nil _ q.2;exact⟨Yq v.plus w,List.mem_map_of_mem hw,by have:=(PQ (IM hl'.2 w hw)).1;simp only[Yq];omega⟩
  rw[if_neg An];have hst:Dn ps s v=(FZ s.1 v.index v.plus,s.2):=by unfold Dn;rw[if_pos An]
  rw[hst];refine fold_eq hps vs _ _ hv' ?_;have:=Uo (m':=FZ s.1 v.index v.plus) (cx:=0) (x:=⟨0,[v]⟩) h (RG h.ok p0) (by simp[Kh]) (by simp;exact⟨p0,p1⟩) (fun i=>MG h.ok p0 i) An An (.inl rfl)
  rwa [show max s.2 0=s.2 by have:=h.c0;omega] at this
theorem NG:∀{vs:List CK},Kh vs→∀v∈vs,v.index≤QC vs
 | [w],_,v,hv=>by simp only[List.mem_singleton] at hv;subst hv;simp[QC]
 | w::u::vs,h,v,hv=>by
  rw[Kh,List.pairwise_cons] at h;have e:QC (w::u::vs)=QC (u::vs):=by simp[QC]
  rw[e];rcases List.mem_cons.1 hv with rfl | hv
  ·have:=h.1 u Ao;have:=NG h.2 u Ao;omega
  exact NG h.2 v hv
theorem Zn (l:CX) (ps:List CX):Ht l ps=EC l ps:=by
 unfold Ht EC;by_cases h1:CP l=false∨ps.all CP=false
 ·rw[if_pos h1,if_pos h1]
 rw[if_neg h1,if_neg h1];by_cases h2:GO l > ps.length
 ·rw[if_pos h2,if_pos h2]
 rw[if_neg h2,if_neg h2];simp only[not_or,Bool.not_eq_false] at h1;have hl:=h1.1;simp only[CP,Bool.and_eq_true,decide_eq_true_eq] at hl;have hps:∀l∈ps,CP l=true:=by simpa [List.all_eq_true] using h1.2
 have ha:=(Lb hl.2).1;refine fold_eq hps l.vars _ _ (fun v hv=>?_) ⟨PH.nil,by simp[Kh],by simp,fun i=>by simp[Dq,JK,mg],hl.1.1,hl.1.2,by simp[H9]⟩;have a:=PQ (IM hl.2 v hv);refine⟨a.1,a.2,?_⟩;have:=NG ha v hv;unfold GO at h2;rw[if_pos ⟨h1.1,List.ne_nil_of_mem hv⟩] at h2;omega
def Hc (ps:List CX):Int→List CX→List CX×Int
 | er,[]=>([],er)
 | er,l::ls=>((EC l ps).1::(Hc ps (GC er (EC l ps).2) ls).1,(Hc ps (GC er (EC l ps).2) ls).2)
mutual
def Ky (ps:List CX):Int→Tm→Tm×Int
 | er,.mk k i n ls ks=>(.mk k i n (Hc ps er ls).1 (Iz ps (Hc ps er ls).2 ks).1,(Iz ps (Hc ps er ls).2 ks).2)
def Iz (ps:List CX):Int→List Tm→List Tm×Int
 | er,[]=>([],er)
 | er,t::ts=>((Ky ps er t).1::(Iz ps (Ky ps er t).2 ts).1,(Iz ps (Ky ps er t).2 ts).2)
end
def By (t:Tm) (ps:List CX):Tm×Int:=if (Ky ps 0 t).2≠0 then (BZ,(Ky ps 0 t).2) else ((Ky ps 0 t).1,0)
inductive Out (α:Type) where
 | stuck
 | fail
 | ok (a:α)
def Out.bind {α β:Type}:Out α→(α→Out β)→Out β
 | .stuck,_=> .stuck
 | .fail,_=> .fail
 | .ok a,k=>k a
def RP (n:Int):Bool:=decide (-9223372036854775808≤n)&&decide (n≤9223372036854775807)
def WM (l:CX):Bool:=decide (l.vars.length<De)&&RP l.const&&l.vars.all fun v=>RP v.index&&RP v.plus
mutual
def Rq:Tm→Bool
 | .mk k i n ls ks=>decide (n.size<De)&&decide (ls.length<De)&&ls.all WM&&decide (ks.length<De)&&RP k&&RP i&&decide ((ks.length:Int)=arity k)&&(decide (k≠12)||decide (0≤i))&&(decide (k≠0)||decide (0≤i)&&decide (i<1099511627776))&&Kd ks
def Kd:List Tm→Bool
 | []=>true
 | t::ts=>Rq t&&Kd ts
end
def okB (t:Tm):Bool:=Rq t&&decide (size t<549755813888)
def Out.chk {σ β:Type}(o:Out (Tm×σ)) (k:Tm×σ→Out β):Out β:=o.bind fun r=>if okB r.1=true then k r else .stuck
structure Sys (σ:Type) where
 over:σ→Bool
 res:σ→Tm→Int→Option σ
 many:Nat→Bool
def Sys.put {σ α:Type}(S:Sys σ) (s:σ) (x:Tm×Int) (k:Tm→σ→Out α):Out α :=
 if okB x.1=true then (match S.res s x.1 x.2 with
  | none=> .fail
  | some s'=>k x.1 s')
 else .stuck
def IV.result (c:IV) (t:Tm) (e:Int):IV:=({ c with steps:=wr (c.steps+1),nodes:=wr (c.nodes+FL t) }).form t e
def jF:Sys IV:=⟨IV.over,fun c t e=>some (c.result t e),fun _=>false⟩
def Bo:Sys Int:=⟨fun _=>false,fun n t e=>if n - 1<0∨e≠0 then none else some (n - 1),fun k=>decide (40960<k)⟩
def Hk:Tm→List Tm×Tm
 | .mk k i n l [a,b]=>if k=6 then (a::(Hk b).1,(Hk b).2) else ([],.mk k i n l [a,b])
 | t=>([],t)
section
variable (E:List CC)
def CQ (i:Int):CC:=E.getD i.toNat default
def Ev (d:CC) (j:Int):Hq:=d.ctors.getD j.toNat default
def Fv (d:CC) (j:Int):Gh:=d.funs.getD j.toNat default
def ZC (t:Tm):Int:=((Hk t).1.length:Int)
def Gk (d:CC) (j:Int):Int:=max 0 (ZC (Ev d j).type - d.fixed)
def Gm (nm:ByteArray):Option (CC×Int) :=
 if (Bq E nm).2≠0 then none
 else if (Bq E nm).1.kind=3 then some (CQ E (Bq E nm).1.decl,-1)
 else if (Bq E nm).1.kind=4 then some (CQ E (Bq E nm).1.decl,(Bq E nm).1.item)
 else if (Bq E nm).1.kind=5 then some (CQ E (Bq E nm).1.decl,-2)
 else none
def C8 (t:Tm):Option (CC×Int×List Tm) :=
 if (A9 t).1.kind≠3 then none
 else match Gm E (A9 t).1.name with
  | none=>none
  | some (d,j)=>if j<0 then none else if ((A9 t).2.length:Int)≠d.fixed+Gk d j then none else some (d,j,(A9 t).2.drop d.fixed.toNat)
def NN (d:CC):Int:=max 0 (ZC d.type - d.fixed)
def CU (d:CC):Int:=d.fixed+1+d.ctors.length+NN d
def Cl (nm:ByteArray):List F7→Option E3
 | []=>none
 | b::l=>if b.ctor=nm then (if b.absurd=true then none else some b.tree) else Cl nm l
def Ix (h:Tm):Option Fk:=if (Bq E h.name).2=0∧(h.levels.length:Int)=(Bq E h.name).1.params then some (Bq E h.name).1 else none
variable {σ:Type}(S:Sys σ)
def Dm (W:σ→Tm→Out (Tm×σ)):Nat→E3→List Tm→Tm→σ→Out ((Option (Tm×List Tm)×Tm)×σ)
 | 0,_,_,_,_=> .stuck
 | n+1,t,vars,last,s =>
  if t.kind=1 then
   if t.var<0∨t.var≥(vars.length:Int)∨S.over s=true then .ok ((none,last),s)
   else (W s (vars.getD t.var.toNat default)).chk fun r=>match C8 E r.1 with
    | none=> .ok ((none,r.1),r.2)
    | some (d,j,fields)=>match Cl (Ev d j).name t.branches with
     | none=> .ok ((none,r.1),r.2)
     | some t'=>Dm W n t' (vars++fields) r.1 r.2
  else .ok ((some (t.body,vars),BZ),s)
def Ek (d:CC) (h:Tm) (a:List Tm) (s:σ):Out (Option Tm×σ) :=
 if (By d.value h.levels).2≠0 then .ok (none,s)
 else S.put s ((By d.value h.levels).1,0) fun t s'=> .ok (some (apply t a),s')
def To (d:CC) (j:Int):Tm:=d.recs.rules.getD j.toNat default
def Et (d:CC) (h:Tm) (a:List Tm) (m:Tm) (s:σ):Out (Option Tm×σ):=match C8 E m with
 | none=> .ok (none,s)
 | some (e,j,fields) =>
  if e.name≠d.name∨j≥(d.recs.rules.length:Int) then .ok (none,s)
  else if (By (To d j) h.levels).2≠0 then .ok (none,s)
  else S.put s (apply (apply (By (To d j) h.levels).1 (a.take (d.fixed+1+d.ctors.length).toNat)) fields,0) fun t s'=> .ok (some (apply t (a.drop (CU d+1).toNat)),s')
def HW (h:Tm) (b:Tm) (vars:List Tm) (rest:List Tm) (s:σ):Out (Option Tm×σ) :=
 if (By b h.levels).2≠0 then .ok (none,s)
 else if okB (By b h.levels).1=false∨vars.all okB=false∨1125899906842624≤BS vars then .stuck
 else S.put s (CI (By b h.levels).1 vars.reverse 0) fun t s'=> .ok (some (apply t rest),s')
def H4 (W:σ→Tm→Out (Tm×σ)) (n:Nat) (f:Gh) (h:Tm) (a:List Tm) (s:σ):Out (Option Tm×σ) :=
 if (a.length:Int)<f.arity then .ok (none,s)
 else (Dm E S W n f.tree (a.take f.arity.toNat) BZ s).bind fun q=>match q.1.1 with
  | none=> .ok (none,q.2)
  | some (b,vars)=>if S.over q.2=true then .ok (none,q.2) else HW S h b vars (a.drop f.arity.toNat) q.2
def PJ (W:σ→Tm→Out (Tm×σ)) (d:CC) (h:Tm) (a:List Tm) (s:σ):Out (Option Tm×σ) :=
 if (a.length:Int)≤CU d then .ok (none,s)
 else (W s (a.getD (CU d).toNat default)).chk fun r=>Et E S d h a r.1 r.2
def Dy (W:σ→Tm→Out (Tm×σ)) (n:Nat) (h:Tm) (a:List Tm) (s:σ):Out (Option Tm×σ):=match Ix E h with
 | none=> .ok (none,s)
 | some x =>
  if x.kind=1 then Ek S (CQ E x.decl) h a s
  else if x.kind=5 then PJ E S W (CQ E x.decl) h a s
  else if x.kind=6 then H4 E S W n (Fv (CQ E x.decl) x.item) h a s
  else .ok (none,s)
def Je (k:Int) (p:Tm):Tm:= .mk k 0 ⟨#[]⟩ [] [p]
def KT (h:Tm) (a:List Tm) (s:σ) {α:Type}(k:Tm→σ→Out α):Out α:=match h.kids[1]? with
 | none=> .stuck
 | some b=>S.put s (CI b (a.take 1) 0) fun x s'=>k (apply x (a.drop 1)) s'
def PE (h:Tm) (a:List Tm) (s:σ) {α:Type}(k:Tm→σ→Out α):Out α:=match h.kids[1]?,h.kids[2]? with
 | some v,some b=>S.put s (CI b [v] 0) fun x s'=>k (apply x a) s'
 | _,_=> .stuck
def JU (h p:Tm) (a:List Tm) (s:σ) {α:Type}(k:Tm→σ→Out α):Out α:=match p.kids[(1+h.kind - 9).toNat]? with
 | none=> .stuck
 | some q=>S.put s (q,0) fun x s'=>k (apply x a) s'
def DJ:Nat→σ→Tm→Out (Tm×σ)
 | 0,_,_=> .stuck
 | n+1,s,t =>
  if okB t=false then .stuck
  else if S.over s=true then .ok (t,s)
  else if S.many (A9 t).2.length=true then .fail
  else if (A9 t).1.kind=5 then
   (if (A9 t).2.length=0 then .ok (t,s) else KT S (A9 t).1 (A9 t).2 s fun x s'=>DJ n s' x)
  else if (A9 t).1.kind=11 then PE S (A9 t).1 (A9 t).2 s fun x s'=>DJ n s' x
  else if (A9 t).1.kind=9∨(A9 t).1.kind=10 then match (A9 t).1.kids[0]? with
   | none=> .stuck
   | some p=>(DJ n s p).chk fun r =>
    if r.1.kind≠8 then .ok (apply (Je (A9 t).1.kind r.1) (A9 t).2,r.2)
    else JU S (A9 t).1 r.1 (A9 t).2 r.2 fun x s'=>DJ n s' x
  else if (A9 t).1.kind=3 then (Dy E S (DJ n) n (A9 t).1 (A9 t).2 s).bind fun r=>match r.1 with
   | none=> .ok (t,r.2)
   | some x=>DJ n r.2 x
  else .ok (t,s)
noncomputable def HG:Nat→σ→Tm→Out (Option Int×σ)
 | 0,_,_=> .stuck
 | n+1,s,t=>(DJ E S n s t).chk fun r =>
  if (A9 r.1).1.kind=12 then .ok (some (A9 r.1).1.index,r.2)
  else if (A9 r.1).1.kind=9∨(A9 r.1).1.kind=10 then match (A9 r.1).1.kids[0]? with
   | none=> .stuck
   | some p=>HG n r.2 p
  else if (A9 r.1).1.kind=3 then match Ix E (A9 r.1).1 with
   | none=> .ok (none,r.2)
   | some x =>
    if S.over r.2=true then .ok (none,r.2)
    else if x.kind=5∧((A9 r.1).2.length:Int) > CU (CQ E x.decl) then HG n r.2 ((A9 r.1).2.getD (CU (CQ E x.decl)).toNat default)
    else if x.kind=6∧((A9 r.1).2.length:Int)≥(Fv (CQ E x.decl) x.item).arity then
     (Dm E S (DJ E S n) n (Fv (CQ E x.decl) x.item).tree ((A9 r.1).2.take (Fv (CQ E x.decl) x.item).arity.toNat) BZ r.2).bind fun q=>match q.1.1 with
      | some _=> .ok (none,q.2)
      | none=>if S.over q.2=false∧MP q.1.2 BZ=false then HG n q.2 q.1.2 else .ok (none,q.2)
    else .ok (none,r.2)
  else .ok (none,r.2)
def Iv:Tm→List Int→Tm→Option Tm
 | _,[],x=>some x
 | t,p::ps,x=>match (A9 t).2[p.toNat]? with
  | none=>none
  | some y=>(Iv y ps x).map fun z=>apply (A9 t).1 ((A9 t).2.set p.toNat z)
def EI (a:Int×List Int) (fx:Int) (n:Nat):List (Int×List Int):=(List.range n).map fun i:Nat=>(a.1,a.2++[fx+(i:Int)])
def JI (T:σ→Tm→Out (Option Tm×σ)) (h:Tm) (ar:Int) (a:List Tm):Nat→E3→List Tm→List (Int×List Int)→σ→Out (Option Tm×σ)
 | 0,_,_,_,_=> .stuck
 | n+1,t,vars,pl,s =>
  if t.kind=1 then
   if t.var<0∨t.var≥(vars.length:Int) then .ok (none,s)
   else match C8 E (vars.getD t.var.toNat default) with
    | none=>(T s (vars.getD t.var.toNat default)).bind fun r=>match r.1 with
     | none=> .ok (none,r.2)
     | some x=>match Iv (a.getD (pl.getD t.var.toNat default).1.toNat default) (pl.getD t.var.toNat default).2 x with
      | none=> .stuck
      | some y=> .ok (some (apply h (a.set (pl.getD t.var.toNat default).1.toNat y)),r.2)
    | some (d,j,fields)=>match Cl (Ev d j).name t.branches with
     | none=> .ok (none,s)
     | some t'=>JI T h ar a n t' (vars++fields) (pl++EI (pl.getD t.var.toNat default) d.fixed fields.length) s
  else HW S h t.body vars (a.drop ar.toNat) s
def Em:Nat→σ→Tm→Out (Option Tm×σ)
 | 0,_,_=> .stuck
 | n+1,s,t =>
  if okB t=false then .stuck
  else if (A9 t).1.kind=5 then
   (if (A9 t).2.length=0 then .ok (none,s) else KT S (A9 t).1 (A9 t).2 s fun x s'=> .ok (some x,s'))
  else if (A9 t).1.kind=11 then PE S (A9 t).1 (A9 t).2 s fun x s'=> .ok (some x,s')
  else if (A9 t).1.kind=9∨(A9 t).1.kind=10 then match (A9 t).1.kids[0]? with
   | none=> .stuck
   | some p =>
    if p.kind=8 then JU S (A9 t).1 p (A9 t).2 s fun x s'=> .ok (some x,s')
    else (Em n s p).bind fun r=>match r.1 with
     | none=> .ok (none,r.2)
     | some x=> .ok (some (apply (Je (A9 t).1.kind x) (A9 t).2),r.2)
  else if (A9 t).1.kind=3 then match Ix E (A9 t).1 with
   | none=> .ok (none,s)
   | some x =>
    if x.kind=1 then Ek S (CQ E x.decl) (A9 t).1 (A9 t).2 s
    else if x.kind=5∧((A9 t).2.length:Int) > CU (CQ E x.decl) then match C8 E ((A9 t).2.getD (CU (CQ E x.decl)).toNat default) with
     | some _=>Et E S (CQ E x.decl) (A9 t).1 (A9 t).2 ((A9 t).2.getD (CU (CQ E x.decl)).toNat default) s
     | none=>(Em n s ((A9 t).2.getD (CU (CQ E x.decl)).toNat default)).bind fun r=>match r.1 with
      | none=> .ok (none,r.2)
      | some y=> .ok (some (apply (A9 t).1 ((A9 t).2.set (CU (CQ E x.decl)).toNat y)),r.2)
    else if x.kind=6∧((A9 t).2.length:Int)≥(Fv (CQ E x.decl) x.item).arity then
     JI E S (Em n) (A9 t).1 (Fv (CQ E x.decl) x.item).arity (A9 t).2 n (Fv (CQ E x.decl) x.item).tree ((A9 t).2.take (Fv (CQ E x.decl) x.item).arity.toNat) ((List.range (Fv (CQ E x.decl) x.item).arity.toNat).map fun i:Nat=>((i:Int),[])) s
    else .ok (none,s)
  else .ok (none,s)
def rQ (n:Nat) (t:E3) (a:List Tm) (s:σ):Out (Option Tm×σ) :=
 (Dm E S (DJ E S n) n t a BZ s).bind fun q=>match q.1.1 with
  | none=> .ok (none,q.2)
  | some (b,vars)=>if okB b=false∨vars.all okB=false∨1125899906842624≤BS vars then .stuck else S.put q.2 (CI b vars.reverse 0) fun x s'=> .ok (some x,s')
end
def kW (k i:Int) (n:ByteArray) (ls:List CX) (ks:Nat):Bool:=decide (n.size<De)&&decide (ls.length<De)&&ls.all WM&&decide (ks<De)&&RP k&&RP i&&decide ((ks:Int)=arity k)&&(decide (k≠12)||decide (0≤i))&&(decide (k≠0)||decide (0≤i)&&decide (i<1099511627776))
theorem KQ (k i:Int) (n:ByteArray) (ls:List CX) (ks:List Tm):Rq (.mk k i n ls ks)=(kW k i n ls ks.length&&Kd ks):=by rw[Rq,kW]
theorem Ib:∀{ts:List Tm},Kd ts=true↔∀t∈ts,Rq t=true
 | []=>by simp[Kd]
 | t::ts=>by simp only[Kd,Bool.and_eq_true,Ib (ts:=ts),List.mem_cons,forall_eq_or_imp]
theorem gB {l:CX}(h:WM l=true):RU l:=by
 simp only[WM,RP,Bool.and_eq_true,decide_eq_true_eq,List.all_eq_true] at h;exact⟨h.1.1,h.1.2,fun v hv=>h.2 v hv⟩
theorem Xu {l:CX}(h:RU l):WM l=true:=by
 simp only[WM,RP,Bool.and_eq_true,decide_eq_true_eq,List.all_eq_true];exact⟨⟨h.vars,h.c⟩,fun v hv=>h.v v hv⟩
mutual
theorem Rw:∀(t:Tm),Rq t=true→Nd t∧Wt t∧Vp t
 | .mk k i n ls ks,h=>by
  rw[KQ,Bool.and_eq_true] at h;obtain⟨h1,h2⟩:=h;simp only[kW,RP,Bool.and_eq_true,Bool.or_eq_true,decide_eq_true_eq,List.all_eq_true] at h1;obtain⟨a,b,c⟩:=Mh ks h2;obtain⟨⟨⟨⟨⟨⟨⟨⟨g1,g2⟩,g3⟩,g4⟩,g5⟩,g6⟩,g7⟩,g8⟩,g9⟩:=h1;refine⟨⟨g1,g2,fun l hl=>gB (g3 l hl),g4,a,g5,g6⟩,⟨g7,fun e=>?_,b⟩,fun e=>?_,c⟩
  ·rcases g8 with g | g
   ·exact absurd e g
   exact g
  rcases g9 with g | g
  ·exact absurd e g
  exact g
theorem Mh:∀(ts:List Tm),Kd ts=true→Ld ts∧Mo ts∧R1 ts
 | [],_=>⟨trivial,trivial,trivial⟩
 | t::ts,h=>by
  simp only[Kd,Bool.and_eq_true] at h;obtain⟨a,b,c⟩:=Rw t h.1;obtain⟨a',b',c'⟩:=Mh ts h.2;exact⟨⟨a,a'⟩,⟨b,b'⟩,⟨c,c'⟩⟩
end
mutual
theorem Rv:∀(t:Tm),Nd t→Wt t→Vp t→Rq t=true
 | .mk k i n ls ks,h1,h2,h3=>by
  rw[KQ,Bool.and_eq_true];simp only[Nd] at h1;simp only[Wt] at h2;simp only[Vp] at h3;obtain⟨a1,a2,a3,a4,a5,a6,a7⟩:=h1;refine⟨?_,Qn ks a5 h2.2.2 h3.2⟩;simp only[kW,RP,Bool.and_eq_true,Bool.or_eq_true,decide_eq_true_eq,List.all_eq_true];refine⟨⟨⟨⟨⟨⟨⟨⟨a1,a2⟩,fun l hl=>Xu (a3 l hl)⟩,a4⟩,a6⟩,a7⟩,h2.1⟩,?_⟩,?_⟩
  ·by_cases e:k=12
   ·exact .inr (h2.2.1 e)
   exact .inl e
  by_cases e:k=0
  ·exact .inr (h3.1 e)
  exact .inl e
theorem Qn:∀(ts:List Tm),Ld ts→Mo ts→R1 ts→Kd ts=true
 | [],_,_,_=>rfl
 | t::ts,h1,h2,h3=>by
  simp only[Kd,Bool.and_eq_true];exact⟨Rv t h1.1 h2.1 h3.1,Qn ts h1.2 h2.2 h3.2⟩
end
structure qx (t:Tm):Prop where
 nd:Nd t
 wt:Wt t
 vp:Vp t
 sz:size t<549755813888
theorem CY {t:Tm}:okB t=true↔qx t:=by
 simp only[okB,Bool.and_eq_true,decide_eq_true_eq];exact⟨fun h=>by obtain⟨a,b,c⟩:=Rw t h.1;exact⟨a,b,c,h.2⟩,fun h=>⟨Rv t h.nd h.wt h.vp,h.sz⟩⟩
theorem KO {t:Tm}(h:Rq t=true) (hs:size t<549755813888):okB t=true:=by simp[okB,h,hs]
theorem Hp {t:Tm}(h:okB t=true):Rq t=true:=by simp only[okB,Bool.and_eq_true] at h;exact h.1
theorem Gx {t:Tm}(h:okB t=true):size t<549755813888:=by simp only[okB,Bool.and_eq_true,decide_eq_true_eq] at h;exact h.2
theorem HS {t x:Tm}{i:Nat}(h:okB t=true) (hx:t.kids[i]?=some x):okB x=true:=by
 have h1:=Hp h;have h2:=Gx h;obtain⟨k,j,n,ls,ks⟩:=t;rw[KQ,Bool.and_eq_true] at h1;simp only[size] at h2;simp only[Tm.kids] at hx;have:=Cb hx;exact KO (Ib.1 h1.2 x (List.mem_of_getElem? hx)) An
theorem Ru:∀(t:Tm),Rq t=true→Rq (A9 t).1=true∧Kd (A9 t).2=true
 | .mk k i n l [f,a],h=>by
  unfold A9;split
  ·rw[KQ,Bool.and_eq_true] at h;simp only[Kd,Bool.and_eq_true] at h;obtain⟨h1,h2⟩:=Ru f h.2.1;refine⟨h1,Ib.2 fun x hx=>?_⟩;rcases List.mem_append.1 hx with hx | hx
   ·exact Ib.1 h2 x hx
   rw[List.mem_singleton.1 hx];exact h.2.2.1
  ·exact⟨h,O⟩
 | .mk k i n l [],h=>⟨h,rfl⟩
 | .mk k i n l [_],h=>⟨h,rfl⟩
 | .mk k i n l (_::_::_::_),h=>⟨h,rfl⟩
theorem Jk {t:Tm}(h:okB t=true):okB (A9 t).1=true∧∀x∈(A9 t).2,okB x=true:=by
 simp only[okB,Bool.and_eq_true,decide_eq_true_eq] at h ⊢;obtain⟨h1,h2⟩:=Ru t h.1;have hs:=Hz t;refine⟨⟨h1,by omega⟩,fun x hx=>⟨Ib.1 h2 x hx,?_⟩⟩;obtain⟨i,hi⟩:=List.mem_iff_getElem?.1 hx;have:=Cb hi;omega
theorem Xw {f a:Tm}(h1:Rq f=true) (h2:Rq a=true):Rq (Lu f a)=true:=by
 rw[Lu,KQ,Bool.and_eq_true];exact⟨O,by simp[Kd,h1,h2]⟩
theorem IN:∀{xs:List Tm}{f:Tm},Rq f=true→(∀x∈xs,Rq x=true)→Rq (apply f xs)=true
 | [],f,h,_=>h
 | x::xs,f,h,hx=>by
  rw[apply,List.foldl_cons];exact IN (Xw h (hx x Ao)) fun y hy=>hx y (by simp[hy])
theorem EB:∀(xs:List Tm) (f:Tm),size (apply f xs)=size f+BS xs+xs.length
 | [],f=>by simp[apply,BS]
 | x::xs,f=>by
  have:=EB xs (Lu f x);rw[apply] at this ⊢;rw[List.foldl_cons,this];simp only[Lu,size,BS,List.length_cons];omega
theorem gS (m:CX):((B5 m).map AV.p).all one=true:=rfl
def Kb (l:List CK) (i:Nat):Option Int:=if i=0 then none else (l[i - 1]?).map CK.index
def Dk (c:Int) (l:List CK) (i:Nat):Bool:=FE c (Kb l i) (l.drop i)
theorem X2 {c:Int}{l:List CK}{i:Nat}{v:CK}(h:l[i]?=some v):Dk c l i=(We c v&&Jp (Kb l i) v.index&&Dk c l (i+1)):=by
 have e:Kb l (i+1)=some v.index:=by simp[Kb,h]
 rw[Dk,Cm h,FE,Dk,e]
theorem j1 {c:Int}{l:List CK}{i:Nat}(h:l.length≤i):Dk c l i=true:=by
 rw[Dk,List.drop_eq_nil_of_le h];rfl
theorem gb (l:CX):CP l=(decide (0≤l.const)&&decide (l.const≤100)&&Dk l.const l.vars 0):=rfl
theorem j4 {l:CX}(h:l.const<0∨100<l.const):false=CP l:=by
 rw[gb];rcases h with h | h
 ·rw[decide_eq_false An];rfl
 rw[decide_eq_false (p:=l.const≤100) An];simp
theorem jG {c:Int}{v:CK}(h:((v.index < -65536∨8≤v.index)∨v.plus<0)∨100<v.plus):We c v=false:=by
 simp only[We,Bool.and_eq_false_iff,decide_eq_false_iff_not];omega
theorem Xa {c:Int}{v:CK}(h: -65536≤v.index∧v.index<8∧0≤v.plus∧v.plus≤100) (h1:0<c→v.plus<c):We c v=true:=by
 simp only[We,Bool.and_eq_true,Bool.or_eq_true,decide_eq_true_eq];refine⟨⟨⟨⟨h.1,h.2.1⟩,h.2.2.1⟩,h.2.2.2⟩,?_⟩;by_cases q:c≤0
 ·exact .inl q
 exact .inr (h1 An)
theorem Z5 {l:CX}(h:CP l=true):0≤l.const∧l.const≤100:=by
 simp only[CP,Bool.and_eq_true,decide_eq_true_eq] at h;exact h.1
theorem Tv {l:CX}{i:Nat}{x:CK}(h:CP l=true) (hx:l.vars[i]?=some x):(0≤x.plus∧x.plus≤100)∧ -65536≤x.index∧x.index<8:=by
 simp only[CP,Bool.and_eq_true,decide_eq_true_eq] at h;have:=IM h.2 x (List.mem_of_getElem? hx);simp only[We,Bool.and_eq_true,decide_eq_true_eq] at this;exact⟨⟨this.1.1.2,this.1.2⟩,this.1.1.1⟩
theorem di {l:CX}(h:CP l=false∨l.vars.length=0):(0:Int)=GO l:=by
 unfold GO;rw[if_neg];rintro⟨h1,h2⟩;rcases h with h | h
 ·rw[h] at h1;cases h1
 exact h2 (List.length_eq_zero_iff.1 h)
theorem dY {l:CX}{x:CK}{i:Nat}(h:CP l=true) (hx:l.vars[i]?=some x) (hi:i=l.vars.length - 1):max 0 (x.index+1)=GO l:=by
 unfold GO;have hne:l.vars≠[]:=by intro e;simp[e] at hx
 rw[if_pos ⟨h,hne⟩,QC,←hi,List.getD_eq_getElem?_getD,hx];rfl
theorem Zw {l:List CK}{i j:Nat}{u:CK}{x:Int}(hj:l[j]?=some u) (he:i=j+1):(!Jp (Kb l i) x)=decide (u.index≥x):=by
 subst he;have e:Kb l (j+1)=some u.index:=by simp[Kb,hj]
 rw[e];simp only[Jp];rw[←decide_not,decide_eq_decide];omega
theorem WZ {l:List CK}{i:Nat}{x:Int}(h:¬(i:Int) > 0):(!Jp (Kb l i) x)=false:=by
 have:i=0:=by omega
 subst this;rfl
theorem cJ {x y:CK}{a b:List CK}(h:y.index<x.index):DC (x::a) (y::b)=y::DC (x::a) b:=by
 rw[DC,FG,if_neg An,if_pos h];rfl
def aJ (a b:List CK) (i k:Nat):Bool:=(k==b.length)||(match a[i]?,b[k]? with
 | some x,some y=>decide (x.index<y.index)
 | _,_=>false)
def eN (a b:List CK) (i k:Nat):Bool:=(i==a.length)||(match a[i]?,b[k]? with
 | some x,some y=>decide (y.index<x.index)
 | _,_=>false)
section
variable {a b:List CK}{i k:Nat}{vs:List CK}{m:Int}{x y:CK}
theorem YX (hx:a[i]?=some x) (hy:b[k]?=some y):decide (x.index<y.index)=aJ a b i k:=by
 have:=(List.getElem?_eq_some_iff.1 hy).1;simp only[aJ,hx,hy];rw[show (k==b.length)=false by simp;omega,Bool.false_or]
theorem YI (hx:a[i]?=some x) (hy:b[k]?=some y):decide (y.index<x.index)=eN a b i k:=by
 have:=(List.getElem?_eq_some_iff.1 hx).1;simp only[eN,hx,hy];rw[show (i==a.length)=false by simp;omega,Bool.false_or]
structure OD (a b:List CK) (i k:Nat) (vs:List CK) (m:Int):Prop where
 hi:i≤a.length
 hk:k≤b.length
 eq:vs++DC (a.drop i) (b.drop k)=DC a b
 mo:m=O3 vs
 ln:vs.length≤i+k
theorem OX (vs:List CK) (v:CK):O3 (vs++[v])=max (O3 vs) v.plus:=by simp[O3]
theorem OD.zero:OD a b 0 0 [] 0:=⟨by omega,by omega,by simp,rfl,by simp⟩
theorem OD.left (h:OD a b i k vs m) (hx:a[i]?=some x) (hs:aJ a b i k=true):OD a b (i+1) k (vs++[x]) (max m x.plus):=by
 have hl:=(List.getElem?_eq_some_iff.1 hx).1;have:=h.ln;refine⟨hl,h.hk,?_,by rw[OX,←h.mo],by simp;omega⟩;rw[←h.eq,Cm hx,List.append_assoc];congr 1;by_cases q:k<b.length
 ·obtain⟨y,hy⟩:∃y,b[k]?=some y:=⟨_,List.getElem?_eq_getElem q⟩;rw[←YX hx hy,decide_eq_true_eq] at hs;rw[Cm hy,DC,FG,if_pos hs];rfl
 rw[List.drop_eq_nil_of_le (show b.length≤k by omega),DC,FG];rfl
theorem OD.right (h:OD a b i k vs m) (hy:b[k]?=some y) (hs:aJ a b i k=false) (h2:eN a b i k=true):OD a b i (k+1) (vs++[y]) (max m y.plus):=by
 have hl:=(List.getElem?_eq_some_iff.1 hy).1;have:=h.ln;refine⟨h.hi,hl,?_,by rw[OX,←h.mo],by simp;omega⟩;rw[←h.eq,Cm hy,List.append_assoc];congr 1;by_cases q:i<a.length
 ·obtain⟨x,hx⟩:∃x,a[i]?=some x:=⟨_,List.getElem?_eq_getElem q⟩;rw[←YI hx hy,decide_eq_true_eq] at h2;rw[Cm hx,cJ h2];rfl
 rw[List.drop_eq_nil_of_le (show a.length≤i by omega),DC,DC];rfl
theorem OD.both (h:OD a b i k vs m) (hx:a[i]?=some x) (hy:b[k]?=some y) (hs:aJ a b i k=false) (h2:eN a b i k=false):OD a b (i+1) (k+1) (vs++[⟨x.index,max x.plus y.plus⟩]) (max m (max x.plus y.plus)):=by
 have hl:=(List.getElem?_eq_some_iff.1 hx).1;have hl':=(List.getElem?_eq_some_iff.1 hy).1;have:=h.ln;rw[←YX hx hy,decide_eq_false_iff_not] at hs;rw[←YI hx hy,decide_eq_false_iff_not] at h2;refine⟨hl,hl',?_,by rw[OX,←h.mo],by simp;omega⟩;rw[←h.eq,Cm hx,Cm hy,List.append_assoc,DC,FG,if_neg hs,if_neg h2];rfl
theorem OD.fin (h:OD a b i k vs m) (hc:¬(i<a.length∨k<b.length)):vs=DC a b∧m=O3 vs:=by
 refine⟨?_,h.mo⟩;rw[←h.eq,List.drop_eq_nil_of_le An,List.drop_eq_nil_of_le An];simp[DC]
end
theorem T3:∀{vs:List CK}{lo:Int},Kh vs→(∀v∈vs,lo≤v.index∧v.index<8)→lo≤8→(vs.length:Int)≤8 - lo
 | [],lo,_,_,h=>by simp;omega
 | x::vs,lo,ha,hv,h=>by
  rw[Kh,List.pairwise_cons] at ha;have hx:=hv x Ao;have:=T3 (vs:=vs) (lo:=x.index+1) ha.2 (fun v hv'=>⟨by have:=ha.1 v hv';omega,(hv v (by simp[hv'])).2⟩) An;simp only[List.length_cons];omega
structure Lg (l:CX):Prop where
 c:0≤l.const∧l.const≤100
 asc:Kh l.vars
 rg:∀v∈l.vars,(0≤v.plus∧v.plus≤100)∧ -65536≤v.index∧v.index<8
theorem Lg.len {l:CX}(h:Lg l):l.vars.length≤65544:=by
 have:=T3 (lo:= -65536) h.asc (fun v hv=>(h.rg v hv).2) An;omega
theorem Lg.nd {l:CX}(h:Lg l):RU l :=
 ⟨by have:=h.len;simp only[De];omega,by have:=h.c;unfold Ir;omega,fun v hv=>by have:=h.rg v hv;unfold Ir;omega⟩
theorem Lg.of {l:CX}(h:CP l=true):Lg l:=by
 have h0:=Z5 h;have h':=h;simp only[CP,Bool.and_eq_true,decide_eq_true_eq] at h';exact⟨h0,(Lb h'.2).1,fun v hv=>by obtain⟨i,hi⟩:=List.mem_iff_getElem?.1 hv;exact Tv h hi⟩
theorem Lg.join {a b:CX}(h1:Lg a) (h2:Lg b):Lg (Ql a b):=by
 have hc1:=h1.c;have hc2:=h2.c;refine⟨?_,N1 h1.asc h2.asc,HN (Q:=fun v=>(0≤v.plus∧v.plus≤100)∧ -65536≤v.index∧v.index<8) (fun u v g1 g2 _=>by simp only;omega) _ _ h1.rg h2.rg⟩;simp only[Ql,UU];split<;>omega
theorem Lg.one {v:CK}(h:(0≤v.plus∧v.plus≤100)∧ -65536≤v.index∧v.index<8):Lg ⟨0,[v]⟩:=⟨by simp,by simp[Kh],by simpa using h⟩
theorem Lg.num {n:Int}(h:0≤n∧n≤100):Lg ⟨n,[]⟩:=⟨h,by simp[Kh],by simp⟩
theorem Lg.plus {l:CX}{n:Int}(hl:CP l=true) (h0:0≤n) (h1:n≤100) (he:(PA l n).2=0):Lg (PA l n).1:=by
 rcases Ot hl h0 h1 with ⟨e,_⟩ | ⟨e,q1,q2⟩
 ·rw[e] at he;simp at he
 have h:=Lg.of hl;have hc:=h.c;rw[e];refine⟨?_,bG h.asc,fun w hw=>?_⟩
 ·simp only[Qo];split<;>omega
 simp only[List.mem_map] at hw;obtain⟨u,hu,rfl⟩:=hw;have:=h.rg u hu;have:=q2 u hu;simp only[Yq];omega
section
variable {ps:List CX}{q p:CX}{vs:List CK}{v:CK}{i:Nat}
theorem CR {α:Type} [Inhabited α] {l:List α}{i:Nat}{x:α}(h:l[i]?=some x):l.getD i default=x:=by rw[List.getD_eq_getElem?_getD,h];rfl
end
theorem jn (e:Int):GC e 0=e:=by unfold GC;split<;>simp_all
def Mn {α:Type}(p:α→Bool):List α→Int→Int
 | [],_=> -1
 | x::l,i=>if p x=true then i else Mn p l (i+1)
theorem UB {α:Type}{p:α→Bool}{l:List α}{i:Nat}{x:α}{k:Int}(h:l[i]?=some x):Mn p (l.drop i) k=if p x=true then k else Mn p (l.drop (i+1)) (k+1):=by rw[Cm h,Mn]
theorem UM {α:Type}{p:α→Bool}:∀(l:List α) (i:Int),0≤i→decide (Mn p l i≥0)=l.any p
 | [],i,_=>by simp[Mn]
 | x::l,i,h=>by
  simp only[Mn,List.any_cons];split
  ·rename_i q;simp[q,h]
  rename_i q;rw[UM l (i+1) An];simp[q]
theorem I9 (c:Int):∀(p:Option Int) (vs:List CK),FE c p vs=(FE 0 p vs&&(decide (c≤0)|| !(vs.any fun v=>decide (c≤v.plus))))
 | p,[]=>by simp[FE]
 | p,v::vs=>by
  simp only[FE,I9 c _ vs,List.any_cons,We];by_cases h:c≤0
  ·simp[h]
  simp only[h,decide_false,Bool.false_or,Int.le_refl,decide_true,Bool.true_or,Bool.and_true,Bool.not_or];have:decide (v.plus<c)= !decide (c≤v.plus):=by rw[←decide_not,decide_eq_decide];omega
  rw[this];cases (!decide (c≤v.plus))<;>cases Jp p v.index<;>cases FE 0 (some v.index) vs<;>simp
theorem jt {l:CX}(h:(l.const<0∨100<l.const)∨0<l.const∧PB l=true):false=CP l:=by
 rcases h with h | ⟨h1,h2⟩
 ·exact j4 h
 unfold PB at h2;rw[CP,I9,h2,decide_eq_false (p:=l.const≤0) An];simp
theorem fX {l:CX}{i:Nat}(h:Dk 0 l.vars 0=Dk 0 l.vars i) (hb:Dk 0 l.vars i=false):false=CP l:=by
 rw[CP,I9,show FE 0 none l.vars=Dk 0 l.vars 0 from rfl,h,hb];simp
theorem gz {l:CX}{i:Nat}(h1:¬((l.const<0∨100<l.const)∨0<l.const∧PB l=true)) (h:Dk 0 l.vars 0=Dk 0 l.vars i) (hb:l.vars.length≤i):true=CP l:=by
 rw[CP,I9,show FE 0 none l.vars=Dk 0 l.vars 0 from rfl,h,j1 hb];simp only[not_or,not_and] at h1;rw[decide_eq_true An,decide_eq_true An];by_cases q:l.const≤0
 ·simp[q]
 have:=h1.2 An;simp only[PB,Bool.not_eq_true] at this;simp[this,q]
section
variable {l:List CK}{i j:Nat}{x u:CK}
theorem Od (h:((x.index < -65536∨7<x.index)∨x.plus<0)∨100<x.plus):true= !(We 0 x&&Jp (Kb l i) x.index):=by
 rw[jG An];rfl
theorem LX (h:¬(((x.index < -65536∨7<x.index)∨x.plus<0)∨100<x.plus)) (hi:(i:Int)≤0):false= !(We 0 x&&Jp (Kb l i) x.index):=by
 rw[Xa An An,Bool.true_and,WZ An]
theorem SJ (hj:l[j]?=some u) (he:i=j+1) (h:¬(((x.index < -65536∨7<x.index)∨x.plus<0)∨100<x.plus)):decide (u.index≥x.index)= !(We 0 x&&Jp (Kb l i) x.index):=by
 rw[Xa An An,Bool.true_and,Zw hj he]
end
theorem nO {l:CX}(h:(0≤l.const∧l.const≤100)∧(0<l.const→PB l=false)):¬((l.const<0∨100<l.const)∨0<l.const∧PB l=true):=by
 rintro((q | q) | ⟨q1,q2⟩)
 ·omega
 ·omega
 rw[h.2 q1] at q2;cases q2
theorem nr {l:CX}(h:CP l=true→(l.vars.length:Int)≤0):CP l=false∨l.vars.length=0:=by
 by_cases q:CP l=true
 ·exact .inr (by have:=h q;omega)
 exact .inl (by simpa using q)
def GI (m:List (Int×Int)):List (Int×AV):=m.map fun p=>(p.1,.p (I p.2))
theorem Tg (k:Int):∀m:List (Int×Int),JN k (GI m)=(mg k m).map fun v=> .p (I v)
 | []=>rfl
 | (j,x)::m=>by
  have ih:=Tg k m;simp only[GI] at ih;simp only[GI,List.map_cons,JN,mg];split
  ·rfl
  exact ih
theorem X1 (k v:Int):∀m:List (Int×Int),MJ k (.p (I v)) (GI m)=GI (ms k v m)
 | []=>rfl
 | (j,x)::m=>by
  have ih:=X1 k v m;simp only[GI] at ih;simp only[GI,List.map_cons,MJ,ms];split
  ·rfl
  rw[ih];rfl
theorem Ut (m:List (Int×Int)) (k:Int):(JN k (GI m)).getD (.p (I 0))= .p (I ((mg k m).getD 0)):=by rw[Tg];cases mg k m<;>rfl
theorem dZ (m:List (Int×Int)) (k:Int):(JN k (GI m)).isSome=(mg k m).isSome:=by rw[Tg];cases mg k m<;>rfl
theorem Yx {m:List (Int×Int)}{i p:Int}(h:(mg i m).isSome=false∨(mg i m).getD 0<p):FZ m i p=ms i p m:=by
 unfold FZ;cases e:mg i m with
 | none=>rfl
 | some old =>
  rw[e] at h;simp at h;simp only;rw[if_pos An]
theorem WO {m:List (Int×Int)}{i p:Int}(h:(mg i m).isSome=true∧p≤(mg i m).getD 0):FZ m i p=m:=by
 unfold FZ;cases e:mg i m with
 | none=>rw[e] at h;simp at h
 | some old =>
  rw[e] at h;simp at h;simp only;rw[if_neg An]
theorem p7 {l:CX}{i:Nat}{x:CK}(hx:l.vars[i]?=some x) (h:100<x.plus):Ij l=(Gy,15):=by
 unfold Ij;rw[if_pos];rw[List.any_eq_true];exact⟨x,List.mem_of_getElem? hx,by simpa using h⟩
theorem qQ {l:CX}(h:100<l.const):Ij l=(Gy,15):=by
 unfold Ij;split
 ·rfl
 first | rfl | rw[if_pos An]
theorem XZ {l:CX}(h:∀j,j<l.vars.length→∀y,l.vars[j]?=some y→¬100<y.plus):¬(l.vars.any fun v=>decide (v.plus > 100))=true:=by
 rw[List.any_eq_true];rintro⟨x,hx,hq⟩;obtain⟨j,hj⟩:=List.mem_iff_getElem?.1 hx;exact h j (List.getElem?_eq_some_iff.1 hj).1 x hj (by simpa using hq)
theorem qN {l:CX}(h:∀j,j<l.vars.length→∀y,l.vars[j]?=some y→¬100<y.plus) (h1:l.const≤100) (h2:PB l=true):Ij l=(⟨0,l.vars⟩,0):=by
 unfold Ij;rw[if_neg (XZ h),if_neg An,if_pos h2]
theorem qC {l:CX}(h:∀j,j<l.vars.length→∀y,l.vars[j]?=some y→¬100<y.plus) (h1:l.const≤100) (h2:PB l=false):Ij l=(l,0):=by
 unfold Ij;rw[if_neg (XZ h),if_neg An,if_neg (by simp[h2])]
theorem Yb {n:Int}{vs:List CK}{i:Nat}{x:CK}{M:List (Int×Int)}(hx:vs[i]?=some x):FZ ((vs.take i).foldl (HA n) M) x.index (x.plus+n)=(vs.take (i+1)).foldl (HA n) M:=by
 rw[List.take_add_one,hx,List.foldl_append];rfl
theorem step_take {ps:List CX}{vs:List CK}{i:Nat}{x:CK}{S:List (Int×Int)×Int}(hx:vs[i]?=some x):(vs.take (i+1)).foldl (Dn ps) S=Dn ps ((vs.take i).foldl (Dn ps) S) x:=by
 rw[List.take_add_one,hx,List.foldl_append];rfl
theorem Yf (M:List (Int×Int)):(GJ M).length=M.length:=by simp[GJ,Sl]
def PG (M:List (Int×Int)) (k:Int):CK:=⟨k,(mg k M).getD 0⟩
theorem WG {M:List (Int×Int)}{i:Nat}(h:(Eo (M.map Prod.fst)).length≤i):((Eo (M.map Prod.fst)).take i).map (PG M)=GJ M:=by
 rw[List.take_of_length_le h];rfl
theorem TH {ps:List CX}{S:List (Int×Int)×Int}{x:CK}(h:x.index<0):Dn ps S x=(FZ S.1 x.index x.plus,S.2):=by unfold Dn;rw[if_pos h]
theorem UK {ps:List CX}{S:List (Int×Int)×Int}{x:CK}{p:CX}(h:0≤x.index) (hp:ps[x.index.toNat]?=some p):Dn ps S x=RI (S.1,S.2) p x.plus:=by unfold Dn;rw[if_neg An,CR hp]
theorem PH.len {m:List (Int×Int)}(h:PH m) (hr:∀k∈m.map Prod.fst,-65536≤k∧k<8):m.length≤65544:=by
 have ha:=SG h;have:=T3 (lo:= -65536) ha (fun v hv=>by
  simp only[GJ,List.mem_map] at hv;obtain⟨k,hk,rfl⟩:=hv;exact hr k ((Mf _).mem_iff.1 hk)) An
 rw[Yf] at this;omega
structure WH (S:List (Int×Int)×Int):Prop where
 m:PH S.1
 r:∀k∈S.1.map Prod.fst,-65536≤k∧k<8
theorem WH.len {S:List (Int×Int)×Int}(h:WH S):S.1.length≤65544:=h.m.len h.r
theorem Px {m:List (Int×Int)}{i p:Int}{Q:Int→Prop}(h:∀k∈m.map Prod.fst,Q k) (hi:Q i):∀k∈(FZ m i p).map Prod.fst,Q k:=by
 have hs:∀k∈(ms i p m).map Prod.fst,Q k:=by
  rw[Tq];split
  ·exact h
  intro k hk;rcases List.mem_append.1 hk with hk | hk
  ·exact h k hk
  rw[List.mem_singleton.1 hk];exact hi
 unfold FZ;split
 ·split
  ·exact hs
  exact h
 exact hs
theorem Se {n:Int}{Q:Int→Prop}:∀(vs:List CK) (m:List (Int×Int)),(∀k∈m.map Prod.fst,Q k)→(∀v∈vs,Q v.index)→∀k∈(vs.foldl (HA n) m).map Prod.fst,Q k
 | [],m,h,_=>h
 | v::vs,m,h,hv=>Se vs (HA n m v) (Px h (hv v Ao)) fun w hw=>hv w (by simp[hw])
theorem WH.step {ps:List CX}{S:List (Int×Int)×Int}{x:CK}(hps:∀l∈ps,CP l=true) (h:WH S) (hx:(0≤x.plus∧x.plus≤100)∧ -65536≤x.index∧x.index<8) (hi:x.index<ps.length):WH (Dn ps S x):=by
 refine⟨(Vl hps h.m hx.1.1 hi).1,?_⟩;unfold Dn;split
 ·exact Px h.r hx.2
 rename_i q;refine Se _ _ h.r fun v hv=>?_;have hlt:x.index.toNat<ps.length:=by omega
 rw[List.getD_eq_getElem?_getD,List.getElem?_eq_getElem hlt] at hv;exact((Lg.of (hps _ (List.getElem_mem hlt))).rg v hv).2
theorem WH.fold {ps:List CX}(hps:∀l∈ps,CP l=true):∀(vs:List CK) (S:List (Int×Int)×Int),WH S→(∀x∈vs,((0≤x.plus∧x.plus≤100)∧ -65536≤x.index∧x.index<8)∧x.index<ps.length)→WH (vs.foldl (Dn ps) S)
 | [],S,h,_=>h
 | v::vs,S,h,hv=>WH.fold hps vs _ (h.step hps (hv v Ao).1 (hv v Ao).2) fun w hw=>hv w (by simp[hw])
theorem WH.zero (c:Int):WH ([],c):=⟨PH.nil,by simp⟩
theorem aE {l:CX}{ps:List CX}{i:Nat}{x:CK}(h:CP l=true) (hp:¬(GO l > ps.length)) (hx:l.vars[i]?=some x):x.index<ps.length:=by
 have hm:=List.mem_of_getElem? hx;have:=NG (Lg.of h).asc x hm;unfold GO at hp;rw[if_pos ⟨h,List.ne_nil_of_mem hm⟩] at hp;omega
def IA (ps:List CX):List CX→Except Int (List CX)
 | []=> .ok []
 | l::ls=>if (EC l ps).2≠0 then .error (EC l ps).2 else match IA ps ls with
  | .ok zs=> .ok ((EC l ps).1::zs)
  | .error e=> .error e
def Mw (ys:List CX):Except Int (List CX)→Except Int (List CX)
 | .ok zs=> .ok (ys++zs)
 | .error e=> .error e
def Ts (ps:List CX) (_:Unit) (t:Tm) (_:Int):Except Int ((Tm×Bool)×Unit):=match IA ps t.levels with
 | .ok ls=> .ok ((.mk t.kind t.index t.name ls [],false),())
 | .error e=> .error e
section
variable {ps:List CX}
theorem jU {ls ys:List CX}{i:Nat}{l:CX}(h:ls[i]?=some l) (h0:(EC l ps).2=0):Mw ys (IA ps (ls.drop i))=Mw (ys++[(EC l ps).1]) (IA ps (ls.drop (i+1))):=by
 rw[Cm h,IA,if_neg (by simp[h0])];cases IA ps (ls.drop (i+1))<;>simp[Mw]
theorem iz {ls ys:List CX}{i:Nat}{l:CX}(h:ls[i]?=some l) (h0:(EC l ps).2≠0):Mw ys (IA ps (ls.drop i))= .error (EC l ps).2:=by
 rw[Cm h,IA,if_pos h0];rfl
theorem Qv:∀(ls:List CX) (er:Int),er≠0→(Hc ps er ls).2=er
 | [],er,_=>rfl
 | l::ls,er,h=>by
  rw[Hc];simp only;rw[show GC er (EC l ps).2=er by unfold GC;rw[if_neg h]];exact Qv ls er h
mutual
theorem gx:∀(t:Tm) (er:Int),er≠0→(Ky ps er t).2=er
 | .mk k i n ls ks,er,h=>by
  rw[Ky];simp only;rw[Qv ls er h];exact Mz ks er h
theorem Mz:∀(ts:List Tm) (er:Int),er≠0→(Iz ps er ts).2=er
 | [],er,_=>rfl
 | t::ts,er,h=>by
  rw[Iz];simp only;rw[gx t er h];exact Mz ts er h
end
theorem UT:∀(ls:List CX),IA ps ls=if (Hc ps 0 ls).2=0 then .ok (Hc ps 0 ls).1 else .error (Hc ps 0 ls).2
 | []=>rfl
 | l::ls=>by
  have ih:=UT ls;rw[IA,Hc];simp only;by_cases h:(EC l ps).2=0
  ·rw[if_neg (by simp[h]),h,jn,ih];by_cases q:(Hc ps 0 ls).2=0
   ·rw[if_pos q,if_pos q]
   rw[if_neg q,if_neg q]
  rw[if_pos h,show GC 0 (EC l ps).2=(EC l ps).2 from rfl,Qv ls _ h,if_neg h]
mutual
theorem OI:∀(t:Tm) (d:Int),Di (Ts ps) t d ()=Er (Ky ps 0 t)
 | .mk k i n ls ks,d=>by
  rw[Di,Ky];simp only[Ts,Tm.levels,Tm.kind,Tm.index,Tm.name,UT];by_cases h:(Hc ps 0 ls).2=0
  ·rw[if_pos h,h];simp only[DS];rw[if_neg Ao,Qj k 0 ks d];unfold Er GP;simp only;by_cases q:(Iz ps 0 ks).2=0
   ·rw[if_pos q,if_pos q];rfl
   rw[if_neg q,if_neg q]
  rw[if_neg h];simp only[DS,Er];rw[Mz ks _ h,if_neg h]
theorem Qj (k:Int):∀(j:Nat) (ts:List Tm) (d:Int),Dd (Ts ps) k j ts d ()=GP (Iz ps 0 ts)
 | _,[],_=>rfl
 | j,t::ts,d=>by
  rw[Dd,OI t,Iz];unfold Er GP;simp only;by_cases h:(Ky ps 0 t).2=0
  ·rw[if_pos h,h];simp only[DS];rw[Qj k (j+1) ts d];unfold GP;by_cases q:(Iz ps 0 ts).2=0
   ·rw[if_pos q,if_pos q]
   rw[if_neg q,if_neg q]
  rw[if_neg h,Mz ts _ h,if_neg h];rfl
end
end
theorem Zp (x:Except Int (List CX)):x=Mw [] x:=by cases x<;>simp[Mw]
theorem gF {ps:List CX}{s:Unit}{k i d e:Int}{n:ByteArray}{ls:List CX}{ks:List Tm}(h:IA ps ls= .error e):Ts ps s (.mk k i n ls ks) d= .error e:=by
 simp only[Ts,Tm.levels,h]
theorem jv {ps:List CX}{s:Unit}{k i d:Int}{n:ByteArray}{ls ys:List CX}{ks:List Tm}(h:IA ps ls= .ok ys):Ts ps s (.mk k i n ls ks) d= .ok ((.mk k i n ys [],false),()):=by
 simp only[Ts,Tm.levels,Tm.kind,Tm.index,Tm.name,h]
theorem set_drop {ys tl:List CX}{i:Nat}{x m:CX}(h:ys.length=i) (hx:tl[i]?=some x):(ys++tl.drop i).set i m=(ys++[m])++tl.drop (i+1):=by
 subst h;rw[Cm hx];simp
theorem kN {ps:List CX}{tl ys:List CX}{i:Nat}{X:Except Int (List CX)}(h:X=Mw ys (IA ps (tl.drop i))) (hi:tl.length≤i):X= .ok ys:=by
 rw[h,List.drop_eq_nil_of_le hi];simp[IA,Mw]
theorem ZY (m:CX):Fy (((B5 m).map AV.p).map dn)=some (B5 m):=by obtain⟨c,v⟩:=m;rfl
theorem VY {t:Tm}{ps:List CX}{e:Int}(h:Er (Ky ps 0 t)= .error e):By t ps=(BZ,e):=by
 unfold Er at h;unfold By;split at h
 ·cases h
 rename_i q;cases h;rw[if_pos q]
theorem V6 {t z:Tm}{ps:List CX}{u:Unit}(h:Er (Ky ps 0 t)= .ok (z,u)):By t ps=(z,0):=by
 unfold Er at h;unfold By;split at h
 ·rename_i q;cases h;rw[if_neg (by simp[q])]
 cases h
def E8 {α:Type}(a b:Out α):Prop:=a= .stuck∨a=b
section
variable {α β:Type}
theorem E8.refl (a:Out α):E8 a a:= .inr rfl
theorem E8.bind {a b:Out α}{k k':α→Out β}(h:E8 a b) (hk:∀x,E8 (k x) (k' x)):E8 (a.bind k) (b.bind k'):=by
 rcases h with rfl | rfl
 ·exact .inl O
 cases a with
 | stuck=>exact .inl rfl
 | fail=>exact .inr rfl
 | ok x=>exact hk x
theorem E8.ite {c:Prop} [Decidable c] {a a' b b':Out α}(h1:E8 a a') (h2:E8 b b'):E8 (if c then a else b) (if c then a' else b'):=by
 split
 ·exact h1
 exact h2
theorem E8.chk {σ:Type}{a b:Out (Tm×σ)}{k k':Tm×σ→Out β}(h:E8 a b) (hk:∀x,E8 (k x) (k' x)):E8 (a.chk k) (b.chk k'):=E8.bind h fun x=>E8.ite (hk x) (E8.refl _)
variable {σ:Type}{E:List CC}{S:Sys σ}
theorem E8.put {s:σ}{x:Tm×Int}{k k':Tm→σ→Out β}(hk:∀t s',E8 (k t s') (k' t s')):E8 (S.put s x k) (S.put s x k'):=by
 unfold Sys.put;refine E8.ite ?_ (E8.refl _);cases S.res s x.1 x.2 with
 | none=>exact E8.refl _
 | some s'=>exact hk _ _
variable {W W':σ→Tm→Out (Tm×σ)}(hW:∀s t,E8 (W s t) (W' s t))
include hW
theorem Xe:∀(n m:Nat),n≤m→∀(t:E3) (v:List Tm) (l:Tm) (s:σ),E8 (Dm E S W n t v l s) (Dm E S W' m t v l s)
 | 0,_,_,_,_,_,_=> .inl rfl
 | n+1,0,h,_,_,_,_=>absurd h An
 | n+1,m+1,h,t,v,l,s=>by
  rw[Dm,Dm];refine E8.ite (E8.ite (E8.refl _) (E8.chk (hW _ _) fun r=>?_)) (E8.refl _);cases C8 E r.1 with
  | none=>exact E8.refl _
  | some q =>
   obtain⟨d,j,f⟩:=q;simp only;cases Cl (Ev d j).name t.branches with
   | none=>exact E8.refl _
   | some t'=>exact Xe n m An _ _ _ _
theorem dX {n m:Nat}(h:n≤m) (x:Tm) (a:List Tm) (s:σ):E8 (Dy E S W n x a s) (Dy E S W' m x a s):=by
 unfold Dy;cases Ix E x with
 | none=>exact E8.refl _
 | some y =>
  simp only;refine E8.ite (E8.refl _) (E8.ite ?_ (E8.ite ?_ (E8.refl _)))
  ·unfold PJ;exact E8.ite (E8.refl _) (E8.chk (hW _ _) fun r=>E8.refl _)
  unfold H4;exact E8.ite (E8.refl _) (E8.bind (Xe hW n m h _ _ _ _) fun q=>E8.refl _)
end
section
variable {σ:Type}{E:List CC}{S:Sys σ}
theorem fy {β:Type}{h:Tm}{a:List Tm}{s:σ}{k k':Tm→σ→Out β}(hk:∀t s',E8 (k t s') (k' t s')):E8 (KT S h a s k) (KT S h a s k'):=by
 unfold KT;cases h.kids[1]? with
 | none=>exact E8.refl _
 | some b=>exact E8.put fun t s'=>hk _ _
theorem j6 {β:Type}{h:Tm}{a:List Tm}{s:σ}{k k':Tm→σ→Out β}(hk:∀t s',E8 (k t s') (k' t s')):E8 (PE S h a s k) (PE S h a s k'):=by
 unfold PE;cases h.kids[1]? with
 | none=>exact E8.refl _
 | some b =>
  cases h.kids[2]? with
  | none=>exact E8.refl _
  | some c=>exact E8.put fun t s'=>hk _ _
theorem iE {β:Type}{h p:Tm}{a:List Tm}{s:σ}{k k':Tm→σ→Out β}(hk:∀t s',E8 (k t s') (k' t s')):E8 (JU S h p a s k) (JU S h p a s k'):=by
 unfold JU;cases p.kids[(1+h.kind - 9).toNat]? with
 | none=>exact E8.refl _
 | some q=>exact E8.put fun t s'=>hk _ _
theorem bA:∀(n m:Nat),n≤m→∀(s:σ) (t:Tm),E8 (DJ E S n s t) (DJ E S m s t)
 | 0,_,_,_,_=> .inl rfl
 | n+1,0,h,_,_=>absurd h An
 | n+1,m+1,h,s,t=>by
  have ih:=bA n m An;rw[DJ,DJ];refine E8.ite (E8.refl _) (E8.ite (E8.refl _) (E8.ite (E8.refl _) (E8.ite (E8.ite (E8.refl _) (fy fun t s'=>ih _ _)) (E8.ite (j6 fun t s'=>ih _ _) (E8.ite ?_ (E8.ite ?_ (E8.refl _)))))))
  ·cases (A9 t).1.kids[0]? with
   | none=>exact E8.refl _
   | some p=>exact E8.chk (ih _ _) fun r=>E8.ite (E8.refl _) (iE fun t s'=>ih _ _)
  refine E8.bind (dX ih An _ _ _) fun r=>?_;cases r.1 with
  | none=>exact E8.refl _
  | some x=>exact ih _ _
end
theorem eL {k i:Int}{n:ByteArray}{l:List CX}{ts:List Tm}{x y:Tm}(h:k=6∧((ts.length:Nat):Int)=2) (hx:ts[0]?=some x) (hy:ts[1]?=some y):Hk (.mk k i n l ts)=(x::(Hk y).1,(Hk y).2):=by
 obtain⟨rfl,h2⟩:=h;rw[cQ h2 hx hy,Hk,if_pos rfl]
theorem eb {k i:Int}{n:ByteArray}{l:List CX}{ts:List Tm}(h:k≠6∨((ts.length:Nat):Int)≠2):Hk (.mk k i n l ts)=([],.mk k i n l ts):=by
 unfold Hk;split
 ·rename_i k' i' n' l' a b e;injection e with e1 e2 e3 e4 e5;subst e1 e2 e3 e4 e5;simp at h;rw[if_neg h]
 rfl
theorem ZF {k i:Int}{n:ByteArray}{ls:List CX}{ts l:List Tm}{x y:Tm}{X:List Tm×Tm}(h:k=6∧((ts.length:Nat):Int)=2) (hx:ts[0]?=some x) (hy:ts[1]?=some y) (hX:(l++(Hk (.mk k i n ls ts)).1,(Hk (.mk k i n ls ts)).2)=X):((l++[x])++(Hk y).1,(Hk y).2)=X:=by
 rw[←hX,eL h hx hy];simp
theorem dw {k i:Int}{n:ByteArray}{ls:List CX}{ts l:List Tm}{X:List Tm×Tm}(h:k≠6∨((ts.length:Nat):Int)≠2) (hX:(l++(Hk (.mk k i n ls ts)).1,(Hk (.mk k i n ls ts)).2)=X):X=(l,.mk k i n ls ts):=by
 rw[←hX,eb h];simp
theorem Jq:∀(t:Tm),(Hk t).1.length<size t
 | .mk k i n l [a,b]=>by
  unfold Hk;split
  ·have:=Jq b;have:=size_pos a;simp only[List.length_cons,size,BS];omega
  ·simp[size,BS];omega
 | .mk k i n l []=>by simp[Hk,size,BS]
 | .mk k i n l [_]=>by simp[Hk,size,BS];omega
 | .mk k i n l (_::_::_::_)=>by simp[Hk,size,BS];omega
mutual
def Ew:E3→Prop
 | .mk k b v l=>okB b=true∧QY l
def iT:F7→Prop
 | .mk c a t=>Ew t
def QY:List F7→Prop
 | []=>True
 | b::l=>iT b∧QY l
end
structure DG (d:CC):Prop where
 din:OB d
 fx:0≤d.fixed∧d.fixed≤1000000
 vl:okB d.value=true
 ru:∀t∈d.recs.rules,okB t=true
 fu:∀f∈d.funs,1≤f.arity∧f.arity≤16∧Ew f.tree
structure Lz (E:List CC):Prop where
 env:Hn E
 all:∀d∈E,DG d
theorem Pw {nm:ByteArray}:∀{l:List (ByteArray×Fk)}{e:Fk},Cd nm l=some e→∃s,(s,e)∈l
 | (s,x)::l,e,h=>by
  simp only[Cd] at h;split at h
  ·cases h;exact⟨s,by simp⟩
  obtain⟨s',h'⟩:=Pw h;exact⟨s',List.mem_cons_of_mem _ h'⟩
theorem U5 {i p:Int}{s:ByteArray}{e:Fk}:∀{cs:List Hq}{k:Int},(s,e)∈Hg i p cs k→∃(j:Nat) (c:Hq),cs[j]?=some c∧e=⟨4,i,k+j,p,c.type⟩
 | c::cs,k,h=>by
  simp only[Hg,List.mem_cons] at h;rcases h with h | h
  ·cases h;exact⟨0,c,rfl,by simp⟩
  obtain⟨j,c',h1,h2⟩:=U5 h;exact⟨j+1,c',by simpa using h1,by rw[h2];congr 1;omega⟩
theorem Xv {i p:Int}{s:ByteArray}{e:Fk}:∀{cs:List Gh}{k:Int},(s,e)∈Ku i p cs k→∃(j:Nat) (c:Gh),cs[j]?=some c∧e=⟨6,i,k+j,p,c.type⟩
 | c::cs,k,h=>by
  simp only[Ku,List.mem_cons] at h;rcases h with h | h
  ·cases h;exact⟨0,c,rfl,by simp⟩
  obtain⟨j,c',h1,h2⟩:=Xv h;exact⟨j+1,c',by simpa using h1,by rw[h2];congr 1;omega⟩
structure Xh (d:CC) (i:Int) (e:Fk):Prop where
 decl:e.decl=i
 kind:0≤e.kind∧e.kind≤6
 ctor:e.kind=4→∃(j:Nat) (c:Hq),d.ctors[j]?=some c∧e.item=j
 func:e.kind=6→∃(j:Nat) (c:Gh),d.funs[j]?=some c∧e.item=j
theorem kG {d:CC}{i:Int}{s:ByteArray}{e:Fk}(h:(s,e)∈Ep d i):Xh d i e:=by
 unfold Ep at h;split at h
 ·rename_i hk;simp only[List.mem_singleton,Prod.mk.injEq] at h;obtain⟨_,rfl⟩:=h;exact⟨O,by simp only;omega,fun q=>by simp only at q;omega,fun q=>by simp only at q;omega⟩
 split at h
 ·simp only[List.mem_cons,List.mem_append,List.mem_singleton,Prod.mk.injEq,List.not_mem_nil,or_false] at h;rcases h with ⟨_,rfl⟩ | h | ⟨_,rfl⟩
  ·exact⟨O,by simp,fun q=>by simp at q,fun q=>by simp at q⟩
  ·obtain⟨j,c,h1,rfl⟩:=U5 h;exact⟨O,by simp,fun _=>⟨j,c,h1,by simp⟩,fun q=>by simp at q⟩
  exact⟨O,by simp,fun q=>by simp at q,fun q=>by simp at q⟩
 split at h
 ·obtain⟨j,c,h1,rfl⟩:=Xv h;exact⟨O,by simp,fun q=>by simp at q,fun _=>⟨j,c,h1,by simp⟩⟩
 cases h
theorem VM {nm:ByteArray}:∀{ds:List CC}{k:Int}{e:Fk},findF nm ds k=some e→∃(i:Nat) (d:CC),ds[i]?=some d∧Xh d (k+i) e
 | d::ds,k,e,h=>by
  simp only[findF] at h;split at h
  ·rename_i x hx;cases h;obtain⟨s,hs⟩:=Pw hx;exact⟨0,d,O,by simpa using kG hs⟩
  obtain⟨i,d',h1,h2⟩:=VM h;refine⟨i+1,d',by simpa using h1,?_⟩;rw[show k+((i+1:Nat):Int)=k+1+i by omega];exact h2
theorem Ps {ds:List CC}{nm:ByteArray}(h:(Bq ds nm).2=0):∃(i:Nat) (d:CC),ds[i]?=some d∧Xh d i (Bq ds nm).1:=by
 unfold Bq at h ⊢;cases e:findF nm ds 0 with
 | none=>rw[e] at h;simp at h
 | some x =>
  obtain⟨i,d,h1,h2⟩:=VM e;exact⟨i,d,h1,by simpa using h2⟩
def Uz:CC:=⟨0,⟨#[]⟩,0,BZ,BZ,0,[],⟨0,BZ,[]⟩,[]⟩
def Ds (E:List CC) (nm:ByteArray):CC×Int×Bool:=match Gm E nm with
 | some (d,j)=>(d,j,true)
 | none=>(Uz,0,false)
section
variable {E:List CC}{nm:ByteArray}{x:CC}
theorem iA (h:(Bq E nm).2≠0):Ds E nm=(Uz,0,false):=by simp[Ds,Gm,h]
theorem Oe (hx:E[(Bq E nm).1.decl.toNat]?=some x):CQ E (Bq E nm).1.decl=x:=CR hx
theorem lI (h:(Bq E nm).2=0) (h3:(Bq E nm).1.kind=3) (hx:E[(Bq E nm).1.decl.toNat]?=some x):Ds E nm=(x,-1,true):=by
 simp[Ds,Gm,h,h3,Oe hx]
theorem nH (h:(Bq E nm).2=0) (h3:(Bq E nm).1.kind=4) (hx:E[(Bq E nm).1.decl.toNat]?=some x):Ds E nm=(x,(Bq E nm).1.item,true):=by
 simp[Ds,Gm,h,h3,Oe hx]
theorem kb (h:(Bq E nm).2=0) (h3:(Bq E nm).1.kind=5) (hx:E[(Bq E nm).1.decl.toNat]?=some x):Ds E nm=(x,-2,true):=by
 simp[Ds,Gm,h,h3,Oe hx]
theorem jq (h3:(Bq E nm).1.kind≠3) (h4:(Bq E nm).1.kind≠4) (h5:(Bq E nm).1.kind≠5):Ds E nm=(Uz,0,false):=by
 simp[Ds,Gm,h3,h4,h5]
end
theorem Ha {d:CC}(h:OB d) (hf:0≤d.fixed∧d.fixed≤1000000):0≤NN d∧NN d≤1000000:=by
 have h1:=Jq d.type;have h2:=h.ty.sz;unfold NN ZC;omega
def V1 (E:List CC) (h:Tm):Bool:=decide ((Bq E h.name).2=0)&&decide ((h.levels.length:Int)=(Bq E h.name).1.params)
theorem Cx (E:List CC) (h:Tm):Ix E h=if V1 E h=true then some (Bq E h.name).1 else none:=by
 unfold Ix V1;simp only[Bool.and_eq_true,decide_eq_true_eq]
theorem je {E:List CC}{k i:Int}{n:ByteArray}{ls:List CX}{ks:List Tm}(h:(Bq E n).2=0):(((ls.length:Nat):Int)==(Bq E n).1.params)=V1 E (.mk k i n ls ks):=by
 simp only[V1,Tm.name,Tm.levels,h,decide_true,Bool.true_and];rw[Bool.eq_iff_iff,beq_iff_eq];exact⟨fun q=>decide_eq_true q,fun q=>of_decide_eq_true q⟩
theorem nN {E:List CC}{k i:Int}{n:ByteArray}{ls:List CX}{ks:List Tm}(h:(Bq E n).2≠0):false=V1 E (.mk k i n ls ks):=by
 simp[V1,Tm.name,h]
end Go.Eu
namespace Go.Proofs.YtboammbpdaoojaaGreat
open Go.Abs Go.Eu
theorem jg:∀(b0:Nat) (l:CX) (x:CK),Bl Tryz.prog 196 [.agg ((Ge x).map .p),.ptr b0 0] [.box b0 ((B5 l).map .p)] (G5 (.p (.bool (decide (l.const≤x.plus)))) [.box b0 ((B5 l).map .p)]):=by
 intro b0 l x;refine A4 Tryz.func196 O nh (n:=9) O O (Aw (BG O (BO O) fun b2=>Ar A0 1 [] O (As A0 6 [0,1] O (Az (⟨O,_,_,⟨_,_,O,O,O⟩,(CH (is:=[1]) O),?_⟩)))))
 all_goals exact⟨rfl,rfl⟩
theorem jC:∀(b0:Nat) (l:CX) (vs:List CK),(vs.length<De)→Bl Tryz.prog 200 [.p (.lst (List.map Ge vs)),.fn (.func 196) [] [.ptr b0 0]] [.box b0 ((B5 l).map .p)] (G5 (.p (I (Mn (fun v=>decide (l.const≤v.plus)) vs 0))) [.box b0 ((B5 l).map .p)]):=by
 intro b0 l vs h1;simp only[De] at h1;refine A4 Tryz.func200 O lB (n:=19) O O (As A0 1 [] O (Au (Aw (Br O (Aq O (BM D4 O (List.length_map _)) (Ar A0 1 [] O (A8 (Be (α:=Nat) (fun i=>⟨19,mk [(0,.p (.lst (List.map Ge vs))),(1,.fn (.func 196) [] [.ptr b0 0]),(7,.p (I (vs.length:Nat))),(8,.p (I (i:Int)))],[.box b0 ((B5 l).map .p)],[]⟩) (fun i=>vs.length - i) (fun i=>i≤vs.length∧(Mn (fun v=>decide (l.const≤v.plus)) (vs.drop i) i=Mn (fun v=>decide (l.const≤v.plus)) vs 0)) 0 (⟨by omega,rfl⟩) ?_ ?_))))))))
 ·exact BY ⟨we O,we O,we O,we O,Ap⟩ (leH (is:=[0]) O (wl (oe O) (DO)))
 rintro i hC
 try simp only at hC
 obtain⟨hi,hC⟩:=hC;refine As A0 1 [] O (Au (Av O (fun c=>?_) (fun c=>?_)))
 ·(try simp only[sd,se] at c);refine A1 (Au (A8 (As A0 2 [] O (Aw (Ay A0 3 [] O ?_)))));obtain⟨x,hx⟩:=A6 (l:=vs) (i:=i) An;refine Aq O (A5 D4 O O An (EP hx) (O)) (Aq O (BJ QU O (O)) (Aq O (CW [0] O (.inr O) (jg b0 l x) ⟨_,_,O,O,O⟩ Am O (.inl O)) (Bf O (Av O (fun c1=>?_) (fun c1=>?_)))))
  ·(try simp only[sd,se] at c1);refine As A0 2 [] O (Az (⟨O,_,_,⟨_,_,O,O,O⟩,(CH (is:=[0]) O),?_⟩))
   all_goals exact⟨by show (.p (I (i:Int)):AV)=_;rw[←hC,UB hx,if_pos (by simpa using c1)],rfl⟩
  (try simp only[sd,se] at c1);refine A1 (A3 (Ar A0 2 [] O ?_));refine⟨(i+1),AT,⟨by omega,by rw[←hC,UB hx,if_neg (by simpa using c1)];rfl⟩,BY ⟨we rfl,we rfl,we rfl,we rfl,trivial⟩ (leH (is:=[0]) rfl (wl (oe rfl) (DO)))⟩
 (try simp only[sd,se] at c);refine Bh (As A0 1 [] O (Az (⟨O,_,_,⟨_,_,O,O,O⟩,(CH (is:=[0]) O),?_⟩)))
 all_goals exact⟨by show (.p (I (-1)):AV)=_;rw[←hC,List.drop_eq_nil_of_le An];rfl,rfl⟩
theorem jV:∀(b0:Nat) (l:CX) (vs:List CK),(vs.length<De)→Bl Tryz.prog 195 [.p (.lst (List.map Ge vs)),.fn (.func 196) [] [.ptr b0 0]] [.box b0 ((B5 l).map .p)] (G5 (.p (.bool (vs.any (fun v=>decide (l.const≤v.plus))))) [.box b0 ((B5 l).map .p)]):=by
 intro b0 l vs h1;refine A4 Tryz.func195 O nX (n:=9) O O (As A0 1 [] O (Aw (Ay A0 2 [] O (Aq O (CW [0] O (.inl ⟨O,O,O⟩) (jC b0 l vs h1) ⟨_,_,O,O,O⟩ Am O (.inl O)) (Ar A0 2 [] O (Az (⟨O,_,_,⟨_,_,O,O,O⟩,(CH (is:=[0]) O),?_⟩)))))))
 all_goals exact⟨by show (.p (.bool (decide ((Mn (fun v=>decide (l.const≤v.plus)) vs 0:Int)≥(0:Int)))):AV)=_;rw[←UM vs 0 An],rfl⟩
theorem Qq:∀(l:CX),(l.vars.length<De)→E4 Tryz.prog 190 [.agg ((B5 l).map .p)] (.p (.bool (PB l))):=by
 intro l h1;refine A4 Tryz.func190 O my (n:=7) O O (Aw (BG O (BO O) fun b1=>Ar A0 1 [] O (Aw (Ay A0 3 [0] O (Aq O (CW [0] O (.inl ⟨O,O,O⟩) (jV b1 l l.vars h1) ⟨_,_,O,O,O⟩ Am O (.inl O)) (Ar A0 1 [] O (Az (⟨O,_,_,⟨_,_,O,O,O⟩,(List.nil_sublist _),?_⟩))))))))
 all_goals exact⟨rfl,rfl⟩
theorem _root_.Go.AH {α:Prop}(h:α:=by first | rfl | (refine pB ?_;simp_all;done) | (refine pB ?_;simp_all<;>(intros;omega))):α:=h
theorem QB:∀(l:CX),(RU l)→E4 Tryz.prog 180 [.agg ((B5 l).map .p)] (.p (.bool (CP l))):=by
 intro l h1;have hl:=h1.vars;simp only[De] at hl;refine A4 Tryz.func180 O nZ (n:=65) O O (Aw (BG O (BO O) fun b1=>Ar A0 1 [] O (Au (Au (BU [1] 21 (fun y=>y= .p (.bool (((decide ((l.const:Int)<(0:Int)))||(decide ((l.const:Int) > (100:Int))))||((decide ((l.const:Int) > (0:Int)))&&(PB (CX.mk l.const l.vars)))))) ?_ ?_)))))
 ·refine A3 (Ay A0 4 [0] O (BI 8 O (fun g=>?_) (fun g=>?_)))
  ·(try simp only[sd,se] at g);exact Ar A0 13 [] O (⟨O,O,AJ,AH,⟨O,Ap⟩⟩)
  (try simp only[sd,se] at g);refine Ay A0 5 [0] O (BI 13 O (fun g1=>?_) (fun g1=>?_))
  ·(try simp only[sd,se] at g1);exact Ar A0 8 [] O (⟨O,O,AJ,AH,⟨O,Ap⟩⟩)
  (try simp only[sd,se] at g1);refine Ay A0 4 [0] O (BI 17 O (fun g2=>?_) (fun g2=>?_))
  ·(try simp only[sd,se] at g2);exact BA O (BP (i:=0) FW O O O) (BA O (BF O O (Qq (CX.mk l.const l.vars) h1.vars) O) (Ar A0 2 [] O (⟨O,O,AJ,AH,⟨O,Ap⟩⟩)))
  (try simp only[sd,se] at g2);exact Ar A0 4 [] O (⟨O,O,AJ,AH,⟨O,Ap⟩⟩)
 rintro _ rfl;refine Av O (fun c=>?_) (fun c=>?_)
 ·(try simp only[sd,se] at c);refine As A0 1 [] O (Az (⟨O,_,_,⟨_,_,O,O,O⟩,(List.nil_sublist _),?_⟩))
  all_goals exact⟨pB (jt c),rfl⟩
 (try simp only[sd,se] at c);refine A1 (Au (Aw (Ay A0 2 [0] O (Aq O (BM D4 O (List.length_map _)) (Ar A0 1 [] O (A8 (Be (α:=Nat) (fun i=>⟨65,mk [(1,.ptr b1 0),(23,.p (.lst (List.map Ge l.vars))),(24,.p (I (l.vars.length:Nat))),(25,.p (I (i:Int)))],[.box b1 [.p (I l.const),.p (.lst (List.map Ge l.vars))]],[]⟩) (fun i=>l.vars.length - i) (fun i=>i≤l.vars.length∧(Dk 0 l.vars 0=Dk 0 l.vars i)) 0 (⟨by omega,rfl⟩) ?_ ?_)))))))
 ·exact BY ⟨we O,we O,we O,we O,Ap⟩ (leH (is:=[0]) O (wl (oe O) (DO)))
 rintro i hC
 try simp only at hC
 obtain⟨hi,hC⟩:=hC;refine As A0 1 [] O (Au (Av O (fun c1=>?_) (fun c1=>?_)))
 ·(try simp only[sd,se] at c1);refine A1 (Au (A8 (Aw (Br O ?_))));obtain⟨x,hx⟩:=A6 (l:=l.vars) (i:=i) An;refine Aq O (A5 D4 O O An (EP hx) (O)) (Aq O (BJ QU O (O)) (BG O (A7 L5 O) fun b4=>Ar A0 2 [0,1] O (Au (BU [1,23,24,25] 63 (fun y=>y= .p (.bool (!(We 0 x&&Jp (Kb l.vars i) x.index)))) ?_ ?_))))
  ·refine B6 (fun k=>false) EO (Bb A0 4 [0] O (Fs 33 O (fun g=>?_) (fun g=>?_)))
   ·(try simp only[sd,se] at g);exact B4 A0 30 [] O (⟨O,O,AJ,(by first | exact pB (Od An) | exact pB (LX An An) | exact pB (SJ hx1 An An)),⟨O,O,O,O,Ap⟩⟩)
   (try simp only[sd,se] at g);refine Bb A0 5 [0] O (Fs 38 O (fun g1=>?_) (fun g1=>?_))
   ·(try simp only[sd,se] at g1);exact B4 A0 25 [] O (⟨O,O,AJ,(by first | exact pB (Od An) | exact pB (LX An An) | exact pB (SJ hx1 An An)),⟨O,O,O,O,Ap⟩⟩)
   (try simp only[sd,se] at g1);refine Bb A0 5 [0] O (Fs 43 O (fun g2=>?_) (fun g2=>?_))
   ·(try simp only[sd,se] at g2);exact B4 A0 20 [] O (⟨O,O,AJ,(by first | exact pB (Od An) | exact pB (LX An An) | exact pB (SJ hx1 An An)),⟨O,O,O,O,Ap⟩⟩)
   (try simp only[sd,se] at g2);refine Bb A0 5 [0] O (Fs 48 O (fun g3=>?_) (fun g3=>?_))
   ·(try simp only[sd,se] at g3);exact B4 A0 15 [] O (⟨O,O,AJ,(by first | exact pB (Od An) | exact pB (LX An An) | exact pB (SJ hx1 An An)),⟨O,O,O,O,Ap⟩⟩)
   (try simp only[sd,se] at g3);refine Bb A0 3 [] O (Fs 51 O (fun g4=>?_) (fun g4=>?_))
   ·(try simp only[sd,se] at g4);refine Bb A0 4 [1] O ?_;obtain⟨x1,hx1⟩:=A6 (l:=l.vars) (i:=(((i:Int):Int) - (1:Int):Int).toNat) An;exact Cq O (fun _=>A5 D4 O O An (EP hx1) (O)) Ap (B4 A0 7 [0] O (⟨O,O,AJ,(by first | exact pB (Od An) | exact pB (LX An An) | exact pB (SJ hx1 An An)),⟨O,O,O,O,Ap⟩⟩))
   (try simp only[sd,se] at g4);exact B4 A0 12 [] O (⟨O,O,AJ,(by first | exact pB (Od An) | exact pB (LX An An) | exact pB (SJ hx1 An An)),⟨O,O,O,O,Ap⟩⟩)
  rintro _ rfl;refine Av O (fun c2=>?_) (fun c2=>?_)
  ·(try simp only[sd,se] at c2);refine As A0 1 [] O (Az (⟨O,_,_,⟨_,_,O,O,O⟩,(List.nil_sublist _),?_⟩))
   all_goals exact⟨pB (fX hC (by rw[X2 hx];simp at c2 ⊢;intro q1 q2;simp[c2 q1] at q2)),rfl⟩
  (try simp only[sd,se] at c2);refine A1 (A3 (Ar A0 2 [] O (⟨(i+1),AT,⟨by omega,(hC.trans (by rw[X2 hx,c2.1,c2.2];rfl))⟩,BY ⟨we rfl,we rfl,we rfl,we rfl,trivial⟩ (leH (is:=[1]) rfl (wl (oe rfl) (DO)))⟩)))
 (try simp only[sd,se] at c1);refine Bh (As A0 1 [] O (Az (⟨O,_,_,⟨_,_,O,O,O⟩,(List.nil_sublist _),?_⟩)))
 all_goals exact⟨pB (gz (nO c) hC An),rfl⟩
theorem _root_.Go.Af {α:Prop}(h:α:=by simp[Dx]):α:=h
theorem gH:∀(x:CX),(RU x)→E4 Tryz.prog 191 [.agg ((B5 x).map .p)] (.p (.bool (!CP x))):=by
 intro x h1;refine A4 Tryz.func191 O nR (n:=6) O O (Aw (BG O (BO O) fun b1=>Ar A0 1 [] O (Aw (Aq O (BP (i:=0) FW O O Af) (Aq O (BF O O (QB x h1) O) (Ar A0 2 [] O (Az (⟨O,_,_,⟨_,_,O,O,O⟩,(List.nil_sublist _),?_⟩))))))))
 all_goals exact⟨rfl,rfl⟩
theorem gT:∀(l:List CX),(l.length<De)→(∀x∈l,RU x)→E4 Tryz.prog 130 [.p (.lst (List.map B5 l)),.p (.fn 191)] (.p (I (Mn (fun x=> !CP x) l 0))):=by
 intro l h1 h2;simp only[De] at h1;refine A4 Tryz.func130 O ik (n:=19) O O (As A0 1 [] O (Au (Aw (Br O (Aq O (BM FQ O (List.length_map _)) (Ar A0 1 [] O (A8 (Be (α:=Nat) (fun i=>⟨19,mk [(0,.p (.lst (List.map B5 l))),(1,.p (.fn 191)),(7,.p (I (l.length:Nat))),(8,.p (I (i:Int)))],[],[]⟩) (fun i=>l.length - i) (fun i=>i≤l.length∧(Mn (fun x=> !CP x) (l.drop i) i=Mn (fun x=> !CP x) l 0)) 0 (⟨by omega,rfl⟩) ?_ ?_))))))))
 ·exact BY ⟨we O,we O,we O,we O,Ap⟩ (leH (is:=[]) O (DO))
 rintro i hC
 try simp only at hC
 obtain⟨hi,hC⟩:=hC;refine As A0 1 [] O (Au (Av O (fun c=>?_) (fun c=>?_)))
 ·(try simp only[sd,se] at c);refine A1 (Au (A8 (As A0 2 [] O (Aw (Ay A0 3 [] O ?_)))));obtain⟨x,hx⟩:=A6 (l:=l) (i:=i) An;refine Aq O (A5 FQ O O An (G3 hx) (Dx _)) (Aq O (BJ FW O (Dx _)) (Aq O (BF O O (gH x (h2 x (List.mem_of_getElem? hx))) O) (Bf O (Av O (fun c1=>?_) (fun c1=>?_)))))
  ·(try simp only[sd,se] at c1);refine As A0 2 [] O (Az (⟨O,_,_,⟨_,_,O,O,O⟩,(List.nil_sublist _),?_⟩))
   all_goals exact⟨by show (.p (I (i:Int)):AV)=_;rw[←hC,UB hx,if_pos (by simpa using c1)],rfl⟩
  (try simp only[sd,se] at c1);refine A1 (A3 (Ar A0 2 [] O ?_));refine⟨(i+1),AT,⟨by omega,by rw[←hC,UB hx,if_neg (by simpa using c1)];rfl⟩,BY ⟨we rfl,we rfl,we rfl,we rfl,trivial⟩ (leH (is:=[]) rfl (DO))⟩
 (try simp only[sd,se] at c);refine Bh (As A0 1 [] O (Az (⟨O,_,_,⟨_,_,O,O,O⟩,(List.nil_sublist _),?_⟩)))
 all_goals exact⟨by show (.p (I (-1)):AV)=_;rw[←hC,List.drop_eq_nil_of_le An];rfl,rfl⟩
theorem e9:∀(l:List CX),(l.length<De)→(∀x∈l,RU x)→E4 Tryz.prog 99 [.p (.lst (List.map B5 l)),.p (.fn 191)] (.p (.bool (l.any (fun x=> !CP x)))):=by
 intro l h1 h2;refine A4 Tryz.func99 O nU (n:=9) O O (As A0 1 [] O (Aw (Ay A0 2 [] O (Aq O (BF O O (gT l h1 h2) O) (Ar A0 2 [] O (Az (⟨O,_,_,⟨_,_,O,O,O⟩,(List.nil_sublist _),?_⟩)))))))
 all_goals exact⟨by show (.p (.bool (decide ((Mn (fun x=> !CP x) l 0:Int)≥(0:Int)))):AV)=_;rw[←UM l 0 An],rfl⟩
theorem Uc:∀(l:List CX),(l.length<De)→(∀x∈l,RU x)→E4 Tryz.prog 181 [.p (.lst (List.map B5 l))] (.p (.bool (l.all CP))):=by
 intro l h1 h2;refine A4 Tryz.func181 O mw (n:=6) O O (As A0 1 [] O (Aw (Br O (Aq O (BF O O (e9 l h1 h2) O) (Ar A0 2 [] O (Az (⟨O,_,_,⟨_,_,O,O,O⟩,(List.nil_sublist _),?_⟩)))))))
 all_goals exact⟨pB (by rw[List.all_eq_not_any_not]),rfl⟩
theorem ZJ:∀(l:CX),(RU l)→E4 Tryz.prog 182 [.agg ((B5 l).map .p)] (.p (I (GO l))):=by
 intro l h1;have hl:=h1.vars;simp only[De] at hl;refine A4 Tryz.func182 O kn (n:=22) O O (Aw (BG O (BO O) fun b1=>Ar A0 1 [] O (Au (Aw (Ay A0 2 [0] O (Aq O (BM D4 O (List.length_map _)) (Ar A0 1 [] O (Au (BU [1,3] 12 (fun y=>y= .p (.bool ((CP (CX.mk l.const l.vars))&&(decide (((l.vars.length:Nat):Int) > (0:Int)))))) ?_ ?_)))))))))
 ·refine A3 (Aq O (BP (i:=0) FW O O O) (Aq O (BF O O (QB (CX.mk l.const l.vars) h1) O) (Br O (BI 9 O (fun g=>?_) (fun g=>?_)))))
  ·(try simp only[sd,se] at g);exact Ar A0 3 [] O (⟨O,O,AJ,AH,⟨O,O,Ap⟩⟩)
  (try simp only[sd,se] at g);exact Ar A0 3 [] O (⟨O,O,AJ,AH,⟨O,O,Ap⟩⟩)
 rintro _ rfl;refine Av O (fun c=>?_) (fun c=>?_)
 ·(try simp only[sd,se] at c);obtain⟨hv,hn⟩:CP l=true∧0<l.vars.length:=by simpa using c
  refine Aw (Ay A0 4 [0] O ?_);obtain⟨x,hx⟩:=A6 (l:=l.vars) (i:=(((l.vars.length:Nat):Int) - (1:Int):Int).toNat) An;have hw:=Tv hv hx;refine Aq O (A5 D4 O O An (EP hx) (O)) (Ay A0 3 [] O (Aq O (Iy O O) (Ar A0 1 [] O (Az (⟨O,_,_,⟨_,_,O,O,O⟩,(List.nil_sublist _),?_⟩)))))
  all_goals exact⟨pI (dY hv hx An),rfl⟩
 (try simp only[sd,se] at c);refine A1 (As A0 1 [] O (Az (⟨O,_,_,⟨_,_,O,O,O⟩,(List.nil_sublist _),?_⟩)))
 all_goals exact⟨pI (di (nr c)),rfl⟩
theorem aO:Bl Tryz.prog 183 [] [] (gQ (fun b:Nat×Nat=> .ptr b.1 0) (fun b=>[.box b.1 [.map b.2,.p (I 0)],.map b.2 (Du (GI []))])):=by
 refine A4 Tryz.func183 O mE (n:=4) O O (As A0 1 [] O (Aw (jx O O VB fun m1=>Aq O (CJ nT nD O) (BG O (BO O) fun b3=>Ar A0 1 [] O (Az (⟨O,_,_,⟨_,_,O,O,O⟩,(CH (is:=[0,1]) O),?_⟩))))));exact⟨(_,_),O,O⟩
theorem UX:∀(m:Nat) (M:List (Int×Int)) (i p:Int),Bl Tryz.prog 184 [.map m,.p (I i),.p (I p)] [.map m (Du (GI M))] (G5 (.tup []) [.map m (Du (GI (FZ M i p)))]):=by
 intro m M i p;refine A4 Tryz.func184 O lC (n:=24) O O (Aw (Ay A0 2 [] O ?_));refine Aq O (RZ (i:=0) dK eM (fun _ _=>by simp[B9,CE]) rfl rfl rfl (Ut _ _) (dZ _ _)) ?_;refine Ar A0 5 [] O (Au (BU [0,1,2] 20 (fun y=>y= .p (.bool ((!((mg i M).isSome))||(decide ((p:Int) > ((mg i M).getD 0:Int)))))) ?_ ?_))
 ·refine A3 (Ay A0 3 [] O (BI 16 O (fun g=>?_) (fun g=>?_)))
  ·(try simp only[sd,se] at g);exact Ar A0 4 [] O (⟨O,O,AJ,AH,⟨O,O,O,Ap⟩⟩)
  (try simp only[sd,se] at g);exact Ar A0 4 [] O (⟨O,O,AJ,AH,⟨O,O,O,Ap⟩⟩)
 rintro _ rfl;refine Av O (fun c=>?_) (fun c=>?_)
 ·(try simp only[sd,se] at c);refine A3 (Ay A0 3 [] O (Aq O (Ri (i:=0) dK O O O O) (Bf O ⟨O,_,_,O,(CH (is:=[0]) O),?_⟩)));refine⟨O,?_⟩;show ([.map m (Du (MJ i (.p (I p)) (GI M)))]:List BD)=_;rw[Yx c,←X1]
 (try simp only[sd,se] at c);refine A1 ⟨O,_,_,O,(CH (is:=[0]) O),?_⟩;refine⟨O,?_⟩;show ([.map m (Du (GI M))]:List BD)=_;rw[WO c]
theorem Wv:∀(l:CX),(l.vars.length<De)→E4 Tryz.prog 194 [.agg ((B5 l).map .p)] (.tup [.agg ((B5 ((Ij l).1)).map .p),.p (I ((Ij l).2))]):=by
 intro l h1;have hl:=h1;simp only[De] at hl;refine A4 Tryz.func194 O lT (n:=26) O O (Aw (BG O (BO O) fun b1=>BG O (A7 Hi O) fun b2=>Ar A0 1 [] O (Au (Aw (Ay A0 2 [1] O (Aq O (BM D4 O (List.length_map _)) (Ar A0 1 [] O (A8 ?_))))))));refine Be (α:=Nat) (fun i=>⟨26,mk [(1,.ptr b1 0),(2,.ptr b2 0),(7,.p (.lst (List.map Ge l.vars))),(8,.p (I (l.vars.length:Nat))),(9,.p (I (i:Int)))],[.box b2 [.p (I 0),.p (.nils)],.box b1 [.p (I l.const),.p (.lst (List.map Ge l.vars))]],[]⟩) (fun i=>l.vars.length - i) (fun i=>i≤l.vars.length∧(∀j,j<i→∀y,l.vars[j]?=some y→¬100<y.plus)) 0 (⟨by omega,fun j h=>by omega⟩) ?_ ?_
 ·exact BY ⟨we O,we O,we O,we O,we O,Ap⟩ (leH (is:=[0,1]) O (wl (oe O) (wl (oe O) (DO))))
 rintro i hC
 try simp only at hC
 obtain⟨hi,hC⟩:=hC;refine As A0 1 [] O (Au (Av O (fun c=>?_) (fun c=>?_)))
 ·(try simp only[sd,se] at c);refine A1 (Au (A8 (Aw ?_)));obtain⟨x,hx⟩:=A6 (l:=l.vars) (i:=i) An;refine Aq O (A5 D4 O O An (EP hx) (O)) (Aq O (BJ QU O (O)) (BG O (A7 L5 O) fun b5=>Ar A0 1 [0,1] O (As A0 3 [0] O (Av O (fun c1=>?_) (fun c1=>?_)))))
  ·(try simp only[sd,se] at c1);refine As A0 3 [1,0] O (BN (Bc (i:=1) O) (Az (⟨O,_,_,⟨_,_,O,(BE (i:=1) FW O O O),⟨_,_,O,O,O⟩⟩,(List.nil_sublist _),?_⟩)))
   all_goals exact⟨by show (.tup [.agg [.p (I 0),.p (.lst [])],.p (I 15)]:AV)=_;rw[p7 hx c1];rfl,rfl⟩
  (try simp only[sd,se] at c1);refine A1 (A3 (Ar A0 2 [] O (⟨(i+1),AT,⟨by omega,Cu (p:=fun _ (y:CK)=>¬100<y.plus) hC hx An⟩,BY ⟨we rfl,we rfl,we rfl,we rfl,we rfl,trivial⟩ (leH (is:=[1,2]) rfl (wl (oe rfl) (wl (oe rfl) (DO))))⟩)))
 (try simp only[sd,se] at c);refine Bh (Au (As A0 3 [1] O (Av O (fun c1=>?_) (fun c1=>?_))))
 ·(try simp only[sd,se] at c1);refine As A0 3 [0,0] O (BN (Bc (i:=0) O) (Az (⟨O,_,_,⟨_,_,O,(BE (i:=0) FW O O O),⟨_,_,O,O,O⟩⟩,(List.nil_sublist _),?_⟩)))
  all_goals exact⟨by show (.tup [.agg [.p (I 0),.p (.lst [])],.p (I 15)]:AV)=_;rw[qQ c1];rfl,rfl⟩
 (try simp only[sd,se] at c1);refine A1 (Au (Aw (Aq O (BP (i:=1) FW O O O) (Aq O (BF O O (Qq (CX.mk l.const l.vars) h1) O) (Bf O (Av O (fun c2=>?_) (fun c2=>?_)))))))
 ·(try simp only[sd,se] at c2);refine A3 (Ar A0 2 [1,0] O (As A0 3 [1,0,0] O (Az (⟨O,_,_,⟨_,_,O,(BE (i:=0) FW O O O),⟨_,_,O,O,O⟩⟩,(List.nil_sublist _),?_⟩))))
  all_goals exact⟨by show (.tup [.agg [.p (I 0),.p (.lst (List.map Ge l.vars))],.p (I 0)]:AV)=_;rw[qN (fun j hj=>hC j An) An c2];rfl,rfl⟩
 (try simp only[sd,se] at c2);refine A1 (As A0 3 [1,0,0] O (Az (⟨O,_,_,⟨_,_,O,(BE (i:=0) FW O O O),⟨_,_,O,O,O⟩⟩,(List.nil_sublist _),?_⟩)))
 all_goals exact⟨by show (.tup [.agg [.p (I l.const),.p (.lst (List.map Ge l.vars))],.p (I 0)]:AV)=_;rw[qC (fun j hj=>hC j An) An (by simpa using c2)];rfl,rfl⟩
theorem eV:∀(s m:Nat) (M:List (Int×Int)) (C:Int) (l:CX) (n:Int),(Lg l)→(0≤n)→(n≤100)→Bl Tryz.prog 185 [.ptr s 0,.agg ((B5 l).map .p),.p (I n)] [.box s [.map m,.p (I C)],.map m (Du (GI M))] (G5 (.tup []) [.box s [.map m,.p (I ((RI (M,C) l n).2))],.map m (Du (GI (RI (M,C) l n).1))]):=by
 intro s m M C l n h1 h2 h3;have hl:=h1.len;have hc:=h1.c;refine A4 Tryz.func185 O nj (n:=39) O O (Aw (BG O (BO O) fun b4=>Bf O (Au (B6 (fun k=>false) EO (Bb A0 9 [1,0] O (BL O (fun _=>Iy O O) Ap (B4 A0 3 [1,0] O (Aw (Ay A0 2 [0] O (Aq O (BM D4 O (List.length_map _)) (Ar A0 1 [] O (A8 (Be (α:=Nat) (fun i=>⟨39,mk [(0,.ptr s 0),(2,.p (I n)),(21,.p (.lst (List.map Ge l.vars))),(22,.p (I (l.vars.length:Nat))),(23,.p (I (i:Int)))],[.box s [.map m,.p (I (max (C:Int) ((l.const:Int)+(n:Int):Int)))],.map m (Du (GI ((l.vars.take i).foldl (HA n) M)))],[]⟩) (fun i=>l.vars.length - i) (fun i=>i≤l.vars.length) 0 AO ?_ ?_)))))))))))))
 ·exact BY ⟨we O,we O,we O,we O,we O,Ap⟩ (leH (is:=[1,2]) O (wl (oe O) (wl (oe O) (DO))))
 rintro i hC
 try simp only at hC
 have hi:=hC;refine As A0 1 [] O (Au (Av O (fun c=>?_) (fun c=>?_)))
 ·(try simp only[sd,se] at c);refine A1 (Au (A8 (Aw ?_)));obtain⟨x,hx⟩:=A6 (l:=l.vars) (i:=i) An;have hv:=h1.rg x (List.mem_of_getElem? hx);refine Aq O (A5 D4 O O An (EP hx) (O)) (Aq O (BJ QU O (O)) (BG O (A7 L5 O) fun b7=>Ar A0 1 [0,1] O (B6 (fun k=>false) EO (Bb A0 10 [1,0,0] O (Hu O O (CW [2] O (.inl ⟨O,O,O⟩) (UX m ((l.vars.take i).foldl (HA n) M) x.index ((x.plus:Int)+(n:Int))) ⟨_,_,O,O,O⟩ Am O (.inl O)) AB Ap (IX O Aj (A3 (CD (Ll (i:=2) O (om (congrArg Du (congrArg GI (Yb hx))))) (Ar A0 2 [] O ?_)))))))));refine⟨(i+1),AT,by omega,BY ⟨we rfl,we rfl,we rfl,we rfl,we rfl,trivial⟩ (leH (is:=[1,2]) rfl (wl (oe rfl) (wl (oe rfl) (DO))))⟩
 (try simp only[sd,se] at c);refine Bh ⟨O,_,_,O,(CH (is:=[0,1]) O),?_⟩;refine⟨O,?_⟩;show ([.box s [.map m,.p (I (max (C:Int) ((l.const:Int)+(n:Int):Int)))],.map m (Du (GI ((l.vars.take i).foldl (HA n) M)))]:List BD)=_;rw[show l.vars.take i=l.vars from List.take_of_length_le An];rfl
end Go.Proofs.YtboammbpdaoojaaGreat
