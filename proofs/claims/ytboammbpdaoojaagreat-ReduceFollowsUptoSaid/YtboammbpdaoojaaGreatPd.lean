/- Part of the proofs: an abstract program logic, plain models and contracts of functions. -/
import Derived.Test.YtboammbpdaoojaaGreatPb
import Derived.Shelf.Sort.Plain
import Derived.Shelf.Slices.In.SortNone
import Derived.Test.YtboammbpdaoojaaGreatPc
import Derived.Test.YtboammbpdaoojaaGreatProg
set_option linter.unusedVariables false
set_option linter.unusedSimpArgs false
set_option maxRecDepth 100000
namespace Go.Eu
open Go.Abs Go.Sort
def FE (zs:List Int):List Int:=zs.mergeSort fun x y=>decide (x≤y)
theorem UC (zs:List Int):(FE zs).length=zs.length:=List.length_mergeSort _
end Go.Eu
namespace Go.Eu
open Go.Abs
def WR (c:Int) (v:CF):Bool:=decide (-65536≤v.index)&&decide (v.index<8)&&decide (0≤v.plus)&&decide (v.plus≤100)&&(decide (c≤0)||decide (v.plus<c))
def Ji (p:Option Int) (i:Int):Bool:=match p with
 | none=>true
 | some j=>decide (j<i)
def Fh (c:Int):Option Int→List CF→Bool
 | _,[]=>true
 | p,v::vs=>WR c v&&Ji p v.index&&Fh c (some v.index) vs
def B9 (l:CS):Bool:=decide (0≤l.const)&&decide (l.const≤100)&&Fh l.const none l.vars
def FU:CS:=⟨0,[]⟩
def Qp (l:CS):Bool:=l.vars.any fun v=>decide (l.const≤v.plus)
def Se (vs:List CF):Int:=(vs.getD (vs.length - 1) default).index
def Ge (l:CS):Int:=if B9 l=true∧l.vars≠[] then max 0 (Se l.vars+1) else 0
def Fo (x:CF) (rec:List CF→List CF):List CF→List CF
 | []=>x::rec []
 | y::b=>if x.index<y.index then x::rec (y::b) else if y.index<x.index then y::Fo x rec b else ⟨x.index,max x.plus y.plus⟩::rec b
def DR:List CF→List CF→List CF
 | [],b=>b
 | x::a,b=>Fo x (DR a) b
def NY (vs:List CF):Int:=vs.foldl (fun m v=>max m v.plus) 0
def TT (c:Int) (vs:List CF):CS:=⟨if vs≠[]∧c≤NY vs then 0 else c,vs⟩
def I5 (a b:CS):CS:=TT (max a.const b.const) (DR a.vars b.vars)
def N8 (n:Int) (v:CF):CF:=⟨v.index,v.plus+n⟩
def JR (l:CS) (n:Int):Int:=if l.const > 0∨l.vars=[] then l.const+n else 0
def E4 (l:CS) (n:Int):CS×Int :=
 if B9 l=false then (FU,3) else if n<0 then (FU,2) else if n > 100 then (FU,15)
 else if JR l n > 100 then (FU,15)
 else if (l.vars.any fun v=>decide (v.plus+n > 100))=true then (FU,15)
 else (⟨JR l n,l.vars.map (N8 n)⟩,0)
def GK (ps:List CS):CS→List CF→CS×Int
 | out,[]=>(out,0)
 | out,v::vs =>
  if 0≤v.index∧v.index<ps.length then
   (if (E4 (ps.getD v.index.toNat default) v.plus).2≠0 then (FU,(E4 (ps.getD v.index.toNat default) v.plus).2)
    else GK ps (I5 out (E4 (ps.getD v.index.toNat default) v.plus).1) vs)
  else GK ps (I5 out ⟨0,[v]⟩) vs
def Cu (l:CS) (ps:List CS):CS×Int :=
 if B9 l=false∨ps.all B9=false then (FU,3)
 else if Ge l > ps.length then (FU,24)
 else GK ps ⟨l.const,[]⟩ l.vars
-- the program's way
def mg (k:Int):List (Int×Int)→Option Int
 | []=>none
 | (j,x)::r=>if j=k then some x else mg k r
def ms (k v:Int):List (Int×Int)→List (Int×Int)
 | []=>[(k,v)]
 | (j,x)::r=>if j=k then (j,v)::r else (j,x)::ms k v r
def GN (m:List (Int×Int)) (i p:Int):List (Int×Int):=match mg i m with
 | some old=>if p > old then ms i p m else m
 | none=>ms i p m
def H5 (n:Int) (m:List (Int×Int)) (v:CF):List (Int×Int):=GN m v.index (v.plus+n)
def Sn (s:List (Int×Int)×Int) (l:CS) (n:Int):List (Int×Int)×Int:=(l.vars.foldl (H5 n) s.1,max s.2 (l.const+n))
def D2 (ps:List CS) (s:List (Int×Int)×Int) (v:CF):List (Int×Int)×Int :=
 if v.index<0 then (GN s.1 v.index v.plus,s.2) else Sn s (ps.getD v.index.toNat default) v.plus
def G5 (m:List (Int×Int)):List CF:=(FE (m.map Prod.fst)).map fun i=>⟨i,(mg i m).getD 0⟩
def JU (l:CS):CS×Int :=
 if (l.vars.any fun v=>decide (v.plus > 100))=true then (FU,15)
 else if l.const > 100 then (FU,15)
 else if Qp l=true then (⟨0,l.vars⟩,0) else (l,0)
def Is (l:CS) (ps:List CS):CS×Int :=
 if B9 l=false∨ps.all B9=false then (FU,3)
 else if Ge l > ps.length then (FU,24)
 else JU ⟨(l.vars.foldl (D2 ps) ([],l.const)).2,G5 (l.vars.foldl (D2 ps) ([],l.const)).1⟩
-- offsets
def D4:List CF→Int→Int
 | [],_=> -1
 | v::vs,i=>if v.index=i then max v.plus (D4 vs i) else D4 vs i
abbrev L4 (l:List CF):Prop:=l.Pairwise fun a b=>a.index<b.index
theorem OS:∀(vs:List CF) (i:Int),-1≤D4 vs i
 | [],i=>by simp[D4]
 | v::vs,i=>by have:=OS vs i;simp only[D4];split<;>omega
theorem Kg:∀{vs:List CF}{i:Int},(∀v∈vs,v.index≠i)→D4 vs i= -1
 | [],i,_=>rfl
 | v::vs,i,h=>by simp only[D4,if_neg (h v Ao)];exact Kg fun w hw=>h w (by simp[hw])
theorem MH:∀{vs:List CF}{v:CF},v∈vs→v.plus≤D4 vs v.index
 | w::vs,v,h=>by
  rcases List.mem_cons.1 h with rfl | h
  ·simp only[D4,if_true];omega
  have:=MH h;simp only[D4];split<;>omega
theorem aN:∀{a b:List CF},L4 a→L4 b→(∀v∈a,0≤v.plus)→(∀v∈b,0≤v.plus)→(∀i,D4 a i=D4 b i)→a=b
 | [],[],_,_,_,_,_=>rfl
 | [],y::b,_,_,_,hb,h=>by
  have:=h y.index;have:=hb y Ao;have:=MH (vs:=y::b) (v:=y) Ao;simp only[D4] at *;omega
 | x::a,[],_,_,ha,_,h=>by
  have:=h x.index;have:=ha x Ao;have:=MH (vs:=x::a) (v:=x) Ao;simp only[D4] at *;omega
 | x::a,y::b,h1,h2,ha,hb,h=>by
  have hx:=ha x Ao;have hy:=hb y Ao;rw[L4,List.pairwise_cons] at h1 h2;have na:D4 a x.index= -1:=Kg fun v hv=>by have:=h1.1 v hv;omega
  have nb:D4 b y.index= -1:=Kg fun v hv=>by have:=h2.1 v hv;omega
  have e:x.index=y.index:=by
   rcases Int.lt_trichotomy x.index y.index with q | q | q
   ·have:=h x.index;have nb':D4 b x.index= -1:=Kg fun v hv=>by have:=h2.1 v hv;omega
    simp only[D4,if_true,if_neg (show ¬y.index=x.index by omega),nb'] at this;omega
   ·exact q
   have:=h y.index;have na':D4 a y.index= -1:=Kg fun v hv=>by have:=h1.1 v hv;omega
   simp only[D4,if_true,if_neg (show ¬x.index=y.index by omega),na'] at this;omega
  have e2:x.plus=y.plus:=by
   have:=h x.index;simp only[D4,if_true,if_pos e.symm] at this;rw[←e] at nb;omega
  have exy:x=y:=by cases x;cases y;simp_all
  subst exy;congr 1;refine aN h1.2 h2.2 (fun v hv=>ha v (by simp[hv])) (fun v hv=>hb v (by simp[hv])) fun i=>?_;by_cases q:x.index=i
  ·subst q;rw[na,nb]
  have:=h i;simpa only[D4,if_neg q] using this
-- merging
theorem OP {x:CF}{rec:List CF→List CF}{g:Int→Int}(hg:∀i,-1≤g i) (hr:∀b i,D4 (rec b) i=max (g i) (D4 b i)):∀(b:List CF) (i:Int),D4 (Fo x rec b) i=max (D4 [x] i) (max (g i) (D4 b i))
 | [],i=>by have:=hg i;simp only[Fo,D4,hr];split<;>omega
 | y::b,i=>by
  have:=hg i;have h0:=OS b i;have ih:=OP (x:=x) hg hr b i;simp only[D4] at ih;simp only[Fo];split
  ·simp only[D4,hr]
   repeat' split
   all_goals omega
  split
  ·simp only[D4,ih]
   repeat' split
   all_goals omega
  have e:x.index=y.index:=by omega
  simp only[D4,hr,e]
  repeat' split
  all_goals omega
theorem Nh:∀(a b:List CF) (i:Int),D4 (DR a b) i=max (D4 a i) (D4 b i)
 | [],b,i=>by have:=OS b i;simp only[DR,D4];omega
 | x::a,b,i=>by
  have h:=OP (x:=x) (rec:=DR a) (g:=D4 a) (OS a) (fun b i=>Nh a b i) b i;have h1:=OS a i;rw[DR,h];simp only[D4];split<;>omega
theorem MQ {Q:CF→Prop}{x:CF}{rec:List CF→List CF}(hx:Q x) (hm:∀u v:CF,Q u→Q v→u.index=v.index→Q ⟨u.index,max u.plus v.plus⟩) (hr:∀b,(∀v∈b,Q v)→∀v∈rec b,Q v):∀(b:List CF),(∀v∈b,Q v)→∀v∈Fo x rec b,Q v
 | [],hb,v,hv=>by
  simp only[Fo,List.mem_cons] at hv;rcases hv with rfl | hv
  ·exact hx
  ·exact hr [] Ao v hv
 | y::b,hb,v,hv=>by
  simp only[Fo] at hv;have hy:=hb y Ao;have hb':∀v∈b,Q v:=fun v hv=>hb v (by simp[hv]);split at hv
  ·rcases List.mem_cons.1 hv with rfl | hv
   ·exact hx
   exact hr _ hb v hv
  split at hv
  ·rcases List.mem_cons.1 hv with rfl | hv
   ·exact hy
   exact MQ hx hm hr b hb' v hv
  rcases List.mem_cons.1 hv with rfl | hv
  ·exact hm x y hx hy An
  exact hr _ hb' v hv
theorem Hw {Q:CF→Prop}(hm:∀u v:CF,Q u→Q v→u.index=v.index→Q ⟨u.index,max u.plus v.plus⟩):∀(a b:List CF),(∀v∈a,Q v)→(∀v∈b,Q v)→∀v∈DR a b,Q v
 | [],b,_,hb=>by simpa [DR] using hb
 | x::a,b,ha,hb=>by
  rw[DR];exact MQ (ha x Ao) hm (fun b hb=>Hw hm a b (fun v hv=>ha v (by simp[hv])) hb) b hb
theorem Qm {x:CF}{a:List CF}(hr:∀b,L4 b→L4 (DR a b)) (hx:∀v∈a,x.index<v.index):∀(b:List CF),L4 b→L4 (Fo x (DR a) b)
 | [],_=>by
  rw[Fo,L4,List.pairwise_cons];exact⟨Hw (Q:=fun v=>x.index<v.index) (fun u v h _ _=>h) a [] hx Ao,hr [] (by simp[L4])⟩
 | y::b,hb=>by
  have hb':=hb;rw[L4,List.pairwise_cons] at hb';simp only[Fo];split
  ·rename_i q;rw[L4,List.pairwise_cons];refine⟨Hw (Q:=fun v=>x.index<v.index) (fun u v h _ _=>h) a _ hx fun v hv=>?_,hr _ hb⟩;rcases List.mem_cons.1 hv with rfl | hv
   ·exact q
   have:=hb'.1 v hv;omega
  split
  ·rename_i q;rw[L4,List.pairwise_cons];refine⟨MQ (Q:=fun v=>y.index<v.index) q (fun u v h _ _=>h) (fun c hc=>Hw (Q:=fun v=>y.index<v.index) (fun u v h _ _=>h) a c (fun v hv=>by have:=hx v hv;omega) hc) b hb'.1,Qm hr hx b hb'.2⟩
  have e:x.index=y.index:=by omega
  rw[L4,List.pairwise_cons];refine⟨Hw (Q:=fun v=>x.index<v.index) (fun u v h _ _=>h) a b hx (fun v hv=>by have:=hb'.1 v hv;omega),hr _ hb'.2⟩
theorem Pz:∀{a b:List CF},L4 a→L4 b→L4 (DR a b)
 | [],b,_,hb=>by simpa [DR] using hb
 | x::a,b,ha,hb=>by
  rw[L4,List.pairwise_cons] at ha;rw[DR];exact Qm (fun b hb=>Pz ha.2 hb) ha.1 b hb
-- the greatest offset
theorem YK:∀(vs:List CF) (m:Int),m≤vs.foldl (fun m v=>max m v.plus) m
 | [],m=>by simp
 | v::vs,m=>by have:=YK vs (max m v.plus);simp only[List.foldl_cons];omega
theorem Ut:∀{vs:List CF}{m:Int}{v:CF},v∈vs→v.plus≤vs.foldl (fun m v=>max m v.plus) m
 | w::vs,m,v,h=>by
  rcases List.mem_cons.1 h with rfl | h
  ·have:=YK vs (max m v.plus);simp only[List.foldl_cons];omega
  rw[List.foldl_cons];exact Ut (vs:=vs) h
theorem XP:∀{vs:List CF}{m c:Int},m<c→(∀v∈vs,v.plus<c)→vs.foldl (fun m v=>max m v.plus) m<c
 | [],m,c,h,_=>by simpa using h
 | v::vs,m,c,h,hv=>by
  have:=hv v Ao;simp only[List.foldl_cons];exact XP An fun w hw=>hv w (by simp[hw])
def I1 (c:Int) (vs:List CF):Int:=if (vs.any fun v=>decide (c≤v.plus))=true then 0 else c
theorem W3 {c:Int}{vs:List CF}(hc:0≤c) (hv:∀v∈vs,0≤v.plus):(TT c vs).const=I1 c vs:=by
 simp only[TT,I1];by_cases h:(vs.any fun v=>decide (c≤v.plus))=true
 ·rw[if_pos h];simp only[List.any_eq_true,decide_eq_true_eq] at h;obtain⟨v,hm,hp⟩:=h;have h1:=Ut (m:=0) hm;rw[if_pos ⟨List.ne_nil_of_mem hm,by unfold NY;omega⟩]
 rw[if_neg h];simp only[List.any_eq_true,decide_eq_true_eq,not_exists,not_and] at h;split
 ·rename_i q;by_cases hc0:c=0
  ·exact hc0.symm
  have:=XP (vs:=vs) (m:=0) (c:=c) An fun v hv=>by have:=h v hv;omega
  have:=q.2;unfold NY at this;omega
 rfl
-- the offsets of the program
def KR (m:List (Int×Int)) (i:Int):Int:=(mg i m).getD (-1)
theorem jc (k v:Int):∀(m:List (Int×Int)) (j:Int),mg j (ms k v m)=if k=j then some v else mg j m
 | [],j=>by simp[ms,mg]
 | (i,x)::m,j=>by
  have ih:=jc k v m j;simp only[ms];split
  ·rename_i q;subst q;simp only[mg];split<;>rfl
  rename_i q;simp only[mg,ih];by_cases h1:i=j
  ·subst h1;rw[if_pos rfl,if_neg (Ne.symm q),if_pos rfl]
  simp[h1]
theorem Vt (k v:Int):∀(m:List (Int×Int)),(ms k v m).map Prod.fst=if k∈m.map Prod.fst then m.map Prod.fst else m.map Prod.fst++[k]
 | []=>by simp[ms]
 | (i,x)::m=>by
  have ih:=Vt k v m;simp only[ms];split
  ·rename_i q;subst q;simp
  rename_i q;simp only[List.map_cons,ih,List.mem_cons,(show (k=i)=False by simp;exact fun h=>q h.symm),false_or];split<;>simp
theorem Vz:∀{m:List (Int×Int)}{k:Int},mg k m=none↔k ∉ m.map Prod.fst
 | [],k=>by simp[mg]
 | (i,x)::m,k=>by
  simp only[mg,List.map_cons,List.mem_cons,not_or];split
  ·rename_i q;subst q;simp
  rename_i q;rw[Vz];exact⟨fun h=>⟨fun e=>q e.symm,h⟩,fun h=>h.2⟩
structure Qy (m:List (Int×Int)):Prop where
 nd:(m.map Prod.fst).Nodup
 pos:∀k v,mg k m=some v→0≤v
theorem Qy.nil:Qy []:=⟨by simp,fun k v h=>by simp[mg] at h⟩
theorem gj {m:List (Int×Int)}(k v:Int) (h:(m.map Prod.fst).Nodup):((ms k v m).map Prod.fst).Nodup:=by
 rw[Vt];split
 ·exact h
 rename_i q;rw[List.nodup_append];refine⟨h,by simp,fun a ha b hb=>?_⟩;simp only[List.mem_singleton] at hb;subst hb;exact fun e=>q (e▸ha)
theorem R7 {m:List (Int×Int)}{i p:Int}(h:Qy m) (hp:0≤p):Qy (GN m i p):=by
 have hs:Qy (ms i p m):=⟨gj i p h.nd,fun k v hk=>by
  rw[jc] at hk;split at hk
  ·cases hk;exact hp
  exact h.pos k v hk⟩
 unfold GN;split
 ·split
  ·exact hs
  exact h
 exact hs
theorem Vi {m:List (Int×Int)}(h:Qy m) (i:Int): -1≤KR m i:=by
 unfold KR;cases e:mg i m with
 | none=>simp
 | some v=>have:=h.pos i v e;simp;omega
theorem Ny {m:List (Int×Int)}{i p:Int}(h:Qy m) (hp:0≤p) (j:Int):KR (GN m i p) j=max (D4 [⟨i,p⟩] j) (KR m j):=by
 have h1:KR (ms i p m) j=if i=j then p else KR m j:=by unfold KR;rw[jc];split<;>rfl
 have h2:=Vi h j;unfold GN;simp only[D4];cases e:mg i m with
 | none =>
  simp only[h1];split
  ·rename_i q;subst q;simp only[KR,e,Option.getD_none];omega
  ·omega
 | some old =>
  simp only;split
  ·rw[h1];split
   ·rename_i q;subst q;simp only[KR,e,Option.getD_some];omega
   omega
  split
  ·rename_i q;subst q;simp only[KR,e,Option.getD_some];omega
  omega
theorem Nq {n:Int}:∀(vs:List CF) (m:List (Int×Int)),Qy m→(∀v∈vs,0≤v.plus+n)→Qy (vs.foldl (H5 n) m)∧∀i,KR (vs.foldl (H5 n) m) i=max (D4 (vs.map (N8 n)) i) (KR m i)
 | [],m,h,_=>⟨h,fun i=>by have:=Vi h i;simp only[List.foldl_nil,List.map_nil,D4];omega⟩
 | v::vs,m,h,hv=>by
  have hp:=hv v Ao;have h1:Qy (H5 n m v):=R7 h hp;obtain⟨h2,h3⟩:=Nq vs (H5 n m v) h1 fun w hw=>hv w (by simp[hw]);refine⟨h2,fun i=>?_⟩;rw[List.foldl_cons,h3 i,show KR (H5 n m v) i=max (D4 [⟨v.index,v.plus+n⟩] i) (KR m i) from Ny h hp i];have:=Vi h i;simp only[List.map_cons,D4,N8];split<;>omega
theorem N6 (zs:List Int):(FE zs).Perm zs:=List.mergeSort_perm _ _
theorem WW (zs:List Int):(FE zs).Pairwise fun a b=>a≤b:=by
 have:=List.pairwise_mergeSort (le:=fun(x y:Int)=>decide (x≤y)) (fun a b c h1 h2=>by simp at *;omega) (fun a b=>by simp;omega) zs;exact this.imp fun h=>by simpa using h
theorem VA {m:List (Int×Int)}(h:Qy m):L4 (G5 m):=by
 have hn:(FE (m.map Prod.fst)).Nodup:=(N6 _).nodup_iff.2 h.nd;have hs:=WW (m.map Prod.fst);rw[L4,G5,List.pairwise_map];exact(hs.and hn).imp fun⟨h1,h2⟩=>by simp only;omega
theorem Xj {f:Int→Int}:∀(ks:List Int) (i:Int),(∀k∈ks,0≤f k)→D4 (ks.map fun k=>(⟨k,f k⟩:CF)) i=if i∈ks then f i else -1
 | [],i,_=>by simp[D4]
 | k::ks,i,h=>by
  have ih:=Xj ks i fun k hk=>h k (by simp[hk]);simp only[List.map_cons,D4,ih,List.mem_cons];by_cases q:k=i
  ·subst q;have:=h k Ao;simp only[if_true,true_or];split<;>omega
  simp[q,Ne.symm q]
theorem R4 {m:List (Int×Int)}(h:Qy m) (i:Int):D4 (G5 m) i=KR m i:=by
 rw[G5,Xj (f:=fun i=>(mg i m).getD 0)]
 ·simp only[(N6 _).mem_iff,KR];split
  ·rename_i q;cases e:mg i m with
   | none=>exact absurd q (Vz.1 e)
   | some v=>simp
  rename_i q;rw[Vz.2 q];rfl
 intro k hk;cases e:mg k m with
 | none=>simp
 | some v=>simpa using h.pos k v e
theorem eG {m:List (Int×Int)}(h:Qy m):∀v∈G5 m,0≤v.plus:=by
 intro v hv;simp only[G5,List.mem_map] at hv;obtain⟨k,_,rfl⟩:=hv;simp only;cases e:mg k m with
 | none=>simp
 | some v=>simpa using h.pos k v e
-- valid levels
theorem JN:∀{c:Int}{vs:List CF}{p:Option Int},Fh c p vs=true→∀v∈vs,WR c v=true
 | c,w::vs,p,h,v,hv=>by
  simp only[Fh,Bool.and_eq_true] at h;rcases List.mem_cons.1 hv with rfl | hv
  ·exact h.1.1
  exact JN h.2 v hv
theorem Q3 {c:Int}{v:CF}(h:WR c v=true):0≤v.plus∧v.plus≤100:=by
 simp only[WR,Bool.and_eq_true,decide_eq_true_eq] at h;exact⟨h.1.1.2,h.1.2⟩
theorem Mu:∀{c:Int}{vs:List CF}{p:Option Int},Fh c p vs=true→L4 vs∧∀v∈vs,Ji p v.index=true
 | c,[],p,_=>⟨by simp[L4],by simp⟩
 | c,w::vs,p,h=>by
  simp only[Fh,Bool.and_eq_true] at h;obtain⟨h1,h2⟩:=Mu h.2;simp only[Ji,decide_eq_true_eq] at h2;refine⟨?_,fun v hv=>?_⟩
  ·rw[L4,List.pairwise_cons];exact⟨h2,h1⟩
  rcases List.mem_cons.1 hv with rfl | hv
  ·exact h.1.2
  have a:=h.1.2;have b:=h2 v hv;unfold Ji at a ⊢;cases p with
  | none=>rfl
  | some j=>simp only[decide_eq_true_eq] at a ⊢;omega
theorem iR {n:Int}{vs:List CF}(h:L4 vs):L4 (vs.map (N8 n)):=by
 rw[L4,List.pairwise_map];exact h.imp fun h=>h
structure kq (m:List (Int×Int)) (c:Int) (out:CS):Prop where
 ok:Qy m
 asc:L4 out.vars
 pos:∀v∈out.vars,0≤v.plus∧v.plus≤100
 off:∀i,D4 out.vars i=KR m i
 c0:0≤c
 c1:c≤100
 con:out.const=I1 c out.vars
theorem YS {m m' : List (Int × Int)} {c cx : Int} {out x : CS} (h : kq m c out) (hm : Qy m') (hx : L4 x.vars) (hp : ∀ v ∈ x.vars, 0 ≤ v.plus ∧ v.plus ≤ 100) (ho : ∀ i, KR m' i = max (D4 x.vars i) (KR m i)) (h0 : 0 ≤ cx) (h1 : cx ≤ 100) (hc : x.const = cx ∨ x.const = 0 ∧ ∃ v ∈ x.vars, cx ≤ v.plus) : kq m' (max c cx) (I5 out x) := by
 have hv : ∀ v ∈ DR out.vars x.vars, 0 ≤ v.plus ∧ v.plus ≤ 100 := Hw (Q := fun v => 0 ≤ v.plus ∧ v.plus ≤ 100) (fun u v h1 h2 _ => by simp only; omega) _ _ h.pos hp
 have hx0 : 0 ≤ x.const := by rcases hc with h | h <;> omega
 have ho0 : 0 ≤ out.const := by rw [h.con]; unfold I1; split; · omega
                                exact h.c0
 refine ⟨hm, Pz h.asc hx, hv, fun i => ?_, by have := h.c0; omega, by have := h.c1; omega, ?_⟩
 ·simp only [I5, TT, Nh, h.off i, ho i]; omega
 have hmem : ∀ v, (v ∈ out.vars ∨ v ∈ x.vars) → ∃ u ∈ DR out.vars x.vars, v.plus ≤ u.plus := by
  intro v hv'
  have h1 : v.plus ≤ D4 (DR out.vars x.vars) v.index := by
   rw [Nh]
   rcases hv' with h | h <;> have := MH h <;> omega
  have h2 : 0 ≤ v.plus := by
   rcases hv' with q | q
   ·exact (h.pos v q).1
   exact (hp v q).1
  revert h1
  generalize DR out.vars x.vars = l
  intro h1
  induction l with
  | nil => simp only [D4] at h1; omega
  | cons y l ih =>
   simp only [D4] at h1
   by_cases q : v.plus ≤ y.plus
   ·exact ⟨y, by simp, q⟩
   obtain ⟨u, hu, hl⟩ := ih (by split at h1 <;> omega)
   exact ⟨u, by simp [hu], hl⟩
 rw [I5, W3 An fun v hv' => (hv v hv').1]
 show I1 (max out.const x.const) (DR out.vars x.vars) = I1 (max c cx) (DR out.vars x.vars)
 generalize hl : DR out.vars x.vars = l
 rw [hl] at hmem hv
 have e1 : out.const = c ∨ out.const = 0 ∧ ∃ v ∈ l, c ≤ v.plus := by
  rw [h.con]
  unfold I1
  split
  ·rename_i q
   simp only [List.any_eq_true, decide_eq_true_eq] at q
   obtain ⟨v, q1, q2⟩ := q
   obtain ⟨u, hu, hle⟩ := hmem v (.inl q1)
   exact .inr ⟨O, u, hu, by omega⟩
  exact .inl O
 have e2 : x.const = cx ∨ x.const = 0 ∧ ∃ v ∈ l, cx ≤ v.plus := by
  rcases hc with q | ⟨q, v, q1, q2⟩
  ·exact .inl q
  obtain ⟨u, hu, hle⟩ := hmem v (.inr q1)
  exact .inr ⟨q, u, hu, by omega⟩
 have hc0 := h.c0
 have key : ∀ a b : Int, (∀ v ∈ l, a ≤ v.plus ↔ b ≤ v.plus) → (a = b ∨ ∃ v ∈ l, a ≤ v.plus) → I1 a l = I1 b l := by
  intro a b h1 h2
  unfold I1
  have : (l.any fun v => decide (a ≤ v.plus)) = (l.any fun v => decide (b ≤ v.plus)) := by
   rw [Bool.eq_iff_iff]
   simp only [List.any_eq_true, decide_eq_true_eq]
   exact ⟨fun ⟨v, q1, q2⟩ => ⟨v, q1, (h1 v q1).1 q2⟩, fun ⟨v, q1, q2⟩ => ⟨v, q1, (h1 v q1).2 q2⟩⟩
  rw [this]
  rcases h2 with rfl | ⟨v, q1, q2⟩
  ·rfl
  have : (l.any fun v => decide (b ≤ v.plus)) = true := by
   simp only [List.any_eq_true, decide_eq_true_eq]; exact ⟨v, q1, (h1 v q1).1 q2⟩
  rw [if_pos this, if_pos this]
 by_cases hM : ∃ v ∈ l, max c cx ≤ v.plus
 ·obtain ⟨v, q1, q2⟩ := hM
  have a1 : I1 (max c cx) l = 0 := by
   unfold I1; rw [if_pos]; simp only [List.any_eq_true, decide_eq_true_eq]; exact ⟨v, q1, q2⟩
  have a2 : I1 (max out.const x.const) l = 0 := by
   unfold I1; rw [if_pos]; simp only [List.any_eq_true, decide_eq_true_eq]
   exact ⟨v, q1, by rcases e1 with q | q <;> rcases e2 with q' | q' <;> omega⟩
  rw [a1, a2]
 have hM' : ∀ v ∈ l, v.plus < max c cx := fun v hv' => by
  exact Int.not_le.1 fun q => hM ⟨v, hv', q⟩
 have : max out.const x.const = max c cx := by
  rcases e1 with q | ⟨q, v, v1, v2⟩
  ·rcases e2 with q' | ⟨q', u, u1, u2⟩
   ·omega
   have := hM' u u1; omega
  have := hM' v v1
  rcases e2 with q' | ⟨q', u, u1, u2⟩
  ·omega
  have := hM' u u1; omega
 rw [this]
-- errors stay
def dF (s:List (Int×Int)×Int):Prop:=(∃i,100<KR s.1 i)∨100<s.2
theorem Ws {ps:List CS}(hps:∀l∈ps,B9 l=true) {s:List (Int×Int)×Int}{v:CF}(hm:Qy s.1) (hv:0≤v.plus) (hi:v.index<ps.length):Qy (D2 ps s v).1∧(dF s→dF (D2 ps s v)):=by
 unfold D2;split
 ·refine⟨R7 hm hv,fun h=>?_⟩;rcases h with ⟨i,h⟩ | h
  ·exact .inl ⟨i,by rw[Ny hm hv];omega⟩
  exact .inr h
 rename_i q;have hmem:ps.getD v.index.toNat default∈ps:=by
  have hlt:v.index.toNat<ps.length:=by omega
  rw[List.getD_eq_getElem?_getD,List.getElem?_eq_getElem hlt];exact List.getElem_mem hlt
 have hl:=hps _ hmem;simp only[B9,Bool.and_eq_true,decide_eq_true_eq] at hl;obtain⟨h1,h2⟩:=Nq (n:=v.plus) (ps.getD v.index.toNat default).vars s.1 hm fun w hw=>by have:=(Q3 (JN hl.2 w hw)).1;omega
 refine⟨h1,fun h=>?_⟩;rcases h with ⟨i,h⟩ | h
 ·exact .inl ⟨i,by simp only[Sn,h2];omega⟩
 exact .inr (by simp only[Sn];omega)
theorem XA {ps:List CS}(hps:∀l∈ps,B9 l=true):∀(vs:List CF) (s:List (Int×Int)×Int),(∀v∈vs,0≤v.plus∧v.index<ps.length)→Qy s.1→Qy (vs.foldl (D2 ps) s).1∧(dF s→dF (vs.foldl (D2 ps) s))
 | [],s,_,h=>⟨h,id⟩
 | v::vs,s,hv,h=>by
  have hv0:=hv v Ao;obtain⟨h1,h2⟩:=Ws hps (s:=s) h hv0.1 hv0.2;obtain⟨h3,h4⟩:=XA hps vs (D2 ps s v) (fun w hw=>hv w (by simp[hw])) h1;exact⟨h3,fun b=>h4 (h2 b)⟩
theorem m6 {s:List (Int×Int)×Int}(hm:Qy s.1) (h:dF s):JU ⟨s.2,G5 s.1⟩=(FU,15):=by
 unfold JU;rcases h with ⟨i,h⟩ | h
 ·rw[if_pos];simp only[List.any_eq_true,decide_eq_true_eq];rw[←R4 hm] at h;have:∀l:List CF,100<D4 l i→∃v∈l,100<v.plus:=by
   intro l h
   induction l with
   | nil=>simp only[D4] at h;omega
   | cons y l ih =>
    simp only[D4] at h;by_cases q:100<y.plus
    ·exact⟨y,by simp,q⟩
    obtain⟨u,hu,hl⟩:=ih (by split at h<;>omega);exact⟨u,by simp[hu],hl⟩
  obtain⟨v,hv,hl⟩:=this _ h;exact⟨v,hv,by omega⟩
 split
 ·rfl
 first | rfl | (split<;>first | rfl | (rename_i q;exact absurd h q)) | simp[h]
theorem jg {m:List (Int×Int)}{c:Int}{out:CS}(h:kq m c out):JU ⟨c,G5 m⟩=(out,0):=by
 have e:G5 m=out.vars:=aN (VA h.ok) h.asc (eG h.ok) (fun v hv=>(h.pos v hv).1) fun i=>by rw[R4 h.ok,h.off i]
 unfold JU;simp only[e];rw[if_neg,if_neg (by have:=h.c1;omega)]
 ·have hc:=h.con;unfold Qp I1 at *;simp only;split
  ·rename_i q;rw[if_pos q] at hc;rw[←hc]
  rename_i q;rw[if_neg q] at hc;rw[←hc]
 simp only[List.any_eq_true,decide_eq_true_eq,not_exists,not_and];intro v hv;have:=(h.pos v hv).2;omega
theorem QX {l:CS}{n:Int}(hl:B9 l=true) (h0:0≤n) (h1:n≤100) :
  (E4 l n=(FU,15)∧(100<l.const+n∨∃v∈l.vars,100<v.plus+n)) ∨
  (E4 l n=(⟨JR l n,l.vars.map (N8 n)⟩,0)∧l.const+n≤100∧∀v∈l.vars,v.plus+n≤100):=by
 have hl':=hl;simp only[B9,Bool.and_eq_true,decide_eq_true_eq] at hl';unfold E4;rw[if_neg (by simp[hl]),if_neg An,if_neg An];split
 ·rename_i q;refine .inl ⟨O,.inl ?_⟩;unfold JR at q;split at q<;>omega
 rename_i q;split
 ·rename_i q';simp only[List.any_eq_true,decide_eq_true_eq] at q';obtain⟨v,h1,h2⟩:=q';exact .inl ⟨O,.inr ⟨v,h1,by omega⟩⟩
 rename_i q';simp only[List.any_eq_true,decide_eq_true_eq,not_exists,not_and] at q';refine .inr ⟨O,?_,fun v hv=>by have:=q' v hv;omega⟩;unfold JR at q;split at q<;>omega
theorem fold_eq {ps:List CS}(hps:∀l∈ps,B9 l=true):∀(vs:List CF) (s:List (Int×Int)×Int) (out:CS),(∀v∈vs,0≤v.plus∧v.plus≤100∧v.index<ps.length)→kq s.1 s.2 out →
  JU ⟨(vs.foldl (D2 ps) s).2,G5 (vs.foldl (D2 ps) s).1⟩=GK ps out vs
 | [],s,out,_,h=>jg h
 | v::vs,s,out,hv,h=>by
  obtain⟨p0,p1,pi⟩:=hv v Ao;have hv':∀w∈vs,0≤w.plus∧w.plus≤100∧w.index<ps.length:=fun w hw=>hv w (by simp[hw]);have hb:∀w∈vs,0≤w.plus∧w.index<ps.length:=fun w hw=>⟨(hv' w hw).1,(hv' w hw).2.2⟩;rw[List.foldl_cons,GK];by_cases hi:0≤v.index
  ·rw[if_pos ⟨hi,pi⟩];have hst:D2 ps s v=Sn s (ps.getD v.index.toNat default) v.plus:=by unfold D2;rw[if_neg An]
   have hmem:ps.getD v.index.toNat default∈ps:=by
    have hlt:v.index.toNat<ps.length:=by omega
    rw[List.getD_eq_getElem?_getD,List.getElem?_eq_getElem hlt];exact List.getElem_mem hlt
   rw[hst];generalize ps.getD v.index.toNat default=l at hmem ⊢;have hl:=hps l hmem;have hl':=hl;simp only[B9,Bool.and_eq_true,decide_eq_true_eq] at hl';have hpos:∀w∈l.vars,0≤w.plus+v.plus:=fun w hw=>by have:=(Q3 (JN hl'.2 w hw)).1;omega
   obtain⟨hm,ho⟩:=Nq (n:=v.plus) l.vars s.1 h.ok hpos;rcases QX hl p0 p1 with ⟨e,q⟩ | ⟨e,q1,q2⟩
   ·rw[e,if_pos Ao];have hB:dF (Sn s l v.plus):=by
     rcases q with q | ⟨w,q1,q2⟩
     ·exact .inr (by simp only[Sn];omega)
     refine .inl ⟨w.index,?_⟩;simp only[Sn,ho];have:=MH (vs:=l.vars.map (N8 v.plus)) (v:=N8 v.plus w) (List.mem_map_of_mem q1);simp only[N8] at this;omega
    obtain⟨g1,g2⟩:=XA hps vs (Sn s l v.plus) hb hm;exact m6 g1 (g2 hB)
   rw[e,if_neg Ao];refine fold_eq hps vs _ _ hv' (YS h hm (iR (Mu hl'.2).1) (fun w hw=>?_) ho An q1 ?_)
   ·simp only[List.mem_map] at hw;obtain⟨u,hu,rfl⟩:=hw;exact⟨by have:=hpos u hu;simp only[N8];omega,by have:=q2 u hu;simp only[N8];omega⟩
   simp only[JR];split
   ·exact .inl O
   rename_i q;simp only[not_or] at q;refine .inr ⟨O,?_⟩;obtain⟨w,hw⟩:=List.exists_mem_of_ne_nil _ q.2;exact⟨N8 v.plus w,List.mem_map_of_mem hw,by have:=(Q3 (JN hl'.2 w hw)).1;simp only[N8];omega⟩
  rw[if_neg An];have hst:D2 ps s v=(GN s.1 v.index v.plus,s.2):=by unfold D2;rw[if_pos An]
  rw[hst];refine fold_eq hps vs _ _ hv' ?_;have:=YS (m':=GN s.1 v.index v.plus) (cx:=0) (x:=⟨0,[v]⟩) h (R7 h.ok p0) (by simp[L4]) (by simp;exact⟨p0,p1⟩) (fun i=>Ny h.ok p0 i) An An (.inl rfl)
  rwa [show max s.2 0=s.2 by have:=h.c0;omega] at this
theorem OY:∀{vs:List CF},L4 vs→∀v∈vs,v.index≤Se vs
 | [w],_,v,hv=>by simp only[List.mem_singleton] at hv;subst hv;simp[Se]
 | w::u::vs,h,v,hv=>by
  rw[L4,List.pairwise_cons] at h;have e:Se (w::u::vs)=Se (u::vs):=by simp[Se]
  rw[e];rcases List.mem_cons.1 hv with rfl | hv
  ·have:=h.1 u Ao;have:=OY h.2 u Ao;omega
  exact OY h.2 v hv
theorem eO (l:CS) (ps:List CS):Is l ps=Cu l ps:=by
 unfold Is Cu;by_cases h1:B9 l=false∨ps.all B9=false
 ·rw[if_pos h1,if_pos h1]
 rw[if_neg h1,if_neg h1];by_cases h2:Ge l > ps.length
 ·rw[if_pos h2,if_pos h2]
 rw[if_neg h2,if_neg h2];simp only[not_or,Bool.not_eq_false] at h1;have hl:=h1.1;simp only[B9,Bool.and_eq_true,decide_eq_true_eq] at hl;have hps:∀l∈ps,B9 l=true:=by simpa [List.all_eq_true] using h1.2
 have ha:=(Mu hl.2).1;refine fold_eq hps l.vars _ _ (fun v hv=>?_) ⟨Qy.nil,by simp[L4],by simp,fun i=>by simp[D4,KR,mg],hl.1.1,hl.1.2,by simp[I1]⟩;have a:=Q3 (JN hl.2 v hv);refine⟨a.1,a.2,?_⟩;have:=OY ha v hv;unfold Ge at h2;rw[if_pos ⟨h1.1,List.ne_nil_of_mem hv⟩] at h2;omega
def EO (ps:List CS):Int→List CS→List CS×Int
 | er,[]=>([],er)
 | er,l::ls=>((Cu l ps).1::(EO ps (GB er (Cu l ps).2) ls).1,(EO ps (GB er (Cu l ps).2) ls).2)
mutual
def Fx (ps:List CS):Int→Tm→Tm×Int
 | er,.mk k i n ls ks=>(.mk k i n (EO ps er ls).1 (Fe ps (EO ps er ls).2 ks).1,(Fe ps (EO ps er ls).2 ks).2)
def Fe (ps:List CS):Int→List Tm→List Tm×Int
 | er,[]=>([],er)
 | er,t::ts=>((Fx ps er t).1::(Fe ps (Fx ps er t).2 ts).1,(Fe ps (Fx ps er t).2 ts).2)
end
def BY (t:Tm) (ps:List CS):Tm×Int:=if (Fx ps 0 t).2≠0 then (Bh,(Fx ps 0 t).2) else ((Fx ps 0 t).1,0)
inductive Out (α:Type) where
 | stuck
 | fail
 | ok (a:α)
def Out.bind {α β:Type}:Out α→(α→Out β)→Out β
 | .stuck,_=> .stuck
 | .fail,_=> .fail
 | .ok a,k=>k a
def Sl (n:Int):Bool:=decide (-9223372036854775808≤n)&&decide (n≤9223372036854775807)
def Z3 (l:CS):Bool:=decide (l.vars.length<DY)&&Sl l.const&&l.vars.all fun v=>Sl v.index&&Sl v.plus
def tc (k i:Int) (n:ByteArray):Bool:=(decide (i=0)||decide (k=0)||decide (k=12))&&(decide (n.size=0)||decide (k=3))
mutual
def Uq:Tm→Bool
 | .mk k i n ls ks=>decide (n.size<DY)&&decide (ls.length<DY)&&ls.all Z3&&decide (ks.length<DY)&&Sl k&&Sl i&&decide ((ks.length:Int)=arity k)&&(decide (k≠12)||decide (0≤i))&&(decide (k≠0)||decide (0≤i)&&decide (i<1099511627776))&&tc k i n&&L0 ks
def L0:List Tm→Bool
 | []=>true
 | t::ts=>Uq t&&L0 ts
end
def okB (t:Tm):Bool:=Uq t&&decide (size t<549755813888)
def Out.chk {σ β:Type}(o:Out (Tm×σ)) (k:Tm×σ→Out β):Out β:=o.bind fun r=>if okB r.1=true then k r else .stuck
structure Sys (σ:Type) where
 over:σ→Bool
 res:σ→Tm→Int→Option σ
 many:Nat→Bool
def Sys.put {σ α:Type}(S:Sys σ) (s:σ) (x:Tm×Int) (k:Tm→σ→Out α):Out α :=
 if okB x.1=true then (match S.res s x.1 x.2 with
  | none=> .fail
  | some s'=>k x.1 s')
 else .stuck
def Et.result (c:Et) (t:Tm) (e:Int):Et:=({ c with steps:=wr (c.steps+1),nodes:=wr (c.nodes+Ev t) }).form t e
def Db:Sys Et:=⟨Et.over,fun c t e=>some (c.result t e),fun _=>false⟩
def Bp:Sys Int:=⟨fun _=>false,fun n t e=>if n - 1<0∨e≠0 then none else some (n - 1),fun k=>decide (40960<k)⟩
def HB:Tm→List Tm×Tm
 | .mk k i n l [a,b]=>if k=6 then (a::(HB b).1,(HB b).2) else ([],.mk k i n l [a,b])
 | t=>([],t)
section
variable (E:List B5)
def Bo (i:Int):B5:=E.getD i.toNat default
def Df (d:B5) (j:Int):IS:=d.ctors.getD j.toNat default
def EX (d:B5) (j:Int):Hp:=d.funs.getD j.toNat default
def Ze (t:Tm):Int:=((HB t).1.length:Int)
def C7 (d:B5) (j:Int):Int:=max 0 (Ze (Df d j).type - d.fixed)
def D7 (nm:ByteArray):Option (B5×Int) :=
 if (Bb E nm).2≠0 then none
 else if (Bb E nm).1.kind=3 then some (Bo E (Bb E nm).1.decl,-1)
 else if (Bb E nm).1.kind=4 then some (Bo E (Bb E nm).1.decl,(Bb E nm).1.item)
 else if (Bb E nm).1.kind=5 then some (Bo E (Bb E nm).1.decl,-2)
 else none
def C8 (t:Tm):Option (B5×Int×List Tm) :=
 if (A8 t).1.kind≠3 then none
 else match D7 E (A8 t).1.name with
  | none=>none
  | some (d,j)=>if j<0 then none else if ((A8 t).2.length:Int)≠d.fixed+C7 d j then none else some (d,j,(A8 t).2.drop d.fixed.toNat)
def Gt (d:B5):Int:=max 0 (Ze d.type - d.fixed)
def CB (d:B5):Int:=d.fixed+1+d.ctors.length+Gt d
def Ca (nm:ByteArray):List GC→Option ES
 | []=>none
 | b::l=>if b.ctor=nm then (if b.absurd=true then none else some b.tree) else Ca nm l
def Gf (h:Tm):Option Fq:=if (Bb E h.name).2=0∧(h.levels.length:Int)=(Bb E h.name).1.params then some (Bb E h.name).1 else none
variable {σ:Type}(S:Sys σ)
def Dp (W:σ→Tm→Out (Tm×σ)):Nat→ES→List Tm→Tm→σ→Out ((Option (Tm×List Tm)×Tm)×σ)
 | 0,_,_,_,_=> .stuck
 | n+1,t,vars,last,s =>
  if t.kind=1 then
   if t.var<0∨t.var≥(vars.length:Int)∨S.over s=true then .ok ((none,last),s)
   else (W s (vars.getD t.var.toNat default)).chk fun r=>match C8 E r.1 with
    | none=> .ok ((none,r.1),r.2)
    | some (d,j,fields)=>match Ca (Df d j).name t.branches with
     | none=> .ok ((none,r.1),r.2)
     | some t'=>Dp W n t' (vars++fields) r.1 r.2
  else .ok ((some (t.body,vars),Bh),s)
def Eg (d:B5) (h:Tm) (a:List Tm) (s:σ):Out (Option Tm×σ) :=
 if (BY d.value h.levels).2≠0 then .ok (none,s)
 else S.put s ((BY d.value h.levels).1,0) fun t s'=> .ok (some (apply t a),s')
def Hy (d:B5) (j:Int):Tm:=d.recs.rules.getD j.toNat default
def Es (d:B5) (h:Tm) (a:List Tm) (m:Tm) (s:σ):Out (Option Tm×σ):=match C8 E m with
 | none=> .ok (none,s)
 | some (e,j,fields) =>
  if e.name≠d.name∨j≥(d.recs.rules.length:Int) then .ok (none,s)
  else if (BY (Hy d j) h.levels).2≠0 then .ok (none,s)
  else S.put s (apply (apply (BY (Hy d j) h.levels).1 (a.take (d.fixed+1+d.ctors.length).toNat)) fields,0) fun t s'=> .ok (some (apply t (a.drop (CB d+1).toNat)),s')
def GD (h:Tm) (b:Tm) (vars:List Tm) (rest:List Tm) (s:σ):Out (Option Tm×σ) :=
 if (BY b h.levels).2≠0 then .ok (none,s)
 else if okB (BY b h.levels).1=false∨vars.all okB=false∨1125899906842624≤BX vars then .stuck
 else S.put s (CD (BY b h.levels).1 vars.reverse 0) fun t s'=> .ok (some (apply t rest),s')
def I0 (W:σ→Tm→Out (Tm×σ)) (n:Nat) (f:Hp) (h:Tm) (a:List Tm) (s:σ):Out (Option Tm×σ) :=
 if (a.length:Int)<f.arity then .ok (none,s)
 else (Dp E S W n f.tree (a.take f.arity.toNat) Bh s).bind fun q=>match q.1.1 with
  | none=> .ok (none,q.2)
  | some (b,vars)=>if S.over q.2=true then .ok (none,q.2) else GD S h b vars (a.drop f.arity.toNat) q.2
def Qx (W:σ→Tm→Out (Tm×σ)) (d:B5) (h:Tm) (a:List Tm) (s:σ):Out (Option Tm×σ) :=
 if (a.length:Int)≤CB d then .ok (none,s)
 else (W s (a.getD (CB d).toNat default)).chk fun r=>Es E S d h a r.1 r.2
def ED (W:σ→Tm→Out (Tm×σ)) (n:Nat) (h:Tm) (a:List Tm) (s:σ):Out (Option Tm×σ):=match Gf E h with
 | none=> .ok (none,s)
 | some x =>
  if x.kind=1 then Eg S (Bo E x.decl) h a s
  else if x.kind=5 then Qx E S W (Bo E x.decl) h a s
  else if x.kind=6 then I0 E S W n (EX (Bo E x.decl) x.item) h a s
  else .ok (none,s)
def Hn (k:Int) (p:Tm):Tm:= .mk k 0 ⟨#[]⟩ [] [p]
def PJ (h:Tm) (a:List Tm) (s:σ) {α:Type}(k:Tm→σ→Out α):Out α:=match h.kids[1]? with
 | none=> .stuck
 | some b=>S.put s (CD b (a.take 1) 0) fun x s'=>k (apply x (a.drop 1)) s'
def Vq (h:Tm) (a:List Tm) (s:σ) {α:Type}(k:Tm→σ→Out α):Out α:=match h.kids[1]?,h.kids[2]? with
 | some v,some b=>S.put s (CD b [v] 0) fun x s'=>k (apply x a) s'
 | _,_=> .stuck
def NP (h p:Tm) (a:List Tm) (s:σ) {α:Type}(k:Tm→σ→Out α):Out α:=match p.kids[(1+h.kind - 9).toNat]? with
 | none=> .stuck
 | some q=>S.put s (q,0) fun x s'=>k (apply x a) s'
def DK:Nat→σ→Tm→Out (Tm×σ)
 | 0,_,_=> .stuck
 | n+1,s,t =>
  if okB t=false then .stuck
  else if S.over s=true then .ok (t,s)
  else if S.many (A8 t).2.length=true then .fail
  else if (A8 t).1.kind=5 then
   (if (A8 t).2.length=0 then .ok (t,s) else PJ S (A8 t).1 (A8 t).2 s fun x s'=>DK n s' x)
  else if (A8 t).1.kind=11 then Vq S (A8 t).1 (A8 t).2 s fun x s'=>DK n s' x
  else if (A8 t).1.kind=9∨(A8 t).1.kind=10 then match (A8 t).1.kids[0]? with
   | none=> .stuck
   | some p=>(DK n s p).chk fun r =>
    if r.1.kind≠8 then .ok (apply (Hn (A8 t).1.kind r.1) (A8 t).2,r.2)
    else NP S (A8 t).1 r.1 (A8 t).2 r.2 fun x s'=>DK n s' x
  else if (A8 t).1.kind=3 then (ED E S (DK n) n (A8 t).1 (A8 t).2 s).bind fun r=>match r.1 with
   | none=> .ok (t,r.2)
   | some x=>DK n r.2 x
  else .ok (t,s)
noncomputable def Ii:Nat→σ→Tm→Out (Option Int×σ)
 | 0,_,_=> .stuck
 | n+1,s,t=>(DK E S n s t).chk fun r =>
  if (A8 r.1).1.kind=12 then .ok (some (A8 r.1).1.index,r.2)
  else if (A8 r.1).1.kind=9∨(A8 r.1).1.kind=10 then match (A8 r.1).1.kids[0]? with
   | none=> .stuck
   | some p=>Ii n r.2 p
  else if (A8 r.1).1.kind=3 then match Gf E (A8 r.1).1 with
   | none=> .ok (none,r.2)
   | some x =>
    if S.over r.2=true then .ok (none,r.2)
    else if x.kind=5∧((A8 r.1).2.length:Int) > CB (Bo E x.decl) then Ii n r.2 ((A8 r.1).2.getD (CB (Bo E x.decl)).toNat default)
    else if x.kind=6∧((A8 r.1).2.length:Int)≥(EX (Bo E x.decl) x.item).arity then
     (Dp E S (DK E S n) n (EX (Bo E x.decl) x.item).tree ((A8 r.1).2.take (EX (Bo E x.decl) x.item).arity.toNat) Bh r.2).bind fun q=>match q.1.1 with
      | some _=> .ok (none,q.2)
      | none=>if S.over q.2=false∧Od q.1.2 Bh=false then Ii n q.2 q.1.2 else .ok (none,q.2)
    else .ok (none,r.2)
  else .ok (none,r.2)
def HR:Tm→List Int→Tm→Option Tm
 | _,[],x=>some x
 | t,p::ps,x=>match (A8 t).2[p.toNat]? with
  | none=>none
  | some y=>(HR y ps x).map fun z=>apply (A8 t).1 ((A8 t).2.set p.toNat z)
def Ed (a:Int×List Int) (fx:Int) (n:Nat):List (Int×List Int):=(List.range n).map fun i:Nat=>(a.1,a.2++[fx+(i:Int)])
def Ix (T:σ→Tm→Out (Option Tm×σ)) (h:Tm) (ar:Int) (a:List Tm):Nat→ES→List Tm→List (Int×List Int)→σ→Out (Option Tm×σ)
 | 0,_,_,_,_=> .stuck
 | n+1,t,vars,pl,s =>
  if t.kind=1 then
   if t.var<0∨t.var≥(vars.length:Int) then .ok (none,s)
   else match C8 E (vars.getD t.var.toNat default) with
    | none=>(T s (vars.getD t.var.toNat default)).bind fun r=>match r.1 with
     | none=> .ok (none,r.2)
     | some x=>match HR (a.getD (pl.getD t.var.toNat default).1.toNat default) (pl.getD t.var.toNat default).2 x with
      | none=> .stuck
      | some y=> .ok (some (apply h (a.set (pl.getD t.var.toNat default).1.toNat y)),r.2)
    | some (d,j,fields)=>match Ca (Df d j).name t.branches with
     | none=> .ok (none,s)
     | some t'=>Ix T h ar a n t' (vars++fields) (pl++Ed (pl.getD t.var.toNat default) d.fixed fields.length) s
  else GD S h t.body vars (a.drop ar.toNat) s
def Dl:Nat→σ→Tm→Out (Option Tm×σ)
 | 0,_,_=> .stuck
 | n+1,s,t =>
  if okB t=false then .stuck
  else if (A8 t).1.kind=5 then
   (if (A8 t).2.length=0 then .ok (none,s) else PJ S (A8 t).1 (A8 t).2 s fun x s'=> .ok (some x,s'))
  else if (A8 t).1.kind=11 then Vq S (A8 t).1 (A8 t).2 s fun x s'=> .ok (some x,s')
  else if (A8 t).1.kind=9∨(A8 t).1.kind=10 then match (A8 t).1.kids[0]? with
   | none=> .stuck
   | some p =>
    if p.kind=8 then NP S (A8 t).1 p (A8 t).2 s fun x s'=> .ok (some x,s')
    else (Dl n s p).bind fun r=>match r.1 with
     | none=> .ok (none,r.2)
     | some x=> .ok (some (apply (Hn (A8 t).1.kind x) (A8 t).2),r.2)
  else if (A8 t).1.kind=3 then match Gf E (A8 t).1 with
   | none=> .ok (none,s)
   | some x =>
    if x.kind=1 then Eg S (Bo E x.decl) (A8 t).1 (A8 t).2 s
    else if x.kind=5∧((A8 t).2.length:Int) > CB (Bo E x.decl) then match C8 E ((A8 t).2.getD (CB (Bo E x.decl)).toNat default) with
     | some _=>Es E S (Bo E x.decl) (A8 t).1 (A8 t).2 ((A8 t).2.getD (CB (Bo E x.decl)).toNat default) s
     | none=>(Dl n s ((A8 t).2.getD (CB (Bo E x.decl)).toNat default)).bind fun r=>match r.1 with
      | none=> .ok (none,r.2)
      | some y=> .ok (some (apply (A8 t).1 ((A8 t).2.set (CB (Bo E x.decl)).toNat y)),r.2)
    else if x.kind=6∧((A8 t).2.length:Int)≥(EX (Bo E x.decl) x.item).arity then
     Ix E S (Dl n) (A8 t).1 (EX (Bo E x.decl) x.item).arity (A8 t).2 n (EX (Bo E x.decl) x.item).tree ((A8 t).2.take (EX (Bo E x.decl) x.item).arity.toNat) ((List.range (EX (Bo E x.decl) x.item).arity.toNat).map fun i:Nat=>((i:Int),[])) s
    else .ok (none,s)
  else .ok (none,s)
end
def qC (k i:Int) (n:ByteArray) (ls:List CS) (ks:Nat):Bool:=decide (n.size<DY)&&decide (ls.length<DY)&&ls.all Z3&&decide (ks<DY)&&Sl k&&Sl i&&decide ((ks:Int)=arity k)&&(decide (k≠12)||decide (0≤i))&&(decide (k≠0)||decide (0≤i)&&decide (i<1099511627776))&&tc k i n
theorem LR (k i:Int) (n:ByteArray) (ls:List CS) (ks:List Tm):Uq (.mk k i n ls ks)=(qC k i n ls ks.length&&L0 ks):=by rw[Uq,qC]
theorem JV:∀{ts:List Tm},L0 ts=true↔∀t∈ts,Uq t=true
 | []=>by simp[L0]
 | t::ts=>by simp only[L0,Bool.and_eq_true,JV (ts:=ts),List.mem_cons,forall_eq_or_imp]
theorem mZ {l:CS}(h:Z3 l=true):Nj l:=by
 simp only[Z3,Sl,Bool.and_eq_true,decide_eq_true_eq,List.all_eq_true] at h;exact⟨h.1.1,h.1.2,fun v hv=>h.2 v hv⟩
theorem bw {l:CS}(h:Nj l):Z3 l=true:=by
 simp only[Z3,Sl,Bool.and_eq_true,decide_eq_true_eq,List.all_eq_true];exact⟨⟨h.vars,h.c⟩,fun v hv=>h.v v hv⟩
mutual
def Ci:Tm→Prop
 | .mk k i n _ ks=>tc k i n=true∧aY ks
def aY:List Tm→Prop
 | []=>True
 | t::ts=>Ci t∧aY ts
end
theorem YF:∀{ts:List Tm},aY ts→∀i,Ci (ts.getD i Bh)
 | [],_,i=>⟨by decide,trivial⟩
 | t::ts,h,0=>h.1
 | t::ts,h,i+1=>YF (ts:=ts) h.2 i
mutual
theorem UO:∀(t:Tm),Uq t=true→Nd t∧Wt t∧Vp t∧Ci t
 | .mk k i n ls ks,h=>by
  rw[LR,Bool.and_eq_true] at h;obtain⟨h1,h2⟩:=h;simp only[qC,Sl,Bool.and_eq_true,Bool.or_eq_true,decide_eq_true_eq,List.all_eq_true] at h1;obtain⟨a,b,c,d⟩:=Nf ks h2;obtain⟨⟨⟨⟨⟨⟨⟨⟨⟨g1,g2⟩,g3⟩,g4⟩,g5⟩,g6⟩,g7⟩,g8⟩,g9⟩,gc⟩:=h1;refine⟨⟨g1,g2,fun l hl=>mZ (g3 l hl),g4,a,g5,g6⟩,⟨g7,fun e=>?_,b⟩,⟨fun e=>?_,c⟩,gc,d⟩
  ·rcases g8 with g | g
   ·exact absurd e g
   exact g
  rcases g9 with g | g
  ·exact absurd e g
  exact g
theorem Nf:∀(ts:List Tm),L0 ts=true→NI ts∧OA ts∧Oh ts∧aY ts
 | [],_=>⟨trivial,trivial,trivial,trivial⟩
 | t::ts,h=>by
  simp only[L0,Bool.and_eq_true] at h;obtain⟨a,b,c,d⟩:=UO t h.1;obtain⟨a',b',c',d'⟩:=Nf ts h.2;exact⟨⟨a,a'⟩,⟨b,b'⟩,⟨c,c'⟩,d,d'⟩
end
mutual
theorem T7:∀(t:Tm),Nd t→Wt t→Vp t→Ci t→Uq t=true
 | .mk k i n ls ks,h1,h2,h3,h4=>by
  rw[LR,Bool.and_eq_true];simp only[Nd] at h1;simp only[Wt] at h2;simp only[Vp] at h3;obtain⟨a1,a2,a3,a4,a5,a6,a7⟩:=h1;refine⟨?_,Si ks a5 h2.2.2 h3.2 h4.2⟩;simp only[qC,Sl,Bool.and_eq_true,Bool.or_eq_true,decide_eq_true_eq,List.all_eq_true];refine⟨⟨⟨⟨⟨⟨⟨⟨⟨a1,a2⟩,fun l hl=>bw (a3 l hl)⟩,a4⟩,a6⟩,a7⟩,h2.1⟩,?_⟩,?_⟩,h4.1⟩
  ·by_cases e:k=12
   ·exact .inr (h2.2.1 e)
   exact .inl e
  by_cases e:k=0
  ·exact .inr (h3.1 e)
  exact .inl e
theorem Si:∀(ts:List Tm),NI ts→OA ts→Oh ts→aY ts→L0 ts=true
 | [],_,_,_,_=>rfl
 | t::ts,h1,h2,h3,h4=>by
  simp only[L0,Bool.and_eq_true];exact⟨T7 t h1.1 h2.1 h3.1 h4.1,Si ts h1.2 h2.2 h3.2 h4.2⟩
end
structure w7 (t:Tm):Prop where
 nd:Nd t
 wt:Wt t
 vp:Vp t
 ci:Ci t
 sz:size t<549755813888
theorem B2 {t:Tm}:okB t=true↔w7 t:=by
 simp only[okB,Bool.and_eq_true,decide_eq_true_eq];exact⟨fun h=>by obtain⟨a,b,c,d⟩:=UO t h.1;exact⟨a,b,c,d,h.2⟩,fun h=>⟨T7 t h.nd h.wt h.vp h.ci,h.sz⟩⟩
theorem LM {t:Tm}(h:Uq t=true) (hs:size t<549755813888):okB t=true:=by simp[okB,h,hs]
theorem IW {t:Tm}(h:okB t=true):Uq t=true:=by simp only[okB,Bool.and_eq_true] at h;exact h.1
theorem FC {t:Tm}(h:okB t=true):size t<549755813888:=by simp only[okB,Bool.and_eq_true,decide_eq_true_eq] at h;exact h.2
theorem ER {t x:Tm}{i:Nat}(h:okB t=true) (hx:t.kids[i]?=some x):okB x=true:=by
 have h1:=IW h;have h2:=FC h;obtain⟨k,j,n,ls,ks⟩:=t;rw[LR,Bool.and_eq_true] at h1;simp only[size] at h2;simp only[Tm.kids] at hx;have:=Cb hx;exact LM (JV.1 h1.2 x (List.mem_of_getElem? hx)) An
theorem U2:∀(t:Tm),Uq t=true→Uq (A8 t).1=true∧L0 (A8 t).2=true
 | .mk k i n l [f,a],h=>by
  unfold A8;split
  ·rw[LR,Bool.and_eq_true] at h;simp only[L0,Bool.and_eq_true] at h;obtain⟨h1,h2⟩:=U2 f h.2.1;refine⟨h1,JV.2 fun x hx=>?_⟩;rcases List.mem_append.1 hx with hx | hx
   ·exact JV.1 h2 x hx
   rw[List.mem_singleton.1 hx];exact h.2.2.1
  ·exact⟨h,O⟩
 | .mk k i n l [],h=>⟨h,rfl⟩
 | .mk k i n l [_],h=>⟨h,rfl⟩
 | .mk k i n l (_::_::_::_),h=>⟨h,rfl⟩
theorem FO {t:Tm}(h:okB t=true):okB (A8 t).1=true∧∀x∈(A8 t).2,okB x=true:=by
 simp only[okB,Bool.and_eq_true,decide_eq_true_eq] at h ⊢;obtain⟨h1,h2⟩:=U2 t h.1;have hs:=It t;refine⟨⟨h1,by omega⟩,fun x hx=>⟨JV.1 h2 x hx,?_⟩⟩;obtain⟨i,hi⟩:=List.mem_iff_getElem?.1 hx;have:=Cb hi;omega
theorem bQ {f a:Tm}(h1:Uq f=true) (h2:Uq a=true):Uq (Qt f a)=true:=by
 rw[Qt,LR,Bool.and_eq_true];exact⟨O,by simp[L0,h1,h2]⟩
theorem JK:∀{xs:List Tm}{f:Tm},Uq f=true→(∀x∈xs,Uq x=true)→Uq (apply f xs)=true
 | [],f,h,_=>h
 | x::xs,f,h,hx=>by
  rw[apply,List.foldl_cons];exact JK (bQ h (hx x Ao)) fun y hy=>hx y (by simp[hy])
theorem Ch:∀(xs:List Tm) (f:Tm),size (apply f xs)=size f+BX xs+xs.length
 | [],f=>by simp[apply,BX]
 | x::xs,f=>by
  have:=Ch xs (Qt f x);rw[apply] at this ⊢;rw[List.foldl_cons,this];simp only[Qt,size,BX,List.length_cons];omega
theorem kz (m:CS):((By m).map AV.p).all one=true:=rfl
def J5 (l:List CF) (i:Nat):Option Int:=if i=0 then none else (l[i - 1]?).map CF.index
def Cq (c:Int) (l:List CF) (i:Nat):Bool:=Fh c (J5 l i) (l.drop i)
theorem Oj {c:Int}{l:List CF}{i:Nat}{v:CF}(h:l[i]?=some v):Cq c l i=(WR c v&&Ji (J5 l i) v.index&&Cq c l (i+1)):=by
 have e:J5 l (i+1)=some v.index:=by simp[J5,h]
 rw[Cq,Cg h,Fh,Cq,e]
theorem hP {c:Int}{l:List CF}{i:Nat}(h:l.length≤i):Cq c l i=true:=by
 rw[Cq,List.drop_eq_nil_of_le h];rfl
theorem Vl (l:CS):B9 l=(decide (0≤l.const)&&decide (l.const≤100)&&Cq l.const l.vars 0):=rfl
theorem iS {c:Int}{l:List CF}{i:Nat}{v:CF}(h:l[i]?=some v) (hb:WR c v=false):Cq c l i=false:=by rw[Oj h,hb];rfl
theorem lK {c:Int}{l:List CF}{i:Nat}{v:CF}(h:l[i]?=some v) (h1:WR c v=true) (h2:Ji (J5 l i) v.index=true):Cq c l i=Cq c l (i+1):=by rw[Oj h,h1,h2];simp
theorem ji {l:CS}(h:l.const<0∨100<l.const):false=B9 l:=by
 rw[Vl];rcases h with h | h
 ·rw[decide_eq_false An];rfl
 rw[decide_eq_false (p:=l.const≤100) An];simp
theorem WO {l:CS}{i:Nat}(h:Cq l.const l.vars 0=Cq l.const l.vars i) (hb:Cq l.const l.vars i=false):false=B9 l:=by
 rw[Vl,h,hb];simp
theorem kN {l:CS}{i:Nat}(h0:0≤l.const) (h1:l.const≤100) (h:Cq l.const l.vars 0=Cq l.const l.vars i) (hb:l.vars.length≤i):true=B9 l:=by
 rw[Vl,h,hP hb,decide_eq_true h0,decide_eq_true h1];rfl
theorem j6 {c:Int}{v:CF}(h:((v.index < -65536∨8≤v.index)∨v.plus<0)∨100<v.plus):WR c v=false:=by
 simp only[WR,Bool.and_eq_false_iff,decide_eq_false_iff_not];omega
theorem lk {c:Int}{v:CF}(h1:0<c) (h:c≤v.plus):WR c v=false:=by
 simp only[WR,Bool.and_eq_false_iff,Bool.or_eq_false_iff,decide_eq_false_iff_not];omega
theorem VX {c:Int}{v:CF}(h: -65536≤v.index∧v.index<8∧0≤v.plus∧v.plus≤100) (h1:0<c→v.plus<c):WR c v=true:=by
 simp only[WR,Bool.and_eq_true,Bool.or_eq_true,decide_eq_true_eq];refine⟨⟨⟨⟨h.1,h.2.1⟩,h.2.2.1⟩,h.2.2.2⟩,?_⟩;by_cases q:c≤0
 ·exact .inl q
 exact .inr (h1 An)
theorem mL {l:List CS}{i:Nat}{x:CS}(hx:l[i]?=some x) (h:B9 x=false):false=l.all B9:=by
 symm;rw[List.all_eq_false];exact⟨x,List.mem_of_getElem? hx,by simp[h]⟩
theorem ju {l:List CS}(h:∀j,j<l.length→∀y,l[j]?=some y→B9 y=true):true=l.all B9:=by
 symm;rw[List.all_eq_true];intro x hx;obtain⟨j,hj⟩:=List.mem_iff_getElem?.1 hx;exact h j (List.getElem?_eq_some_iff.1 hj).1 x hj
theorem YM {l:CS}(h:B9 l=true):0≤l.const∧l.const≤100:=by
 simp only[B9,Bool.and_eq_true,decide_eq_true_eq] at h;exact h.1
theorem Lh {l:CS}{i:Nat}{x:CF}(h:B9 l=true) (hx:l.vars[i]?=some x):(0≤x.plus∧x.plus≤100)∧ -65536≤x.index∧x.index<8:=by
 simp only[B9,Bool.and_eq_true,decide_eq_true_eq] at h;have:=JN h.2 x (List.mem_of_getElem? hx);simp only[WR,Bool.and_eq_true,decide_eq_true_eq] at this;exact⟨⟨this.1.1.2,this.1.2⟩,this.1.1.1⟩
theorem Xz {l:CS}(h:B9 l=false∨l.vars.length=0):(0:Int)=Ge l:=by
 unfold Ge;rw[if_neg];rintro⟨h1,h2⟩;rcases h with h | h
 ·rw[h] at h1;cases h1
 exact h2 (List.length_eq_zero_iff.1 h)
theorem Xt {l:CS}{x:CF}{i:Nat}(h:B9 l=true) (hx:l.vars[i]?=some x) (hi:i=l.vars.length - 1):max 0 (x.index+1)=Ge l:=by
 unfold Ge;have hne:l.vars≠[]:=by intro e;simp[e] at hx
 rw[if_pos ⟨h,hne⟩,Se,←hi,List.getD_eq_getElem?_getD,hx];rfl
theorem xI {l:CS}{n:Int}(h:B9 l=false):E4 l n=(FU,3):=by rw[E4,if_pos h]
theorem xE {l:CS}{n:Int}(h:B9 l=true) (h1:n<0):E4 l n=(FU,2):=by rw[E4,if_neg (by simp[h]),if_pos h1]
theorem xH {l:CS}{n:Int}(h:B9 l=true) (h0:0≤n) (h1:100<n):E4 l n=(FU,15):=by rw[E4,if_neg (by simp[h]),if_neg An,if_pos h1]
theorem w8 {l:CS}{n:Int}(h:B9 l=true) (h0:0≤n) (h1:n≤100) (h2:100<JR l n):E4 l n=(FU,15):=by rw[E4,if_neg (by simp[h]),if_neg An,if_neg An,if_pos h2]
theorem wY {l:CS}{n:Int}{i:Nat}{x:CF}(h:B9 l=true) (h0:0≤n) (h1:n≤100) (h2:JR l n≤100) (hx:l.vars[i]?=some x) (h3:100<x.plus+n):E4 l n=(FU,15):=by
 rw[E4,if_neg (by simp[h]),if_neg An,if_neg An,if_neg An,if_pos];rw[List.any_eq_true];exact⟨x,List.mem_of_getElem? hx,by simpa using h3⟩
theorem wg {l:CS}{n:Int}(h:B9 l=true) (h0:0≤n) (h1:n≤100) (h2:JR l n≤100) (h3:∀j,j<l.vars.length→∀y,l.vars[j]?=some y→¬100<y.plus+n):E4 l n=(⟨JR l n,l.vars.map (N8 n)⟩,0):=by
 rw[E4,if_neg (by simp[h]),if_neg An,if_neg An,if_neg An,if_neg];rw[List.any_eq_true];rintro⟨x,hx,hq⟩;obtain⟨j,hj⟩:=List.mem_iff_getElem?.1 hx;exact h3 j (List.getElem?_eq_some_iff.1 hj).1 x hj (by simpa using hq)
theorem NA {l:CS}{n:Int}(h:0<l.const∨l.vars.length=0):JR l n=l.const+n:=by
 unfold JR;rw[if_pos];rcases h with h | h
 ·exact .inl h
 exact .inr (List.length_eq_zero_iff.1 h)
theorem Ph {l:CS}{n:Int}(h:¬(0<l.const∨l.vars.length=0)):JR l n=0:=by
 unfold JR;rw[if_neg];rintro(q | q)
 ·exact h (.inl q)
 exact h (.inr (by simp[q]))
theorem Pr {l:List CF}{i j:Nat}{u:CF}{x:Int}(hj:l[j]?=some u) (he:i=j+1):(!Ji (J5 l i) x)=decide (u.index≥x):=by
 subst he;have e:J5 l (j+1)=some u.index:=by simp[J5,hj]
 rw[e];simp only[Ji];rw[←decide_not,decide_eq_decide];omega
theorem No {l:List CF}{i:Nat}{x:Int}(h:¬(i:Int) > 0):(!Ji (J5 l i) x)=false:=by
 have:i=0:=by omega
 subst this;rfl
theorem jn {x y:CF}{a b:List CF}(h:y.index<x.index):DR (x::a) (y::b)=y::DR (x::a) b:=by
 rw[DR,Fo,if_neg An,if_pos h];rfl
def Qr (a b:List CF) (i k:Nat):Bool:=(k==b.length)||(match a[i]?,b[k]? with
 | some x,some y=>decide (x.index<y.index)
 | _,_=>false)
def Xe (a b:List CF) (i k:Nat):Bool:=(i==a.length)||(match a[i]?,b[k]? with
 | some x,some y=>decide (y.index<x.index)
 | _,_=>false)
section
variable {a b:List CF}{i k:Nat}{vs:List CF}{m:Int}{x y:CF}
theorem Of (h:k=b.length):true=Qr a b i k:=by simp[Qr,h]
theorem Q7 (h:a.length≤i) (hk:k≠b.length):false=Qr a b i k:=by simp[Qr,hk,List.getElem?_eq_none h]
theorem OJ (hx:a[i]?=some x) (hy:b[k]?=some y):decide (x.index<y.index)=Qr a b i k:=by
 have:=(List.getElem?_eq_some_iff.1 hy).1;simp only[Qr,hx,hy];rw[show (k==b.length)=false by simp;omega,Bool.false_or]
theorem Re (h:i=a.length):true=Xe a b i k:=by simp[Xe,h]
theorem M9 (hx:a[i]?=some x) (hy:b[k]?=some y):decide (y.index<x.index)=Xe a b i k:=by
 have:=(List.getElem?_eq_some_iff.1 hx).1;simp only[Xe,hx,hy];rw[show (i==a.length)=false by simp;omega,Bool.false_or]
theorem ku (h:Qr a b i k=true) (hc:i<a.length∨k<b.length):i<a.length:=by
 by_cases q:k=b.length
 ·omega
 by_cases q':a.length≤i
 ·rw[←Q7 q' q] at h;cases h
 omega
theorem ka (h:Qr a b i k=false) (hk:k≤b.length):k<b.length:=by
 by_cases q:k=b.length
 ·rw[←Of q] at h;cases h
 omega
theorem mi (h:Xe a b i k=false) (hi:i≤a.length):i<a.length:=by
 by_cases q:i=a.length
 ·rw[←Re q] at h;cases h
 omega
structure Nu (a b:List CF) (i k:Nat) (vs:List CF) (m:Int):Prop where
 hi:i≤a.length
 hk:k≤b.length
 eq:vs++DR (a.drop i) (b.drop k)=DR a b
 mo:m=NY vs
 ln:vs.length≤i+k
theorem P0 (vs:List CF) (v:CF):NY (vs++[v])=max (NY vs) v.plus:=by simp[NY]
theorem Nu.zero:Nu a b 0 0 [] 0:=⟨by omega,by omega,by simp,rfl,by simp⟩
theorem Nu.left (h:Nu a b i k vs m) (hx:a[i]?=some x) (hs:Qr a b i k=true):Nu a b (i+1) k (vs++[x]) (max m x.plus):=by
 have hl:=(List.getElem?_eq_some_iff.1 hx).1;have:=h.ln;refine⟨hl,h.hk,?_,by rw[P0,←h.mo],by simp;omega⟩;rw[←h.eq,Cg hx,List.append_assoc];congr 1;by_cases q:k<b.length
 ·obtain⟨y,hy⟩:∃y,b[k]?=some y:=⟨_,List.getElem?_eq_getElem q⟩;rw[←OJ hx hy,decide_eq_true_eq] at hs;rw[Cg hy,DR,Fo,if_pos hs];rfl
 rw[List.drop_eq_nil_of_le (show b.length≤k by omega),DR,Fo];rfl
theorem Nu.right (h:Nu a b i k vs m) (hy:b[k]?=some y) (hs:Qr a b i k=false) (h2:Xe a b i k=true):Nu a b i (k+1) (vs++[y]) (max m y.plus):=by
 have hl:=(List.getElem?_eq_some_iff.1 hy).1;have:=h.ln;refine⟨h.hi,hl,?_,by rw[P0,←h.mo],by simp;omega⟩;rw[←h.eq,Cg hy,List.append_assoc];congr 1;by_cases q:i<a.length
 ·obtain⟨x,hx⟩:∃x,a[i]?=some x:=⟨_,List.getElem?_eq_getElem q⟩;rw[←M9 hx hy,decide_eq_true_eq] at h2;rw[Cg hx,jn h2];rfl
 rw[List.drop_eq_nil_of_le (show a.length≤i by omega),DR,DR];rfl
theorem Nu.both (h:Nu a b i k vs m) (hx:a[i]?=some x) (hy:b[k]?=some y) (hs:Qr a b i k=false) (h2:Xe a b i k=false):Nu a b (i+1) (k+1) (vs++[⟨x.index,max x.plus y.plus⟩]) (max m (max x.plus y.plus)):=by
 have hl:=(List.getElem?_eq_some_iff.1 hx).1;have hl':=(List.getElem?_eq_some_iff.1 hy).1;have:=h.ln;rw[←OJ hx hy,decide_eq_false_iff_not] at hs;rw[←M9 hx hy,decide_eq_false_iff_not] at h2;refine⟨hl,hl',?_,by rw[P0,←h.mo],by simp;omega⟩;rw[←h.eq,Cg hx,Cg hy,List.append_assoc,DR,Fo,if_neg hs,if_neg h2];rfl
theorem Nu.fin (h:Nu a b i k vs m) (hc:¬(i<a.length∨k<b.length)):vs=DR a b∧m=NY vs:=by
 refine⟨?_,h.mo⟩;rw[←h.eq,List.drop_eq_nil_of_le An,List.drop_eq_nil_of_le An];simp[DR]
end
theorem xJ {p q:CS}{vs:List CF}{m:Int}(h:vs=DR p.vars q.vars∧m=NY vs) (h1:0<vs.length) (h2:max p.const q.const≤m):I5 p q=⟨0,vs⟩:=by
 rw[I5,TT,←h.1,if_pos ⟨List.ne_nil_of_length_pos h1,by rw[←h.2];exact h2⟩]
theorem w6 {p q:CS}{vs:List CF}{m:Int}(h:vs=DR p.vars q.vars∧m=NY vs) (h1:¬(0<vs.length∧max p.const q.const≤m)):I5 p q=⟨max p.const q.const,vs⟩:=by
 rw[I5,TT,←h.1,if_neg];rintro⟨a,b⟩;exact h1 ⟨List.length_pos_iff.2 a,by rw[h.2];exact b⟩
theorem VL:∀{vs:List CF}{lo:Int},L4 vs→(∀v∈vs,lo≤v.index∧v.index<8)→lo≤8→(vs.length:Int)≤8 - lo
 | [],lo,_,_,h=>by simp;omega
 | x::vs,lo,ha,hv,h=>by
  rw[L4,List.pairwise_cons] at ha;have hx:=hv x Ao;have:=VL (vs:=vs) (lo:=x.index+1) ha.2 (fun v hv'=>⟨by have:=ha.1 v hv';omega,(hv v (by simp[hv'])).2⟩) An;simp only[List.length_cons];omega
structure JG (l:CS):Prop where
 c:0≤l.const∧l.const≤100
 asc:L4 l.vars
 rg:∀v∈l.vars,(0≤v.plus∧v.plus≤100)∧ -65536≤v.index∧v.index<8
theorem JG.len {l:CS}(h:JG l):l.vars.length≤65544:=by
 have:=VL (lo:= -65536) h.asc (fun v hv=>(h.rg v hv).2) An;omega
theorem JG.nd {l:CS}(h:JG l):Nj l :=
 ⟨by have:=h.len;simp only[DY];omega,by have:=h.c;unfold JE;omega,fun v hv=>by have:=h.rg v hv;unfold JE;omega⟩
theorem JG.of {l:CS}(h:B9 l=true):JG l:=by
 have h0:=YM h;have h':=h;simp only[B9,Bool.and_eq_true,decide_eq_true_eq] at h';exact⟨h0,(Mu h'.2).1,fun v hv=>by obtain⟨i,hi⟩:=List.mem_iff_getElem?.1 hv;exact Lh h hi⟩
theorem JG.join {a b:CS}(h1:JG a) (h2:JG b):JG (I5 a b):=by
 have hc1:=h1.c;have hc2:=h2.c;refine⟨?_,Pz h1.asc h2.asc,Hw (Q:=fun v=>(0≤v.plus∧v.plus≤100)∧ -65536≤v.index∧v.index<8) (fun u v g1 g2 _=>by simp only;omega) _ _ h1.rg h2.rg⟩;simp only[I5,TT];split<;>omega
theorem JG.one {v:CF}(h:(0≤v.plus∧v.plus≤100)∧ -65536≤v.index∧v.index<8):JG ⟨0,[v]⟩:=⟨by simp,by simp[L4],by simpa using h⟩
theorem JG.num {n:Int}(h:0≤n∧n≤100):JG ⟨n,[]⟩:=⟨h,by simp[L4],by simp⟩
theorem JG.plus {l:CS}{n:Int}(hl:B9 l=true) (h0:0≤n) (h1:n≤100) (he:(E4 l n).2=0):JG (E4 l n).1:=by
 rcases QX hl h0 h1 with ⟨e,_⟩ | ⟨e,q1,q2⟩
 ·rw[e] at he;simp at he
 have h:=JG.of hl;have hc:=h.c;rw[e];refine⟨?_,iR h.asc,fun w hw=>?_⟩
 ·simp only[JR];split<;>omega
 simp only[List.mem_map] at hw;obtain⟨u,hu,rfl⟩:=hw;have:=h.rg u hu;have:=q2 u hu;simp only[N8];omega
section
variable {ps:List CS}{q p:CS}{vs:List CF}{v:CF}{i:Nat}
theorem B6 {α:Type} [Inhabited α] {l:List α}{i:Nat}{x:α}(h:l[i]?=some x):l.getD i default=x:=by rw[List.getD_eq_getElem?_getD,h];rfl
theorem xB (hv:vs[i]?=some v) (h0:0≤v.index) (h1:v.index<ps.length) (hp:ps[v.index.toNat]?=some p) (he:(E4 p v.plus).2≠0):GK ps q (vs.drop i)=(FU,(E4 p v.plus).2):=by
 rw[Cg hv,GK,if_pos ⟨h0,h1⟩,B6 hp,if_pos he]
theorem wj (hv:vs[i]?=some v) (h0:0≤v.index) (h1:v.index<ps.length) (hp:ps[v.index.toNat]?=some p) (he:(E4 p v.plus).2=0):GK ps q (vs.drop i)=GK ps (I5 q (E4 p v.plus).1) (vs.drop (i+1)):=by
 rw[Cg hv,GK,if_pos ⟨h0,h1⟩,B6 hp,if_neg (by simp[he])]
theorem uK (hv:vs[i]?=some v) (h:¬(0≤v.index∧v.index<ps.length)):GK ps q (vs.drop i)=GK ps (I5 q ⟨0,[v]⟩) (vs.drop (i+1)):=by
 rw[Cg hv,GK,if_neg h]
end
theorem bC {ps:List CS}{k i:Int}{n:ByteArray}{ls ys:List CS}{ks zs:List Tm}{er e e2:Int}(h1:EO ps er ls=(ys,e)) (h2:Fe ps e ks=(zs,e2)):Fx ps er (.mk k i n ls ks)=(.mk k i n ys zs,e2):=by rw[Fx,h1,h2]
theorem jb {ps:List CS}{tl ys:List CS}{e:Int}{i:Nat}{X:List CS×Int}(h:(ys++(EO ps e (tl.drop i)).1,(EO ps e (tl.drop i)).2)=X) (hi:tl.length≤i):X=(ys,e):=by
 rw[←h,List.drop_eq_nil_of_le hi];simp[EO]
theorem iV {ps:List CS}{ts zs:List Tm}{e:Int}{i:Nat}{X:List Tm×Int}(h:(zs++(Fe ps e (ts.drop i)).1,(Fe ps e (ts.drop i)).2)=X) (hi:ts.length≤i):X=(zs,e):=by
 rw[←h,List.drop_eq_nil_of_le hi];simp[Fe]
theorem ZF (e:Int):GB e 0=e:=by unfold GB;split<;>simp_all
end Go.Eu
namespace Go.Abs
theorem Wr {F:Nat→Prop}{w:World}{b:Nat}{vs:List Value}{T:TypeId}(hb:w.heap[b]?=some (.cells ⟨vs⟩ T (0,0))):∀(cs:List PV) (o:Nat),Bz F w (cs.map .p) (vs.drop o)→CQ F w b o cs
 | [],_,_=>by simp[CQ]
 | c::cs,o,h=>by
  simp only[List.map_cons,Bz,CN] at h;obtain⟨u,us,e,hu,hr⟩:=h;have ho:o<vs.length:=by
   by_cases q:o<vs.length
   ·exact q
   rw[List.drop_eq_nil_of_le An] at e;cases e
  rw[List.drop_eq_getElem_cons ho] at e;injection e with e1 e2;simp only[CQ];refine⟨⟨u,?_,hu⟩,Wr hb cs (o+1) (by rw[e2];exact hr)⟩;unfold World.cell?;rw[hb];simp[ho,e1]
theorem P9 {n:Nat}{τ:Nat→AV}{H:List BK}{D:List EG}{i b:Nat}{cs:List PV}(ts:List Nat) (hi:H[i]?=some (.box b (cs.map .p))) (ht:∀t∈ts,τ t= .ptr b 0) :
  Ik ⟨n,τ,H,D⟩ ⟨n,KQ ts (.ref cs) τ,H.eraseIdx i,D⟩:=by
 intro F a w hs;have hmem:=List.mem_of_getElem? hi;have hFb:F b:=hs.heap.sub _ hmem b rfl;have hbd:b<w.heap.size:=hs.heap.bd b hFb;have st:Dk F w (fun k=>F k∧k≠b) w:=⟨Nat.le_refl _,fun _ _ _=>rfl,fun _ h _ h'=>h h'.1⟩;have hne:∀x∈H.eraseIdx i,∀k,x.key=some k→k≠b:=by
  intro x hx k hk hkb;subst hkb;obtain⟨j,hj⟩:=List.mem_iff_getElem?.1 hx;rw[List.getElem?_eraseIdx] at hj;split at hj
  ·have:=IJ hs.heap.nodup hj hi hk rfl;omega
  have:=IJ hs.heap.nodup hj hi hk rfl;omega
 have hsub:(H.eraseIdx i).Sublist H:=List.eraseIdx_sublist H i;refine⟨fun k=>F k∧k≠b,⟨hs.size,?_,?_,Fv.mono st _ _ hs.defs⟩,?_⟩
 ·intro t;simp only[KQ];cases hq:ts.any (Nat.beq t ·) with
  | false=>exact CN.mono st _ _ (hs.tmp t)
  | true =>
   obtain⟨t',ht',he⟩:=List.any_eq_true.1 hq;have e:=Nat.eq_of_beq_eq_true he;subst e;have hv:=hs.tmp t;simp only[ht t ht',CN] at hv;obtain⟨vs,T,hb,hr⟩:=hs.heap.obj _ hmem;show CN (fun k=>F k∧k≠b) w (.ref cs) _;simp only[CN];exact⟨b,0,hv,fun h=>h.2 O,hbd,Wr hb cs 0 (by rw[List.drop_zero];exact Bz.mono st _ _ hr)⟩
 ·have:=hs.heap.sublist hsub;exact⟨fun x hx k hk=>⟨this.sub x hx k hk,hne x hx k hk⟩,this.nodup,fun x hx=>Iy.mono st x (fun _ _=>O) (this.obj x hx),fun k hk=>this.bd k hk.1⟩
 exact⟨Nat.le_refl _,fun _ _ _=>O,fun k hk hn=>⟨hk,fun e=>hn _ hmem (by rw[e];rfl)⟩,fun k hk=> .inl hk.1,fun x hx k hk=> .inl ⟨x,hsub.subset hx,hk⟩,O,O,O⟩
section
variable {P:Program}{dst:Option Tmp}{ty:TypeId}{pos:String}{aft:Array Edge}{g:Option (Nat×Bool)}{ρ:Operand→AV}{H:List BK}{x y:Operand}
theorem E9 {T e:TypeId}{len:Nat}{k:IntKind}{i:Int}{j:Nat}{cs:List AV}{v:AV}(hu:P.underlying T=some (.array len e)) (ht:D9 P e=some (false,1)) (hx:ρ x= .agg cs) (hy:ρ y= .p (.int k i)) (hi:i=j) (hj:cs[j]?=some v) (hl:j<len) :
  Dv P ⟨dst,.index T x y,ty,pos,aft,g⟩ ρ H v H :=
 CP fun F w E hH hE=>by
  have h1:=hE x Ac;have h2:=hE y Ac;rw[hx] at h1;rw[hy] at h2;simp only[CN,CK] at h1 h2;obtain⟨vs,h3,h4⟩:=h1;obtain⟨u,h5,h6⟩:=h4.get hj;obtain⟨d,hd,hr,hs⟩:=FM ht;obtain⟨inf,hinf,hsz⟩:=Vh ht;refine⟨u,?_,h6⟩;have hso:(sizeOf e).run P w= .ok 1 w:=by
   rw[run_sizeOf w hinf];simp[Program.cellsOf,hinf,hsz]
  have hag:=Mr hd false hr w;subst hi;have h7:(⟨vs⟩:Array Value)[j*1]?=some u:=by rw[Nat.mul_one];simpa using h5
  have h8:(0:Int)≤(j:Int)∧(j:Int)<(len:Int):=by omega
  simp[execOp,Instr.index,h2,h3,asIntOf,Sem.run_bind,run_underlying hu,h8,hso,part,hag];rw[show vs[j]?=some u from h5];simp;intro hlj;omega
theorem HF {T U:TypeId}{b:Bool}(hT:(match P.underlying T with | some (.func _ _ _)=>true | _=>false)=true) (hx:(ρ x= .p .nilFn∧b=true)∨(∃f first caps,ρ x= .fn f first caps)∧b=false) (hy:ρ y= .p .nilFn):Dv P ⟨dst,.binOp .eql T x y U,ty,pos,aft,g⟩ ρ H (.p (.bool b)) H :=
 CP fun F w E hH hE=>by
  have e1:=hE x Ac;have e2:=hE y Ac;rw[hy] at e2;simp only[CN,CK] at e2;obtain⟨a1,a2,a3,hu⟩:∃a1 a2 a3,P.underlying T=some (.func a1 a2 a3):=by
   cases hd:P.underlying T with
   | none=>rw[hd] at hT;cases hT
   | some d =>
    rw[hd] at hT;cases d<;>first | exact⟨_,_,_,rfl⟩ | cases hT
  refine⟨.bool b,?_,by simp[CN,CK]⟩;have hg:∀a,(eqGuard .eql T x y a .nilFunc).run P w= .ok () w:=by
   intro a;unfold eqGuard;cases a<;>rfl
  rcases hx with ⟨hx,rfl⟩ | ⟨⟨f,first,caps,hx⟩,rfl⟩
  ·rw[hx] at e1;simp only[CN,CK] at e1;have hq:(Op.equal T .nilFunc .nilFunc).run P w= .ok true w:=by
    have h:∀d:Nat,(Op.equalIn (d+1) T .nilFunc .nilFunc).run P w= .ok true w:=fun d=>by simp[Op.equalIn,run_underlying hu]
    simp[Op.equal,Op.maxDepth,h 9999]
   simp[execOp,Sem.run_bind,hg,e1,e2,binOp,hq]
  rw[hx] at e1;simp only[CN] at e1;obtain⟨fs,cs,e1,_,_⟩:=e1;have hq:(Op.equal T (.func f ⟨fs⟩ ⟨cs⟩) .nilFunc).run P w= .ok false w:=by
   have h:∀d:Nat,(Op.equalIn (d+1) T (.func f ⟨fs⟩ ⟨cs⟩) .nilFunc).run P w= .ok false w:=fun d=>by simp[Op.equalIn,run_underlying hu]
   simp[Op.equal,Op.maxDepth,h 9999]
  simp[execOp,Sem.run_bind,hg,e1,e2,binOp,hq]
theorem R1 {T:TypeId}{bl:Bool}{b o:Nat}(hT:D9 P T=some (bl,0)) (hx:ρ x= .ptr b o) (hy:Ef (ρ y)=some []):Dv P ⟨dst,.store T x y,ty,pos,aft,g⟩ ρ H (.p .any) H :=
 IQ fun F w E hH hE=>by
  have e1:=hE x Ac;have e2:=hE y Ac;rw[hx] at e1;simp only[CN] at e1;obtain⟨ws,hc,hl⟩:=Kd e2 hy;simp only[Bz] at hl;subst hl;obtain⟨d,hu,hd,hz⟩:=FM hT;refine⟨w,_,F,?_,⟨O,O⟩,.refl,hH⟩;cases hq:P.info? T with
  | none=>simp[hq] at hz
  | some i =>
   have hs:i.size=0:=by simpa [hq] using hz
   simp[execOp,Instr.storeAt,e1,Instr.sureAddr,Sem.run_bind,Sem.run_pure,Result.andThen_ok,storeVar,sizeOf,typeInfo,hq,hc,hs,storeCells]
end
theorem Vo {P:Program}{ops:Array Oper}{r:Option Nat}{Q:Cs→Bq→Prop}{k n:Nat}{τ:Nat→AV}{H Hs:List BK}{D:List EG}{dst:Option Tmp}{ty:TypeId}{pos:String}{aft:Array Edge}{c:Call}{f:Operand}{fid:FuncId}{first caps A:List AV}{v:AV}(is:List Nat) (ho:ops[k]?=some ⟨dst,.call c,ty,pos,aft,none⟩) (hd:Gm dst n=true)
  (hc:c.callee= .value f) (hf:(ev τ f= .p (.fn fid)∧first=[]∧caps=[])∨ev τ f= .fn (.func fid) first caps) (h:Bn P fid A Hs (Gk v [])) (hg:FR H is Hs) (hn:is.Nodup) (hA:GV (first++c.args.toList.map (ev τ)++caps) A)
  (next:AL P r ops (k+1) ⟨n,put τ dst v,C9 is 0 H,D⟩ Q):AL P r ops k ⟨n,τ,H,D⟩ Q :=
 I6 ho hd hc hf (DO hn hg) (h.args hA) (.inl rfl) (fun v' H' h'=>by obtain⟨h1,h2⟩:=h';subst h1;subst h2;exact next) (fun _ _ h=>h.elim)
structure Z9 (P:Program) where
 fd:Nat→Option (List (Nat×Nat))
 ty:Nat→Option (Bool×Nat)
 zr:Nat→Option (List AV)
 hfd:∀T l,fd T=some l→fieldsOf P T=some l
 hty:∀T l,ty T=some l→D9 P T=some l
 hzr:∀T l,zr T=some l→∃z,zeroOf P T=some z∧z.cells.toList.map GR=l
def u9 (op:BinOp) (m n:Int):Option Bool :=
 match op with | .eql=>some (m==n) | .neq=>some (m !=n) | .lss=>some (decide (m<n)) | .leq=>some (decide (m≤n)) | .gtr=>some (decide (m > n)) | .geq=>some (decide (m≥n)) | _=>none
def qa (op:BinOp) (m n:Int):Option Int :=
 match op with | .add=>some (m+n) | .sub=>some (m - n) | .mul=>some (m*n) | _=>none
abbrev tP:=AV×List BK×List Nat×Prop
def ib (op:BinOp) (H:List BK) (is:List Nat) (C:Prop):AV→AV→Option tP
 | .p (.int k m),.p (.int k' n) =>
  match u9 op m n with
  | some b=>some (.p (.bool b),H,is,C∧k=k')
  | none =>
   match k,k',qa op m n with
   | .i64,.i64,some r=>some (.p (.int .i64 r),H,is,(C∧ -9223372036854775808≤r)∧r≤9223372036854775807)
   | _,_,_=>none
 | _,_=>none
def VY (H:List BK) (is:List Nat) (C:Prop) (t:Bool×Nat):AV→Option tP
 | .ref cells =>
  bif t.1 then some (.agg (cells.map .p),H,is,C∧cells.length=t.2)
  else match cells with
   | c::_=>some (.p c,H,is,C)
   | []=>none
 | .ptr b o =>
  match is with
  | []=>none
  | i::is =>
   match H[i]? with
   | some (.box b' cs) =>
    bif t.1 then (match o with | 0=>some (.agg cs,H,is,(C∧b'=b)∧cs.length=t.2) | _+1=>none)
    else (match cs[o]? with | some v=>some (v,H,is,C∧b'=b) | none=>none)
   | _=>none
 | _=>none
def WG (H:List BK) (is:List Nat) (C:Prop) (t:Bool×Nat) (y:AV):AV→Option tP
 | .ptr b o =>
  match is with
  | i::w::is =>
   match H[i]?,Ef y,t.2 with
   | some (.box b' cs),some us,n+1 =>
    match w with
    | 0=>some (.p .any,H.set i (.box b (splice cs o us)),is,(((C∧b'=b)∧us.length=n+1)∧Nat.ble (o+(n+1)) cs.length=true)∧us.all one=true)
    | _+1=>match o with
     | 0=>some (.p .any,H.set i (.box b us),is,(((C∧b'=b)∧us.length=n+1)∧cs.length=n+1)∧us.all one=true)
     | _+1=>none
   | _,_,_=>none
  | _=>none
 | _=>none
def VQ (H:List BK) (is:List Nat) (C:Prop) (off:Nat):AV→Option tP
 | .ptr b o=>some (.ptr b (o+off),H,is,C)
 | .ref cells=>some (.ref (cells.drop off),H,is,C)
 | _=>none
def O8 {P:Program}(tb:Z9 P) (ρ:Operand→AV) (H:List BK) (is:List Nat) (C:Prop):Op→Option tP
 | .move x=>some (ρ x,H,is,C)
 | .assign x=>some (ρ x,H,is,C)
 | .pick x y z=>match ρ x with | .p (.bool b)=>some (bif b then ρ y else ρ z,H,is,C) | _=>none
 | .extract x i=>match ρ x with | .tup xs=>(match xs[i]? with | some v=>some (v,H,is,C) | none=>none) | _=>none
 | .nilCheck x=>match ρ x with | .ptr b o=>some (.ptr b o,H,is,C) | _=>none
 | .makeFunc fn first caps=>some (.fn fn (first.toList.map ρ) (caps.toList.map ρ),H,is,C)
 | .unOp .not T x=>match ρ x with | .p (.bool b)=>some (.p (.bool (!b)),H,is,C) | _=>none
 | .binOp op T x y U=>ib op H is C (ρ x) (ρ y)
 | .fieldAddr T x i=>match tb.fd T with
  | some lay=>(match lay[i]? with | some (off,_+1)=>VQ H is C off (ρ x) | _=>none)
  | none=>none
 | .build T parts=>match tb.fd T,tb.zr T with
  | some lay,some z=>(match Fb (lay[·]?) z (parts.toList.map fun p=>(p.1,ρ p.2)) with | some cs=>some (.agg cs,H,is,C) | none=>none)
  | _,_=>none
 | .load T x=>match tb.ty T with | some t=>VY H is C t (ρ x) | none=>none
 | .store T x y=>match tb.ty T with | some t=>WG H is C t (ρ y) (ρ x) | none=>none
 | _=>none
section
variable {P:Program}{tb:Z9 P}{ρ:Operand→AV}{H H':List BK}{is is':List Nat}{C C':Prop}{v:AV}
 {dst:Option Tmp} {ty:TypeId} {pos:String} {aft:Array Edge} {g:Option (Nat×Bool)}
theorem HK {op:Op}(h:O8 tb ρ H is C op=some (v,H',is',C')) (c:C'):C∧Dv P ⟨dst,op,ty,pos,aft,g⟩ ρ H v H':=by
 unfold O8 at h;split at h
 ·injection h with h;simp only[Prod.mk.injEq] at h;obtain⟨rfl,rfl,rfl,rfl⟩:=h;exact⟨c,Ba rfl⟩
 ·injection h with h;simp only[Prod.mk.injEq] at h;obtain⟨rfl,rfl,rfl,rfl⟩:=h;exact⟨c,EC rfl⟩
 ·split at h
  ·rename_i b hb;injection h with h;simp only[Prod.mk.injEq] at h;obtain⟨rfl,rfl,rfl,rfl⟩:=h;exact⟨c,ir hb rfl⟩
  cases h
 ·split at h
  ·rename_i xs hx;split at h
   ·rename_i u hu;injection h with h;simp only[Prod.mk.injEq] at h;obtain⟨rfl,rfl,rfl,rfl⟩:=h;exact⟨c,DN hx hu⟩
   cases h
  cases h
 ·split at h
  ·rename_i b o hx;injection h with h;simp only[Prod.mk.injEq] at h;obtain⟨rfl,rfl,rfl,rfl⟩:=h;exact⟨c,OO hx⟩
  cases h
 ·injection h with h;simp only[Prod.mk.injEq] at h;obtain⟨rfl,rfl,rfl,rfl⟩:=h;exact⟨c,Ej rfl rfl⟩
 ·split at h
  ·rename_i b hb;injection h with h;simp only[Prod.mk.injEq] at h;obtain⟨rfl,rfl,rfl,rfl⟩:=h;exact⟨c,kY hb⟩
  cases h
 ·rename_i op T x y U;generalize hx:ρ x=vx at h;generalize hy:ρ y=vy at h;unfold ib at h;split at h
  ·rename_i k m k' n;split at h
   ·rename_i b hb;injection h with h;simp only[Prod.mk.injEq] at h;obtain⟨rfl,rfl,rfl,rfl⟩:=h;obtain⟨c,rfl⟩:=c;exact⟨c,lE hx hy hb⟩
   split at h
   ·rename_i r hr;injection h with h;simp only[Prod.mk.injEq] at h;obtain⟨rfl,rfl,rfl,rfl⟩:=h;obtain⟨⟨c,c1⟩,c2⟩:=c;refine⟨c,?_⟩;unfold qa at hr;split at hr
    ·injection hr with hr;subst hr;exact Ld hx hy c1 c2
    ·injection hr with hr;subst hr;exact M1 hx hy c1 c2
    ·injection hr with hr;subst hr;exact mM hx hy c1 c2
    cases hr
   cases h
  cases h
 ·rename_i T x i;split at h
  ·rename_i lay hl;split at h
   ·rename_i off sz hi;generalize hx:ρ x=vx at h;unfold VQ at h;split at h
    ·injection h with h;simp only[Prod.mk.injEq] at h;obtain⟨rfl,rfl,rfl,rfl⟩:=h;exact⟨c,Az (tb.hfd _ _ hl) hi hx⟩
    ·injection h with h;simp only[Prod.mk.injEq] at h;obtain⟨rfl,rfl,rfl,rfl⟩:=h;exact⟨c,B1 (tb.hfd _ _ hl) hi hx⟩
    cases h
   cases h
  cases h
 ·rename_i T parts;split at h
  ·rename_i lay z hl hz;split at h
   ·rename_i cs hc;injection h with h;simp only[Prod.mk.injEq] at h;obtain⟨rfl,rfl,rfl,rfl⟩:=h;obtain⟨z',hz',rfl⟩:=tb.hzr _ _ hz;exact⟨c,CO (tb.hfd _ _ hl) hz' hc⟩
   cases h
  cases h
 ·rename_i T x;split at h
  ·rename_i t ht;have ht:=tb.hty _ _ ht;obtain⟨tb1,tn⟩:=t;generalize hx:ρ x=vx at h;unfold VY at h;split at h
   ·rename_i cells;cases tb1 with
    | true =>
     simp only[cond_true] at h;injection h with h;simp only[Prod.mk.injEq] at h;obtain⟨rfl,rfl,rfl,rfl⟩:=h;exact⟨c.1,BM ht hx c.2⟩
    | false =>
     simp only[cond_false] at h;split at h
     ·injection h with h;simp only[Prod.mk.injEq] at h;obtain⟨rfl,rfl,rfl,rfl⟩:=h;exact⟨c,FB ht hx⟩
     cases h
   ·rename_i b o;split at h
    ·cases h
    rename_i i is1;split at h
    ·rename_i b' cs hi;cases tb1 with
     | true =>
      simp only[cond_true] at h;split at h
      ·injection h with h;simp only[Prod.mk.injEq] at h;obtain⟨rfl,rfl,rfl,rfl⟩:=h;obtain⟨⟨c,rfl⟩,c2⟩:=c;exact⟨c,BU ht hx hi c2⟩
      ·cases h
     | false =>
      simp only[cond_false] at h;split at h
      ·rename_i u hu;injection h with h;simp only[Prod.mk.injEq] at h;obtain⟨rfl,rfl,rfl,rfl⟩:=h;obtain⟨c,rfl⟩:=c;exact⟨c,B7 ht hx hi hu⟩
      cases h
    cases h
   cases h
  cases h
 ·rename_i T x y;split at h
  ·rename_i t ht;have ht:=tb.hty _ _ ht;obtain⟨tb1,tn⟩:=t;generalize hx:ρ x=vx at h;generalize hy:ρ y=vy at h;unfold WG at h;split at h
   ·rename_i b o;split at h
    ·rename_i i w is1;simp only at h;split at h
     ·rename_i b' cs us n hi hu hn;split at h
      ·injection h with h;simp only[Prod.mk.injEq] at h;obtain⟨rfl,rfl,rfl,rfl⟩:=h;obtain⟨⟨⟨⟨c,rfl⟩,c1⟩,c2⟩,c3⟩:=c;exact⟨c,KH ht hx hi (by rw[hy];exact hu) c1 c2 c3⟩
      split at h
      ·injection h with h;simp only[Prod.mk.injEq] at h;obtain⟨rfl,rfl,rfl,rfl⟩:=h;obtain⟨⟨⟨⟨c,rfl⟩,c1⟩,c2⟩,c3⟩:=c;exact⟨c,Cc ht hx hi (by rw[hy];exact hu) c1 c2 c3⟩
      cases h
     cases h
    cases h
   cases h
  cases h
 cases h
def runs (tb:Z9 P) (ops:Array Oper) (n:Nat):Nat→Nat→(Nat→AV)→List BK→List Nat→Prop→Option ((Nat→AV)×List BK×Prop)
 | 0,_,τ,H,_,C=>some (τ,H,C)
 | m+1,k,τ,H,is,C =>
  match ops[k]? with
  | none=>none
  | some ⟨dst,op,_,_,_,g⟩ =>
   bif Gm dst n then
    match g with
    | none =>
     (match O8 tb (ev τ) H is C op with
     | some (v,H',is',C')=>runs tb ops n m (k+1) (put τ dst v) H' is' C'
     | none=>none)
    | some (j,want) =>
     match (ops[j]?).bind (·.dst) with
     | none=>none
     | some d =>
      match τ d with
      | .p (.bool b) =>
       bif b==want then
        (match O8 tb (ev τ) H is C op with
        | some (v,H',is',C')=>runs tb ops n m (k+1) (put τ dst v) H' is' C'
        | none=>none)
       else runs tb ops n m (k+1) (put τ dst (.tup [])) H is C
      | .tup []=>runs tb ops n m (k+1) (put τ dst (.tup [])) H is C
      | _=>none
   else none
end
section
variable {P:Program}{r:Option Nat}{ops:Array Oper}{n:Nat}{D:List EG}{Q:Cs→Bq→Prop}
theorem Oa (tb:Z9 P):∀(m k:Nat) {τ τ':Nat→AV}{H H':List BK}{is:List Nat}{C C':Prop},runs tb ops n m k τ H is C=some (τ',H',C')→C' →
  C∧(AL P r ops (k+m) ⟨n,τ',H',D⟩ Q→AL P r ops k ⟨n,τ,H,D⟩ Q)
 | 0,k,τ,τ',H,H',is,C,C',h,c=>by
  simp only[runs,Option.some.injEq,Prod.mk.injEq] at h;obtain⟨rfl,rfl,rfl⟩:=h;exact⟨c,fun h=>h⟩
 | m+1,k,τ,τ',H,H',is,C,C',h,c=>by
  rw[runs] at h;split at h
  ·cases h
  rename_i dst op ty pos aft g ho;cases hd:Gm dst n with
  | false=>rw[hd] at h;cases h
  | true =>
   rw[hd,cond_true] at h;rw[show k+(m+1)=k+1+m by omega];split at h
   ·split at h
    ·rename_i v H1 is1 C1 hv;obtain⟨c1,ih⟩:=Oa tb m (k+1) h c;obtain⟨c2,hop⟩:=HK (dst:=dst) (ty:=ty) (pos:=pos) (aft:=aft) (g:=none) hv c1;exact⟨c2,fun hq=>RT ho hd hop (ih hq)⟩
    cases h
   rename_i j want;split at h
   ·cases h
   rename_i d hj;split at h
   ·rename_i b hb;cases hw:b==want with
    | true =>
     rw[hw,cond_true] at h;split at h
     ·rename_i v H1 is1 C1 hv;obtain⟨c1,ih⟩:=Oa tb m (k+1) h c;obtain⟨c2,hop⟩:=HK (dst:=dst) (ty:=ty) (pos:=pos) (aft:=aft) (g:=some (j,want)) hv c1;have hbw:b=want:=by simpa using hw
      exact⟨c2,fun hq=>YQ ho hj (by rw[hb,hbw]) hd hop (ih hq)⟩
     ·cases h
    | false =>
     rw[hw,cond_false] at h;obtain⟨c1,ih⟩:=Oa tb m (k+1) h c;exact⟨c1,fun hq=>mc ho hj hb hw hd (ih hq)⟩
   ·rename_i hb;obtain⟨c1,ih⟩:=Oa tb m (k+1) h c;exact⟨c1,fun hq=>jY ho hj hb hd (ih hq)⟩
   cases h
end
def look {α:Type}:List (Nat×α)→Nat→Option α
 | [],_=>none
 | (a,v)::r,t=>bif Nat.beq a t then some v else look r t
def Xk {α:Type}(f:Nat→Option α):List (Nat×α)→Prop
 | []=>True
 | (a,v)::r=>f a=some v∧Xk f r
theorem RL {α:Type}{f:Nat→Option α}{T:Nat}{v:α}:∀{l:List (Nat×α)},Xk f l→look l T=some v→f T=some v
 | [],_,h=>by cases h
 | (a,u)::r,ha,h=>by
  unfold look at h;cases hb:Nat.beq a T with
  | true=>rw[hb,cond_true] at h;injection h with h;subst h;rw[←Nat.eq_of_beq_eq_true hb];exact ha.1
  | false=>rw[hb,cond_false] at h;exact RL ha.2 h
def V2 (P:Program) (T:Nat):Option (List AV):=(zeroOf P T).map fun z=>z.cells.toList.map GR
def qY {P:Program}{fd:List (Nat×List (Nat×Nat))}{ty:List (Nat×Bool×Nat)}{zr:List (Nat×List AV)}(hf:Xk (fieldsOf P) fd) (ht:Xk (D9 P) ty) (hz:Xk (V2 P) zr):Z9 P where
 fd:=look fd
 ty:=look ty
 zr:=look zr
 hfd _ _ h:=RL hf h
 hty _ _ h:=RL ht h
 hzr T l h:=by
  have h1:=RL hz h;unfold V2 at h1;cases hq:zeroOf P T with
  | none=>rw[hq] at h1;cases h1
  | some z=>rw[hq] at h1;injection h1 with h1;exact⟨z,rfl,h1⟩
end Go.Abs
namespace Go.Abs
open Go.Eu
section
variable {P:Program}{r:Option Nat}{ops:Array Oper}{n k:Nat}{D:List EG}{Q:Cs→Bq→Prop}{τ τ':Nat→AV}{H H':List BK}{C:Prop}
theorem l5 {C:Prop}(c:C:=by repeat' first | exact trivial | refine And.intro ?_ ?_ | (simp only[List.length_map,BD,Yj,Cp,DZ,Co,DL,dY,EE,Kw];done) | exact FX _ | exact mA _ | exact kJ _ | exact lV _ | exact mF _ | exact WJ _ | exact ke _ | exact mu _ | exact rfl | omega):C:=c
theorem Ax (tb:Z9 P) (m:Nat) (is:List Nat) (h:runs tb ops n m k τ H is True=some (τ',H',C)) (next:AL P r ops (k+m) ⟨n,τ',H',D⟩ Q) (c:C:=by exact l5):AL P r ops k ⟨n,τ,H,D⟩ Q:=(Oa tb m k h c).2 next
theorem Ar (tb:Z9 P) (m:Nat) (is:List Nat) (h:runs tb ops n m k τ H is True=some (τ',H',C)) (next:Q .normal ⟨n,τ',H',D⟩) (hk:ops.size - (k+m)=0:=by exact rfl) (c:C:=by exact l5):AL P r ops k ⟨n,τ,H,D⟩ Q:=Ax tb m is h (Bg hk next) c
theorem Au {id:Nat}{c₂:Code}(tb:Z9 P) (m:Nat) (is:List Nat) (h:runs tb ops n m 0 τ H is True=some (τ',H',C)) (next:Ie P r c₂ ⟨n,τ',H',D⟩ Q) (hk:ops.size - (0+m)=0:=by exact rfl) (c:C:=by exact l5):Ie P r (.seq (.region id ops false) c₂) ⟨n,τ,H,D⟩ Q:=Aw (Ar tb m is h next hk c)
end
end Go.Abs
namespace Go.Abs
section
variable {P:Program}{tb:Z9 P}{ρ:Operand→AV}{H H':List BK}{is is':List Nat}{C C':Prop}{v:AV}
 {dst:Option Tmp} {ty:TypeId} {pos:String} {aft:Array Edge} {g:Option (Nat×Bool)}
theorem dJ {op:Op}(h:O8 tb ρ [] [] C op=some (v,H',is',C')) (H:List BK) (is:List Nat):O8 tb ρ H is C op=some (v,H,is,C'):=by
 unfold O8 at h ⊢;split at h
 ·injection h with h;simp only[Prod.mk.injEq] at h;obtain⟨rfl,rfl,rfl,rfl⟩:=h;rfl
 ·injection h with h;simp only[Prod.mk.injEq] at h;obtain⟨rfl,rfl,rfl,rfl⟩:=h;rfl
 ·split at h
  ·rename_i b hb;injection h with h;simp only[Prod.mk.injEq] at h;obtain⟨rfl,rfl,rfl,rfl⟩:=h;simp only[hb]
  cases h
 ·split at h
  ·rename_i xs hx;split at h
   ·rename_i u hu;injection h with h;simp only[Prod.mk.injEq] at h;obtain⟨rfl,rfl,rfl,rfl⟩:=h;simp only[hx,hu]
   cases h
  cases h
 ·split at h
  ·rename_i b o hx;injection h with h;simp only[Prod.mk.injEq] at h;obtain⟨rfl,rfl,rfl,rfl⟩:=h;simp only[hx]
  cases h
 ·injection h with h;simp only[Prod.mk.injEq] at h;obtain⟨rfl,rfl,rfl,rfl⟩:=h;rfl
 ·split at h
  ·rename_i b hb;injection h with h;simp only[Prod.mk.injEq] at h;obtain⟨rfl,rfl,rfl,rfl⟩:=h;simp only[hb]
  cases h
 ·rename_i op T x y U
  try dsimp only
  generalize hx:ρ x=vx at h ⊢;generalize hy:ρ y=vy at h ⊢;unfold ib at h ⊢;split at h
  ·rename_i k m k' n
   try dsimp only
   split at h
   ·rename_i b hb;injection h with h;simp only[Prod.mk.injEq] at h;obtain⟨rfl,rfl,rfl,rfl⟩:=h;simp only[hb]
   rename_i hb;split at h
   ·rename_i r hr;injection h with h;simp only[Prod.mk.injEq] at h;obtain⟨rfl,rfl,rfl,rfl⟩:=h;simp only[hb,hr]
   cases h
  cases h
 ·rename_i T x i;split at h
  ·rename_i lay hl;split at h
   ·rename_i off sz hi
    try dsimp only
    generalize hx:ρ x=vx at h ⊢;unfold VQ at h ⊢;split at h
    ·injection h with h;simp only[Prod.mk.injEq] at h;obtain⟨rfl,rfl,rfl,rfl⟩:=h;simp only[hl,hi]
    ·injection h with h;simp only[Prod.mk.injEq] at h;obtain⟨rfl,rfl,rfl,rfl⟩:=h;simp only[hl,hi]
    cases h
   cases h
  cases h
 ·rename_i T parts;split at h
  ·rename_i lay z hl hz;split at h
   ·rename_i cs hc;injection h with h;simp only[Prod.mk.injEq] at h;obtain⟨rfl,rfl,rfl,rfl⟩:=h;simp only[hl,hz,hc]
   cases h
  cases h
 ·rename_i T x;split at h
  ·rename_i t ht
   try dsimp only
   try rw[ht]
   try dsimp only
   generalize hx:ρ x=vx at h ⊢;unfold VY at h ⊢;split at h
   ·rename_i cells
    try dsimp only
    cases hb:t.1 with
    | true =>
     rw[hb,cond_true] at h;injection h with h;simp only[Prod.mk.injEq] at h;obtain⟨rfl,rfl,rfl,rfl⟩:=h;rfl
    | false =>
     rw[hb,cond_false] at h;rw[cond_false];split at h
     ·injection h with h;simp only[Prod.mk.injEq] at h;obtain⟨rfl,rfl,rfl,rfl⟩:=h;rfl
     cases h
   ·cases h
   cases h
  cases h
 ·rename_i T x y;split at h
  ·rename_i t ht;generalize hx:ρ x=vx at h;unfold WG at h;split at h
   ·cases h
   cases h
  cases h
 cases h
theorem eb {T:TypeId}{x:Operand}{ob:BK}{i:Nat}(h:O8 tb ρ [ob] [0] C (.load T x)=some (v,H',is',C')) (h0:O8 tb ρ [] [] C (.load T x)=none) (hi:H[i]?=some ob):O8 tb ρ H [i] C (.load T x)=some (v,H,[],C'):=by
 unfold O8 at h h0 ⊢;dsimp only at h h0 ⊢;split at h
 ·rename_i t ht
  try simp only[ht] at h0
  skip
  generalize hx:ρ x=vx at h h0 ⊢;unfold VY at h h0 ⊢;split at h
  ·rename_i cells;dsimp only at h0;cases hb:t.1 with
   | true=>rw[hb,cond_true] at h0;cases h0
   | false =>
    rw[hb,cond_false] at h h0;split at h
    ·cases h0
    cases h
  ·rename_i b o;dsimp only at h ⊢;rw[hi];simp only[List.getElem?_cons_zero] at h;cases ob with
   | box b' cs =>
    dsimp only at h ⊢;cases hb:t.1 with
    | true =>
     rw[hb,cond_true] at h;rw[cond_true];split at h
     ·injection h with h;simp only[Prod.mk.injEq] at h;obtain⟨rfl,rfl,rfl,rfl⟩:=h;rfl
     ·cases h
    | false =>
     rw[hb,cond_false] at h;rw[cond_false];split at h
     ·rename_i u hu;injection h with h;simp only[Prod.mk.injEq] at h;obtain⟨rfl,rfl,rfl,rfl⟩:=h;rfl
     ·cases h
   | _=>cases h
  cases h
 cases h
def UG (tb:Z9 P) (ops:Array Oper) (k:Nat) (ρ:Operand→AV) (H:List BK) (rd:Yo) (ef:Yn) (is:List Nat) (C:Prop) (op:Op):Option (Sp×List Nat×Prop) :=
 match O8 tb ρ [] [] C op with
 | some (v,_,_,C')=>some (.free v,is,C')
 | none =>
  match op with
  | .load T x =>
   match is with
   | i::is' =>
    match H[i]? with
    | some ob =>
     match O8 tb ρ [ob] [0] C (.load T x) with
     | some (v,_,_,C')=>some (.read [ob] v,is',C'∧cu ops k ob ef)
     | none=>none
    | none=>none
   | []=>none
  | .store T x y =>
   match O8 tb ρ H is C (.store T x y) with
   | some (v,H',is',C')=>some (.eff v H',is',C'∧Kn ops k H H' rd)
   | none=>none
  | _=>none
theorem MC {ops:Array Oper}{k:Nat}{τ:Nat→AV}{rd:Yo}{ef:Yn}{op:Op}{s:Sp}(h:UG tb ops k (ev τ) H rd ef is C op=some (s,is',C')) (c:C') (hw:EY ops ⟨0,τ,[],[]⟩ ⟨dst,op,ty,pos,aft,g⟩) :
  C∧gC P ops ⟨dst,op,ty,pos,aft,g⟩ τ H s∧pt ops k H rd ef s:=by
 unfold UG at h;split at h
 ·rename_i v H1 is1 C1 hv;injection h with h;simp only[Prod.mk.injEq] at h;obtain⟨rfl,rfl,rfl⟩:=h;exact⟨(HK (dst:=dst) (ty:=ty) (pos:=pos) (aft:=aft) (g:=g) hv c).1,⟨hw,fun H=>(HK (dJ hv H []) c).2⟩,Ap⟩
 rename_i hn;split at h
 ·split at h
  ·rename_i i is2;split at h
   ·rename_i ob hi;split at h
    ·rename_i v H1 is1 C1 hv;injection h with h;simp only[Prod.mk.injEq] at h;obtain⟨rfl,rfl,rfl⟩:=h;obtain⟨c1,c2⟩:=c;refine⟨(HK (dst:=dst) (ty:=ty) (pos:=pos) (aft:=aft) (g:=g) hv c1).1,⟨hw,fun ob' hm=>?_,fun H hm=>?_⟩,fun ob' hm=>?_⟩
     ·rw[List.mem_singleton] at hm;subst hm;exact List.mem_of_getElem? hi
     ·obtain⟨i',hi'⟩:=List.mem_iff_getElem?.1 (hm ob List.mem_cons_self);exact(HK (eb hv hn hi') c1).2
     rw[List.mem_singleton] at hm;subst hm;exact c2
    cases h
   cases h
  cases h
 ·split at h
  ·rename_i v H1 is1 C1 hv;injection h with h;simp only[Prod.mk.injEq] at h;obtain⟨rfl,rfl,rfl⟩:=h;obtain⟨c1,c2⟩:=c;obtain⟨c0,hop⟩:=HK (dst:=dst) (ty:=ty) (pos:=pos) (aft:=aft) (g:=g) hv c1;exact⟨c0,⟨hw,hop⟩,c2⟩
  cases h
 cases h
def qF (k:Nat) (s:Sp) (C:Prop):List (Nat×Sp)→Prop
 | []=>C
 | p::r=>C∧Ha k s (p::r)
theorem MZ {k:Nat}{s:Sp}{C:Prop}:∀{fx:List (Nat×Sp)},qF k s C fx→C∧Ha k s fx
 | [],h=>⟨h,trivial⟩
 | p::r,h=>h
abbrev uw:=(Nat→AV)×List BK×Yo×Yn×List Bool×Prop
def VM (k:Nat) (τ:Nat→AV) (dst:Option Tmp) (H:List BK) (rd:Yo) (ef:Yn) (effs:List Bool) (fx:List (Nat×Sp)) (f:(Nat→AV)→List BK→Yo→Yn→List Bool→List Nat→Prop→Option uw):Option (Sp×List Nat×Prop)→Option uw
 | some (.free v,is,C)=>f (put τ dst v) H rd ef (false::effs) is (qF k (.free v) C fx)
 | some (.read [ob] v,is,C)=>f (put τ dst v) H ((k,ob)::rd) ef (false::effs) is (qF k (.read [ob] v) C fx)
 | some (.eff v H',is,C)=>f (put τ dst v) H' rd ((k,H,H')::ef) (true::effs) is (qF k (.eff v H') C fx)
 | _=>none
def NL (tb:Z9 P) (ops:Array Oper) (opn:Nat→Bool) (fx:List (Nat×Sp)):Nat→Nat→(Nat→AV)→List BK→Yo→Yn→List Bool→List Nat→Prop→Option uw
 | 0,_,τ,H,rd,ef,effs,_,C=>some (τ,H,rd,ef,effs,C)
 | m+1,k,τ,H,rd,ef,effs,is,C =>
  match ops[k]? with
  | none=>none
  | some ⟨dst,op,_,_,_,g⟩ =>
   bif opn k then none else
    match g with
    | none=>VM k τ dst H rd ef effs fx (NL tb ops opn fx m (k+1)) (UG tb ops k (ev τ) H rd ef is C op)
    | some (j,want) =>
     match (ops[j]?).bind (·.dst) with
     | none=>none
     | some d =>
      match τ d with
      | .p (.bool b) =>
       bif b==want then VM k τ dst H rd ef effs fx (NL tb ops opn fx m (k+1)) (UG tb ops k (ev τ) H rd ef is C op)
       else NL tb ops opn fx m (k+1) (put τ dst (.tup [])) H rd ef (false::effs) is (qF k .skip C fx)
      | .tup []=>NL tb ops opn fx m (k+1) (put τ dst (.tup [])) H rd ef (false::effs) is (qF k .skip C fx)
      | _=>none
end
section
variable {P:Program}{ops:Array Oper}{n:Nat}{τ₀:Nat→AV}{D:List EG}{Q:Cs→Bq→Prop}{opn:Nat→Bool}{fx:List (Nat×Sp)}
theorem Mk (tb:Z9 P):∀(m k:Nat) {τ τ':Nat→AV}{H H':List BK}{rd rd':Yo}{ef ef':Yn}{effs effs':List Bool}{is:List Nat}{C C':Prop},NL tb ops opn fx m k τ H rd ef effs is C=some (τ',H',rd',ef',effs',C')→C' →
  C∧(Dr P ops n τ₀ D Q opn (k+m) τ' H' rd' ef' effs' fx→Dr P ops n τ₀ D Q opn k τ H rd ef effs fx)
 | 0,k,τ,τ',H,H',rd,rd',ef,ef',effs,effs',is,C,C',h,c=>by
  simp only[NL,Option.some.injEq,Prod.mk.injEq] at h;obtain⟨rfl,rfl,rfl,rfl,rfl,rfl⟩:=h;exact⟨c,fun h=>h⟩
 | m+1,k,τ,τ',H,H',rd,rd',ef,ef',effs,effs',is,C,C',h,c=>by
  rw[NL] at h;split at h
  ·cases h
  rename_i dst op ty pos aft g ho;cases hn:opn k with
  | true=>rw[hn] at h;cases h
  | false =>
   rw[hn,cond_false] at h;rw[show k+(m+1)=k+1+m by omega];have key:EY ops ⟨0,τ,[],[]⟩ ⟨dst,op,ty,pos,aft,g⟩→VM k τ dst H rd ef effs fx (NL tb ops opn fx m (k+1)) (UG tb ops k (ev τ) H rd ef is C op)=some (τ',H',rd',ef',effs',C')→C∧(Dr P ops n τ₀ D Q opn (k+1+m) τ' H' rd' ef' effs' fx→Dr P ops n τ₀ D Q opn k τ H rd ef effs fx):=by
    intro hw h;generalize hs:UG tb ops k (ev τ) H rd ef is C op=so at h;unfold VM at h;split at h
    ·rename_i v is1 C1;obtain⟨c1,ih⟩:=Mk tb m (k+1) h c;obtain⟨c1,hfx⟩:=MZ c1;obtain⟨c2,hok,howe⟩:=MC hs c1 hw;exact⟨c2,fun hq=> .step (.free v) ho (.inl hn) hok howe hfx (ih hq)⟩
    ·rename_i ob v is1 C1;obtain⟨c1,ih⟩:=Mk tb m (k+1) h c;obtain⟨c1,hfx⟩:=MZ c1;obtain⟨c2,hok,howe⟩:=MC hs c1 hw;exact⟨c2,fun hq=> .step (.read [ob] v) ho (.inl hn) hok howe hfx (ih hq)⟩
    ·rename_i v H1 is1 C1;obtain⟨c1,ih⟩:=Mk tb m (k+1) h c;obtain⟨c1,hfx⟩:=MZ c1;obtain⟨c2,hok,howe⟩:=MC hs c1 hw;exact⟨c2,fun hq=> .step (.eff v H1) ho (.inl hn) hok howe hfx (ih hq)⟩
    cases h
   split at h
   ·exact key Ah h
   rename_i j want;split at h
   ·cases h
   rename_i d hj;split at h
   ·rename_i b hb;cases hw:b==want with
    | true =>
     rw[hw,cond_true] at h;have hbw:b=want:=by simpa using hw
     exact key (by simp only[EY];exact⟨d,hj,by rw[hb,hbw]⟩) h
    | false =>
     rw[hw,cond_false] at h;obtain⟨c1,ih⟩:=Mk tb m (k+1) h c;obtain⟨c1,hfx⟩:=MZ c1;exact⟨c1,fun hq=>lF ho hn hj hb hw hfx (ih hq)⟩
   ·rename_i hb;obtain⟨c1,ih⟩:=Mk tb m (k+1) h c;obtain⟨c1,hfx⟩:=MZ c1;exact⟨c1,fun hq=>iL ho hn hj hb hfx (ih hq)⟩
   cases h
variable {k:Nat}{τ τ':Nat→AV}{H H':List BK}{rd rd':Yo}{ef ef':Yn}{effs effs':List Bool}{C:Prop}
theorem ng {C:Prop}(c:C:=by repeat' first | exact trivial | refine And.intro ?_ ?_ | ((refine Or.inr (And.intro ?_ ?_)<;>repeat (first | exact List.Mem.head _ | apply List.Mem.tail));done) | exact Or.inl Aj | exact l5):C:=c
theorem BR (tb:Z9 P) (m:Nat) (is:List Nat) (h:NL tb ops opn fx m k τ H rd ef effs is True=some (τ',H',rd',ef',effs',C)) (next:Dr P ops n τ₀ D Q opn (k+m) τ' H' rd' ef' effs' fx) (c:C:=by exact ng):Dr P ops n τ₀ D Q opn k τ H rd ef effs fx:=(Mk tb m k h c).2 next
theorem Bk (tb:Z9 P) (m:Nat) (is:List Nat) (h:NL tb ops opn fx m k τ H rd ef effs is True=some (τ',H',rd',ef',effs',C)) (next:Q .normal ⟨n,τ',H',D⟩) (hk:k+m=ops.size:=by exact rfl) (chk:MK ops n effs'.reverse=true:=by kernel_rfl) (c:C:=by exact ng):Dr P ops n τ₀ D Q opn k τ H rd ef effs fx:=BR tb m is h (Je hk chk next) c
end
end Go.Abs
namespace Go.Proofs.YtboammbpdaoojaaGreat
open Go.Abs
def w4:List (Nat×Bool×Nat):=[(26,true,5),(3,false,1),(24,false,1),(66,true,23),(115,true,2),(113,false,1),(9,false,1),(69,true,8),(51,true,9),(61,false,1),(23,false,1),(62,false,1),(4,false,1),(162,true,2),(67,false,1),(22,false,1),(71,true,15),(200,true,25),(29,false,1),(263,false,1),(137,false,1),(120,true,10),(104,false,1),(229,false,1),(170,false,1),(204,false,1),(205,false,1),(139,true,2),(192,true,2),(168,true,65),(210,true,1),(117,true,6),(64,true,7),(122,true,0),(165,false,1),(208,false,1),(87,false,1),(216,false,1)]
def w5:List (Nat×List (Nat×Nat)):=[(26,[(0,1),(1,1),(2,1),(3,1),(4,1)]),(66,[(0,1),(1,1),(2,1),(3,5),(8,5),(13,1),(14,1),(15,7),(22,1)]),(115,[(0,1),(1,1)]),(69,[(0,1),(1,5),(6,1),(7,1)]),(51,[(0,1),(1,1),(2,1),(3,1),(4,5)]),(162,[(0,1),(1,1)]),(71,[(0,1),(1,5),(6,1),(7,8)]),(36,[(0,1),(1,1),(2,1),(3,1),(4,1)]),(64,[(0,1),(1,5),(6,1)]),(120,[(0,1),(1,1),(2,8)]),(117,[(0,1),(1,5)]),(148,[(0,1),(1,1)]),(167,[(0,1),(1,1),(2,1),(3,1),(4,1)]),(200,[(0,1),(1,1),(2,23)]),(125,[(0,1),(1,1)]),(231,[(0,1),(1,1)]),(139,[(0,1),(1,1)]),(192,[(0,1),(1,1)]),(207,[(0,1)]),(210,[(0,1)]),(122,[])]
def wz:List (Nat×List AV):=[(26,[.p (.int .i64 0),.p (.int .i64 0),.p (.str ⟨#[]⟩),.p .nils,.p .nils]),(115,[.p (.int .i64 0),.p .nils]),(167,[.p (.bool false),.p (.bool false),.p (.int .i64 0),.p (.int .i64 0),.p (.int .i64 0)]),(66,[.p (.int .i64 0),.p (.str ⟨#[]⟩),.p (.int .i64 0),.p (.int .i64 0),.p (.int .i64 0),.p (.str ⟨#[]⟩),.p .nils,.p .nils,.p (.int .i64 0),.p (.int .i64 0),.p (.str ⟨#[]⟩),.p .nils,.p .nils,.p (.int .i64 0),.p .nils,.p (.int .i64 0),.p (.int .i64 0),.p (.int .i64 0),.p (.str ⟨#[]⟩),.p .nils,.p .nils,.p .nils,.p .nils]),(51,[.p (.int .i64 0),.p (.int .i64 0),.p (.int .i64 0),.p (.int .i64 0),.p (.int .i64 0),.p (.int .i64 0),.p (.str ⟨#[]⟩),.p .nils,.p .nils]),(69,[.p (.int .i64 0),.p (.int .i64 0),.p (.int .i64 0),.p (.str ⟨#[]⟩),.p .nils,.p .nils,.p (.int .i64 0),.p .nils]),(162,[.p (.int .i64 0),.p (.int .i64 0)]),(122,[]),(148,[.p (.int .i64 0),.p (.int .i64 0)]),(210,[.p .nilFn]),(117,[.p (.str ⟨#[]⟩),.p (.int .i64 0),.p (.int .i64 0),.p (.str ⟨#[]⟩),.p .nils,.p .nils]),(120,[.p (.str ⟨#[]⟩),.p (.bool false),.p (.int .i64 0),.p (.int .i64 0),.p (.int .i64 0),.p (.str ⟨#[]⟩),.p .nils,.p .nils,.p (.int .i64 0),.p .nils]),(139,[.p (.int .i64 0),.p .nils]),(192,[.p (.int .i64 0),.p .nils]),(36,[.p (.int .i64 0),.p (.int .i64 0),.p (.int .i64 0),.p (.int .i64 0),.p (.bool false)]),(64,[.p (.int .i64 0),.p (.int .i64 0),.p (.int .i64 0),.p (.str ⟨#[]⟩),.p .nils,.p .nils,.p .nils]),(71,[.p (.str ⟨#[]⟩),.p (.int .i64 0),.p (.int .i64 0),.p (.str ⟨#[]⟩),.p .nils,.p .nils,.p (.int .i64 0),.p (.int .i64 0),.p (.int .i64 0),.p (.int .i64 0),.p (.str ⟨#[]⟩),.p .nils,.p .nils,.p (.int .i64 0),.p .nils]),(125,[.p .nils,.p (.int .i64 0)]),(200,[.p .nils,.p .nils,.p (.int .i64 0),.p (.str ⟨#[]⟩),.p (.int .i64 0),.p (.int .i64 0),.p (.int .i64 0),.p (.str ⟨#[]⟩),.p .nils,.p .nils,.p (.int .i64 0),.p (.int .i64 0),.p (.str ⟨#[]⟩),.p .nils,.p .nils,.p (.int .i64 0),.p .nils,.p (.int .i64 0),.p (.int .i64 0),.p (.int .i64 0),.p (.str ⟨#[]⟩),.p .nils,.p .nils,.p .nils,.p .nils]),(207,[.p (.int .i64 0)]),(231,[.p .any,.p (.int .i64 0)])]
theorem xC:Xk (D9 Tryz.prog) w4:=And.intro Aj <| And.intro Aj <| And.intro Aj <| And.intro Aj <| And.intro Aj <| And.intro Aj <| And.intro Aj <| And.intro Aj <| And.intro Aj <| And.intro Aj <| And.intro Aj <| And.intro Aj <| And.intro Aj <| And.intro Aj <| And.intro Aj <| And.intro Aj <| And.intro Aj <| And.intro Aj <| And.intro Aj <| And.intro Aj <| And.intro Aj <| And.intro Aj <| And.intro Aj <| And.intro Aj <| And.intro Aj <| And.intro Aj <| And.intro Aj <| And.intro Aj <| And.intro Aj <| And.intro Aj <| And.intro Aj <| And.intro Aj <| And.intro Aj <| And.intro Aj <| And.intro Aj <| And.intro Aj <| And.intro Aj <| And.intro Aj <| trivial
theorem w9:Xk (fieldsOf Tryz.prog) w5:=And.intro Aj <| And.intro Aj <| And.intro Aj <| And.intro Aj <| And.intro Aj <| And.intro Aj <| And.intro Aj <| And.intro Aj <| And.intro Aj <| And.intro Aj <| And.intro Aj <| And.intro Aj <| And.intro Aj <| And.intro Aj <| And.intro Aj <| And.intro Aj <| And.intro Aj <| And.intro Aj <| And.intro Aj <| And.intro Aj <| And.intro Aj <| trivial
theorem wx:Xk (V2 Tryz.prog) wz:=And.intro Aj <| And.intro Aj <| And.intro Aj <| And.intro Aj <| And.intro Aj <| And.intro Aj <| And.intro Aj <| And.intro Aj <| And.intro Aj <| And.intro Aj <| And.intro Aj <| And.intro Aj <| And.intro Aj <| And.intro Aj <| And.intro Aj <| And.intro Aj <| And.intro Aj <| And.intro Aj <| And.intro Aj <| And.intro Aj <| And.intro Aj <| trivial
def Ay:Z9 Tryz.prog:=qY w9 xC wx
end Go.Proofs.YtboammbpdaoojaaGreat
namespace Go.Proofs.YtboammbpdaoojaaGreat
open Go.Abs Go.Eu
theorem _root_.Go.AW {α:Prop}(h:α:=by first | omega | (simp only;omega)):α:=h
theorem _root_.Go.AI {α:Prop}(h:α:=by first | rfl | (refine pB ?_;simp_all;done) | (refine pB ?_;simp_all<;>(intros;omega))):α:=h
theorem _root_.Go.AM {α:Prop}(h:α:=by first | exact List.Sublist.refl _ | exact List.sublist_cons_self _ _):α:=h
theorem L7:∀(l:CS),(Nj l)→ET Tryz.prog 148 [.agg ((By l).map .p)] (.p (.bool (B9 l))):=by
 intro l h1;have hl:=h1.vars;simp only[DY] at hl;refine A5 Tryz.func148 O s4 (n:=67) O O (Aw (BF O (BN O) fun b1=>Ar Ay 1 [] O (As (As (BT [1] 12 (fun y=>y= .p (.bool ((decide ((l.const:Int)<(0:Int)))||(decide ((l.const:Int) > (100:Int)))))) ?_ ?_)))))
 ·refine A3 (Ax Ay 4 [0] O (BO 8 O (fun g=>?_) (fun g=>?_)))
  ·simp only[sd,se] at g;exact Ar Ay 4 [] O (⟨O,O,AM,AI,⟨O,Ap⟩⟩)
  simp only[sd,se] at g;exact Ar Ay 4 [0] O (⟨O,O,AM,AI,⟨O,Ap⟩⟩)
 rintro _ rfl;refine Av O (fun c=>?_) (fun c=>?_)
 ·simp only[sd,se] at c;refine Au Ay 1 [] O (A1 (⟨O,_,_,⟨_,_,O,O,O⟩,(List.nil_sublist _),?_⟩))
  all_goals exact⟨pB (ji c),rfl⟩
 simp only[sd,se] at c;refine A2 (As (Au Ay 1 [] O (A9 (Bc (α:=Nat) (fun i=>⟨67,mk [(1,.ptr b1 0),(3,.p (I (i:Int)))],[.box b1 [.p (I l.const),.p (.lst (List.map Dt l.vars))]],[]⟩) (fun i=>l.vars.length - i) (fun i=>i≤l.vars.length∧(Cq l.const l.vars 0=Cq l.const l.vars i)) 0 (⟨by omega,rfl⟩) ?_ ?_))))
 ·exact BS ⟨we O,we O,Ap⟩ (leH (is:=[0]) O (wl (oe O) (C2)))
 rintro i hC
 try simp only at hC
 obtain⟨hi,hC⟩:=hC;refine As (Aw (Ax Ay 3 [0] O (Aq O (BJ CY O (List.length_map _)) (Ar Ay 1 [] O (Av O (fun c1=>?_) (fun c1=>?_))))))
 ·simp only[sd,se] at c1;refine A2 (As (A9 (Aw (Ax Ay 3 [0] O ?_))));obtain⟨x,hx⟩:=A6 (l:=l.vars) (i:=i) An;refine Aq O (A4 CY O O An (Cl hx) (O)) (Aq O (BM OL O (O)) (BF O (A7 F8 O) fun b4=>Ar Ay 1 [0,1] O (As (As (BT [1,3,4] 42 (fun y=>y= .p (.bool ((((decide ((x.index:Int)<(-65536:Int)))||(decide ((x.index:Int)≥(8:Int))))||(decide ((x.plus:Int)<(0:Int))))||(decide ((x.plus:Int) > (100:Int)))))) ?_ ?_)))))
  ·refine A3 (Ax Ay 4 [0] O (BO 28 O (fun g=>?_) (fun g=>?_)))
   ·simp only[sd,se] at g;exact Ar Ay 14 [] O (⟨O,O,AM,AI,⟨O,O,O,Ap⟩⟩)
   simp only[sd,se] at g;refine Ax Ay 5 [0] O (BO 33 O (fun g1=>?_) (fun g1=>?_))
   ·simp only[sd,se] at g1;exact Ar Ay 9 [] O (⟨O,O,AM,AI,⟨O,O,O,Ap⟩⟩)
   simp only[sd,se] at g1;refine Ax Ay 5 [0] O (BO 38 O (fun g2=>?_) (fun g2=>?_))
   ·simp only[sd,se] at g2;exact Ar Ay 4 [] O (⟨O,O,AM,AI,⟨O,O,O,Ap⟩⟩)
   simp only[sd,se] at g2;exact Ar Ay 4 [0] O (⟨O,O,AM,AI,⟨O,O,O,Ap⟩⟩)
  rintro _ rfl;refine Av O (fun c2=>?_) (fun c2=>?_)
  ·simp only[sd,se] at c2;refine Au Ay 1 [] O (A1 (⟨O,_,_,⟨_,_,O,O,O⟩,(List.nil_sublist _),?_⟩))
   all_goals exact⟨pB (WO hC (iS hx (j6 c2))),rfl⟩
  simp only[sd,se] at c2;refine A2 (As (As (BT [1,3,4] 56 (fun y=>y= .p (.bool (!(Ji (J5 l.vars i) x.index)))) ?_ ?_)))
  ·refine Bt (fun k=>false) Dn (BR Ay 3 [] O (D6 45 O (fun g=>?_) (fun g=>?_)))
   ·simp only[sd,se] at g;refine BR Ay 4 [1] O ?_;obtain⟨x1,hx1⟩:=A6 (l:=l.vars) (i:=(((i:Int):Int) - (1:Int):Int).toNat) An;exact Ce O (fun _=>A4 CY O O An (Cl hx1) (O)) Ap (Bk Ay 6 [0] O (⟨O,O,AM,(by first | (refine pB ?_;exact(No An).symm) | (refine pB ?_;exact(Pr hx1 An).symm)),⟨O,O,O,Ap⟩⟩))
   simp only[sd,se] at g;exact Bk Ay 11 [] O (⟨O,O,AM,(by first | (refine pB ?_;exact(No An).symm) | (refine pB ?_;exact(Pr hx1 An).symm)),⟨O,O,O,Ap⟩⟩)
  rintro _ rfl;refine Av O (fun c3=>?_) (fun c3=>?_)
  ·simp only[sd,se] at c3;refine Au Ay 1 [] O (A1 (⟨O,_,_,⟨_,_,O,O,O⟩,(List.nil_sublist _),?_⟩))
   all_goals exact⟨pB (WO hC (by rw[Oj hx];rw[c3];simp)),rfl⟩
  simp only[sd,se] at c3;refine A2 (As (BT [1,3] 66 (fun y=>y= .p (.bool ((decide ((l.const:Int) > (0:Int)))&&(decide ((x.plus:Int)≥(l.const:Int)))))) ?_ ?_))
  ·refine A3 (Ax Ay 4 [1] O (BO 60 O (fun g=>?_) (fun g=>?_)))
   ·simp only[sd,se] at g;exact Ar Ay 6 [0,1] O (⟨O,O,AM,AI,⟨O,O,Ap⟩⟩)
   simp only[sd,se] at g;exact Ar Ay 6 [] O (⟨O,O,AM,AI,⟨O,O,Ap⟩⟩)
  rintro _ rfl;refine Av O (fun c4=>?_) (fun c4=>?_)
  ·simp only[sd,se] at c4;refine Au Ay 1 [] O (A1 (⟨O,_,_,⟨_,_,O,O,O⟩,(List.nil_sublist _),?_⟩))
   all_goals exact⟨pB (WO hC (iS hx (lk c4.1 c4.2))),rfl⟩
  simp only[sd,se] at c4;refine A2 (A3 (Ar Ay 3 [] O (⟨(i+1),AW,⟨by omega,(hC.trans (lK hx (VX An (by simpa using c4)) (by simpa using c3)))⟩,BS ⟨we rfl,we rfl,trivial⟩ (leH (is:=[1]) rfl (wl (oe rfl) (C2)))⟩)))
 simp only[sd,se] at c1;refine Be (Au Ay 1 [] O (A1 (⟨O,_,_,⟨_,_,O,O,O⟩,(List.nil_sublist _),?_⟩)))
 all_goals exact⟨pB (kN An An hC An),rfl⟩
theorem dh:∀(n:Int),ET Tryz.prog 187 [.p (I n)] (.agg ((By (⟨n,[]⟩:CS)).map .p)):=by
 intro n;refine A5 Tryz.func187 O s5 (n:=5) O O (Aw (BF O (A7 EI O) fun b2=>Bg O (Au Ay 3 [0,0] O (BH (BW (i:=0) O) (A1 (⟨O,_,_,⟨_,_,O,(BA (i:=0) DU O O O),O⟩,(List.nil_sublist _),?_⟩))))))
 all_goals exact⟨rfl,rfl⟩
theorem X4:∀(l:List CS),(l.length<DY)→(∀x∈l,Nj x)→ET Tryz.prog 167 [.p (.lst (List.map By l))] (.p (.bool (l.all B9))):=by
 intro l h1 h2;simp only[DY] at h1;refine A5 Tryz.func167 O qh (n:=16) O O (Au Ay 1 [] O (As (Au Ay 1 [] O (A9 ?_))));refine Bc (α:=Nat) (fun i=>⟨16,mk [(0,.p (.lst (List.map By l))),(3,.p (I (i:Int)))],[],[]⟩) (fun i=>l.length - i) (fun i=>i≤l.length∧(∀j,j<i→∀y,l[j]?=some y→B9 y=true)) 0 (⟨by omega,fun j h=>by omega⟩) ?_ ?_
 ·exact BS ⟨we O,we O,Ap⟩ (leH (is:=[]) O (C2))
 rintro i hC
 try simp only at hC
 obtain⟨hi,hC⟩:=hC;refine As (Aw (Ax Ay 2 [] O (Aq O (BJ EV O (List.length_map _)) (Ar Ay 1 [] O (Av O (fun c=>?_) (fun c=>?_))))))
 ·simp only[sd,se] at c;refine A2 (As (A9 (Aw (Ax Ay 2 [] O ?_))));obtain⟨x,hx⟩:=A6 (l:=l) (i:=i) An;refine Aq O (A4 EV O O An (Fu hx) (Dg _)) (Aq O (BM DU O (Dg _)) (Aq O (BC O O (L7 x (h2 _ (List.mem_of_getElem? hx))) O) (Ar Ay 1 [] O (Av O (fun c1=>?_) (fun c1=>?_)))))
  ·simp only[sd,se] at c1;refine Au Ay 1 [] O (A1 (⟨O,_,_,⟨_,_,O,O,O⟩,(List.nil_sublist _),?_⟩))
   all_goals exact⟨pB (mL hx (by simpa using c1)),rfl⟩
  simp only[sd,se] at c1;refine A2 (A3 (Ar Ay 3 [] O (⟨(i+1),AW,⟨by omega,Cx (p:=fun _ (y:CS)=>B9 y=true) hC hx (by simpa using c1)⟩,BS ⟨we rfl,we rfl,trivial⟩ (leH (is:=[]) rfl (C2))⟩)))
 simp only[sd,se] at c;refine Be (Au Ay 1 [] O (A1 (⟨O,_,_,⟨_,_,O,O,O⟩,(List.nil_sublist _),?_⟩)))
 all_goals exact⟨pB (ju fun j hj=>hC j An),rfl⟩
theorem cZ:∀(l:CS),(Nj l)→ET Tryz.prog 168 [.agg ((By l).map .p)] (.p (I (Ge l))):=by
 intro l h1;have hl:=h1.vars;simp only[DY] at hl;refine A5 Tryz.func168 O rB (n:=23) O O (Aw (BF O (BN O) fun b1=>Ar Ay 1 [] O (As (As (BT [1] 11 (fun y=>y= .p (.bool ((!(B9 l))||(((l.vars.length:Nat):Int)==(0:Int))))) ?_ ?_)))))
 ·refine A3 (Aq O (BU (i:=0) DU O O O) (Aq O (BC O O (L7 (CS.mk l.const l.vars) h1) O) (Ax Ay 2 [] O (BO 6 O (fun g=>?_) (fun g=>?_)))))
  ·simp only[sd,se] at g;exact Ar Ay 5 [] O (⟨O,O,AM,AI,⟨O,Ap⟩⟩)
  simp only[sd,se] at g;exact Ax Ay 2 [0] O (BB O (BJ CY O (List.length_map _)) (Ar Ay 2 [] O (⟨O,O,AM,AI,⟨O,Ap⟩⟩)))
 rintro _ rfl;refine Av O (fun c=>?_) (fun c=>?_)
 ·simp only[sd,se] at c;refine Au Ay 1 [] O (A1 (⟨O,_,_,⟨_,_,O,O,O⟩,(List.nil_sublist _),?_⟩))
  all_goals exact⟨pI (Xz (by simpa using c)),rfl⟩
 simp only[sd,se] at c;obtain⟨hv,hn⟩:B9 l=true∧l.vars.length≠0:=by simpa using c
 refine A2 (Aw (Ax Ay 4 [0,0] O (Aq O (BJ CY O (List.length_map _)) (Aq O (M1 O O An An) ?_))));obtain⟨x,hx⟩:=A6 (l:=l.vars) (i:=(((l.vars.length:Nat):Int) - (1:Int):Int).toNat) An;have hw:=Lh hv hx;refine Aq O (A4 CY O O An (Cl hx) (O)) (Ax Ay 3 [] O (Aq O (FI O O) (Ar Ay 1 [] O (A1 (⟨O,_,_,⟨_,_,O,O,O⟩,(List.nil_sublist _),?_⟩)))))
 all_goals exact⟨pI (Xt hv hx An),rfl⟩
theorem _root_.Go.AA {α:Prop}(h:α:=by first | exact List.Sublist.refl _ | exact .cons _ (.refl _) | exact .cons _ (.cons _ (.refl _)) | exact .cons _ (.cons _ (.cons _ (.refl _))) | exact .cons _ (.cons _ (.cons _ (.cons _ (.refl _))))):α:=h
theorem _root_.Go.Al {α:Prop}(h:α:=by simp_all):α:=h
theorem lZ:∀(a b:CS),a.vars.length<DY→ET Tryz.prog 80 [LV a,LV b] (.p (.bool (Od a b))):=by
 intro a b hb;obtain⟨ac,av⟩:=a;obtain⟨bc,bv⟩:=b;simp only[DY] at hb;refine A5 Tryz.func80 O u5 (n:=38) O O (Aw (BF O (BN O) fun b2=>BF O (BN O) fun b3=>Ar Ay 1 [] O (As (As (BT [0,1,2,3,4,5] 19 (fun y=>y= .p (.bool (ac !=bc||(av.length:Int) !=bv.length))) ?_ ?_)))))
 ·refine A3 (Ax Ay 6 [1,0] O (BO 11 O (fun g1=>?_) (fun g1=>?_)))
  ·(try simp only[sd] at g1);exact Ar Ay 8 [] O (⟨O,O,AM,pB Al,⟨O,O,O,O,O,O,Ap⟩⟩)
  (try simp only[sd] at g1);exact Ax Ay 2 [1] O (BB O (Dd CY O) (Ax Ay 2 [0] O (BB O (Dd CY O) (Ar Ay 2 [] O (⟨O,O,AM,pB Al,⟨O,O,O,O,O,O,Ap⟩⟩)))))
 rintro _ rfl;refine Av O (fun c2=>?_) (fun c2=>?_)
 ·(try simp only[sd] at c2);refine Au Ay 1 [] O (A1 ⟨O,_,[],De O,List.nil_sublist _,?_⟩);exact⟨pB (IC (fun h=>by simp at h;simp[h] at *)).symm,rfl⟩
 (try simp only[sd] at c2);have h1:ac=bc∧av.length=bv.length:=by simp at c2;omega
 refine A2 (As (Au Ay 1 [] O (A9 (SV (av.length) (fun i=>agree av bv i) (fun i=>⟨38,mk [(2,.ptr b2 0),(3,.ptr b3 0),(5,.p (I i))],[.box b3 ((By ⟨bc,bv⟩).map .p),.box b2 ((By ⟨ac,av⟩).map .p)],[]⟩) (0) An (N2 _ _) ?_ ?_))))
 ·exact FF ⟨O,O,O,Ap⟩ AA
 intro i hi hC;refine As (Aw (Ax Ay 3 [1] O (Aq O (Dd CY O) (Ar Ay 1 [] O (Av O (fun c3=>?_) (fun c3=>?_))))))
 ·(try simp only[sd] at c3);have hi2:i<av.length:=by simp at c3;omega
  obtain⟨x,hx⟩:=A6 hi2;obtain⟨y,hy⟩:=A6 (l:=bv) (i:=i) An;refine A2 (As (A9 (As (Bt (fun k=>false) Dn (BR Ay 3 [1] O (BG O (fun _=>A4 CY O O An (Cl hx) (O)) Ap (BR Ay 4 [0] O (BG O (fun _=>A4 CY O O An (Cl hy) (O)) Ap (BG O (fun _=>BM OL O (O)) Ap (BG O (fun _=>cc q8 O O) Ap (Je O Aj (Av O (fun c4=>?_) (fun c4=>?_)))))))))))))
  ·(try simp only[sd] at c4);refine Au Ay 1 [] O (A1 ⟨O,_,[],De O,List.nil_sublist _,?_⟩);exact⟨pB (IC (fun h=>by simp at h;obtain⟨_,rfl⟩:=h;rw[hx] at hy;injection hy with hy;subst hy;simp_all)).symm,rfl⟩
  (try simp only[sd] at c4);have hxy:x=y:=by obtain⟨x1,x2⟩:=x;obtain⟨y1,y2⟩:=y;simp at c4;simp[c4]
  subst hxy;exact A2 (A3 (Ar Ay 3 [] O (⟨by omega,N0 hC hx hy,FF ⟨rfl,rfl,rfl,trivial⟩ AA⟩)))
 (try simp only[sd] at c3);have hi2:i=av.length:=by simp at c3;omega
 refine Be (Au Ay 1 [] O (A1 ⟨O,_,[],De O,List.nil_sublist _,?_⟩));exact⟨pB (Gs (by rw[h1.1,Pf hC An An])).symm,O⟩
theorem Om:∀(a b:List CS),a.length<DY→(∀l∈a,Nj l)→ET Tryz.prog 42 [uM a,uM b] (.p (.bool (Od a b))):=by
 intro a b hb hn;simp only[DY] at hb;refine A5 Tryz.func42 O vm (n:=27) O O (Au Ay 1 [] O (As (Aw (Br O (Aq O (Dd EV O) (Br O (Aq O (Dd EV O) (Ar Ay 1 [] O (Av O (fun c1=>?_) (fun c1=>?_))))))))))
 ·(try simp only[sd] at c1);refine Au Ay 1 [] O (A1 ⟨O,_,[],De O,List.nil_sublist _,?_⟩);exact⟨pB (IC (fun h=>by subst h;simp at *)).symm,rfl⟩
 (try simp only[sd] at c1);have h1:a.length=b.length:=by simp at c1;omega
 refine A2 (As (Au Ay 1 [] O (A9 (SV (a.length) (fun i=>agree a b i) (fun i=>⟨27,mk [(0,uM a),(1,uM b),(5,.p (I i))],[],[]⟩) (0) An (N2 _ _) ?_ ?_))))
 ·exact FF ⟨O,O,O,Ap⟩ AA
 intro i hi hC;refine As (Aw (Ax Ay 2 [] O (Aq O (Dd EV O) (Ar Ay 1 [] O (Av O (fun c2=>?_) (fun c2=>?_))))))
 ·(try simp only[sd] at c2);have hi2:i<a.length:=by simp at c2;omega
  obtain⟨x,hx⟩:=A6 hi2;obtain⟨y,hy⟩:=A6 (l:=b) (i:=i) An;refine A2 (As (A9 (As (Bt (fun k=>false) Dn (BR Ay 2 [] O (BG O (fun _=>A4 EV O O An (Fu hx) (Dg _)) Ap (BR Ay 3 [] O (BG O (fun _=>A4 EV O O An (Fu hy) (Dg _)) Ap (BG O (fun _=>BM DU O (Dg _)) Ap (BG O (fun _=>BC O O (lZ x y (hn x (List.mem_of_getElem? hx)).vars) O) Ap (Bk Ay 1 [] O (Av O (fun c3=>?_) (fun c3=>?_)))))))))))))
  ·(try simp only[sd] at c3);refine Au Ay 1 [] O (A1 ⟨O,_,[],De O,List.nil_sublist _,?_⟩);exact⟨pB (IC (fun h=>by subst h;rw[hx] at hy;injection hy with hy;subst hy;simp[Gs] at *)).symm,rfl⟩
  (try simp only[sd] at c3);have hxy:x=y:=IM.1 (by simpa using c3);subst hxy;exact A2 (A3 (Ar Ay 3 [] O (⟨by omega,N0 hC hx hy,FF ⟨rfl,rfl,rfl,trivial⟩ AA⟩)))
 (try simp only[sd] at c2);have hi2:i=a.length:=by simp at c2;omega
 refine Be (Au Ay 1 [] O (A1 ⟨O,_,[],De O,List.nil_sublist _,?_⟩));exact⟨pB (Gs (Pf hC An An)).symm,O⟩
theorem Pn:∀(n:Nat) (a b:Tm),size a≤n→Nd a→ET Tryz.prog 15 [TV a,TV b] (.p (.bool (Od a b))):=by
 intro n
 induction n with
 | zero=>intro a b h;cases a;simp[size] at h
 | succ n ih =>
  intro a b hs hnd;obtain⟨ak,ai,an,al,aks⟩:=a;obtain⟨bk,bi,bn,bl,bks⟩:=b;simp only[size] at hs;simp only[Nd,DY] at hnd;obtain⟨hn1,hn2,hn3,hn4,hn5,hn6⟩:=hnd;refine A5 Tryz.func15 O vo (n:=61) O O (Aw (BF O (BN O) fun b2=>BF O (BN O) fun b3=>Ar Ay 1 [] O (As (As (BT [0,1,2,3,4,5] 41 (fun y=>y= .p (.bool (ak !=bk||ai !=bi|| !(an.toList==bn.toList)|| !(Od al bl)||(((BE aks).length:Int) !=(BE bks).length)))) ?_ ?_)))))
  ·refine A3 (Ax Ay 6 [1,0] O (BO 11 O (fun g1=>?_) (fun g1=>?_)))
   ·(try simp only[sd] at g1);refine Ax Ay 7 [] O (BO 18 O (fun g2=>?_) (fun g2=>?_))
    ·(try simp only[sd] at g2);refine Ax Ay 7 [] O (BO 25 O (fun g3=>?_) (fun g3=>?_))
     ·(try simp only[sd] at g3);refine Ax Ay 8 [] O (BO 33 O (fun g4=>?_) (fun g4=>?_))
      ·(try simp only[sd] at g4);exact Ar Ay 8 [] O (⟨O,O,AM,pB Al,⟨O,O,O,O,O,O,Ap⟩⟩)
      (try simp only[sd] at g4);exact Ax Ay 2 [1] O (BB O (Dd Bf O) (Ax Ay 2 [0] O (BB O (Dd Bf O) (Ar Ay 2 [] O (⟨O,O,AM,pB Al,⟨O,O,O,O,O,O,Ap⟩⟩)))))
     (try simp only[sd] at g3);refine Ax Ay 4 [1,0] O (BB O (BC O O (Om al bl hn2 hn3) O) (Ax Ay 3 [] O (BO 33 O (fun g5=>?_) (fun g5=>?_))))
     ·(try simp only[sd] at g5);exact Ar Ay 8 [] O (⟨O,O,AM,pB Al,⟨O,O,O,O,O,O,Ap⟩⟩)
     (try simp only[sd] at g5);exact Ax Ay 2 [1] O (BB O (Dd Bf O) (Ax Ay 2 [0] O (BB O (Dd Bf O) (Ar Ay 2 [] O (⟨O,O,AM,pB Al,⟨O,O,O,O,O,O,Ap⟩⟩)))))
    (try simp only[sd] at g2);refine Ax Ay 4 [1,0] O (BB O (JJ O O) (Ax Ay 2 [] O (BO 25 O (fun g6=>?_) (fun g6=>?_))))
    ·(try simp only[sd] at g6);refine Ax Ay 8 [] O (BO 33 O (fun g7=>?_) (fun g7=>?_))
     ·(try simp only[sd] at g7);exact Ar Ay 8 [] O (⟨O,O,AM,pB Al,⟨O,O,O,O,O,O,Ap⟩⟩)
     (try simp only[sd] at g7);exact Ax Ay 2 [1] O (BB O (Dd Bf O) (Ax Ay 2 [0] O (BB O (Dd Bf O) (Ar Ay 2 [] O (⟨O,O,AM,pB Al,⟨O,O,O,O,O,O,Ap⟩⟩)))))
    (try simp only[sd] at g6);refine Ax Ay 4 [1,0] O (BB O (BC O O (Om al bl hn2 hn3) O) (Ax Ay 3 [] O (BO 33 O (fun g8=>?_) (fun g8=>?_))))
    ·(try simp only[sd] at g8);exact Ar Ay 8 [] O (⟨O,O,AM,pB Al,⟨O,O,O,O,O,O,Ap⟩⟩)
    (try simp only[sd] at g8);exact Ax Ay 2 [1] O (BB O (Dd Bf O) (Ax Ay 2 [0] O (BB O (Dd Bf O) (Ar Ay 2 [] O (⟨O,O,AM,pB Al,⟨O,O,O,O,O,O,Ap⟩⟩)))))
   (try simp only[sd] at g1);refine Ax Ay 7 [1,0] O (BO 18 O (fun g9=>?_) (fun g9=>?_))
   ·(try simp only[sd] at g9);refine Ax Ay 7 [] O (BO 25 O (fun g10=>?_) (fun g10=>?_))
    ·(try simp only[sd] at g10);refine Ax Ay 8 [] O (BO 33 O (fun g11=>?_) (fun g11=>?_))
     ·(try simp only[sd] at g11);exact Ar Ay 8 [] O (⟨O,O,AM,pB Al,⟨O,O,O,O,O,O,Ap⟩⟩)
     (try simp only[sd] at g11);exact Ax Ay 2 [1] O (BB O (Dd Bf O) (Ax Ay 2 [0] O (BB O (Dd Bf O) (Ar Ay 2 [] O (⟨O,O,AM,pB Al,⟨O,O,O,O,O,O,Ap⟩⟩)))))
    (try simp only[sd] at g10);refine Ax Ay 4 [1,0] O (BB O (BC O O (Om al bl hn2 hn3) O) (Ax Ay 3 [] O (BO 33 O (fun g12=>?_) (fun g12=>?_))))
    ·(try simp only[sd] at g12);exact Ar Ay 8 [] O (⟨O,O,AM,pB Al,⟨O,O,O,O,O,O,Ap⟩⟩)
    (try simp only[sd] at g12);exact Ax Ay 2 [1] O (BB O (Dd Bf O) (Ax Ay 2 [0] O (BB O (Dd Bf O) (Ar Ay 2 [] O (⟨O,O,AM,pB Al,⟨O,O,O,O,O,O,Ap⟩⟩)))))
   (try simp only[sd] at g9);refine Ax Ay 4 [1,0] O (BB O (JJ O O) (Ax Ay 2 [] O (BO 25 O (fun g13=>?_) (fun g13=>?_))))
   ·(try simp only[sd] at g13);refine Ax Ay 8 [] O (BO 33 O (fun g14=>?_) (fun g14=>?_))
    ·(try simp only[sd] at g14);exact Ar Ay 8 [] O (⟨O,O,AM,pB Al,⟨O,O,O,O,O,O,Ap⟩⟩)
    (try simp only[sd] at g14);exact Ax Ay 2 [1] O (BB O (Dd Bf O) (Ax Ay 2 [0] O (BB O (Dd Bf O) (Ar Ay 2 [] O (⟨O,O,AM,pB Al,⟨O,O,O,O,O,O,Ap⟩⟩)))))
   (try simp only[sd] at g13);refine Ax Ay 4 [1,0] O (BB O (BC O O (Om al bl hn2 hn3) O) (Ax Ay 3 [] O (BO 33 O (fun g15=>?_) (fun g15=>?_))))
   ·(try simp only[sd] at g15);exact Ar Ay 8 [] O (⟨O,O,AM,pB Al,⟨O,O,O,O,O,O,Ap⟩⟩)
   (try simp only[sd] at g15);exact Ax Ay 2 [1] O (BB O (Dd Bf O) (Ax Ay 2 [0] O (BB O (Dd Bf O) (Ar Ay 2 [] O (⟨O,O,AM,pB Al,⟨O,O,O,O,O,O,Ap⟩⟩)))))
  rintro _ rfl;refine Av O (fun c16=>?_) (fun c16=>?_)
  ·(try simp only[sd] at c16);refine Au Ay 1 [] O (A1 ⟨O,_,[],De O,List.nil_sublist _,?_⟩);exact⟨pB (IC (fun h=>by simp at h;simp[h,Gs] at *)).symm,rfl⟩
  (try simp only[sd] at c16);have h1:ak=bk∧ai=bi∧an.toList=bn.toList∧al=bl∧aks.length=bks.length:=by simp[BQ,IM] at c16;obtain⟨⟨⟨⟨e1,e2⟩,e3⟩,e4⟩,e5⟩:=c16;exact⟨e1,e2,e3,e4,by omega⟩
  refine A2 (As (Au Ay 1 [] O (A9 (SV (aks.length) (fun i=>agree aks bks i) (fun i=>⟨61,mk [(2,.ptr b2 0),(3,.ptr b3 0),(5,.p (I i))],[.box b3 ((BP (.mk bk bi bn bl bks)).map .p),.box b2 ((BP (.mk ak ai an al aks)).map .p)],[]⟩) (0) An (N2 _ _) ?_ ?_))))
  ·exact FF ⟨O,O,O,Ap⟩ AA
  intro i hi hC;refine As (Aw (Ax Ay 3 [1] O (Aq O (Dd Bf O) (Ar Ay 1 [] O (Av O (fun c17=>?_) (fun c17=>?_))))))
  ·(try simp only[sd] at c17);have hi2:i<aks.length:=by simp[BQ] at c17;omega
   obtain⟨x,hx⟩:=A6 hi2;obtain⟨y,hy⟩:=A6 (l:=bks) (i:=i) An;refine A2 (As (A9 (As (Bt (fun k=>false) Dn (BR Ay 3 [1] O (BG O (fun _=>A4 Bf O O An (Bd hx) (BD _)) Ap (BR Ay 4 [0] O (BG O (fun _=>A4 Bf O O An (Bd hy) (BD _)) Ap (BG O (fun _=>BM BZ O (BD _)) Ap (BG O (fun _=>BC O O (ih x y (by have:=Cb hx;omega) (DX hn5 hx)) O) Ap (Bk Ay 1 [] O (Av O (fun c18=>?_) (fun c18=>?_)))))))))))))
   ·(try simp only[sd] at c18);refine Au Ay 1 [] O (A1 ⟨O,_,[],De O,List.nil_sublist _,?_⟩);exact⟨pB (IC (fun h=>by simp at h;obtain⟨_,_,_,_,rfl⟩:=h;rw[hx] at hy;injection hy with hy;subst hy;simp[Gs] at *)).symm,rfl⟩
   (try simp only[sd] at c18);have hxy:x=y:=IM.1 (by simpa using c18);subst hxy;exact A2 (A3 (Ar Ay 3 [] O (⟨by omega,N0 hC hx hy,FF ⟨rfl,rfl,rfl,trivial⟩ AA⟩)))
  (try simp only[sd] at c17);have hi2:i=aks.length:=by simp[BQ] at c17;omega
  refine Be (Au Ay 1 [] O (A1 ⟨O,_,[],De O,List.nil_sublist _,?_⟩));exact⟨pB (Gs (by obtain⟨e1,e2,e3,e4,e5⟩:=h1;rw[e1,e2,e4,F3 e3,Pf hC An An])).symm,rfl⟩
theorem ou:∀(n:Nat) (t:Tm),size t≤n→size t<2 ^ 62→ET Tryz.prog 77 [TV t] (.p (I (size t))):=by
 intro n
 induction n with
 | zero=>intro t h;cases t;simp[size] at h
 | succ n ih =>
  intro t hn hb;obtain⟨kd,ix,nm,ls,ks⟩:=t;simp only[size] at hn hb;refine A5 Tryz.func77 O rQ (n:=21) O O (Aw (BF O (BN O) fun b1=>Ar Ay 1 [] O (Au Ay 1 [] O (As (Au Ay 1 [] O (A9 (bU (ks.length) (fun i=>⟨21,mk [(1,.ptr b1 0),(3,.p (I (1+BX (ks.take i):Nat))),(4,.p (I i))],[.box b1 ((BP (.mk kd ix nm ls ks)).map .p)],[]⟩) (0) An ?_ ?_)))))))
  ·exact FF ⟨O,O,O,Ap⟩ AA
  intro i hi;have hsz:=Mg (ts:=ks) i;have hll:=Dx ks;refine As (Aw (Ax Ay 3 [0] O (Aq O (Dd Bf O) (Ar Ay 1 [] O (Av O (fun c1=>?_) (fun c1=>?_))))))
  ·(try simp only[sd] at c1);have hi2:i<ks.length:=by rw[BQ] at c1;omega
   obtain⟨t,hk⟩:∃t,ks[i]?=some t:=⟨_,List.getElem?_eq_getElem hi2⟩;have hks:=Cb hk;have hsz2:=K9 hk;have hsz3:=Mg (ts:=ks) (i+1);exact A2 (As (A9 (A3 (Ax Ay 4 [0] O (Aq O (A4 Bf O O An (Bd hk) (BD _)) (Aq O (BM BZ O (BD _)) (Aq O (BC O O (ih t An An) O) (Ar Ay 2 [] O (A3 (Ar Ay 3 [] O (⟨by omega,FF ⟨rfl,pI (by rw[K9 hk];omega),rfl,trivial⟩ AA⟩)))))))))))
  (try simp only[sd] at c1);have hi2:i=ks.length:=by rw[BQ] at c1;omega
  refine Be (Au Ay 2 [] O (A1 ⟨O,_,[],De O,List.nil_sublist _,?_⟩));exact⟨pI (by subst hi2;rw[List.take_length];simp[size]),O⟩
theorem kR:∀(n:Nat) (t:Tm),size t≤n→size t<2 ^ 62→ET Tryz.prog 93 [TV t] (.p (I (depth t))):=by
 intro n
 induction n with
 | zero=>intro t h;cases t;simp[size] at h
 | succ n ih =>
  intro t hn hb;obtain⟨kd,ix,nm,ls,ks⟩:=t;simp only[size] at hn hb;refine A5 Tryz.func93 O rE (n:=22) O O (Aw (BF O (BN O) fun b1=>Ar Ay 1 [] O (Au Ay 1 [] O (As (Au Ay 1 [] O (A9 (bU (ks.length) (fun i=>⟨22,mk [(1,.ptr b1 0),(3,.p (I (HL (ks.take i):Nat))),(4,.p (I i))],[.box b1 ((BP (.mk kd ix nm ls ks)).map .p)],[]⟩) (0) An ?_ ?_)))))))
  ·exact FF ⟨O,O,O,Ap⟩ AA
  intro i hi;have hsz:=Mg (ts:=ks) i;have hll:=Dx ks;have hdd:=Iu ks;have hdi:=SD (ts:=ks) i;refine As (Aw (Ax Ay 3 [0] O (Aq O (Dd Bf O) (Ar Ay 1 [] O (Av O (fun c1=>?_) (fun c1=>?_))))))
  ·(try simp only[sd] at c1);have hi2:i<ks.length:=by rw[BQ] at c1;omega
   obtain⟨t,hk⟩:∃t,ks[i]?=some t:=⟨_,List.getElem?_eq_getElem hi2⟩;have hks:=Cb hk;have hsz2:=K9 hk;have hsz3:=Mg (ts:=ks) (i+1);exact A2 (As (A9 (A3 (Ax Ay 4 [0] O (Aq O (A4 Bf O O An (Bd hk) (BD _)) (Aq O (BM BZ O (BD _)) (Aq O (BC O O (ih t An An) O) (Aq O (FI O O) (Ar Ay 1 [] O (A3 (Ar Ay 3 [] O (⟨by omega,FF ⟨rfl,pI (by rw[W2 hk];omega),rfl,trivial⟩ AA⟩))))))))))))
  (try simp only[sd] at c1);have hi2:i=ks.length:=by rw[BQ] at c1;omega
  refine Be (Au Ay 3 [] O (A1 ⟨O,_,[],De O,List.nil_sublist _,?_⟩));exact⟨pI (by subst hi2;rw[List.take_length];simp[depth]),O⟩
end Go.Proofs.YtboammbpdaoojaaGreat
namespace Go.Eu
def nj:Tm→Prop
 | .mk k i n l _=>(i≠0→k=0∨k=12)∧(n≠⟨#[]⟩→k=3)∧(k=2→l.length=1)∧(k≠2→k≠3→l.length=0)
mutual
def Cw:Tm→Prop
 | .mk k i n l ks=>nj (.mk k i n l ks)∧uN ks
def uN:List Tm→Prop
 | []=>True
 | t::ts=>Cw t∧uN ts
end
theorem LA:∀{ts:List Tm},(∀t∈ts,Cw t)→uN ts
 | [],_=>trivial
 | t::ts,h=>⟨h t List.mem_cons_self,LA fun x hx=>h x (List.mem_cons_of_mem _ hx)⟩
end Go.Eu
namespace Go.Proofs.YtboammbpdaoojaaGreat
open Go.Abs Go.Eu
theorem Wu:∀(c:Int),Gp Tryz.prog 147 [.p (.int .u8 c)] (Kp):=by
 intro c;refine A5 Tryz.func147 O ry (n:=21) O O (Au Ay 1 [] O (As (BT [] 2 (fun y=>y= .p (.bool ((((decide ((c:Int)≥(97:Int)))&&(decide ((c:Int)≤(122:Int))))||((decide ((c:Int)≥(65:Int)))&&(decide ((c:Int)≤(90:Int)))))||((c:Int)==(95:Int))))) ?_ ?_)))
 ·refine A3 (Ax Ay 3 [] O (BO 5 O (fun g=>?_) (fun g=>?_)))
  ·simp only[sd,se] at g;refine Ax Ay 4 [] O (BO 9 O (fun g1=>?_) (fun g1=>?_))
   ·simp only[sd,se] at g1;exact Ar Ay 12 [] O ⟨O,O,AM,AI,Ap⟩
   simp only[sd,se] at g1;refine Ax Ay 3 [] O (BO 12 O (fun g2=>?_) (fun g2=>?_))
   ·simp only[sd,se] at g2;refine Ax Ay 5 [] O (BO 17 O (fun g3=>?_) (fun g3=>?_))
    ·simp only[sd,se] at g3;exact Ar Ay 4 [] O ⟨O,O,AM,AI,Ap⟩
    simp only[sd,se] at g3;exact Ar Ay 4 [] O ⟨O,O,AM,AI,Ap⟩
   simp only[sd,se] at g2;exact Ar Ay 9 [] O ⟨O,O,AM,AI,Ap⟩
  simp only[sd,se] at g;refine Ax Ay 7 [] O (BO 12 O (fun g1=>?_) (fun g1=>?_))
  ·simp only[sd,se] at g1;refine Ax Ay 5 [] O (BO 17 O (fun g2=>?_) (fun g2=>?_))
   ·simp only[sd,se] at g2;exact Ar Ay 4 [] O ⟨O,O,AM,AI,Ap⟩
   simp only[sd,se] at g2;exact Ar Ay 4 [] O ⟨O,O,AM,AI,Ap⟩
  simp only[sd,se] at g1;exact Ar Ay 9 [] O ⟨O,O,AM,AI,Ap⟩
 rintro _ rfl;refine A1 (⟨O,_,_,⟨_,_,O,O,O⟩,(List.nil_sublist _),?_⟩)
 all_goals exact⟨⟨_,rfl⟩,rfl⟩
theorem _root_.Go.AQ {α:Prop}(h:α:=by first | trivial | omega | simp | (simp;omega)):α:=h
theorem gL:∀(s:ByteArray),(s.size<DY)→Gp Tryz.prog 122 [.p (.str s)] (Kp):=by
 intro s h1;simp only[DY] at h1;refine A5 Tryz.func122 O rU (n:=45) O O (Au Ay 1 [] O (As (As (BT [0] 12 Kp ?_ ?_))))
 ·refine A3 (Br O (Aq O (FV O O) (Br O (BO 8 O (fun g=>?_) (fun g=>?_)))))
  ·simp only[sd,se] at g;exact Ar Ay 4 [] O (⟨O,O,AM,⟨_,O⟩,⟨O,Ap⟩⟩)
  simp only[sd,se] at g;exact BB O (Ba O) (BB O (GQ nW O) (Ar Ay 2 [] O (⟨O,O,AM,⟨_,O⟩,⟨O,Ap⟩⟩)))
 rintro _ ⟨q,rfl⟩;refine Av O (fun c=>?_) (fun c=>?_)
 ·refine Au Ay 1 [] O (A1 (⟨O,_,_,⟨_,_,O,O,O⟩,(List.nil_sublist _),?_⟩))
  all_goals exact⟨⟨_,rfl⟩,rfl⟩
 refine A2 (Au Ay 1 [] O (As (Au Ay 1 [] O (A9 (Bc (α:=Nat×Bool) (fun(i,f)=>⟨45,mk [(0,.p (.str s)),(3,.p (.bool f)),(4,.p (I (i:Int)))],[],[]⟩) (fun(i,f)=>s.size - i) (fun(i,f)=>i≤s.size) ⟨0,true⟩ AQ ?_ ?_)))))
 ·exact BS ⟨we O,we O,we O,Ap⟩ (leH (is:=[]) O (C2))
 rintro⟨i,f⟩ hC
 try simp only at hC
 have hi:=hC;refine As (Aw (Ax Ay 2 [] O (Aq O (GQ nW O) (Ar Ay 1 [] O (Av O (fun c1=>?_) (fun c1=>?_))))))
 ·simp only[sd,se] at c1;refine A2 (As (A9 (Aw (Ax Ay 2 [] O ?_))));obtain⟨ch,hch⟩:∃c,(s)[i]?=some c:=⟨_,getElem?_pos s i An⟩;refine Aq O (To nW O O An (by simpa using hch)) (Ar Ay 1 [] O (As (Au Ay 1 [] O (Av O (fun c2=>?_) (fun c2=>?_)))))
  ·refine As (Aw (Br O (Du O O (CI O O (Wu ch.toNat) (.inl O)) ?_)));rintro _ ⟨q1,rfl⟩;refine Ar Ay 1 [] O (Av O (fun c3=>?_) (fun c3=>?_))
   ·simp only[sd,se] at c3;refine Au Ay 1 [] O (A1 (⟨O,_,_,⟨_,_,O,O,O⟩,(List.nil_sublist _),?_⟩))
    all_goals exact⟨⟨_,rfl⟩,rfl⟩
   simp only[sd,se] at c3;refine A2 (Au Ay 1 [] O (Be (A3 (Ar Ay 3 [] O ?_))));refine⟨⟨i+1,false⟩,AW,by omega,BS ⟨we rfl,we rfl,we rfl,trivial⟩ (leH (is:=[]) rfl (C2))⟩
  refine A2 (As (Au Ay 2 [] O (Av O (fun c3=>?_) (fun c3=>?_))))
  ·simp only[sd,se] at c3;refine Au Ay 1 [] O (Be (A3 (Ar Ay 3 [] O ?_)));refine⟨⟨i+1,true⟩,AW,by omega,BS ⟨we rfl,we rfl,we rfl,trivial⟩ (leH (is:=[]) rfl (C2))⟩
  simp only[sd,se] at c3;refine A2 (As (BT [0,3,4] 42 Kp ?_ ?_))
  ·refine A3 (Br O (Du O O (CI O O (Wu ch.toNat) (.inl O)) ?_));rintro _ ⟨q1,rfl⟩;refine Ax Ay 2 [] O (BO 31 O (fun g=>?_) (fun g=>?_))
   ·simp only[sd,se] at g;refine Ax Ay 4 [] O (BO 35 O (fun g1=>?_) (fun g1=>?_))
    ·simp only[sd,se] at g1;refine Ax Ay 3 [] O (BO 38 O (fun g2=>?_) (fun g2=>?_))
     ·simp only[sd,se] at g2;exact Ar Ay 4 [] O (⟨O,O,AM,⟨_,O⟩,⟨O,O,O,Ap⟩⟩)
     simp only[sd,se] at g2;exact Ar Ay 4 [] O (⟨O,O,AM,⟨_,O⟩,⟨O,O,O,Ap⟩⟩)
    simp only[sd,se] at g1;exact Ar Ay 7 [] O (⟨O,O,AM,⟨_,O⟩,⟨O,O,O,Ap⟩⟩)
   simp only[sd,se] at g;exact Ar Ay 11 [] O (⟨O,O,AM,⟨_,O⟩,⟨O,O,O,Ap⟩⟩)
  rintro _ ⟨r,rfl⟩;refine Av O (fun c4=>?_) (fun c4=>?_)
  ·refine Au Ay 1 [] O (A1 (⟨O,_,_,⟨_,_,O,O,O⟩,(List.nil_sublist _),?_⟩))
   all_goals exact⟨⟨_,rfl⟩,rfl⟩
  refine A2 (A3 (Ar Ay 3 [] O ?_));refine⟨⟨i+1,f⟩,AW,by omega,BS ⟨we rfl,we rfl,we rfl,trivial⟩ (leH (is:=[]) rfl (C2))⟩
 simp only[sd,se] at c1;refine Be (Au Ay 3 [] O (A1 (⟨O,_,_,⟨_,_,O,O,O⟩,(List.nil_sublist _),?_⟩)))
 all_goals exact⟨⟨_,rfl⟩,rfl⟩
theorem ow:∀(k:Int),ET Tryz.prog 146 [.p (I k)] (.p (I (arity k))):=by
 intro k;refine A5 Tryz.func146 O tY (n:=15) O O (Au Ay 1 [] O (As (Au Ay 1 [] O (A9 (As (Au Ay 2 [] O (BT [3] 4 (fun y=>y= .p (.bool (decide (k=4∨k=5∨k=6∨k=7)))) ?_ ?_)))))))
 ·refine Av O (fun c=>?_) (fun c=>?_)
  ·simp only[sd,se] at c;exact A2 (⟨O,O,(List.Sublist.refl _),(by refine pB (Bool.eq_iff_iff.2 ?_);simp only[beq_iff_eq,decide_eq_true_eq];omega),⟨O,Ap⟩⟩)
  simp only[sd,se] at c;refine Au Ay 2 [] O (Av O (fun c1=>?_) (fun c1=>?_))
  ·simp only[sd,se] at c1;exact A2 (⟨O,O,(List.Sublist.refl _),(by refine pB (Bool.eq_iff_iff.2 ?_);simp only[beq_iff_eq,decide_eq_true_eq];omega),⟨O,Ap⟩⟩)
  simp only[sd,se] at c1;refine Au Ay 2 [] O (Av O (fun c2=>?_) (fun c2=>?_))
  ·simp only[sd,se] at c2;exact A2 (⟨O,O,(List.Sublist.refl _),(by refine pB (Bool.eq_iff_iff.2 ?_);simp only[beq_iff_eq,decide_eq_true_eq];omega),⟨O,Ap⟩⟩)
  simp only[sd,se] at c2;exact A3 (Ar Ay 2 [] O (⟨O,O,(List.Sublist.refl _),(by refine pB (Bool.eq_iff_iff.2 ?_);simp only[beq_iff_eq,decide_eq_true_eq];omega),⟨O,Ap⟩⟩))
 rintro _ rfl;refine Av O (fun c=>?_) (fun c=>?_)
 ·simp only[sd,se] at c;refine Au Ay 1 [] O (A1 (⟨O,_,_,⟨_,_,O,O,O⟩,(List.nil_sublist _),?_⟩))
  all_goals exact⟨pI (by simp_all [arity]),rfl⟩
 simp only[sd,se] at c;refine As (Au Ay 2 [] O (BT [3] 9 (fun y=>y= .p (.bool (decide (k=8∨k=11)))) ?_ ?_))
 ·refine Av O (fun c1=>?_) (fun c1=>?_)
  ·simp only[sd,se] at c1;exact A2 (⟨O,O,(List.Sublist.refl _),(by refine pB (Bool.eq_iff_iff.2 ?_);simp only[beq_iff_eq,decide_eq_true_eq];omega),⟨O,Ap⟩⟩)
  simp only[sd,se] at c1;exact A3 (Ar Ay 2 [] O (⟨O,O,(List.Sublist.refl _),(by refine pB (Bool.eq_iff_iff.2 ?_);simp only[beq_iff_eq,decide_eq_true_eq];omega),⟨O,Ap⟩⟩))
 rintro _ rfl;refine Av O (fun c1=>?_) (fun c1=>?_)
 ·simp only[sd,se] at c1;refine Au Ay 1 [] O (A1 (⟨O,_,_,⟨_,_,O,O,O⟩,(List.nil_sublist _),?_⟩))
  all_goals exact⟨pI (by simp_all [arity]),rfl⟩
 simp only[sd,se] at c1;refine As (Au Ay 2 [] O (BT [] 12 (fun y=>y= .p (.bool (decide (k=9∨k=10)))) ?_ ?_))
 ·refine Av O (fun c2=>?_) (fun c2=>?_)
  ·simp only[sd,se] at c2;exact A2 ⟨O,O,(List.Sublist.refl _),(by refine pB (Bool.eq_iff_iff.2 ?_);simp only[beq_iff_eq,decide_eq_true_eq];omega),Ap⟩
  simp only[sd,se] at c2;exact A3 (Ar Ay 2 [] O ⟨O,O,(List.Sublist.refl _),(by refine pB (Bool.eq_iff_iff.2 ?_);simp only[beq_iff_eq,decide_eq_true_eq];omega),Ap⟩)
 rintro _ rfl;refine Av O (fun c2=>?_) (fun c2=>?_)
 ·simp only[sd,se] at c2;refine Au Ay 1 [] O (A1 (⟨O,_,_,⟨_,_,O,O,O⟩,(List.nil_sublist _),?_⟩))
  all_goals exact⟨pI (by simp_all [arity]),rfl⟩
 simp only[sd,se] at c2;refine A2 (Au Ay 1 [] O (A1 (⟨O,_,_,⟨_,_,O,O,O⟩,(List.nil_sublist _),?_⟩)))
 all_goals exact⟨pI (by simp_all [arity]),rfl⟩
theorem WX : ∀ (k i : Int), ET Tryz.prog 124 [.p (I k), .p (I i)] (.p (I (below k i))) := by
 intro k i
 refine A5 Tryz.func124 O su (n := 27) O O ?_
 refine Au Ay 1 [] O ?_
 refine As ?_
 refine As ?_
 refine BT [] 26 (fun y => y = .p (.bool ((i == 1 && (k == 5 || k == 6 || k == 7)) || (i == 2 && k == 11)))) ?_ ?_
 ·refine A3 ?_
  refine Ax Ay 3 [] O ?_
  refine BO 7 O (fun g => ?_) (fun g => ?_)
  ·simp only [sd, se] at g
   refine Ax Ay 3 [] O ?_
   refine BO 10 O (fun g1 => ?_) (fun g1 => ?_)
   ·simp only [sd, se] at g1
    refine Ar Ay 16 [] O ?_
    exact ⟨O, O, AM, pB Al, Ap⟩
   simp only [sd, se] at g1
   refine Ax Ay 4 [] O ?_
   refine BO 14 O (fun g2 => ?_) (fun g2 => ?_)
   ·simp only [sd, se] at g2
    refine Ar Ay 12 [] O ?_
    exact ⟨O, O, AM, pB Al, Ap⟩
   simp only [sd, se] at g2
   refine Ax Ay 5 [] O ?_
   refine BO 19 O (fun g3 => ?_) (fun g3 => ?_)
   ·simp only [sd, se] at g3
    refine Ar Ay 7 [] O ?_
    exact ⟨O, O, AM, pB Al, Ap⟩
   simp only [sd, se] at g3
   refine Ax Ay 3 [] O ?_
   refine BO 22 O (fun g4 => ?_) (fun g4 => ?_)
   ·simp only [sd, se] at g4
    refine Ar Ay 4 [] O ?_
    exact ⟨O, O, AM, pB Al, Ap⟩
   simp only [sd, se] at g4
   refine Ar Ay 4 [] O ?_
   exact ⟨O, O, AM, pB Al, Ap⟩
  simp only [sd, se] at g
  refine Ax Ay 15 [] O ?_
  refine BO 22 O (fun g1 => ?_) (fun g1 => ?_)
  ·simp only [sd, se] at g1
   refine Ar Ay 4 [] O ?_
   exact ⟨O, O, AM, pB Al, Ap⟩
  simp only [sd, se] at g1
  refine Ar Ay 4 [] O ?_
  exact ⟨O, O, AM, pB Al, Ap⟩
 rintro _ rfl
 refine Av O (fun c => ?_) (fun c => ?_)
 ·simp only [sd, se] at c
  refine Au Ay 1 [] O ?_
  refine A1 ?_
  refine ⟨O, _, _, ⟨_, _, O, O, O⟩, (List.nil_sublist _), ?_⟩
  all_goals exact ⟨pI (by unfold below; first | (rw [if_pos (by simp only [Bool.or_eq_true, Bool.and_eq_true, beq_iff_eq]; omega)]) | (rw [if_neg (by simp only [Bool.or_eq_true, Bool.and_eq_true, beq_iff_eq]; omega)])), rfl⟩
 simp only [sd, se] at c
 refine A2 ?_
 refine Au Ay 1 [] O ?_
 refine A1 ?_
 refine ⟨O, _, _, ⟨_, _, O, O, O⟩, (List.nil_sublist _), ?_⟩
 all_goals exact ⟨pI (by unfold below; first | (rw [if_pos (by simp only [Bool.or_eq_true, Bool.and_eq_true, beq_iff_eq]; omega)]) | (rw [if_neg (by simp only [Bool.or_eq_true, Bool.and_eq_true, beq_iff_eq]; omega)])), rfl⟩
theorem _root_.Go.Ae {α:Prop}(h:α:=by simp[Dg]):α:=h
theorem mU:∀(l:CS) (a b:Int),(Nj l)→Gp Tryz.prog 123 [.agg ((By l).map .p),.p (I a),.p (I b)] (cP):=by
 intro l a b h1;have hl:=h1.vars;simp only[DY] at hl;refine A5 Tryz.func123 O rO (n:=61) O O (Aw (BF O (BN O) fun b3=>Ar Ay 1 [] O (As (Aw (Aq O (BU (i:=0) DU O O Ae) (Aq O (BC O O (L7 l h1) O) (Ar Ay 1 [] O (Av O (fun c=>?_) (fun c=>?_)))))))))
 ·simp only[sd,se] at c;refine Au Ay 1 [] O (A1 (⟨O,_,_,⟨_,_,O,O,O⟩,(List.nil_sublist _),?_⟩))
  all_goals exact⟨⟨_,rfl⟩,rfl⟩
 simp only[sd,se] at c;refine A2 (As (Au Ay 1 [] O (A9 (Bc (α:=Nat) (fun i=>⟨61,mk [(1,.p (I a)),(2,.p (I b)),(3,.ptr b3 0),(7,.p (I (i:Int)))],[.box b3 ((By l).map .p)],[]⟩) (fun i=>l.vars.length - i) (fun i=>i≤l.vars.length) 0 AQ ?_ ?_))))
 ·exact BS ⟨we O,we O,we O,we O,Ap⟩ (leH (is:=[0]) O (wl (oe O) (C2)))
 rintro i hC
 try simp only at hC
 have hi:=hC;refine As (Aw (Ax Ay 3 [0] O (Aq O (BJ CY O (List.length_map _)) (Ar Ay 1 [] O (Av O (fun c1=>?_) (fun c1=>?_))))))
 ·simp only[sd,se] at c1;refine A2 (As (A9 (As (BT [1,2,3,7] 35 Kp ?_ ?_))))
  ·refine A3 (Ax Ay 3 [0] O ?_);obtain⟨x,hx⟩:=A6 (l:=l.vars) (i:=i) An;refine Aq O (A4 CY O O An (Cl hx) (O)) (Ax Ay 4 [] O (BO 26 O (fun g=>?_) (fun g=>?_)))
   ·simp only[sd,se] at g;exact Ax Ay 3 [0] O (BB O (A4 CY O O An (Cl hx) (O)) (Ar Ay 5 [] O (⟨O,O,AM,⟨_,O⟩,⟨O,O,O,O,Ap⟩⟩)))
   simp only[sd,se] at g;exact Ar Ay 9 [] O (⟨O,O,AM,⟨_,O⟩,⟨O,O,O,O,Ap⟩⟩)
  rintro _ ⟨q,rfl⟩;refine Av O (fun c2=>?_) (fun c2=>?_)
  ·refine Au Ay 1 [] O (A1 (⟨O,_,_,⟨_,_,O,O,O⟩,(List.nil_sublist _),?_⟩))
   all_goals exact⟨⟨_,rfl⟩,rfl⟩
  refine A2 (A3 (Ar Ay 3 [] O ?_));refine⟨(i+1),AW,by omega,BS ⟨we rfl,we rfl,we rfl,we rfl,trivial⟩ (leH (is:=[0]) rfl (wl (oe rfl) (C2)))⟩
 simp only[sd,se] at c1;refine Be (As (Au Ay 1 [] O (A9 (Bc (α:=Nat) (fun i=>⟨61,mk [(2,.p (I b)),(3,.ptr b3 0),(8,.p (I (i:Int)))],[.box b3 [.p (I l.const),.p (.lst (List.map Dt l.vars))]],[]⟩) (fun i=>l.vars.length - i) (fun i=>i≤l.vars.length) 0 AQ ?_ ?_))))
 ·exact BS ⟨we O,we O,we O,Ap⟩ (leH (is:=[0]) O (wl (oe O) (C2)))
 rintro i hC1
 try simp only at hC1
 have hi:=hC1;refine As (Aw (Ax Ay 3 [0] O (Aq O (BJ CY O (List.length_map _)) (Ar Ay 1 [] O (Av O (fun c2=>?_) (fun c2=>?_))))))
 ·simp only[sd,se] at c2;refine A2 (As (A9 (As (BT [2,3,8] 60 Kp ?_ ?_))))
  ·refine A3 (Ax Ay 3 [0] O ?_);obtain⟨x,hx⟩:=A6 (l:=l.vars) (i:=i) An;refine Aq O (A4 CY O O An (Cl hx) (O)) (Ax Ay 4 [] O (BO 50 O (fun g=>?_) (fun g=>?_)))
   ·simp only[sd,se] at g;exact Ax Ay 3 [0] O (BB O (A4 CY O O An (Cl hx) (O)) (Ax Ay 2 [] O (BB O (Jc O O) (Ar Ay 3 [] O (⟨O,O,AM,⟨_,O⟩,⟨O,O,O,Ap⟩⟩)))))
   simp only[sd,se] at g;exact Ar Ay 10 [] O (⟨O,O,AM,⟨_,O⟩,⟨O,O,O,Ap⟩⟩)
  rintro _ ⟨q,rfl⟩;refine Av O (fun c3=>?_) (fun c3=>?_)
  ·refine Au Ay 1 [] O (A1 (⟨O,_,_,⟨_,_,O,O,O⟩,(List.nil_sublist _),?_⟩))
   all_goals exact⟨⟨_,rfl⟩,rfl⟩
  refine A2 (A3 (Ar Ay 3 [] O ?_));refine⟨(i+1),AW,by omega,BS ⟨we rfl,we rfl,we rfl,trivial⟩ (leH (is:=[0]) rfl (wl (oe rfl) (C2)))⟩
 simp only[sd,se] at c2;refine Be (Au Ay 1 [] O (A1 (⟨O,_,_,⟨_,_,O,O,O⟩,(List.nil_sublist _),?_⟩)))
 all_goals exact⟨⟨_,rfl⟩,rfl⟩
theorem nz:∀(t:Tm),Gp Tryz.prog 121 [.agg ((BP t).map .p)] (fun v=>∃bb:Bool,v= .p (.bool bb)∧(bb=true→Z1 t∧nj t)):=by
 intro t;obtain⟨tk,ti,tn,tl,ts⟩:=t;refine A5 Tryz.func121 O s8 (n:=57) O O (Aw (BF O (BN O) fun b1=>Ar Ay 1 [] O (As (As (BT [1] 19 (fun y=>y= .p (.bool (decide (tk<0)||decide (tk≥13)||(ts.length:Int) !=arity tk))) ?_ ?_)))))
 ·refine Bt (fun k=>false) Dn (BR Ay 4 [0] O (D6 6 O (fun g=>?_) (fun g=>?_)))
  ·simp only[sd,se] at g;exact Bk Ay 13 [] O (⟨O,O,AM,(by refine pB ?_;first | (simp_all;done) | (rw[decide_eq_false (by omega:¬tk<0),decide_eq_false (by omega:¬tk≥13)];simp[BQ];done)),⟨O,Ap⟩⟩)
  simp only[sd,se] at g;refine BR Ay 5 [0] O (D6 11 O (fun g1=>?_) (fun g1=>?_))
  ·simp only[sd,se] at g1;exact Bk Ay 8 [] O (⟨O,O,AM,(by refine pB ?_;first | (simp_all;done) | (rw[decide_eq_false (by omega:¬tk<0),decide_eq_false (by omega:¬tk≥13)];simp[BQ];done)),⟨O,Ap⟩⟩)
  simp only[sd,se] at g1;exact BR Ay 2 [0] O (Ce O (fun _=>BJ Bf O (BQ _)) Ap (BR Ay 2 [0] O (Ce O (fun _=>BC O O (ow tk) O) Ap (Bk Ay 2 [] O (⟨O,O,AM,(by refine pB ?_;first | (simp_all;done) | (rw[decide_eq_false (by omega:¬tk<0),decide_eq_false (by omega:¬tk≥13)];simp[BQ];done)),⟨O,Ap⟩⟩)))))
 rintro _ rfl;refine Av O (fun c=>?_) (fun c=>?_)
 ·simp only[sd,se] at c;refine Au Ay 1 [] O (A1 (⟨O,_,_,⟨_,_,O,O,O⟩,(List.nil_sublist _),?_⟩))
  all_goals exact⟨⟨_,rfl,by first | exact fun h=>absurd h Am | exact fun h=>⟨hf,hi,hn,by simp only[beq_iff_eq,decide_eq_true_eq] at *;intro _;omega,by simp only[beq_iff_eq,decide_eq_true_eq] at *;intro _ _;omega⟩⟩,rfl⟩
 simp only[sd,se] at c;have hf:Z1 (.mk tk ti tn tl ts):=by simp only[Z1];omega
 refine A2 (As (As (BT [1] 32 (fun y=>∃b:Bool,y= .p (.bool b)∧(b=false→ti≠0→tk=0∨tk=12)) ?_ ?_)))
 ·refine A3 (Ax Ay 4 [0] O (BO 23 O (fun g=>?_) (fun g=>?_)))
  ·simp only[sd,se] at g;refine Ax Ay 5 [0] O (BO 28 O (fun g1=>?_) (fun g1=>?_))
   ·simp only[sd,se] at g1;exact Ar Ay 4 [0] O (⟨O,O,AM,(by refine⟨_,rfl,fun h=>?_⟩;first | omega | (simp_all;done) | (simp_all;omega)),⟨O,Ap⟩⟩)
   simp only[sd,se] at g1;exact Ar Ay 4 [] O (⟨O,O,AM,(by refine⟨_,rfl,fun h=>?_⟩;first | omega | (simp_all;done) | (simp_all;omega)),⟨O,Ap⟩⟩)
  simp only[sd,se] at g;exact Ar Ay 9 [] O (⟨O,O,AM,(by refine⟨_,rfl,fun h=>?_⟩;first | omega | (simp_all;done) | (simp_all;omega)),⟨O,Ap⟩⟩)
 rintro _ ⟨q1,rfl,hq1⟩;refine Av O (fun c1=>?_) (fun c1=>?_)
 ·refine Au Ay 1 [] O (A1 (⟨O,_,_,⟨_,_,O,O,O⟩,(List.nil_sublist _),?_⟩))
  all_goals exact⟨⟨_,rfl,by first | exact fun h=>absurd h Am | exact fun h=>⟨hf,hi,hn,by simp only[beq_iff_eq,decide_eq_true_eq] at *;intro _;omega,by simp only[beq_iff_eq,decide_eq_true_eq] at *;intro _ _;omega⟩⟩,rfl⟩
 have hi:=hq1 (by simpa using c1);refine A2 (As (As (BT [1] 40 (fun y=>∃b:Bool,y= .p (.bool b)∧(b=false→tn≠⟨#[]⟩→tk=3)) ?_ ?_)))
 ·refine A3 (Ax Ay 2 [0] O (Aq O (JJ O O) (Br O (BO 36 O (fun g=>?_) (fun g=>?_)))))
  ·simp only[sd,se] at g;exact Ar Ay 4 [0] O (⟨O,O,AM,(by refine⟨_,rfl,fun h hne=>?_⟩;first | exact absurd (F3 g) hne | (simp only[bne_eq_false_iff_eq] at h;exact h)),⟨O,Ap⟩⟩)
  simp only[sd,se] at g;exact Ar Ay 4 [] O (⟨O,O,AM,(by refine⟨_,rfl,fun h hne=>?_⟩;first | exact absurd (F3 g) hne | (simp only[bne_eq_false_iff_eq] at h;exact h)),⟨O,Ap⟩⟩)
 rintro _ ⟨q2,rfl,hq2⟩;refine Av O (fun c2=>?_) (fun c2=>?_)
 ·refine Au Ay 1 [] O (A1 (⟨O,_,_,⟨_,_,O,O,O⟩,(List.nil_sublist _),?_⟩))
  all_goals exact⟨⟨_,rfl,by first | exact fun h=>absurd h Am | exact fun h=>⟨hf,hi,hn,by simp only[beq_iff_eq,decide_eq_true_eq] at *;intro _;omega,by simp only[beq_iff_eq,decide_eq_true_eq] at *;intro _ _;omega⟩⟩,rfl⟩
 have hn:=hq2 (by simpa using c2);refine A2 (As (Au Ay 3 [0] O (Av O (fun c3=>?_) (fun c3=>?_))))
 ·simp only[sd,se] at c3;refine Aw (Ax Ay 2 [0] O (Aq O (BJ EV O (List.length_map _)) (Ar Ay 2 [] O (A1 (⟨O,_,_,⟨_,_,O,O,O⟩,(List.nil_sublist _),?_⟩)))))
  all_goals exact⟨⟨_,rfl,by first | exact fun h=>absurd h Am | exact fun h=>⟨hf,hi,hn,by simp only[beq_iff_eq,decide_eq_true_eq] at *;intro _;omega,by simp only[beq_iff_eq,decide_eq_true_eq] at *;intro _ _;omega⟩⟩,rfl⟩
 simp only[sd,se] at c3;refine A2 (Aw (Ax Ay 2 [0] O (Aq O (BJ EV O (List.length_map _)) (Ax Ay 2 [] O (BO 52 O (fun g=>?_) (fun g=>?_))))))
 ·simp only[sd,se] at g;refine Ar Ay 5 [] O (A1 (⟨O,_,_,⟨_,_,O,O,O⟩,(List.nil_sublist _),?_⟩))
  all_goals exact⟨⟨_,rfl,by first | exact fun h=>absurd h Am | exact fun h=>⟨hf,hi,hn,by simp only[beq_iff_eq,decide_eq_true_eq] at *;intro _;omega,by simp only[beq_iff_eq,decide_eq_true_eq] at *;intro _ _;omega⟩⟩,rfl⟩
 simp only[sd,se] at g;refine Ar Ay 5 [0] O (A1 (⟨O,_,_,⟨_,_,O,O,O⟩,(List.nil_sublist _),?_⟩))
 all_goals exact⟨⟨_,rfl,by first | exact fun h=>absurd h Am | exact fun h=>⟨hf,hi,hn,by simp only[beq_iff_eq,decide_eq_true_eq] at *;intro _;omega,by simp only[beq_iff_eq,decide_eq_true_eq] at *;intro _ _;omega⟩⟩,rfl⟩
theorem _root_.Go.AB {α:Prop}(h:α:=by repeat' first | exact trivial | refine And.intro ?_ ?_ | ((refine Or.inr (And.intro ?_ ?_)<;>repeat (first | exact List.Mem.head _ | apply List.Mem.tail));done) | exact Or.inl (by kernel_rfl)):α:=h
theorem _root_.Go.Ak {α:Prop}(h:α:=by assumption):α:=h
theorem kj:∀(n:Nat) (t:Tm) (d vars params metas levels:Int),(size t≤n)→(Nd t)→(0≤d)→(d+n<DY)→Gp Tryz.prog 92 [.agg ((BP t).map .p),.p (I d),.p (I vars),.p (I params),.p (I metas),.p (I levels)] (fun v=>∃ee:Int,v= .p (I ee)∧(ee=0→wf vars metas d t∧Cw t)):=by
 intro n
 induction n with
 | zero=>intro t d vars params metas levels h;cases t;simp[size] at h
 | succ n ih =>
  intro t d vars params metas levels h1 h2 h3 h4;simp only[DY] at h4;obtain⟨tk,ti,tn,tl,ts⟩:=t;simp only[size] at h1;simp only[Nd,JE,DY] at h2;have hks:=Dx ts;refine A5 Tryz.func92 O ue (n:=107) O O (Aw (BF O (BN O) fun b6=>Ar Ay 1 [] O (As (Aw (Aq O (BU (i:=0) BZ O O O) (Du O O (CI O O (nz (.mk tk ti tn tl ts:Tm)) (.inl O)) ?_))))));rintro _ ⟨q,rfl,hq⟩;refine Ar Ay 1 [] O (Av O (fun c=>?_) (fun c=>?_))
  ·simp only[sd,se] at c;refine Au Ay 1 [] O (A1 (⟨O,_,_,⟨_,_,O,O,O⟩,(List.nil_sublist _),?_⟩))
   all_goals exact⟨⟨_,rfl,by first | exact fun h=>absurd h Am | exact fun h=>absurd h Ak | exact fun _=>⟨⟨hf.1,hf.2.1,hf.2.2,hv1,hv2,LJ fun j x hx=>by have h9:=(hC j (by have:=(List.getElem?_eq_some_iff.1 hx).1;omega) x hx).1;simpa using h9⟩,hcn,LA fun x hx=>by obtain⟨j,hj⟩:=List.mem_iff_getElem?.1 hx;exact(hC j (by have:=(List.getElem?_eq_some_iff.1 hj).1;omega) x hj).2⟩⟩,rfl⟩
  simp only[sd,se] at c;obtain⟨hf,hcn⟩:=hq (by simpa using c);refine A2 (As (As (BT [1,2,3,4,5,6] 28 Kp ?_ ?_)))
  ·refine A3 (Ax Ay 4 [0] O (BO 23 O (fun g=>?_) (fun g=>?_)))
   ·simp only[sd,se] at g;refine Ax Ay 2 [0] O (IN O O O O (CI O O (gL tn h2.1) (.inl O)) ?_);rintro _ ⟨q1,rfl⟩;exact Ar Ay 2 [] O (⟨O,O,AM,⟨_,O⟩,⟨O,O,O,O,O,O,Ap⟩⟩)
   simp only[sd,se] at g;exact Ar Ay 5 [] O (⟨O,O,AM,⟨_,O⟩,⟨O,O,O,O,O,O,Ap⟩⟩)
  rintro _ ⟨q1,rfl⟩;refine Av O (fun c1=>?_) (fun c1=>?_)
  ·refine Au Ay 1 [] O (A1 (⟨O,_,_,⟨_,_,O,O,O⟩,(List.nil_sublist _),?_⟩))
   all_goals exact⟨⟨_,rfl,by first | exact fun h=>absurd h Am | exact fun h=>absurd h Ak | exact fun _=>⟨⟨hf.1,hf.2.1,hf.2.2,hv1,hv2,LJ fun j x hx=>by have h9:=(hC j (by have:=(List.getElem?_eq_some_iff.1 hx).1;omega) x hx).1;simpa using h9⟩,hcn,LA fun x hx=>by obtain⟨j,hj⟩:=List.mem_iff_getElem?.1 hx;exact(hC j (by have:=(List.getElem?_eq_some_iff.1 hj).1;omega) x hj).2⟩⟩,rfl⟩
  refine A2 (As (Aw (Ax Ay 2 [0] O (Aq O (BJ EV O (List.length_map _)) (Ar Ay 1 [] O (Av O (fun c2=>?_) (fun c2=>?_)))))))
  ·simp only[sd,se] at c2;refine Au Ay 1 [] O (A1 (⟨O,_,_,⟨_,_,O,O,O⟩,(List.nil_sublist _),?_⟩))
   all_goals exact⟨⟨_,rfl,by first | exact fun h=>absurd h Am | exact fun h=>absurd h Ak | exact fun _=>⟨⟨hf.1,hf.2.1,hf.2.2,hv1,hv2,LJ fun j x hx=>by have h9:=(hC j (by have:=(List.getElem?_eq_some_iff.1 hx).1;omega) x hx).1;simpa using h9⟩,hcn,LA fun x hx=>by obtain⟨j,hj⟩:=List.mem_iff_getElem?.1 hx;exact(hC j (by have:=(List.getElem?_eq_some_iff.1 hj).1;omega) x hj).2⟩⟩,rfl⟩
  simp only[sd,se] at c2;refine A2 (As (Au Ay 1 [] O (A9 (Bc (α:=Nat) (fun i=>⟨107,mk [(1,.p (I d)),(2,.p (I vars)),(3,.p (I params)),(4,.p (I metas)),(5,.p (I levels)),(6,.ptr b6 0),(13,.p (I (i:Int)))],[.box b6 [.p (I tk),.p (I ti),.p (.str tn),.p (.lst (List.map By tl)),.p (.lst (BE ts))]],[]⟩) (fun i=>tl.length - i) (fun i=>i≤tl.length) 0 AQ ?_ ?_))))
  ·exact BS ⟨we O,we O,we O,we O,we O,we O,we O,Ap⟩ (leH (is:=[0]) O (wl (oe O) (C2)))
  rintro i hC
  try simp only at hC
  have hi:=hC;refine As (Aw (Ax Ay 3 [0] O (Aq O (BJ EV O (List.length_map _)) (Ar Ay 1 [] O (Av O (fun c3=>?_) (fun c3=>?_))))))
  ·simp only[sd,se] at c3;refine A2 (As (A9 (Aw (Ax Ay 3 [0] O ?_))));obtain⟨x,hx⟩:=A6 (l:=tl) (i:=i) An;refine Aq O (A4 EV O O An (Fu hx) (Dg _)) (Ax Ay 3 [] O (Du O O (CI O O (mU x params levels (h2.2.2.1 _ (List.mem_of_getElem? hx))) (.inl O)) ?_));rintro _ ⟨le,rfl⟩;refine Ar Ay 1 [] O (Au Ay 2 [] O (Av O (fun c4=>?_) (fun c4=>?_)))
   ·simp only[sd,se] at c4;refine Au Ay 2 [] O (A1 (⟨O,_,_,⟨_,_,O,O,O⟩,(List.nil_sublist _),?_⟩))
    all_goals exact⟨⟨_,rfl,by first | exact fun h=>absurd h Am | exact fun h=>absurd h Ak | exact fun _=>⟨⟨hf.1,hf.2.1,hf.2.2,hv1,hv2,LJ fun j x hx=>by have h9:=(hC j (by have:=(List.getElem?_eq_some_iff.1 hx).1;omega) x hx).1;simpa using h9⟩,hcn,LA fun x hx=>by obtain⟨j,hj⟩:=List.mem_iff_getElem?.1 hx;exact(hC j (by have:=(List.getElem?_eq_some_iff.1 hj).1;omega) x hj).2⟩⟩,rfl⟩
   simp only[sd,se] at c4;refine A2 (A3 (Ar Ay 3 [] O ?_));refine⟨(i+1),AW,by omega,BS ⟨we rfl,we rfl,we rfl,we rfl,we rfl,we rfl,we rfl,trivial⟩ (leH (is:=[0]) rfl (wl (oe rfl) (C2)))⟩
  simp only[sd,se] at c3;refine Be (As (As (BT [1,2,3,4,5,6] 66 (fun y=>∃b:Bool,y= .p (.bool b)∧(b=false→tk=0→0≤ti∧ti - d<vars)) ?_ ?_)))
  ·refine A3 (Ax Ay 4 [0] O (BO 54 O (fun g=>?_) (fun g=>?_)))
   ·simp only[sd,se] at g;refine Ax Ay 4 [0] O (BO 58 O (fun g1=>?_) (fun g1=>?_))
    ·simp only[sd,se] at g1;refine Ar Ay 8 [] O ?_;exact⟨rfl,rfl,AM,(by refine⟨_,rfl,fun h=>?_⟩;first | (simp_all;done) | (simp_all<;>omega)),⟨rfl,rfl,rfl,rfl,rfl,rfl,trivial⟩⟩
    simp only[sd,se] at g1;refine Ar Ay 8 [0] O ?_;exact⟨rfl,rfl,AM,(by refine⟨_,rfl,fun h=>?_⟩;first | (simp_all;done) | (simp_all<;>omega)),⟨rfl,rfl,rfl,rfl,rfl,rfl,trivial⟩⟩
   simp only[sd,se] at g;refine Ar Ay 12 [] O ?_;exact⟨rfl,rfl,AM,(by refine⟨_,rfl,fun h=>?_⟩;first | (simp_all;done) | (simp_all<;>omega)),⟨rfl,rfl,rfl,rfl,rfl,rfl,trivial⟩⟩
  rintro _ ⟨r,rfl,hr⟩;refine Av O (fun c4=>?_) (fun c4=>?_)
  ·refine Au Ay 1 [] O (A1 (⟨O,_,_,⟨_,_,O,O,O⟩,(List.nil_sublist _),?_⟩))
   all_goals exact⟨⟨_,rfl,by first | exact fun h=>absurd h Am | exact fun h=>absurd h Ak | exact fun _=>⟨⟨hf.1,hf.2.1,hf.2.2,hv1,hv2,LJ fun j x hx=>by have h9:=(hC j (by have:=(List.getElem?_eq_some_iff.1 hx).1;omega) x hx).1;simpa using h9⟩,hcn,LA fun x hx=>by obtain⟨j,hj⟩:=List.mem_iff_getElem?.1 hx;exact(hC j (by have:=(List.getElem?_eq_some_iff.1 hj).1;omega) x hj).2⟩⟩,rfl⟩
  have hv1:=hr (by simpa using c4);refine A2 (As (As (BT [1,2,3,4,5,6] 80 (fun y=>∃b:Bool,y= .p (.bool b)∧(b=false→tk=12→0≤ti∧ti<metas)) ?_ ?_)))
  ·refine A3 (Ax Ay 4 [0] O (BO 70 O (fun g=>?_) (fun g=>?_)))
   ·simp only[sd,se] at g;refine Ax Ay 4 [0] O (BO 74 O (fun g1=>?_) (fun g1=>?_))
    ·simp only[sd,se] at g1;refine Ar Ay 6 [] O ?_;exact⟨rfl,rfl,AM,(by refine⟨_,rfl,fun h=>?_⟩;first | (simp_all;done) | (simp_all<;>omega)),⟨rfl,rfl,rfl,rfl,rfl,rfl,trivial⟩⟩
    simp only[sd,se] at g1;refine Ar Ay 6 [0] O ?_;exact⟨rfl,rfl,AM,(by refine⟨_,rfl,fun h=>?_⟩;first | (simp_all;done) | (simp_all<;>omega)),⟨rfl,rfl,rfl,rfl,rfl,rfl,trivial⟩⟩
   simp only[sd,se] at g;refine Ar Ay 10 [] O ?_;exact⟨rfl,rfl,AM,(by refine⟨_,rfl,fun h=>?_⟩;first | (simp_all;done) | (simp_all<;>omega)),⟨rfl,rfl,rfl,rfl,rfl,rfl,trivial⟩⟩
  rintro _ ⟨r2,rfl,hr2⟩;refine Av O (fun c5=>?_) (fun c5=>?_)
  ·refine Au Ay 1 [] O (A1 (⟨O,_,_,⟨_,_,O,O,O⟩,(List.nil_sublist _),?_⟩))
   all_goals exact⟨⟨_,rfl,by first | exact fun h=>absurd h Am | exact fun h=>absurd h Ak | exact fun _=>⟨⟨hf.1,hf.2.1,hf.2.2,hv1,hv2,LJ fun j x hx=>by have h9:=(hC j (by have:=(List.getElem?_eq_some_iff.1 hx).1;omega) x hx).1;simpa using h9⟩,hcn,LA fun x hx=>by obtain⟨j,hj⟩:=List.mem_iff_getElem?.1 hx;exact(hC j (by have:=(List.getElem?_eq_some_iff.1 hj).1;omega) x hj).2⟩⟩,rfl⟩
  have hv2:=hr2 (by simpa using c5);refine A2 (As (Au Ay 1 [] O (A9 ?_)));refine Bc (α:=Nat) (fun i=>⟨107,mk [(1,.p (I d)),(2,.p (I vars)),(3,.p (I params)),(4,.p (I metas)),(5,.p (I levels)),(6,.ptr b6 0),(15,.p (I (i:Int)))],[.box b6 [.p (I tk),.p (I ti),.p (.str tn),.p (.lst (List.map By tl)),.p (.lst (BE ts))]],[]⟩) (fun i=>ts.length - i) (fun i=>i≤ts.length∧(∀j,j<i→∀x,ts[j]?=some x→wf vars metas (d+below tk j) x∧Cw x)) 0 (⟨by omega,fun j h=>by omega⟩) ?_ ?_
  ·exact BS ⟨we O,we O,we O,we O,we O,we O,we O,Ap⟩ (leH (is:=[0]) O (wl (oe O) (C2)))
  rintro i hC1
  try simp only at hC1
  obtain⟨hi,hC⟩:=hC1;have hbl:=Cf tk i;refine As (Aw (Ax Ay 3 [0] O (Aq O (BJ Bf O (BQ _)) (Ar Ay 1 [] O (Av O (fun c6=>?_) (fun c6=>?_))))))
  ·simp only[sd,se] at c6;refine A2 (As (A9 (As (Bt (fun k=>Nat.beq k 15) Dn (BR Ay 3 [0] O ?_)))));obtain⟨x,hx⟩:=A6 (l:=ts) (i:=i) An;refine BG O (fun _=>A4 Bf O O An (Bd hx) (BD _)) Ap (BR Ay 5 [0] O (BG O (fun _=>BC O O (WX tk (i:Int)) O) Ap (BR Ay 5 [] O (LO [] O O (CI O O (ih x ((d:Int)+(below tk (i:Int):Int)) vars params metas levels (by have:=Cb hx;omega) (DX h2.2.2.2.2.1 hx) (by have:=Cf tk i;omega) (by have:=Cf tk i;simp only[DY];omega)) (.inl O)) Aj (⟨_,1,O,fun h=>absurd h Am⟩) AB ?_))));rintro _ ⟨e,rfl,he⟩;refine⟨Ap,?_⟩;refine Bk Ay 1 [] O (Au Ay 2 [] O (Av O (fun c7=>?_) (fun c7=>?_)))
   ·simp only[sd,se] at c7;refine Au Ay 2 [] O (A1 (⟨O,_,_,⟨_,_,O,O,O⟩,(List.nil_sublist _),?_⟩))
    all_goals exact⟨⟨_,rfl,by first | exact fun h=>absurd h Am | exact fun h=>absurd h Ak | exact fun _=>⟨⟨hf.1,hf.2.1,hf.2.2,hv1,hv2,LJ fun j x hx=>by have h9:=(hC j (by have:=(List.getElem?_eq_some_iff.1 hx).1;omega) x hx).1;simpa using h9⟩,hcn,LA fun x hx=>by obtain⟨j,hj⟩:=List.mem_iff_getElem?.1 hx;exact(hC j (by have:=(List.getElem?_eq_some_iff.1 hj).1;omega) x hj).2⟩⟩,rfl⟩
   simp only[sd,se] at c7;refine A2 (A3 (Ar Ay 3 [] O (⟨(i+1),AW,⟨by omega,Cx hC hx (he An)⟩,BS ⟨we rfl,we rfl,we rfl,we rfl,we rfl,we rfl,we rfl,trivial⟩ (leH (is:=[0]) rfl (wl (oe rfl) (C2)))⟩)))
  simp only[sd,se] at c6;refine Be (Au Ay 1 [] O (A1 (⟨O,_,_,⟨_,_,O,O,O⟩,(List.nil_sublist _),?_⟩)))
  all_goals exact⟨⟨_,rfl,by first | exact fun h=>absurd h Am | exact fun h=>absurd h Ak | exact fun _=>⟨⟨hf.1,hf.2.1,hf.2.2,hv1,hv2,LJ fun j x hx=>by have h9:=(hC j (by have:=(List.getElem?_eq_some_iff.1 hx).1;omega) x hx).1;simpa using h9⟩,hcn,LA fun x hx=>by obtain⟨j,hj⟩:=List.mem_iff_getElem?.1 hx;exact(hC j (by have:=(List.getElem?_eq_some_iff.1 hj).1;omega) x hj).2⟩⟩,rfl⟩
end Go.Proofs.YtboammbpdaoojaaGreat
namespace Go.Eu
open Go.Abs
def I3 (TA:Fq→List BK) (T0:List BK) (nm:ByteArray) (l:List (ByteArray×Fq)):List BK:=match Cm nm l with
 | some e=>TA e
 | none=>T0
section
variable {TA:Fq→List BK}{T0:List BK}{nm:ByteArray}{d:B5}{i:Int}{j:Nat}
theorem ZA (h:d.kind=0∨d.kind=1∨d.kind=2):I3 TA T0 nm (Ew d i)=if d.name=nm then TA ⟨d.kind,i,0,d.params,d.type⟩ else T0:=by
 unfold I3 Ew;rw[if_pos h];simp only[Cm];by_cases e:d.name=nm<;>simp[e]
theorem eg (h:d.kind=3) (hn:d.name=nm):I3 TA T0 nm (Ew d i)=TA ⟨3,i,0,d.params,d.type⟩:=by
 unfold I3 Ew;rw[if_neg An,if_pos h];simp only[Cm,if_pos hn]
theorem ZE (h:d.kind=3) (hn:¬d.name=nm) {c:IS}(hx:d.ctors[j]?=some c) (he:c.name=nm) (hb:∀q,q<j→∀y,d.ctors[q]?=some y→y.name≠nm):I3 TA T0 nm (Ew d i)=TA ⟨4,i,j,d.params,c.type⟩:=by
 unfold I3 Ew;rw[if_neg An,if_pos h];simp only[Cm,if_neg hn,K7,Pw hx he hb,Int.zero_add]
theorem dB (h:d.kind=3) (hn:¬d.name=nm) (hb:∀q:Nat,q<d.ctors.length→∀y,d.ctors[q]?=some y→y.name≠nm):I3 TA T0 nm (Ew d i)=if V7 d.name=nm then TA ⟨5,i,0,d.recs.params,d.recs.type⟩ else T0:=by
 unfold I3 Ew;rw[if_neg An,if_pos h];simp only[Cm,if_neg hn,K7,Nt hb];by_cases e:V7 d.name=nm<;>simp[e]
theorem eC (h:d.kind=4) {c:Hp}(hx:d.funs[j]?=some c) (he:c.name=nm) (hb:∀q,q<j→∀y,d.funs[q]?=some y→y.name≠nm):I3 TA T0 nm (Ew d i)=TA ⟨6,i,j,d.params,c.type⟩:=by
 unfold I3 Ew;rw[if_neg An,if_neg An,if_pos h];simp only[Sh hx he hb,Int.zero_add]
theorem Yt (h:d.kind=4) (hb:∀q:Nat,q<d.funs.length→∀y,d.funs[q]?=some y→y.name≠nm):I3 TA T0 nm (Ew d i)=T0:=by
 unfold I3 Ew;rw[if_neg An,if_neg An,if_pos h];simp only[PU hb]
theorem Z6 (h:¬(d.kind=0∨d.kind=1∨d.kind=2)) (h3:¬d.kind=3) (h4:¬d.kind=4):I3 TA T0 nm (Ew d i)=T0:=by
 unfold I3 Ew;rw[if_neg h,if_neg h3,if_neg h4];rfl
theorem gZ (h:d.kind=0∨d.kind=1∨d.kind=2):(d.name,(⟨d.kind,i,0,d.params,d.type⟩:Fq))∈Ew d i:=by
 unfold Ew;rw[if_pos h];simp
theorem mS (h:d.kind=3):(d.name,(⟨3,i,0,d.params,d.type⟩:Fq))∈Ew d i:=by
 unfold Ew;rw[if_neg An,if_pos h];simp
theorem im (h:d.kind=3) {c:IS}(hx:d.ctors[j]?=some c):(c.name,(⟨4,i,j,d.params,c.type⟩:Fq))∈Ew d i:=by
 unfold Ew;rw[if_neg An,if_pos h];have:=U0 (i:=i) (p:=d.params) (k:=0) hx;rw[Int.zero_add] at this;simp[this]
theorem kv (h:d.kind=3):(V7 d.name,(⟨5,i,0,d.recs.params,d.recs.type⟩:Fq))∈Ew d i:=by
 unfold Ew;rw[if_neg An,if_pos h];simp
theorem kp (h:d.kind=4) {c:Hp}(hx:d.funs[j]?=some c):(c.name,(⟨6,i,j,d.params,c.type⟩:Fq))∈Ew d i:=by
 unfold Ew;rw[if_neg An,if_neg An,if_pos h];have:=Wz (i:=i) (p:=d.params) (k:=0) hx
 rwa [Int.zero_add] at this
end
theorem XS {nm:ByteArray}{e:Fq}:∀{ds:List B5}{i:Nat}{k:Int}{d:B5},ds[i]?=some d→(∀j,j<i→∀y,ds[j]?=some y→Cm nm (Ew y (k+j))=none)→Cm nm (Ew d (k+i))=some e→findF nm ds k=some e
 | [],i,k,d,h,_,_=>by simp at h
 | a::ds,0,k,d,h,_,hn=>by
  simp at h;subst h;rw[findF];rw[show k+((0:Nat):Int)=k by omega] at hn;rw[hn]
 | a::ds,i+1,k,d,h,hb,hn=>by
  have h0:=hb 0 An a rfl;rw[show k+((0:Nat):Int)=k by omega] at h0;rw[findF,h0];exact XS (by simpa using h) (fun j hj y hy=>by have:=hb (j+1) An y (by simpa using hy);rwa [show k+((j+1:Nat):Int)=k+1+j by omega] at this) (by rwa [show k+((i+1:Nat):Int)=k+1+i by omega] at hn)
theorem XI {nm:ByteArray}:∀{ds:List B5}{k:Int},(∀j,j<ds.length→∀y,ds[j]?=some y→Cm nm (Ew y (k+j))=none)→findF nm ds k=none
 | [],k,_=>rfl
 | a::ds,k,hb=>by
  have h0:=hb 0 Ao a rfl;rw[show k+((0:Nat):Int)=k by omega] at h0;rw[findF,h0];exact XI fun j hj y hy=>by have:=hb (j+1) (by simpa using hj) y (by simpa using hy);rwa [show k+((j+1:Nat):Int)=k+1+j by omega] at this
theorem jx {nm:ByteArray}{e:Fq}{ds:List B5}{i:Nat}{d:B5}(hx:ds[i]?=some d) (hb:∀j,j<i→∀y,ds[j]?=some y→Cm nm (Ew y j)=none) (he:Cm nm (Ew d i)=some e):Bb ds nm=(e,0):=by
 rw[Bb,XS hx (fun j hj y hy=>by rw[Int.zero_add];exact hb j hj y hy) (by rwa [Int.zero_add])]
theorem ic {nm:ByteArray}{ds:List B5}(hb:∀j,j<ds.length→∀y,ds[j]?=some y→Cm nm (Ew y j)=none):Bb ds nm=(ie,9):=by
 rw[Bb,XI fun j hj y hy=>by rw[Int.zero_add];exact hb j hj y hy]
def wF (ds:List B5):Prop:=∀d∈ds,d.kind=0∨Ox d
end Go.Eu
namespace Go.Proofs.YtboammbpdaoojaaGreat
open Go.Abs Go.Eu
theorem WY:∀(l:List ByteArray) (s:ByteArray),(l.length<9000000)→ET Tryz.prog 56 [.p (.lst (List.map Gr l)),.p (.str s)] (.p (.bool (HT l s))):=by
 intro l s h1;refine A5 Tryz.func56 O wP (n:=18) O O (Au Ay 1 [] O (As (Au Ay 1 [] O (A9 ?_))));refine Bc (α:=Nat) (fun i=>⟨18,mk [(0,.p (.lst (List.map Gr l))),(1,.p (.str s)),(5,.p (I (i:Int)))],[],[]⟩) (fun i=>l.length - i) (fun i=>i≤l.length∧(∀j,j<i→∀y,l[j]?=some y→y≠s)) 0 (⟨by omega,fun j h=>by omega⟩) ?_ ?_
 ·exact BS ⟨we O,we O,we O,Ap⟩ (leH (is:=[]) O (C2))
 rintro i hC
 try simp only at hC
 obtain⟨hi,hC⟩:=hC;refine As (Aw (Ax Ay 2 [] O (Aq O (BJ Gq O (List.length_map _)) (Ar Ay 1 [] O (Av O (fun c=>?_) (fun c=>?_))))))
 ·simp only[sd,se] at c;refine A2 (As (A9 (Aw (Ax Ay 2 [] O ?_))));obtain⟨x,hx⟩:=A6 (l:=l) (i:=i) An;refine Aq O (A4 Gq O O An (O2 hx) (O)) (Ax Ay 2 [] O (Aq O (FV O O) (Bg O (Av O (fun c1=>?_) (fun c1=>?_)))))
  ·simp only[sd,se] at c1;refine Au Ay 1 [] O (A1 (⟨O,_,_,⟨_,_,O,O,O⟩,(List.nil_sublist _),?_⟩))
   all_goals exact⟨by show (.p (.bool true):AV)=_;rw[gG hx (F3 (by simpa using c1))],rfl⟩
  simp only[sd,se] at c1;refine A2 (A3 (Ar Ay 3 [] O ?_));refine⟨(i+1),AW,⟨by omega,Cx (p:=fun _ (y:ByteArray)=>y≠s) hC hx (fun e=>by subst e;simp at c1)⟩,BS ⟨we rfl,we rfl,we rfl,trivial⟩ (leH (is:=[]) rfl (C2))⟩
 simp only[sd,se] at c;refine Be (Au Ay 1 [] O (A1 (⟨O,_,_,⟨_,_,O,O,O⟩,(List.nil_sublist _),?_⟩)))
 all_goals exact⟨by show (.p (.bool false):AV)=_;rw[cw fun j hj=>hC j An],rfl⟩
theorem _root_.Go.AE {α:Prop}(h:α:=by simp only[List.length_map,List.length_append,List.length_cons,List.length_nil,List.length_take];omega):α:=h
theorem Mn:∀(d:B5),(d.ctors.length<2000000)→(d.funs.length<2000000)→(d.name.size<2000000)→ET Tryz.prog 57 [.agg ((Bi d).map .p)] (.p (.lst (List.map Gr (C4 d)))):=by
 intro d h1 h2 h3;refine A5 Tryz.func57 O vN (n:=62) O O (Aw (BF O (BN O) fun b1=>Ar Ay 1 [] O (As (Aw (Aq O (Az C5 O O) (Aq O (A0 (i:=0) DM O O (Dz _)) (Bg O (A9 (As (Au Ay 2 [] O (BT [1,8] 9 (fun y=>y= .p (.bool (decide (d.kind=0∨d.kind=1∨d.kind=2)))) ?_ ?_)))))))))))
 ·refine Av O (fun c=>?_) (fun c=>?_)
  ·simp only[sd,se] at c;exact A2 (⟨O,O,(List.Sublist.refl _),(by refine pB (Bool.eq_iff_iff.2 ?_);simp only[beq_iff_eq,decide_eq_true_eq];omega),⟨O,O,Ap⟩⟩)
  simp only[sd,se] at c;refine Au Ay 2 [] O (Av O (fun c1=>?_) (fun c1=>?_))
  ·simp only[sd,se] at c1;exact A2 (⟨O,O,(List.Sublist.refl _),(by refine pB (Bool.eq_iff_iff.2 ?_);simp only[beq_iff_eq,decide_eq_true_eq];omega),⟨O,O,Ap⟩⟩)
  simp only[sd,se] at c1;exact A3 (Ar Ay 2 [] O (⟨O,O,(List.Sublist.refl _),(by refine pB (Bool.eq_iff_iff.2 ?_);simp only[beq_iff_eq,decide_eq_true_eq];omega),⟨O,O,Ap⟩⟩))
 rintro _ rfl;refine Av O (fun c=>?_) (fun c=>?_)
 ·simp only[sd,se] at c;refine Aw (Aq O (Az C5 O O) (Aq O (A0 (i:=0) MI O O (DF _)) (Aq O (Bl Gq lN O O O O O) (Ar Ay 1 [] O (A1 (⟨O,_,_,⟨_,_,O,O,O⟩,(List.nil_sublist _),?_⟩))))))
  all_goals exact⟨by show (.p (.lst (List.map Gr [d.name])):AV)=_;rw[C4,if_pos (by simpa using c)],rfl⟩
 simp only[sd,se] at c;refine Au Ay 2 [] O (Av O (fun c1=>?_) (fun c1=>?_))
 ·simp only[sd,se] at c1;refine Aw (Aq O (Az C5 O O) (Aq O (A0 (i:=0) MI O O (DF _)) (Sa O O (Qo (rows:=List.map Gr [d.name]) Gq lN O O O O O) fun b20 cp=>Ar Ay 1 [] O (As (Au Ay 1 [] O (A9 (Bc (α:=Nat×Option Nat×Nat) (fun(i,o,cp1)=>⟨62,mk [(1,.ptr b1 0),(3,.vs o (List.map Gr (d.name::(d.ctors.take i).map IS.name)).length cp1),(4,.p (I (i:Int)))],[.vec o 1 (List.map Gr (d.name::(d.ctors.take i).map IS.name)) cp1,.box b1 ((Bi d).map .p)],[]⟩) (fun(i,o,cp1)=>d.ctors.length - i) (fun(i,o,cp1)=>i≤d.ctors.length) ⟨0,(some b20),cp⟩ AQ ?_ ?_)))))))
  ·exact BS ⟨we O,we O,we O,Ap⟩ (leH (is:=[0,1]) O (wl (oe O) (wl (oe O) (C2))))
  rintro⟨i,o,cp1⟩ hC
  try simp only at hC
  have hi:=hC;refine As (Aw (Ax Ay 2 [] O (Aq O (A0 (i:=1) H4 O O (CC _)) (Aq O (BJ Hc O (List.length_map _)) (Ar Ay 1 [] O (Av O (fun c2=>?_) (fun c2=>?_)))))))
  ·simp only[sd,se] at c2;refine A2 (As (A9 (A3 (Ax Ay 2 [] O (Aq O (A0 (i:=1) H4 O O (CC _)) (Br O ?_))))));obtain⟨x,hx⟩:=A6 (l:=d.ctors) (i:=i) An;refine Aq O (A4 Hc O O An (Em hx) (EE _)) (Aq O (B1 Jh O O) (Aq O (DB MI O (Fg _)) (Aq O (Bl Gq lN O O O O O) (FP O O (CR (i:=0) (rows':=List.map Gr [x.name]) Gq Gq lN O O O O O O (Kt _) AE (GP (f:=Gr) (d.name::(d.ctors.take i).map IS.name) [x.name])) fun o1 cp2=>Ar Ay 1 [] O (A3 (Ar Ay 3 [] O ?_))))));refine⟨⟨i+1,o1,cp2⟩,AW,by omega,BS ⟨we rfl,we (Gb (f:=Gr) ((d.name::(d.ctors.take i).map IS.name)++[x.name]) (by simp[List.take_add_one,hx])),we rfl,trivial⟩ (leH (is:=[0,1]) rfl (wl (Fl (f:=Gr) ((d.name::(d.ctors.take i).map IS.name)++[x.name]) (by simp[List.take_add_one,hx])) (wl (oe rfl) (C2))))⟩
  simp only[sd,se] at c2;refine Be (Aw (Ax Ay 2 [] O (Aq O (A0 (i:=1) MI O O (DF _)) (Aq O (RZ O O (by have:(⟨#[46,114,101,99]⟩:ByteArray).size=4:=rfl;omega)) (Aq O (Bl Gq lN O O O O O) (FP O O (CR (i:=0) (rows':=List.map Gr ([(d.name++⟨#[46,114,101,99]⟩)])) Gq Gq lN O O O O O O (Kt _) AE (GP (f:=Gr) (d.name::(d.ctors.take i).map IS.name) ([(d.name++⟨#[46,114,101,99]⟩)]))) fun o1 cp2=>Ar Ay 1 [] O (BH (Ck (i:=0) [42,2] O (D5 ⟨O,O,Ap⟩)) (A1 (⟨O,_,_,⟨_,_,O,O,O⟩,(List.nil_sublist _),?_⟩)))))))))
  all_goals exact⟨by show (.p (.lst (List.map Gr ((d.name::(d.ctors.take i).map IS.name)++([(d.name++⟨#[46,114,101,99]⟩)])))):AV)=_;rw[C4,if_neg (by simpa using c),if_pos (by simpa using c1),List.take_of_length_le An];rfl,rfl⟩
 simp only[sd,se] at c1;refine Au Ay 2 [] O (Av O (fun c2=>?_) (fun c2=>?_))
 ·simp only[sd,se] at c2;refine Au Ay 1 [] O (As (Au Ay 1 [] O (A9 (BH (EN (t:=5) (sz:=1) O) (Bc (α:=Nat×Option Nat×Nat) (fun(i,o,cp)=>⟨62,mk [(1,.ptr b1 0),(5,.vs o (List.map Gr ((d.funs.take i).map Hp.name)).length cp),(6,.p (I (i:Int)))],[.vec o 1 (List.map Gr ((d.funs.take i).map Hp.name)) cp,.box b1 ((Bi d).map .p)],[]⟩) (fun(i,o,cp)=>d.funs.length - i) (fun(i,o,cp)=>i≤d.funs.length) ⟨0,none,0⟩ AQ ?_ ?_)))))
  ·exact BS ⟨we O,we O,we O,Ap⟩ (leH (is:=[0,1]) O (wl (oe O) (wl (oe O) (C2))))
  rintro⟨i,o,cp⟩ hC
  try simp only at hC
  have hi:=hC;refine As (Aw (Ax Ay 2 [] O (Aq O (A0 (i:=1) Hq O O (CJ _)) (Aq O (BJ HV O (List.length_map _)) (Ar Ay 1 [] O (Av O (fun c3=>?_) (fun c3=>?_)))))))
  ·simp only[sd,se] at c3;refine A2 (As (A9 (A3 (Ax Ay 2 [] O (Aq O (A0 (i:=1) Hq O O (CJ _)) (Br O ?_))))));obtain⟨x,hx⟩:=A6 (l:=d.funs) (i:=i) An;refine Aq O (A4 HV O O An (EZ hx) (DZ _)) (Aq O (B1 HE O O) (Aq O (DB MI O (I7 _)) (Aq O (Bl Gq lN O O O O O) (FP O O (CR (i:=0) (rows':=List.map Gr [x.name]) Gq Gq lN O O O O O O (Kt _) AE (GP (f:=Gr) ((d.funs.take i).map Hp.name) [x.name])) fun o1 cp1=>Ar Ay 1 [] O (A3 (Ar Ay 3 [] O ?_))))));refine⟨⟨i+1,o1,cp1⟩,AW,by omega,BS ⟨we rfl,we (Gb (f:=Gr) (((d.funs.take i).map Hp.name)++[x.name]) (by simp[List.take_add_one,hx])),we rfl,trivial⟩ (leH (is:=[0,1]) rfl (wl (Fl (f:=Gr) (((d.funs.take i).map Hp.name)++[x.name]) (by simp[List.take_add_one,hx])) (wl (oe rfl) (C2))))⟩
  simp only[sd,se] at c3;refine Be (Au Ay 2 [] O (BH (Ck (i:=0) [5,61,2] O (D5 ⟨O,O,O,Ap⟩)) (A1 (⟨O,_,_,⟨_,_,O,O,O⟩,(List.nil_sublist _),?_⟩))))
  all_goals exact⟨by show (.p (.lst (List.map Gr ((d.funs.take i).map Hp.name))):AV)=_;rw[C4,if_neg (by simpa using c),if_neg (by simpa using c1),if_pos (by simpa using c2),List.take_of_length_le An],rfl⟩
 simp only[sd,se] at c2;refine A2 (Au Ay 1 [] O (BH (D3 2) (A1 (⟨O,_,_,⟨_,_,O,O,O⟩,(List.nil_sublist _),?_⟩))))
 all_goals exact⟨by show (.p (.lst (List.map Gr [])):AV)=_;rw[C4,if_neg (by simpa using c),if_neg (by simpa using c1),if_neg (by simpa using c2)],rfl⟩
theorem _root_.Go.Af {α:Prop}(h:α:=by simp[Yj]):α:=h
set_option maxHeartbeats 2000000 in
theorem UZ:∀(d:B5) (ix:Int) (nm:ByteArray),(d.ctors.length<2000000)→(d.funs.length<2000000)→ET Tryz.prog 58 [.agg ((Bi d).map .p),.p (I ix),.p (.str nm)] (.agg ((DS (Fj d ix nm)).map .p)):=by
 intro d ix nm h1 h2;refine A5 Tryz.func58 O ur (n:=96) O O (Aw (BF O (BN O) fun b3=>BF O (A7 IK O) fun b6=>Bg O (Aw (Ax Ay 2 [] O (Aq O (A0 (i:=1) DM O O (Cn _)) (Aq O (Az C5 O O) (Aq O (Bw (i:=1) BZ O O (E3 _) (BD _)) (Aq O (CO GO IK (fj O O O)) (BF O (A7 IK O) fun b7=>Ar Ay 1 [0,1] O (As (Aw (Aq O (Az C5 O O) (Aq O (A0 (i:=2) DM O O (Dz _)) (Bg O (A9 (Au Ay 2 [] O (Av O (fun c=>?_) (fun c=>?_))))))))))))))))))
 ·simp only[sd,se] at c;refine A3 (Aq O (Az GO O O) (Aq O (Dw (i:=0) (ds:=(DS (Fq.mk 0 ix 0 d.params d.type)).map .p) DM O O O O O O O) (Bg O (Au Ay 2 [0,1,1] O (A1 (⟨O,_,_,⟨_,_,O,(BA (i:=1) L3 O O Af),O⟩,(List.nil_sublist _),?_⟩))))))
  all_goals exact⟨by show (.agg ((DS (Fq.mk 0 ix 0 d.params d.type)).map .p):AV)=_;rw[Ns (.inl (by simpa using c)) (k:=0) (by simpa using c)],rfl⟩
 simp only[sd,se] at c;refine Au Ay 2 [] O (Av O (fun c1=>?_) (fun c1=>?_))
 ·simp only[sd,se] at c1;refine A3 (Aq O (Az GO O O) (Aq O (Dw (i:=0) (ds:=(DS (Fq.mk 1 ix 0 d.params d.type)).map .p) DM O O O O O O O) (Bg O (Au Ay 2 [0,1,1] O (A1 (⟨O,_,_,⟨_,_,O,(BA (i:=1) L3 O O Af),O⟩,(List.nil_sublist _),?_⟩))))))
  all_goals exact⟨by show (.agg ((DS (Fq.mk 1 ix 0 d.params d.type)).map .p):AV)=_;rw[Ns (.inr (.inl (by simpa using c1))) (k:=1) (by simpa using c1)],rfl⟩
 simp only[sd,se] at c1;refine Au Ay 2 [] O (Av O (fun c2=>?_) (fun c2=>?_))
 ·simp only[sd,se] at c2;refine A3 (Aq O (Az GO O O) (Aq O (Dw (i:=0) (ds:=(DS (Fq.mk 2 ix 0 d.params d.type)).map .p) DM O O O O O O O) (Bg O (Au Ay 2 [0,1,1] O (A1 (⟨O,_,_,⟨_,_,O,(BA (i:=1) L3 O O Af),O⟩,(List.nil_sublist _),?_⟩))))))
  all_goals exact⟨by show (.agg ((DS (Fq.mk 2 ix 0 d.params d.type)).map .p):AV)=_;rw[Ns (.inr (.inr (by simpa using c2))) (k:=2) (by simpa using c2)],rfl⟩
 simp only[sd,se] at c2;refine Au Ay 2 [] O (Av O (fun c3=>?_) (fun c3=>?_))
 ·simp only[sd,se] at c3;refine Aw (Aq O (Az GO O O) (Aq O (Dw (i:=0) (ds:=(DS (Fq.mk 3 ix 0 d.params d.type)).map .p) DM O O O O O O O) (Bg O (As (Aw (Ax Ay 2 [] O (Aq O (A0 (i:=2) MI O O (DF _)) (Aq O (FV O O) (Bg O (Av O (fun c4=>?_) (fun c4=>?_)))))))))))
  ·simp only[sd,se] at c4;refine Au Ay 2 [0,1,1] O (A1 (⟨O,_,_,⟨_,_,O,(BA (i:=1) L3 O O Af),O⟩,(List.nil_sublist _),?_⟩))
   all_goals exact⟨by show (.agg ((DS (Fq.mk 3 ix 0 d.params d.type)).map .p):AV)=_;rw[eZ (by simpa using c3) (F3 (by simpa using c4))],rfl⟩
  simp only[sd,se] at c4;refine A2 (As (Au Ay 1 [] O (A9 ?_)));refine Bc (α:=Nat) (fun i=>⟨96,mk [(1,.p (I ix)),(2,.p (.str nm)),(3,.ptr b3 0),(6,.ptr b6 0),(8,.p (I (i:Int)))],[.box b6 [.p (I 0),.p (I 0),.p (I 0),.p (I 0),.p (I 0),.p (I 0),.p (.str ⟨#[]⟩),.p (.nils),.p (.nils)],.box b3 ((Bi d).map .p)],[]⟩) (fun i=>d.ctors.length - i) (fun i=>i≤d.ctors.length∧(∀j,j<i→∀y,d.ctors[j]?=some y→y.name≠nm)) 0 (⟨by omega,fun j h=>by omega⟩) ?_ ?_
  ·exact BS ⟨we O,we O,we O,we O,we O,Ap⟩ (leH (is:=[1,2]) O (wl (oe O) (wl (oe O) (C2))))
  rintro i hC
  try simp only at hC
  obtain⟨hi,hC⟩:=hC;refine As (Aw (Ax Ay 2 [] O (Aq O (A0 (i:=1) H4 O O (CC _)) (Aq O (BJ Hc O (List.length_map _)) (Ar Ay 1 [] O (Av O (fun c5=>?_) (fun c5=>?_)))))))
  ·simp only[sd,se] at c5;refine A2 (As (A9 (Aw (Aq O (Az C5 O O) (Aq O (A0 (i:=1) H4 O O (CC _)) (Br O ?_))))));obtain⟨x,hx⟩:=A6 (l:=d.ctors) (i:=i) An;refine Aq O (A4 Hc O O An (Em hx) (EE _)) (Aq O (B1 Jh O O) (Aq O (DB MI O (Fg _)) (Br O (Aq O (FV O O) (Bg O (Av O (fun c6=>?_) (fun c6=>?_)))))))
   ·simp only[sd,se] at c6;refine As (Bt (fun k=>false) Dn (BR Ay 3 [] O (CV (j:=1) O O O (fun H i hi=>A0 (i:=i) DM O hi (Cn _)) AB Ap (BG O (fun _=>Az C5 O O) Ap (CV (j:=1) O O O (fun H i hi=>A0 (i:=i) H4 O hi (CC _)) AB Ap (BG O (fun _=>Ba O) Ap (BG O (fun _=>A4 Hc O O An (Em hx) (EE _)) Ap (BG O (fun _=>B1 Jh O O) Ap (BG O (fun _=>DP BZ O (Fi _) (BD _)) Ap (BG O (fun _=>CO GO IK (Ot O O O O O)) Ap (Bk Ay 1 [0,1] O (A1 (⟨O,_,_,⟨_,_,O,(BA (i:=0) L3 O O Af),O⟩,(List.nil_sublist _),?_⟩)))))))))))))
    all_goals exact⟨by show (.agg ((DS (Fq.mk 4 ix (i:Int) d.params x.type)).map .p):AV)=_;rw[Zn (j:=i) (by simpa using c3) (fun h=>by subst h;simp at c4) hx (F3 (by simpa using c6)) hC],rfl⟩
   simp only[sd,se] at c6;refine A2 (A3 (Ar Ay 3 [] O ?_));refine⟨(i+1),AW,⟨by omega,Cx (p:=fun _ (y:IS)=>y.name≠nm) hC hx (fun e=>by subst e;simp at c6)⟩,BS ⟨we rfl,we rfl,we rfl,we rfl,we rfl,trivial⟩ (leH (is:=[0,1]) rfl (wl (oe rfl) (wl (oe rfl) (C2))))⟩
  simp only[sd,se] at c5;refine Be (Aw (Ax Ay 3 [] O (Aq O (A0 (i:=1) DM O O (Da _)) (Ax Ay 2 [] O (Aq O (Bw (i:=1) BZ O O (E5 _) (BD _)) (Aq O (CO GO IK (ax O O O O)) (Ar Ay 1 [0,1] O (A1 (⟨O,_,_,⟨_,_,O,(BA (i:=0) L3 O O Af),O⟩,(List.nil_sublist _),?_⟩)))))))))
  all_goals exact⟨by show (.agg ((DS (Fq.mk 5 ix 0 d.recs.params d.recs.type)).map .p):AV)=_;rw[dP (by simpa using c3) (fun h=>by subst h;simp at c4) fun j hj=>hC j An],rfl⟩
 simp only[sd,se] at c3;refine Au Ay 1 [] O (A9 ?_);refine Bc (α:=Nat) (fun i=>⟨96,mk [(1,.p (I ix)),(2,.p (.str nm)),(3,.ptr b3 0),(6,.ptr b6 0),(7,.ptr b7 0),(9,.p (I (i:Int)))],[.box b7 ((DS (Fq.mk 0 ix 0 d.params d.type)).map .p),.box b6 [.p (I 0),.p (I 0),.p (I 0),.p (I 0),.p (I 0),.p (I 0),.p (.str ⟨#[]⟩),.p (.nils),.p (.nils)],.box b3 ((Bi d).map .p)],[]⟩) (fun i=>d.funs.length - i) (fun i=>i≤d.funs.length∧(∀j,j<i→∀y,d.funs[j]?=some y→y.name≠nm)) 0 (⟨by omega,fun j h=>by omega⟩) ?_ ?_
 ·exact BS ⟨we O,we O,we O,we O,we O,we O,Ap⟩ (leH (is:=[0,1,2]) O (wl (oe O) (wl (oe O) (wl (oe O) (C2)))))
 rintro i hC
 try simp only at hC
 obtain⟨hi,hC⟩:=hC;refine As (Aw (Ax Ay 2 [] O (Aq O (A0 (i:=2) Hq O O (CJ _)) (Aq O (BJ HV O (List.length_map _)) (Ar Ay 1 [] O (Av O (fun c4=>?_) (fun c4=>?_)))))))
 ·simp only[sd,se] at c4;refine A2 (As (A9 (Aw (Aq O (Az C5 O O) (Aq O (A0 (i:=2) Hq O O (CJ _)) (Br O ?_))))));obtain⟨x,hx⟩:=A6 (l:=d.funs) (i:=i) An;refine Aq O (A4 HV O O An (EZ hx) (DZ _)) (Aq O (B1 HE O O) (Aq O (DB MI O (I7 _)) (Br O (Aq O (FV O O) (Bg O (Av O (fun c5=>?_) (fun c5=>?_)))))))
  ·simp only[sd,se] at c5;refine As (Bt (fun k=>false) Dn (BR Ay 3 [] O (CV (j:=2) O O O (fun H i hi=>A0 (i:=i) DM O hi (Cn _)) AB Ap (BG O (fun _=>Az C5 O O) Ap (CV (j:=2) O O O (fun H i hi=>A0 (i:=i) Hq O hi (CJ _)) AB Ap (BG O (fun _=>Ba O) Ap (BG O (fun _=>A4 HV O O An (EZ hx) (DZ _)) Ap (BG O (fun _=>B1 HE O O) Ap (BG O (fun _=>DP BZ O (JC _) (BD _)) Ap (BG O (fun _=>CO GO IK (Ot O O O O O)) Ap (Bk Ay 1 [1,1] O (A1 (⟨O,_,_,⟨_,_,O,(BA (i:=1) L3 O O Af),O⟩,(List.nil_sublist _),?_⟩)))))))))))))
   all_goals exact⟨by show (.agg ((DS (Fq.mk 6 ix (i:Int) d.params x.type)).map .p):AV)=_;rw[eN (j:=i) (not_or.2 ⟨(by simpa using c),not_or.2 ⟨(by simpa using c1),(by simpa using c2)⟩⟩) (by simpa using c3) hx (F3 (by simpa using c5)) hC],rfl⟩
  simp only[sd,se] at c5;refine A2 (A3 (Ar Ay 3 [] O ?_));refine⟨(i+1),AW,⟨by omega,Cx (p:=fun _ (y:Hp)=>y.name≠nm) hC hx (fun e=>by subst e;simp at c5)⟩,BS ⟨we rfl,we rfl,we rfl,we rfl,we rfl,we rfl,trivial⟩ (leH (is:=[0,1,2]) rfl (wl (oe rfl) (wl (oe rfl) (wl (oe rfl) (C2)))))⟩
 simp only[sd,se] at c4;refine Be (Au Ay 2 [0,1,1] O (A1 (⟨O,_,_,⟨_,_,O,(BA (i:=1) L3 O O Af),O⟩,(List.nil_sublist _),?_⟩)))
 all_goals exact⟨by show (.agg ((DS (Fq.mk 0 ix 0 d.params d.type)).map .p):AV)=_;rw[dw (not_or.2 ⟨(by simpa using c),not_or.2 ⟨(by simpa using c1),(by simpa using c2)⟩⟩) (by simpa using c3) fun j hj=>hC j An],rfl⟩
theorem MP:∀(ds:List B5) (nm:ByteArray),(Hg ds)→ET Tryz.prog 22 [.p (.lst (List.map Bi ds)),.p (.str nm)] (.tup [.agg ((DS ((Bb ds nm).1)).map .p),.p (I ((Bb ds nm).2))]):=by
 intro ds nm h1;have hl:=h1.len;refine A5 Tryz.func22 O wB (n:=28) O O (Aw (BF O (A7 IK O) fun b4=>Ar Ay 1 [] O (As (Au Ay 1 [] O (A9 ?_)))));refine Bc (α:=Nat) (fun i=>⟨28,mk [(0,.p (.lst (List.map Bi ds))),(1,.p (.str nm)),(4,.ptr b4 0),(6,.p (I (i:Int)))],[.box b4 [.p (I 0),.p (I 0),.p (I 0),.p (I 0),.p (I 0),.p (I 0),.p (.str ⟨#[]⟩),.p (.nils),.p (.nils)]],[]⟩) (fun i=>ds.length - i) (fun i=>i≤ds.length∧(∀j,j<i→∀y,ds[j]?=some y→HT (C4 y) nm=false)) 0 (⟨by omega,fun j h=>by omega⟩) ?_ ?_
 ·exact BS ⟨we O,we O,we O,we O,Ap⟩ (leH (is:=[0]) O (wl (oe O) (C2)))
 rintro i hC
 try simp only at hC
 obtain⟨hi,hC⟩:=hC;refine As (Aw (Ax Ay 2 [] O (Aq O (BJ IF O (List.length_map _)) (Ar Ay 1 [] O (Av O (fun c=>?_) (fun c=>?_))))))
 ·simp only[sd,se] at c;refine A2 (As (A9 (Aw (Ax Ay 2 [] O ?_))));obtain⟨x,hx⟩:=A6 (l:=ds) (i:=i) An;have hD:=h1.all _ (List.mem_of_getElem? hx);have hcl:=hD.cl;have hfl:=hD.fl;refine Aq O (A4 IF O O An (D8 hx) (Cp _)) (Aq O (BM FZ O (Cp _)) (Aq O (BC O O (Mn x hD.cl hD.fl hD.nm) O) (Br O (Aq O (BC O O (WY (C4 x) nm (by have:=Nr x;omega)) O) (Bg O (Av O (fun c1=>?_) (fun c1=>?_)))))))
  ·refine Aw (Ax Ay 2 [] O (Aq O (A4 IF O O An (D8 hx) (Cp _)) (Ax Ay 3 [] O (Aq O (BC O O (UZ x (i:Int) nm hD.cl hD.fl) O) (Ar Ay 2 [0,1] O (A1 (⟨O,_,_,⟨_,_,O,(BA (i:=0) L3 O O Af),⟨_,_,O,O,O⟩⟩,(List.nil_sublist _),?_⟩)))))))
   all_goals exact⟨by show (.tup [.agg ((DS (Fj x (i:Int) nm)).map .p),.p (I 0)]:AV)=_;rw[dy hx hC (by simpa using c1)],rfl⟩
  refine A2 (A3 (Ar Ay 3 [] O (⟨(i+1),AW,⟨by omega,Cx (p:=fun _ (y:B5)=>HT (C4 y) nm=false) hC hx (by simpa using c1)⟩,BS ⟨we rfl,we rfl,we rfl,we rfl,trivial⟩ (leH (is:=[0]) rfl (wl (oe rfl) (C2)))⟩)))
 simp only[sd,se] at c;refine Be (Au Ay 3 [0,0] O (BH (BW (i:=0) O) (A1 (⟨O,_,_,⟨_,_,O,(BA (i:=0) L3 O O O),⟨_,_,O,O,O⟩⟩,(List.nil_sublist _),?_⟩))))
 all_goals exact⟨by show (.tup [.agg [.p (I 0),.p (I 0),.p (I 0),.p (I 0),.p (I 0),.p (I 0),.p (.str ⟨#[]⟩),.p (.lst []),.p (.lst [])],.p (I 9)]:AV)=_;rw[ZD fun j hj=>hC j An];rfl,rfl⟩
theorem Kk:∀(t:Tm),(Nd t)→ET Tryz.prog 149 [.agg ((BP t).map .p)] (.p (.bool (Od t Bh))):=by
 intro t h1;refine A5 Tryz.func149 O sv (n:=6) O O (Aw (BF O (BN O) fun b1=>Ar Ay 1 [] O (Aw (Ax Ay 2 [0] O (Aq O (Gz O O (Pn _ t (.mk 0 0 ⟨#[]⟩ [] []:Tm) (Nat.le_refl _) h1) (aw (we O) (aw (E1 O) (E0)))) (Ar Ay 1 [] O (A1 (⟨O,_,_,⟨_,_,O,O,O⟩,(List.nil_sublist _),?_⟩))))))))
 all_goals exact⟨rfl,rfl⟩
end Go.Proofs.YtboammbpdaoojaaGreat
namespace Go.Eu
open Go.Abs
def N5 {α:Type}(p:α→Bool):List α→Int→Int
 | [],_=> -1
 | x::l,i=>if p x=true then i else N5 p l (i+1)
theorem Vb {α:Type}{p:α→Bool}{l:List α}{i:Nat}{x:α}{k:Int}(h:l[i]?=some x):N5 p (l.drop i) k=if p x=true then k else N5 p (l.drop (i+1)) (k+1):=by rw[Cg h,N5]
theorem VN {α:Type}{p:α→Bool}:∀(l:List α) (i:Int),0≤i→decide (N5 p l i≥0)=l.any p
 | [],i,_=>by simp[N5]
 | x::l,i,h=>by
  simp only[N5,List.any_cons];split
  ·rename_i q;simp[q,h]
  rename_i q;rw[VN l (i+1) An];simp[q]
theorem Jx (c:Int):∀(p:Option Int) (vs:List CF),Fh c p vs=(Fh 0 p vs&&(decide (c≤0)|| !(vs.any fun v=>decide (c≤v.plus))))
 | p,[]=>by simp[Fh]
 | p,v::vs=>by
  simp only[Fh,Jx c _ vs,List.any_cons,WR];by_cases h:c≤0
  ·simp[h]
  simp only[h,decide_false,Bool.false_or,Int.le_refl,decide_true,Bool.true_or,Bool.and_true,Bool.not_or];have:decide (v.plus<c)= !decide (c≤v.plus):=by rw[←decide_not,decide_eq_decide];omega
  rw[this];cases (!decide (c≤v.plus))<;>cases Ji p v.index<;>cases Fh 0 (some v.index) vs<;>simp
theorem pF {l:CS}(h:(l.const<0∨100<l.const)∨0<l.const∧Qp l=true):false=B9 l:=by
 rcases h with h | ⟨h1,h2⟩
 ·exact ji h
 unfold Qp at h2;rw[B9,Jx,h2,decide_eq_false (p:=l.const≤0) An];simp
theorem ml {l:CS}{i:Nat}(h:Cq 0 l.vars 0=Cq 0 l.vars i) (hb:Cq 0 l.vars i=false):false=B9 l:=by
 rw[B9,Jx,show Fh 0 none l.vars=Cq 0 l.vars 0 from rfl,h,hb];simp
theorem mv {l:CS}{i:Nat}(h1:¬((l.const<0∨100<l.const)∨0<l.const∧Qp l=true)) (h:Cq 0 l.vars 0=Cq 0 l.vars i) (hb:l.vars.length≤i):true=B9 l:=by
 rw[B9,Jx,show Fh 0 none l.vars=Cq 0 l.vars 0 from rfl,h,hP hb];simp only[not_or,not_and] at h1;rw[decide_eq_true An,decide_eq_true An];by_cases q:l.const≤0
 ·simp[q]
 have:=h1.2 An;simp only[Qp,Bool.not_eq_true] at this;simp[this,q]
section
variable {l:List CF}{i j:Nat}{x u:CF}
theorem P5 (h:((x.index < -65536∨7<x.index)∨x.plus<0)∨100<x.plus):true= !(WR 0 x&&Ji (J5 l i) x.index):=by
 rw[j6 An];rfl
theorem M5 (h:¬(((x.index < -65536∨7<x.index)∨x.plus<0)∨100<x.plus)) (hi:(i:Int)≤0):false= !(WR 0 x&&Ji (J5 l i) x.index):=by
 rw[VX An An,Bool.true_and,No An]
theorem UK (hj:l[j]?=some u) (he:i=j+1) (h:¬(((x.index < -65536∨7<x.index)∨x.plus<0)∨100<x.plus)):decide (u.index≥x.index)= !(WR 0 x&&Ji (J5 l i) x.index):=by
 rw[VX An An,Bool.true_and,Pr hj he]
end
theorem ri {l:CS}(h:(0≤l.const∧l.const≤100)∧(0<l.const→Qp l=false)):¬((l.const<0∨100<l.const)∨0<l.const∧Qp l=true):=by
 rintro((q | q) | ⟨q1,q2⟩)
 ·omega
 ·omega
 rw[h.2 q1] at q2;cases q2
theorem qw {l:CS}(h:B9 l=true→(l.vars.length:Int)≤0):B9 l=false∨l.vars.length=0:=by
 by_cases q:B9 l=true
 ·exact .inr (by have:=h q;omega)
 exact .inl (by simpa using q)
def G4 (m:List (Int×Int)):List (Int×AV):=m.map fun p=>(p.1,.p (I p.2))
theorem Wb (k:Int):∀m:List (Int×Int),KO k (G4 m)=(mg k m).map fun v=> .p (I v)
 | []=>rfl
 | (j,x)::m=>by
  have ih:=Wb k m;simp only[G4] at ih;simp only[G4,List.map_cons,KO,mg];split
  ·rfl
  exact ih
theorem cM (k v:Int):∀m:List (Int×Int),N3 k (.p (I v)) (G4 m)=G4 (ms k v m)
 | []=>rfl
 | (j,x)::m=>by
  have ih:=cM k v m;simp only[G4] at ih;simp only[G4,List.map_cons,N3,ms];split
  ·rfl
  rw[ih];rfl
theorem XY (m:List (Int×Int)) (k:Int):(KO k (G4 m)).getD (.p (I 0))= .p (I ((mg k m).getD 0)):=by rw[Wb];cases mg k m<;>rfl
theorem jS (m:List (Int×Int)) (k:Int):(KO k (G4 m)).isSome=(mg k m).isSome:=by rw[Wb];cases mg k m<;>rfl
theorem cf {m:List (Int×Int)}{i p:Int}(h:(mg i m).isSome=false∨(mg i m).getD 0<p):GN m i p=ms i p m:=by
 unfold GN;cases e:mg i m with
 | none=>rfl
 | some old =>
  rw[e] at h;simp at h;simp only;rw[if_pos An]
theorem ZX {m:List (Int×Int)}{i p:Int}(h:(mg i m).isSome=true∧p≤(mg i m).getD 0):GN m i p=m:=by
 unfold GN;cases e:mg i m with
 | none=>rw[e] at h;simp at h
 | some old =>
  rw[e] at h;simp at h;simp only;rw[if_neg An]
theorem vI {l:CS}{i:Nat}{x:CF}(hx:l.vars[i]?=some x) (h:100<x.plus):JU l=(FU,15):=by
 unfold JU;rw[if_pos];rw[List.any_eq_true];exact⟨x,List.mem_of_getElem? hx,by simpa using h⟩
theorem uz {l:CS}(h:100<l.const):JU l=(FU,15):=by
 unfold JU;split
 ·rfl
 first | rfl | rw[if_pos An]
theorem ae {l:CS}(h:∀j,j<l.vars.length→∀y,l.vars[j]?=some y→¬100<y.plus):¬(l.vars.any fun v=>decide (v.plus > 100))=true:=by
 rw[List.any_eq_true];rintro⟨x,hx,hq⟩;obtain⟨j,hj⟩:=List.mem_iff_getElem?.1 hx;exact h j (List.getElem?_eq_some_iff.1 hj).1 x hj (by simpa using hq)
theorem u7 {l:CS}(h:∀j,j<l.vars.length→∀y,l.vars[j]?=some y→¬100<y.plus) (h1:l.const≤100) (h2:Qp l=true):JU l=(⟨0,l.vars⟩,0):=by
 unfold JU;rw[if_neg (ae h),if_neg An,if_pos h2]
theorem ug {l:CS}(h:∀j,j<l.vars.length→∀y,l.vars[j]?=some y→¬100<y.plus) (h1:l.const≤100) (h2:Qp l=false):JU l=(l,0):=by
 unfold JU;rw[if_neg (ae h),if_neg An,if_neg (by simp[h2])]
theorem dQ {n:Int}{vs:List CF}{i:Nat}{x:CF}{M:List (Int×Int)}(hx:vs[i]?=some x):GN ((vs.take i).foldl (H5 n) M) x.index (x.plus+n)=(vs.take (i+1)).foldl (H5 n) M:=by
 rw[List.take_add_one,hx,List.foldl_append];rfl
theorem step_take {ps:List CS}{vs:List CF}{i:Nat}{x:CF}{S:List (Int×Int)×Int}(hx:vs[i]?=some x):(vs.take (i+1)).foldl (D2 ps) S=D2 ps ((vs.take i).foldl (D2 ps) S) x:=by
 rw[List.take_add_one,hx,List.foldl_append];rfl
theorem dM (M:List (Int×Int)):(G5 M).length=M.length:=by simp[G5,UC]
def Qs (M:List (Int×Int)) (k:Int):CF:=⟨k,(mg k M).getD 0⟩
theorem ZO {M:List (Int×Int)}{i:Nat}(h:(FE (M.map Prod.fst)).length≤i):((FE (M.map Prod.fst)).take i).map (Qs M)=G5 M:=by
 rw[List.take_of_length_le h];rfl
theorem WA {ps:List CS}{S:List (Int×Int)×Int}{x:CF}(h:x.index<0):D2 ps S x=(GN S.1 x.index x.plus,S.2):=by unfold D2;rw[if_pos h]
theorem VS {ps:List CS}{S:List (Int×Int)×Int}{x:CF}{p:CS}(h:0≤x.index) (hp:ps[x.index.toNat]?=some p):D2 ps S x=Sn (S.1,S.2) p x.plus:=by unfold D2;rw[if_neg An,B6 hp]
theorem Qy.len {m:List (Int×Int)}(h:Qy m) (hr:∀k∈m.map Prod.fst,-65536≤k∧k<8):m.length≤65544:=by
 have ha:=VA h;have:=VL (lo:= -65536) ha (fun v hv=>by
  simp only[G5,List.mem_map] at hv;obtain⟨k,hk,rfl⟩:=hv;exact hr k ((N6 _).mem_iff.1 hk)) An
 rw[dM] at this;omega
structure ZY (S:List (Int×Int)×Int):Prop where
 m:Qy S.1
 r:∀k∈S.1.map Prod.fst,-65536≤k∧k<8
theorem ZY.len {S:List (Int×Int)×Int}(h:ZY S):S.1.length≤65544:=h.m.len h.r
theorem Sr {m:List (Int×Int)}{i p:Int}{Q:Int→Prop}(h:∀k∈m.map Prod.fst,Q k) (hi:Q i):∀k∈(GN m i p).map Prod.fst,Q k:=by
 have hs:∀k∈(ms i p m).map Prod.fst,Q k:=by
  rw[Vt];split
  ·exact h
  intro k hk;rcases List.mem_append.1 hk with hk | hk
  ·exact h k hk
  rw[List.mem_singleton.1 hk];exact hi
 unfold GN;split
 ·split
  ·exact hs
  exact h
 exact hs
theorem UN {n:Int}{Q:Int→Prop}:∀(vs:List CF) (m:List (Int×Int)),(∀k∈m.map Prod.fst,Q k)→(∀v∈vs,Q v.index)→∀k∈(vs.foldl (H5 n) m).map Prod.fst,Q k
 | [],m,h,_=>h
 | v::vs,m,h,hv=>UN vs (H5 n m v) (Sr h (hv v Ao)) fun w hw=>hv w (by simp[hw])
theorem ZY.step {ps:List CS}{S:List (Int×Int)×Int}{x:CF}(hps:∀l∈ps,B9 l=true) (h:ZY S) (hx:(0≤x.plus∧x.plus≤100)∧ -65536≤x.index∧x.index<8) (hi:x.index<ps.length):ZY (D2 ps S x):=by
 refine⟨(Ws hps h.m hx.1.1 hi).1,?_⟩;unfold D2;split
 ·exact Sr h.r hx.2
 rename_i q;refine UN _ _ h.r fun v hv=>?_;have hlt:x.index.toNat<ps.length:=by omega
 rw[List.getD_eq_getElem?_getD,List.getElem?_eq_getElem hlt] at hv;exact((JG.of (hps _ (List.getElem_mem hlt))).rg v hv).2
theorem ZY.fold {ps:List CS}(hps:∀l∈ps,B9 l=true):∀(vs:List CF) (S:List (Int×Int)×Int),ZY S→(∀x∈vs,((0≤x.plus∧x.plus≤100)∧ -65536≤x.index∧x.index<8)∧x.index<ps.length)→ZY (vs.foldl (D2 ps) S)
 | [],S,h,_=>h
 | v::vs,S,h,hv=>ZY.fold hps vs _ (h.step hps (hv v Ao).1 (hv v Ao).2) fun w hw=>hv w (by simp[hw])
theorem ZY.zero (c:Int):ZY ([],c):=⟨Qy.nil,by simp⟩
theorem gm {l:CS}{ps:List CS}{i:Nat}{x:CF}(h:B9 l=true) (hp:¬(Ge l > ps.length)) (hx:l.vars[i]?=some x):x.index<ps.length:=by
 have hm:=List.mem_of_getElem? hx;have:=OY (JG.of h).asc x hm;unfold Ge at hp;rw[if_pos ⟨h,List.ne_nil_of_mem hm⟩] at hp;omega
def I4 (ps:List CS):List CS→Except Int (List CS)
 | []=> .ok []
 | l::ls=>if (Cu l ps).2≠0 then .error (Cu l ps).2 else match I4 ps ls with
  | .ok zs=> .ok ((Cu l ps).1::zs)
  | .error e=> .error e
def OZ (ys:List CS):Except Int (List CS)→Except Int (List CS)
 | .ok zs=> .ok (ys++zs)
 | .error e=> .error e
def Wa (ps:List CS) (_:Unit) (t:Tm) (_:Int):Except Int ((Tm×Bool)×Unit):=match I4 ps t.levels with
 | .ok ls=> .ok ((.mk t.kind t.index t.name ls [],false),())
 | .error e=> .error e
section
variable {ps:List CS}
theorem oZ {ls ys:List CS}{i:Nat}{l:CS}(h:ls[i]?=some l) (h0:(Cu l ps).2=0):OZ ys (I4 ps (ls.drop i))=OZ (ys++[(Cu l ps).1]) (I4 ps (ls.drop (i+1))):=by
 rw[Cg h,I4,if_neg (by simp[h0])];cases I4 ps (ls.drop (i+1))<;>simp[OZ]
theorem od {ls ys:List CS}{i:Nat}{l:CS}(h:ls[i]?=some l) (h0:(Cu l ps).2≠0):OZ ys (I4 ps (ls.drop i))= .error (Cu l ps).2:=by
 rw[Cg h,I4,if_pos h0];rfl
theorem Rl:∀(ls:List CS) (er:Int),er≠0→(EO ps er ls).2=er
 | [],er,_=>rfl
 | l::ls,er,h=>by
  rw[EO];simp only;rw[show GB er (Cu l ps).2=er by unfold GB;rw[if_neg h]];exact Rl ls er h
mutual
theorem mI:∀(t:Tm) (er:Int),er≠0→(Fx ps er t).2=er
 | .mk k i n ls ks,er,h=>by
  rw[Fx];simp only;rw[Rl ls er h];exact PH ks er h
theorem PH:∀(ts:List Tm) (er:Int),er≠0→(Fe ps er ts).2=er
 | [],er,_=>rfl
 | t::ts,er,h=>by
  rw[Fe];simp only;rw[mI t er h];exact PH ts er h
end
theorem Yk:∀(ls:List CS),I4 ps ls=if (EO ps 0 ls).2=0 then .ok (EO ps 0 ls).1 else .error (EO ps 0 ls).2
 | []=>rfl
 | l::ls=>by
  have ih:=Yk ls;rw[I4,EO];simp only;by_cases h:(Cu l ps).2=0
  ·rw[if_neg (by simp[h]),h,ZF,ih];by_cases q:(EO ps 0 ls).2=0
   ·rw[if_pos q,if_pos q]
   rw[if_neg q,if_neg q]
  rw[if_pos h,show GB 0 (Cu l ps).2=(Cu l ps).2 from rfl,Rl ls _ h,if_neg h]
mutual
theorem Pe:∀(t:Tm) (d:Int),Dy (Wa ps) t d ()=FT (Fx ps 0 t)
 | .mk k i n ls ks,d=>by
  rw[Dy,Fx];simp only[Wa,Tm.levels,Tm.kind,Tm.index,Tm.name,Yk];by_cases h:(EO ps 0 ls).2=0
  ·rw[if_pos h,h];simp only[EB];rw[if_neg Ao,Rk k 0 ks d];unfold FT G7;simp only;by_cases q:(Fe ps 0 ks).2=0
   ·rw[if_pos q,if_pos q];rfl
   rw[if_neg q,if_neg q]
  rw[if_neg h];simp only[EB,FT];rw[PH ks _ h,if_neg h]
theorem Rk (k:Int):∀(j:Nat) (ts:List Tm) (d:Int),Ds (Wa ps) k j ts d ()=G7 (Fe ps 0 ts)
 | _,[],_=>rfl
 | j,t::ts,d=>by
  rw[Ds,Pe t,Fe];unfold FT G7;simp only;by_cases h:(Fx ps 0 t).2=0
  ·rw[if_pos h,h];simp only[EB];rw[Rk k (j+1) ts d];unfold G7;by_cases q:(Fe ps 0 ts).2=0
   ·rw[if_pos q,if_pos q]
   rw[if_neg q,if_neg q]
  rw[if_neg h,PH ts _ h,if_neg h];rfl
end
end
theorem eR (x:Except Int (List CS)):x=OZ [] x:=by cases x<;>simp[OZ]
theorem mN {ps:List CS}{s:Unit}{k i d e:Int}{n:ByteArray}{ls:List CS}{ks:List Tm}(h:I4 ps ls= .error e):Wa ps s (.mk k i n ls ks) d= .error e:=by
 simp only[Wa,Tm.levels,h]
theorem oR {ps:List CS}{s:Unit}{k i d:Int}{n:ByteArray}{ls ys:List CS}{ks:List Tm}(h:I4 ps ls= .ok ys):Wa ps s (.mk k i n ls ks) d= .ok ((.mk k i n ys [],false),()):=by
 simp only[Wa,Tm.levels,Tm.kind,Tm.index,Tm.name,h]
theorem set_drop {ys tl:List CS}{i:Nat}{x m:CS}(h:ys.length=i) (hx:tl[i]?=some x):(ys++tl.drop i).set i m=(ys++[m])++tl.drop (i+1):=by
 subst h;rw[Cg hx];simp
theorem pG {ps:List CS}{tl ys:List CS}{i:Nat}{X:Except Int (List CS)}(h:X=OZ ys (I4 ps (tl.drop i))) (hi:tl.length≤i):X= .ok ys:=by
 rw[h,List.drop_eq_nil_of_le hi];simp[I4,OZ]
theorem dr (m:CS):Gg (((By m).map AV.p).map dn)=some (By m):=by obtain⟨c,v⟩:=m;rfl
theorem Xd {t:Tm}{ps:List CS}{e:Int}(h:FT (Fx ps 0 t)= .error e):BY t ps=(Bh,e):=by
 unfold FT at h;unfold BY;split at h
 ·cases h
 rename_i q;cases h;rw[if_pos q]
theorem Zs {t z:Tm}{ps:List CS}{u:Unit}(h:FT (Fx ps 0 t)= .ok (z,u)):BY t ps=(z,0):=by
 unfold FT at h;unfold BY;split at h
 ·rename_i q;cases h;rw[if_neg (by simp[q])]
 cases h
def Q4 {α:Type}(a b:Out α):Prop:=a= .stuck∨a=b
section
variable {α β:Type}
theorem Q4.refl (a:Out α):Q4 a a:= .inr rfl
theorem Q4.bind {a b:Out α}{k k':α→Out β}(h:Q4 a b) (hk:∀x,Q4 (k x) (k' x)):Q4 (a.bind k) (b.bind k'):=by
 rcases h with rfl | rfl
 ·exact .inl O
 cases a with
 | stuck=>exact .inl rfl
 | fail=>exact .inr rfl
 | ok x=>exact hk x
theorem Q4.ite {c:Prop} [Decidable c] {a a' b b':Out α}(h1:Q4 a a') (h2:Q4 b b'):Q4 (if c then a else b) (if c then a' else b'):=by
 split
 ·exact h1
 exact h2
theorem Q4.chk {σ:Type}{a b:Out (Tm×σ)}{k k':Tm×σ→Out β}(h:Q4 a b) (hk:∀x,Q4 (k x) (k' x)):Q4 (a.chk k) (b.chk k'):=Q4.bind h fun x=>Q4.ite (hk x) (Q4.refl _)
variable {σ:Type}{E:List B5}{S:Sys σ}
theorem Q4.put {s:σ}{x:Tm×Int}{k k':Tm→σ→Out β}(hk:∀t s',Q4 (k t s') (k' t s')):Q4 (S.put s x k) (S.put s x k'):=by
 unfold Sys.put;refine Q4.ite ?_ (Q4.refl _);cases S.res s x.1 x.2 with
 | none=>exact Q4.refl _
 | some s'=>exact hk _ _
variable {W W':σ→Tm→Out (Tm×σ)}(hW:∀s t,Q4 (W s t) (W' s t))
include hW
end
section
variable {σ:Type}{E:List B5}{S:Sys σ}
end
theorem kW {k i:Int}{n:ByteArray}{l:List CS}{ts:List Tm}{x y:Tm}(h:k=6∧((ts.length:Nat):Int)=2) (hx:ts[0]?=some x) (hy:ts[1]?=some y):HB (.mk k i n l ts)=(x::(HB y).1,(HB y).2):=by
 obtain⟨rfl,h2⟩:=h;rw[gK h2 hx hy,HB,if_pos rfl]
theorem lM {k i:Int}{n:ByteArray}{l:List CS}{ts:List Tm}(h:k≠6∨((ts.length:Nat):Int)≠2):HB (.mk k i n l ts)=([],.mk k i n l ts):=by
 unfold HB;split
 ·rename_i k' i' n' l' a b e;injection e with e1 e2 e3 e4 e5;subst e1 e2 e3 e4 e5;simp at h;rw[if_neg h]
 rfl
theorem Uz {k i:Int}{n:ByteArray}{ls:List CS}{ts l:List Tm}{x y:Tm}{X:List Tm×Tm}(h:k=6∧((ts.length:Nat):Int)=2) (hx:ts[0]?=some x) (hy:ts[1]?=some y) (hX:(l++(HB (.mk k i n ls ts)).1,(HB (.mk k i n ls ts)).2)=X):((l++[x])++(HB y).1,(HB y).2)=X:=by
 rw[←hX,kW h hx hy];simp
theorem Xr {k i:Int}{n:ByteArray}{ls:List CS}{ts l:List Tm}{X:List Tm×Tm}(h:k≠6∨((ts.length:Nat):Int)≠2) (hX:(l++(HB (.mk k i n ls ts)).1,(HB (.mk k i n ls ts)).2)=X):X=(l,.mk k i n ls ts):=by
 rw[←hX,lM h];simp
theorem IX:∀(t:Tm),(HB t).1.length<size t
 | .mk k i n l [a,b]=>by
  unfold HB;split
  ·have:=IX b;have:=size_pos a;simp only[List.length_cons,size,BX];omega
  ·simp[size,BX];omega
 | .mk k i n l []=>by simp[HB,size,BX]
 | .mk k i n l [_]=>by simp[HB,size,BX];omega
 | .mk k i n l (_::_::_::_)=>by simp[HB,size,BX];omega
mutual
def EW:ES→Prop
 | .mk k b v l=>okB b=true∧SZ l
def nY:GC→Prop
 | .mk c a t=>EW t
def SZ:List GC→Prop
 | []=>True
 | b::l=>nY b∧SZ l
end
structure DG (d:B5):Prop where
 din:Ox d
 fx:0≤d.fixed∧d.fixed≤1000000
 vl:okB d.value=true
 ru:∀t∈d.recs.rules,okB t=true
 fu:∀f∈d.funs,1≤f.arity∧f.arity≤16∧EW f.tree
structure Ju (E:List B5):Prop where
 env:Hg E
 all:∀d∈E,DG d
theorem SO {nm:ByteArray}:∀{l:List (ByteArray×Fq)}{e:Fq},Cm nm l=some e→∃s,(s,e)∈l
 | (s,x)::l,e,h=>by
  simp only[Cm] at h;split at h
  ·cases h;exact⟨s,by simp⟩
  obtain⟨s',h'⟩:=SO h;exact⟨s',List.mem_cons_of_mem _ h'⟩
theorem XB {i p:Int}{s:ByteArray}{e:Fq}:∀{cs:List IS}{k:Int},(s,e)∈Ho i p cs k→∃(j:Nat) (c:IS),cs[j]?=some c∧e=⟨4,i,k+j,p,c.type⟩
 | c::cs,k,h=>by
  simp only[Ho,List.mem_cons] at h;rcases h with h | h
  ·cases h;exact⟨0,c,rfl,by simp⟩
  obtain⟨j,c',h1,h2⟩:=XB h;exact⟨j+1,c',by simpa using h1,by rw[h2];congr 1;omega⟩
theorem V5 {i p:Int}{s:ByteArray}{e:Fq}:∀{cs:List Hp}{k:Int},(s,e)∈MF i p cs k→∃(j:Nat) (c:Hp),cs[j]?=some c∧e=⟨6,i,k+j,p,c.type⟩
 | c::cs,k,h=>by
  simp only[MF,List.mem_cons] at h;rcases h with h | h
  ·cases h;exact⟨0,c,rfl,by simp⟩
  obtain⟨j,c',h1,h2⟩:=V5 h;exact⟨j+1,c',by simpa using h1,by rw[h2];congr 1;omega⟩
structure Xw (d:B5) (i:Int) (e:Fq):Prop where
 decl:e.decl=i
 kind:0≤e.kind∧e.kind≤6
 ctor:e.kind=4→∃(j:Nat) (c:IS),d.ctors[j]?=some c∧e.item=j
 func:e.kind=6→∃(j:Nat) (c:Hp),d.funs[j]?=some c∧e.item=j
theorem iN {d:B5}{i:Int}{s:ByteArray}{e:Fq}(h:(s,e)∈Ew d i):Xw d i e:=by
 unfold Ew at h;split at h
 ·rename_i hk;simp only[List.mem_singleton,Prod.mk.injEq] at h;obtain⟨_,rfl⟩:=h;exact⟨O,by simp only;omega,fun q=>by simp only at q;omega,fun q=>by simp only at q;omega⟩
 split at h
 ·simp only[List.mem_cons,List.mem_append,List.mem_singleton,Prod.mk.injEq,List.not_mem_nil,or_false] at h;rcases h with ⟨_,rfl⟩ | h | ⟨_,rfl⟩
  ·exact⟨O,by simp,fun q=>by simp at q,fun q=>by simp at q⟩
  ·obtain⟨j,c,h1,rfl⟩:=XB h;exact⟨O,by simp,fun _=>⟨j,c,h1,by simp⟩,fun q=>by simp at q⟩
  exact⟨O,by simp,fun q=>by simp at q,fun q=>by simp at q⟩
 split at h
 ·obtain⟨j,c,h1,rfl⟩:=V5 h;exact⟨O,by simp,fun q=>by simp at q,fun _=>⟨j,c,h1,by simp⟩⟩
 cases h
theorem XF {nm:ByteArray}:∀{ds:List B5}{k:Int}{e:Fq},findF nm ds k=some e→∃(i:Nat) (d:B5),ds[i]?=some d∧Xw d (k+i) e
 | d::ds,k,e,h=>by
  simp only[findF] at h;split at h
  ·rename_i x hx;cases h;obtain⟨s,hs⟩:=SO hx;exact⟨0,d,O,by simpa using iN hs⟩
  obtain⟨i,d',h1,h2⟩:=XF h;refine⟨i+1,d',by simpa using h1,?_⟩;rw[show k+((i+1:Nat):Int)=k+1+i by omega];exact h2
theorem ON {ds:List B5}{nm:ByteArray}(h:(Bb ds nm).2=0):∃(i:Nat) (d:B5),ds[i]?=some d∧Xw d i (Bb ds nm).1:=by
 unfold Bb at h ⊢;cases e:findF nm ds 0 with
 | none=>rw[e] at h;simp at h
 | some x =>
  obtain⟨i,d,h1,h2⟩:=XF e;exact⟨i,d,h1,by simpa using h2⟩
def Yd:B5:=⟨0,⟨#[]⟩,0,Bh,Bh,0,[],⟨0,Bh,[]⟩,[]⟩
def Cd (E:List B5) (nm:ByteArray):B5×Int×Bool:=match D7 E nm with
 | some (d,j)=>(d,j,true)
 | none=>(Yd,0,false)
section
variable {E:List B5}{nm:ByteArray}{x:B5}
theorem bL (h:(Bb E nm).2≠0):Cd E nm=(Yd,0,false):=by simp[Cd,D7,h]
theorem PS (hx:E[(Bb E nm).1.decl.toNat]?=some x):Bo E (Bb E nm).1.decl=x:=B6 hx
theorem nB (h:(Bb E nm).2=0) (h3:(Bb E nm).1.kind=3) (hx:E[(Bb E nm).1.decl.toNat]?=some x):Cd E nm=(x,-1,true):=by
 simp[Cd,D7,h,h3,PS hx]
theorem nU (h:(Bb E nm).2=0) (h3:(Bb E nm).1.kind=4) (hx:E[(Bb E nm).1.decl.toNat]?=some x):Cd E nm=(x,(Bb E nm).1.item,true):=by
 simp[Cd,D7,h,h3,PS hx]
theorem fo (h:(Bb E nm).2=0) (h3:(Bb E nm).1.kind=5) (hx:E[(Bb E nm).1.decl.toNat]?=some x):Cd E nm=(x,-2,true):=by
 simp[Cd,D7,h,h3,PS hx]
theorem jM (h3:(Bb E nm).1.kind≠3) (h4:(Bb E nm).1.kind≠4) (h5:(Bb E nm).1.kind≠5):Cd E nm=(Yd,0,false):=by
 simp[Cd,D7,h3,h4,h5]
end
theorem Fa {d:B5}(h:Ox d) (hf:0≤d.fixed∧d.fixed≤1000000):0≤Gt d∧Gt d≤1000000:=by
 have h1:=IX d.type;have h2:=h.ty.sz;unfold Gt Ze;omega
def Tl (E:List B5) (h:Tm):Bool:=decide ((Bb E h.name).2=0)&&decide ((h.levels.length:Int)=(Bb E h.name).1.params)
theorem C3 (E:List B5) (h:Tm):Gf E h=if Tl E h=true then some (Bb E h.name).1 else none:=by
 unfold Gf Tl;simp only[Bool.and_eq_true,decide_eq_true_eq]
theorem Yf {l:List Tm}{m:Nat}{x:Tm}(h:l[m - 1]?=some x) (hm:0<m):(l.drop m).reverse++[x]=(l.drop (m - 1)).reverse:=by
 rw[Cg h,List.reverse_cons,show m - 1+1=m by omega]
theorem gb {E:List B5}{k i:Int}{n:ByteArray}{ls:List CS}{ks:List Tm}(h:(Bb E n).2=0):(((ls.length:Nat):Int)==(Bb E n).1.params)=Tl E (.mk k i n ls ks):=by
 simp only[Tl,Tm.name,Tm.levels,h,decide_true,Bool.true_and];rw[Bool.eq_iff_iff,beq_iff_eq];exact⟨fun q=>decide_eq_true q,fun q=>of_decide_eq_true q⟩
theorem nR {E:List B5}{k i:Int}{n:ByteArray}{ls:List CS}{ks:List Tm}(h:(Bb E n).2≠0):false=Tl E (.mk k i n ls ks):=by
 simp[Tl,Tm.name,h]
end Go.Eu
namespace Go.Proofs.YtboammbpdaoojaaGreat
open Go.Abs Go.Eu
theorem TS:∀(ds:List B5) (nm:ByteArray),(Hg ds)→ET Tryz.prog 84 [.p (.lst (List.map Bi ds)),.p (.str nm)] (.tup [.agg ((Bi ((Cd ds nm).1)).map .p),.p (I ((Cd ds nm).2.1)),.p (.bool ((Cd ds nm).2.2))]):=by
 intro ds nm h1;have hl:=h1.len;refine A5 Tryz.func84 O vU (n:=44) O O (Aw (BF O (A7 Jw O) fun b4=>Ar Ay 2 [] O (Aw (Ax Ay 2 [] O (Aq O (BC O O (MP ds nm h1) O) (Ax Ay 3 [] O (BF O (A7 IK O) fun b7=>Ar Ay 2 [0,1] O (As (Au Ay 2 [] O (Av O (fun c=>?_) (fun c=>?_)))))))))))
 ·simp only[sd,se] at c;refine Au Ay 4 [1,0] O (BH (BW (i:=1) O) (A1 (⟨O,_,_,⟨_,_,O,(BA (i:=1) FZ O O O),⟨_,_,O,O,⟨_,_,O,O,O⟩⟩⟩,(List.nil_sublist _),?_⟩)))
  all_goals exact⟨by show (.tup [.agg [.p (I 0),.p (.str ⟨#[]⟩),.p (I 0),.p (I 0),.p (I 0),.p (.str ⟨#[]⟩),.p (.lst []),.p (.lst []),.p (I 0),.p (I 0),.p (.str ⟨#[]⟩),.p (.lst []),.p (.lst []),.p (I 0),.p (.lst []),.p (I 0),.p (I 0),.p (I 0),.p (.str ⟨#[]⟩),.p (.lst []),.p (.lst []),.p (.lst []),.p (.lst [])],.p (I 0),.p (.bool false)]:AV)=_;rw[bL An];rfl,rfl⟩
 simp only[sd,se] at c;obtain⟨fi,fd,hfi,hfo⟩:=ON (ds:=ds) (nm:=nm) An;have hdl:=hfo.decl;have hfl:=(List.getElem?_eq_some_iff.1 hfi).1;refine A2 (As (Aw (Aq O (Az GO O O) (Aq O (A0 (i:=0) DM O O (DV _)) (Bg O (A9 (Au Ay 2 [] O (Av O (fun c1=>?_) (fun c1=>?_)))))))))
 ·simp only[sd,se] at c1;refine Aw (Ax Ay 2 [] O (Aq O (A0 (i:=0) DM O O (DW _)) ?_));obtain⟨x,hx⟩:=A6 (l:=ds) (i:=(((Bb ds nm).1).decl:Int).toNat) An;refine Aq O (A4 IF O O An (D8 hx) (Cp _)) (Ar Ay 4 [1,1] O (A1 (⟨O,_,_,⟨_,_,O,(BA (i:=1) FZ O O Ad),⟨_,_,O,O,⟨_,_,O,O,O⟩⟩⟩,(List.nil_sublist _),?_⟩)))
  all_goals exact⟨by show (.tup [.agg ((Bi x).map .p),.p (I (-1)),.p (.bool true)]:AV)=_;rw[nB An An hx],rfl⟩
 simp only[sd,se] at c1;refine Au Ay 2 [] O (Av O (fun c2=>?_) (fun c2=>?_))
 ·simp only[sd,se] at c2;refine As (Bt (fun k=>false) Dn (BR Ay 2 [] O (CV (j:=0) O O O (fun H i hi=>A0 (i:=i) DM O hi (DW _)) AB Ap ?_)));obtain⟨x,hx⟩:=A6 (l:=ds) (i:=(((Bb ds nm).1).decl:Int).toNat) An;refine BG O (fun _=>A4 IF O O An (D8 hx) (Cp _)) Ap (BR Ay 2 [] O (CV (j:=0) O O O (fun H i hi=>A0 (i:=i) DM O hi (Fm _)) AB Ap (Bk Ay 3 [1,1] O (A1 (⟨O,_,_,⟨_,_,O,(BA (i:=1) FZ O O Ad),⟨_,_,O,O,⟨_,_,O,O,O⟩⟩⟩,(List.nil_sublist _),?_⟩)))))
  all_goals exact⟨by show (.tup [.agg ((Bi x).map .p),.p (I (((Bb ds nm).1).item)),.p (.bool true)]:AV)=_;rw[nU An An hx],rfl⟩
 simp only[sd,se] at c2;refine Au Ay 2 [] O (Av O (fun c3=>?_) (fun c3=>?_))
 ·simp only[sd,se] at c3;refine Aw (Ax Ay 2 [] O (Aq O (A0 (i:=0) DM O O (DW _)) ?_));obtain⟨x,hx⟩:=A6 (l:=ds) (i:=(((Bb ds nm).1).decl:Int).toNat) An;refine Aq O (A4 IF O O An (D8 hx) (Cp _)) (Ar Ay 4 [1,1] O (A1 (⟨O,_,_,⟨_,_,O,(BA (i:=1) FZ O O Ad),⟨_,_,O,O,⟨_,_,O,O,O⟩⟩⟩,(List.nil_sublist _),?_⟩)))
  all_goals exact⟨by show (.tup [.agg ((Bi x).map .p),.p (I (-2)),.p (.bool true)]:AV)=_;rw[fo An An hx],rfl⟩
 simp only[sd,se] at c3;refine A2 (Au Ay 4 [1,0] O (BH (BW (i:=1) O) (A1 (⟨O,_,_,⟨_,_,O,(BA (i:=1) FZ O O O),⟨_,_,O,O,⟨_,_,O,O,O⟩⟩⟩,(List.nil_sublist _),?_⟩))))
 all_goals exact⟨by show (.tup [.agg [.p (I 0),.p (.str ⟨#[]⟩),.p (I 0),.p (I 0),.p (I 0),.p (.str ⟨#[]⟩),.p (.lst []),.p (.lst []),.p (I 0),.p (I 0),.p (.str ⟨#[]⟩),.p (.lst []),.p (.lst []),.p (I 0),.p (.lst []),.p (I 0),.p (I 0),.p (I 0),.p (.str ⟨#[]⟩),.p (.lst []),.p (.lst []),.p (.lst []),.p (.lst [])],.p (I 0),.p (.bool false)]:AV)=_;rw[jM An An An];rfl,rfl⟩
theorem _root_.Go.AF {α:Prop}(h:α:=by simp only[List.length_map,List.length_append,List.length_take,List.length_cons,List.length_nil];omega):α:=h
theorem m4:∀(l:CS) (n:Int),(Nj l)→ET Tryz.prog 188 [.agg ((By l).map .p),.p (I n)] (.tup [.agg ((By ((E4 l n).1)).map .p),.p (I ((E4 l n).2))]):=by
 intro l n h1;have hl:=h1.vars;simp only[DY] at hl;refine A5 Tryz.func188 O uF (n:=75) O O (Aw (BF O (BN O) fun b2=>BF O (A7 EI O) fun b4=>Ar Ay 1 [] O (As (Aw (Aq O (BU (i:=1) DU O O Ae) (Aq O (BC O O (L7 l h1) O) (Ar Ay 1 [] O (Av O (fun c=>?_) (fun c=>?_)))))))))
 ·simp only[sd,se] at c;refine Au Ay 3 [0,0] O (BH (BW (i:=0) O) (A1 (⟨O,_,_,⟨_,_,O,(BA (i:=0) DU O O O),⟨_,_,O,O,O⟩⟩,(List.nil_sublist _),?_⟩)))
  all_goals exact⟨by show (.tup [.agg [.p (I 0),.p (.lst [])],.p (I 3)]:AV)=_;rw[xI (by simpa using c)];rfl,rfl⟩
 simp only[sd,se] at c;have hv:B9 l=true:=by simpa using c
 have hv0:=YM hv;refine A2 (As (Au Ay 2 [] O (Av O (fun c1=>?_) (fun c1=>?_))))
 ·simp only[sd,se] at c1;refine Au Ay 3 [0,0] O (BH (BW (i:=0) O) (A1 (⟨O,_,_,⟨_,_,O,(BA (i:=0) DU O O O),⟨_,_,O,O,O⟩⟩,(List.nil_sublist _),?_⟩)))
  all_goals exact⟨by show (.tup [.agg [.p (I 0),.p (.lst [])],.p (I 2)]:AV)=_;rw[xE hv c1];rfl,rfl⟩
 simp only[sd,se] at c1;refine A2 (As (Au Ay 2 [] O (Av O (fun c2=>?_) (fun c2=>?_))))
 ·simp only[sd,se] at c2;refine Au Ay 3 [0,0] O (BH (BW (i:=0) O) (A1 (⟨O,_,_,⟨_,_,O,(BA (i:=0) DU O O O),⟨_,_,O,O,O⟩⟩,(List.nil_sublist _),?_⟩)))
  all_goals exact⟨by show (.tup [.agg [.p (I 0),.p (.lst [])],.p (I 15)]:AV)=_;rw[xH hv An c2];rfl,rfl⟩
 simp only[sd,se] at c2;refine A2 (Aw (Aq O (CO Up EI O) (BF O (A7 EI O) fun b6=>Ar Ay 1 [0,0] O (As (As (BT [1,2,4,6] 27 (fun y=>y= .p (.bool ((decide ((l.const:Int) > (0:Int)))||(((l.vars.length:Nat):Int)==(0:Int))))) ?_ ?_))))))
 ·refine A3 (Ax Ay 4 [2] O (BO 22 O (fun g=>?_) (fun g=>?_)))
  ·simp only[sd,se] at g;exact Ar Ay 5 [] O (⟨O,O,AM,AI,⟨O,O,O,O,Ap⟩⟩)
  simp only[sd,se] at g;exact Ax Ay 2 [2] O (BB O (BJ CY O (List.length_map _)) (Ar Ay 2 [] O (⟨O,O,AM,AI,⟨O,O,O,O,Ap⟩⟩)))
 rintro _ rfl;refine Av O (fun c3=>?_) (fun c3=>?_)
 ·simp only[sd,se] at c3;refine A3 (Ar Ay 6 [2,0,0] O (As (Au Ay 3 [0] O (Av O (fun c4=>?_) (fun c4=>?_)))))
  ·simp only[sd,se] at c4;refine Au Ay 3 [1,0] O (BH (BW (i:=1) O) (A1 (⟨O,_,_,⟨_,_,O,(BA (i:=1) DU O O O),⟨_,_,O,O,O⟩⟩,(List.nil_sublist _),?_⟩)))
   all_goals exact⟨by show (.tup [.agg [.p (I 0),.p (.lst [])],.p (I 15)]:AV)=_;rw[w8 hv An An (by rw[NA An];omega)];rfl,rfl⟩
  simp only[sd,se] at c4;refine A2 (As (Aw (B4 (IA (i:=0) O (Ys (aw (we O) (aw (JM) (E0))))) (B4 (H6 (sz:=2)) (Ar Ay 1 [] O (A9 ?_))))));refine Bc (α:=Nat×Option Nat×Nat) (fun(i,o,cp)=>⟨75,mk [(1,.p (I n)),(2,.ptr b2 0),(4,.ptr b4 0),(6,.ptr b6 0),(7,.p (I (i:Int)))],[.vec o 2 (List.map Dt ((l.vars.take i).map (N8 n))) cp,.box b6 [.p (I ((l.const:Int)+(n:Int))),.vs o (List.map Dt ((l.vars.take i).map (N8 n))).length cp],.box b4 [.p (I 0),.p (.nils)],.box b2 [.p (I l.const),.p (.lst (List.map Dt l.vars))]],[]⟩) (fun(i,o,cp)=>l.vars.length - i) (fun(i,o,cp)=>i≤l.vars.length∧(∀j,j<i→∀y,l.vars[j]?=some y→¬100<y.plus+n)) ⟨0,none,0⟩ (⟨by omega,fun j h=>by omega⟩) ?_ ?_
  ·exact BS ⟨we O,we O,we O,we O,we O,Ap⟩ (leH (is:=[0,1,2,3]) O (wl (oe O) (wl (oe O) (wl (oe O) (wl (oe O) (C2))))))
  rintro⟨i,o,cp⟩ hC
  try simp only at hC
  obtain⟨hi,hC⟩:=hC;refine As (Aw (Ax Ay 3 [3] O (Aq O (BJ CY O (List.length_map _)) (Ar Ay 1 [] O (Av O (fun c5=>?_) (fun c5=>?_))))))
  ·simp only[sd,se] at c5;refine A2 (As (A9 (As (Aw (Ax Ay 3 [3] O ?_)))));obtain⟨x,hx⟩:=A6 (l:=l.vars) (i:=i) An;have hw:=Lh hv hx;refine Aq O (A4 CY O O An (Cl hx) (O)) (Ar Ay 5 [] O (Av O (fun c6=>?_) (fun c6=>?_)))
   ·simp only[sd,se] at c6;refine Au Ay 3 [2,0] O (BH (BW (i:=2) O) (A1 (⟨O,_,_,⟨_,_,O,(BA (i:=2) DU O O O),⟨_,_,O,O,O⟩⟩,(List.nil_sublist _),?_⟩)))
    all_goals exact⟨by show (.tup [.agg [.p (I 0),.p (.lst [])],.p (I 15)]:AV)=_;rw[wY hv An An (by rw[NA An];omega) hx c6];rfl,rfl⟩
   simp only[sd,se] at c6;refine A2 (Bt (fun k=>Nat.beq k 18) Dn (BR Ay 5 [1,3] O (BG O (fun _=>A4 CY O O An (Cl hx) (O)) Ap (BR Ay 5 [3] O (BG O (fun _=>A4 CY O O An (Cl hx) (O)) Ap (BR Ay 5 [] O (BG O (fun _=>Bl CY F8 O O O O O) Ap (K5 [] O O (CR (i:=0) (rows':=List.map Dt [(CF.mk x.index ((x.plus:Int)+(n:Int)))]) CY CY F8 O O O O O O (GG _) AF (GP (f:=Dt) ((l.vars.take i).map (N8 n)) [(CF.mk x.index ((x.plus:Int)+(n:Int)))])) Aj fun o1 cp1=>⟨AB,Ap,?_⟩))))))));refine Bk Ay 2 [1,0] O (A3 (Ar Ay 3 [] O (⟨⟨i+1,o1,cp1⟩,AW,⟨by omega,Cx (p:=fun _ (y:CF)=>¬100<y.plus+n) hC hx An⟩,BS ⟨we rfl,we rfl,we rfl,we rfl,we rfl,trivial⟩ (leH (is:=[0,1,2,3]) rfl (wl (Fl (f:=Dt) ((l.vars.take i).map (N8 n)++[(CF.mk x.index ((x.plus:Int)+(n:Int)))]) (by rw[List.take_add_one,hx];simp[N8])) (wl (Ys (aw (we rfl) (aw (we (Gb (f:=Dt) ((l.vars.take i).map (N8 n)++[(CF.mk x.index ((x.plus:Int)+(n:Int)))]) (by rw[List.take_add_one,hx];simp[N8]))) (E0)))) (wl (oe rfl) (wl (oe rfl) (C2))))))⟩)))
  simp only[sd,se] at c5;refine Be (Aw (B4 (DJ (i:=0) (j:=1) (q:=1) [] O O O (D5 Ap)) (Ar Ay 3 [0,1,0] O (A1 (⟨O,_,_,⟨_,_,O,(BA (i:=1) DU O O O),⟨_,_,O,O,O⟩⟩,(List.nil_sublist _),?_⟩)))))
  all_goals exact⟨by show (.tup [.agg [.p (I ((l.const:Int)+(n:Int))),.p (.lst (List.map Dt ((l.vars.take i).map (N8 n))))],.p (I 0)]:AV)=_;rw[wg hv An An (by rw[NA An];omega) fun j hj=>hC j An,NA An,List.take_of_length_le An];rfl,rfl⟩
 simp only[sd,se] at c3;refine A2 (As (Au Ay 3 [0] O (Av O (fun c4=>?_) (fun c4=>?_))))
 ·simp only[sd,se] at c4;refine Au Ay 3 [1,0] O (BH (BW (i:=1) O) (A1 (⟨O,_,_,⟨_,_,O,(BA (i:=1) DU O O O),⟨_,_,O,O,O⟩⟩,(List.nil_sublist _),?_⟩)))
  all_goals exact⟨by show (.tup [.agg [.p (I 0),.p (.lst [])],.p (I 15)]:AV)=_;exfalso;simp at c4,rfl⟩
 simp only[sd,se] at c4;refine A2 (As (Aw (B4 (IA (i:=0) O (Ys (aw (we O) (aw (JM) (E0))))) (B4 (H6 (sz:=2)) (Ar Ay 1 [] O (A9 ?_))))));refine Bc (α:=Nat×Option Nat×Nat) (fun(i,o,cp)=>⟨75,mk [(1,.p (I n)),(2,.ptr b2 0),(4,.ptr b4 0),(6,.ptr b6 0),(7,.p (I (i:Int)))],[.vec o 2 (List.map Dt ((l.vars.take i).map (N8 n))) cp,.box b6 [.p (I 0),.vs o (List.map Dt ((l.vars.take i).map (N8 n))).length cp],.box b4 [.p (I 0),.p (.nils)],.box b2 [.p (I l.const),.p (.lst (List.map Dt l.vars))]],[]⟩) (fun(i,o,cp)=>l.vars.length - i) (fun(i,o,cp)=>i≤l.vars.length∧(∀j,j<i→∀y,l.vars[j]?=some y→¬100<y.plus+n)) ⟨0,none,0⟩ (⟨by omega,fun j h=>by omega⟩) ?_ ?_
 ·exact BS ⟨we O,we O,we O,we O,we O,Ap⟩ (leH (is:=[0,1,2,3]) O (wl (oe O) (wl (oe O) (wl (oe O) (wl (oe O) (C2))))))
 rintro⟨i,o,cp⟩ hC
 try simp only at hC
 obtain⟨hi,hC⟩:=hC;refine As (Aw (Ax Ay 3 [3] O (Aq O (BJ CY O (List.length_map _)) (Ar Ay 1 [] O (Av O (fun c5=>?_) (fun c5=>?_))))))
 ·simp only[sd,se] at c5;refine A2 (As (A9 (As (Aw (Ax Ay 3 [3] O ?_)))));obtain⟨x,hx⟩:=A6 (l:=l.vars) (i:=i) An;have hw:=Lh hv hx;refine Aq O (A4 CY O O An (Cl hx) (O)) (Ar Ay 5 [] O (Av O (fun c6=>?_) (fun c6=>?_)))
  ·simp only[sd,se] at c6;refine Au Ay 3 [2,0] O (BH (BW (i:=2) O) (A1 (⟨O,_,_,⟨_,_,O,(BA (i:=2) DU O O O),⟨_,_,O,O,O⟩⟩,(List.nil_sublist _),?_⟩)))
   all_goals exact⟨by show (.tup [.agg [.p (I 0),.p (.lst [])],.p (I 15)]:AV)=_;rw[wY hv An An (by rw[Ph An];omega) hx c6];rfl,rfl⟩
  simp only[sd,se] at c6;refine A2 (Bt (fun k=>Nat.beq k 18) Dn (BR Ay 5 [1,3] O (BG O (fun _=>A4 CY O O An (Cl hx) (O)) Ap (BR Ay 5 [3] O (BG O (fun _=>A4 CY O O An (Cl hx) (O)) Ap (BR Ay 5 [] O (BG O (fun _=>Bl CY F8 O O O O O) Ap (K5 [] O O (CR (i:=0) (rows':=List.map Dt [(CF.mk x.index ((x.plus:Int)+(n:Int)))]) CY CY F8 O O O O O O (GG _) AF (GP (f:=Dt) ((l.vars.take i).map (N8 n)) [(CF.mk x.index ((x.plus:Int)+(n:Int)))])) Aj fun o1 cp1=>⟨AB,Ap,?_⟩))))))));refine Bk Ay 2 [1,0] O (A3 (Ar Ay 3 [] O (⟨⟨i+1,o1,cp1⟩,AW,⟨by omega,Cx (p:=fun _ (y:CF)=>¬100<y.plus+n) hC hx An⟩,BS ⟨we rfl,we rfl,we rfl,we rfl,we rfl,trivial⟩ (leH (is:=[0,1,2,3]) rfl (wl (Fl (f:=Dt) ((l.vars.take i).map (N8 n)++[(CF.mk x.index ((x.plus:Int)+(n:Int)))]) (by rw[List.take_add_one,hx];simp[N8])) (wl (Ys (aw (we rfl) (aw (we (Gb (f:=Dt) ((l.vars.take i).map (N8 n)++[(CF.mk x.index ((x.plus:Int)+(n:Int)))]) (by rw[List.take_add_one,hx];simp[N8]))) (E0)))) (wl (oe rfl) (wl (oe rfl) (C2))))))⟩)))
 simp only[sd,se] at c5;refine Be (Aw (B4 (DJ (i:=0) (j:=1) (q:=1) [] O O O (D5 Ap)) (Ar Ay 3 [0,1,0] O (A1 (⟨O,_,_,⟨_,_,O,(BA (i:=1) DU O O O),⟨_,_,O,O,O⟩⟩,(List.nil_sublist _),?_⟩)))))
 all_goals exact⟨by show (.tup [.agg [.p (I 0),.p (.lst (List.map Dt ((l.vars.take i).map (N8 n))))],.p (I 0)]:AV)=_;rw[wg hv An An (by rw[Ph An];omega) fun j hj=>hC j An,Ph An,List.take_of_length_le An];rfl,rfl⟩
end Go.Proofs.YtboammbpdaoojaaGreat
