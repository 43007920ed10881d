/- Part of the proofs: an abstract program logic, plain models and contracts of functions. -/
import Derived.Test.YtboammbpdaoojaaGreatPb
import Derived.Shelf.Sort.Plain
import Derived.Shelf.Slices.In.SortNone
import Derived.Test.YtboammbpdaoojaaGreatPc
import Derived.Test.YtboammbpdaoojaaGreatPd
set_option linter.unusedVariables false
set_option linter.unusedSimpArgs false
set_option maxRecDepth 100000
namespace Go.Eu
open Go.Abs Go.Sort
def Et (zs:List Int):List Int:=zs.mergeSort fun x y=>decide (x≤y)
theorem Su (zs:List Int):(Et zs).length=zs.length:=List.length_mergeSort _
end Go.Eu
namespace Go.Eu
open Go.Abs
def WT (c:Int) (v:CT):Bool:=decide (-65536≤v.index)&&decide (v.index<8)&&decide (0≤v.plus)&&decide (v.plus≤100)&&(decide (c≤0)||decide (v.plus<c))
def Ji (p:Option Int) (i:Int):Bool:=match p with
 | none=>true
 | some j=>decide (j<i)
def FM (c:Int):Option Int→List CT→Bool
 | _,[]=>true
 | p,v::vs=>WT c v&&Ji p v.index&&FM c (some v.index) vs
def Ca (l:Cf):Bool:=decide (0≤l.const)&&decide (l.const≤100)&&FM l.const none l.vars
def G7:Cf:=⟨0,[]⟩
def PF (l:Cf):Bool:=l.vars.any fun v=>decide (l.const≤v.plus)
def QT (vs:List CT):Int:=(vs.getD (vs.length - 1) default).index
def GY (l:Cf):Int:=if Ca l=true∧l.vars≠[] then max 0 (QT l.vars+1) else 0
def FL (x:CT) (rec:List CT→List CT):List CT→List CT
 | []=>x::rec []
 | y::b=>if x.index<y.index then x::rec (y::b) else if y.index<x.index then y::FL x rec b else ⟨x.index,max x.plus y.plus⟩::rec b
def DT:List CT→List CT→List CT
 | [],b=>b
 | x::a,b=>FL x (DT a) b
def PC (vs:List CT):Int:=vs.foldl (fun m v=>max m v.plus) 0
def Vd (c:Int) (vs:List CT):Cf:=⟨if vs≠[]∧c≤PC vs then 0 else c,vs⟩
def Qw (a b:Cf):Cf:=Vd (max a.const b.const) (DT a.vars b.vars)
def YZ (n:Int) (v:CT):CT:=⟨v.index,v.plus+n⟩
def QK (l:Cf) (n:Int):Int:=if l.const > 0∨l.vars=[] then l.const+n else 0
def O4 (l:Cf) (n:Int):Cf×Int :=
 if Ca l=false then (G7,3) else if n<0 then (G7,2) else if n > 100 then (G7,15)
 else if QK l n > 100 then (G7,15)
 else if (l.vars.any fun v=>decide (v.plus+n > 100))=true then (G7,15)
 else (⟨QK l n,l.vars.map (YZ n)⟩,0)
def Pt (ps:List Cf):Cf→List CT→Cf×Int
 | out,[]=>(out,0)
 | out,v::vs =>
  if 0≤v.index∧v.index<ps.length then
   (if (O4 (ps.getD v.index.toNat default) v.plus).2≠0 then (G7,(O4 (ps.getD v.index.toNat default) v.plus).2)
    else Pt ps (Qw out (O4 (ps.getD v.index.toNat default) v.plus).1) vs)
  else Pt ps (Qw out ⟨0,[v]⟩) vs
def EK (l:Cf) (ps:List Cf):Cf×Int :=
 if Ca l=false∨ps.all Ca=false then (G7,3)
 else if GY l > ps.length then (G7,24)
 else Pt ps ⟨l.const,[]⟩ l.vars
-- the program's way
def mg (k:Int):List (Int×Int)→Option Int
 | []=>none
 | (j,x)::r=>if j=k then some x else mg k r
def ms (k v:Int):List (Int×Int)→List (Int×Int)
 | []=>[(k,v)]
 | (j,x)::r=>if j=k then (j,v)::r else (j,x)::ms k v r
def Fk (m:List (Int×Int)) (i p:Int):List (Int×Int):=match mg i m with
 | some old=>if p > old then ms i p m else m
 | none=>ms i p m
def HL (n:Int) (m:List (Int×Int)) (v:CT):List (Int×Int):=Fk m v.index (v.plus+n)
def QQ (s:List (Int×Int)×Int) (l:Cf) (n:Int):List (Int×Int)×Int:=(l.vars.foldl (HL n) s.1,max s.2 (l.const+n))
def D3 (ps:List Cf) (s:List (Int×Int)×Int) (v:CT):List (Int×Int)×Int :=
 if v.index<0 then (Fk s.1 v.index v.plus,s.2) else QQ s (ps.getD v.index.toNat default) v.plus
def GQ (m:List (Int×Int)):List CT:=(Et (m.map Prod.fst)).map fun i=>⟨i,(mg i m).getD 0⟩
def Ij (l:Cf):Cf×Int :=
 if (l.vars.any fun v=>decide (v.plus > 100))=true then (G7,15)
 else if l.const > 100 then (G7,15)
 else if PF l=true then (⟨0,l.vars⟩,0) else (l,0)
def H4 (l:Cf) (ps:List Cf):Cf×Int :=
 if Ca l=false∨ps.all Ca=false then (G7,3)
 else if GY l > ps.length then (G7,24)
 else Ij ⟨(l.vars.foldl (D3 ps) ([],l.const)).2,GQ (l.vars.foldl (D3 ps) ([],l.const)).1⟩
-- offsets
def D5:List CT→Int→Int
 | [],_=> -1
 | v::vs,i=>if v.index=i then max v.plus (D5 vs i) else D5 vs i
abbrev Kk (l:List CT):Prop:=l.Pairwise fun a b=>a.index<b.index
theorem NS:∀(vs:List CT) (i:Int),-1≤D5 vs i
 | [],i=>by simp[D5]
 | v::vs,i=>by have:=NS vs i;simp only[D5];split<;>omega
theorem Jd:∀{vs:List CT}{i:Int},(∀v∈vs,v.index≠i)→D5 vs i= -1
 | [],i,_=>rfl
 | v::vs,i,h=>by simp only[D5,if_neg (h v As)];exact Jd fun w hw=>h w (by simp[hw])
theorem K2:∀{vs:List CT}{v:CT},v∈vs→v.plus≤D5 vs v.index
 | w::vs,v,h=>by
  rcases List.mem_cons.1 h with rfl | h
  ·simp only[D5,if_true];omega
  have:=K2 h;simp only[D5];split<;>omega
theorem Xd:∀{a b:List CT},Kk a→Kk b→(∀v∈a,0≤v.plus)→(∀v∈b,0≤v.plus)→(∀i,D5 a i=D5 b i)→a=b
 | [],[],_,_,_,_,_=>rfl
 | [],y::b,_,_,_,hb,h=>by
  have:=h y.index;have:=hb y As;have:=K2 (vs:=y::b) (v:=y) As;simp only[D5] at *;omega
 | x::a,[],_,_,ha,_,h=>by
  have:=h x.index;have:=ha x As;have:=K2 (vs:=x::a) (v:=x) As;simp only[D5] at *;omega
 | x::a,y::b,h1,h2,ha,hb,h=>by
  have hx:=ha x As;have hy:=hb y As;rw[Kk,List.pairwise_cons] at h1 h2;have na:D5 a x.index= -1:=Jd fun v hv=>by have:=h1.1 v hv;omega
  have nb:D5 b y.index= -1:=Jd fun v hv=>by have:=h2.1 v hv;omega
  have e:x.index=y.index:=by
   rcases Int.lt_trichotomy x.index y.index with q | q | q
   ·have:=h x.index;have nb':D5 b x.index= -1:=Jd fun v hv=>by have:=h2.1 v hv;omega
    simp only[D5,if_true,if_neg (show ¬y.index=x.index by omega),nb'] at this;omega
   ·exact q
   have:=h y.index;have na':D5 a y.index= -1:=Jd fun v hv=>by have:=h1.1 v hv;omega
   simp only[D5,if_true,if_neg (show ¬x.index=y.index by omega),na'] at this;omega
  have e2:x.plus=y.plus:=by
   have:=h x.index;simp only[D5,if_true,if_pos e.symm] at this;rw[←e] at nb;omega
  have exy:x=y:=by cases x;cases y;simp_all
  subst exy;congr 1;refine Xd h1.2 h2.2 (fun v hv=>ha v (by simp[hv])) (fun v hv=>hb v (by simp[hv])) fun i=>?_;by_cases q:x.index=i
  ·subst q;rw[na,nb]
  have:=h i;simpa only[D5,if_neg q] using this
-- merging
theorem Np {x:CT}{rec:List CT→List CT}{g:Int→Int}(hg:∀i,-1≤g i) (hr:∀b i,D5 (rec b) i=max (g i) (D5 b i)):∀(b:List CT) (i:Int),D5 (FL x rec b) i=max (D5 [x] i) (max (g i) (D5 b i))
 | [],i=>by have:=hg i;simp only[FL,D5,hr];split<;>omega
 | y::b,i=>by
  have:=hg i;have h0:=NS b i;have ih:=Np (x:=x) hg hr b i;simp only[D5] at ih;simp only[FL];split
  ·simp only[D5,hr]
   repeat' split
   all_goals omega
  split
  ·simp only[D5,ih]
   repeat' split
   all_goals omega
  have e:x.index=y.index:=by omega
  simp only[D5,hr,e]
  repeat' split
  all_goals omega
theorem MZ:∀(a b:List CT) (i:Int),D5 (DT a b) i=max (D5 a i) (D5 b i)
 | [],b,i=>by have:=NS b i;simp only[DT,D5];omega
 | x::a,b,i=>by
  have h:=Np (x:=x) (rec:=DT a) (g:=D5 a) (NS a) (fun b i=>MZ a b i) b i;have h1:=NS a i;rw[DT,h];simp only[D5];split<;>omega
theorem LF {Q:CT→Prop}{x:CT}{rec:List CT→List CT}(hx:Q x) (hm:∀u v:CT,Q u→Q v→u.index=v.index→Q ⟨u.index,max u.plus v.plus⟩) (hr:∀b,(∀v∈b,Q v)→∀v∈rec b,Q v):∀(b:List CT),(∀v∈b,Q v)→∀v∈FL x rec b,Q v
 | [],hb,v,hv=>by
  simp only[FL,List.mem_cons] at hv;rcases hv with rfl | hv
  ·exact hx
  ·exact hr [] As v hv
 | y::b,hb,v,hv=>by
  simp only[FL] at hv;have hy:=hb y As;have hb':∀v∈b,Q v:=fun v hv=>hb v (by simp[hv]);split at hv
  ·rcases List.mem_cons.1 hv with rfl | hv
   ·exact hx
   exact hr _ hb v hv
  split at hv
  ·rcases List.mem_cons.1 hv with rfl | hv
   ·exact hy
   exact LF hx hm hr b hb' v hv
  rcases List.mem_cons.1 hv with rfl | hv
  ·exact hm x y hx hy Ar
  exact hr _ hb' v hv
theorem HX {Q:CT→Prop}(hm:∀u v:CT,Q u→Q v→u.index=v.index→Q ⟨u.index,max u.plus v.plus⟩):∀(a b:List CT),(∀v∈a,Q v)→(∀v∈b,Q v)→∀v∈DT a b,Q v
 | [],b,_,hb=>by simpa [DT] using hb
 | x::a,b,ha,hb=>by
  rw[DT];exact LF (ha x As) hm (fun b hb=>HX hm a b (fun v hv=>ha v (by simp[hv])) hb) b hb
theorem O9 {x:CT}{a:List CT}(hr:∀b,Kk b→Kk (DT a b)) (hx:∀v∈a,x.index<v.index):∀(b:List CT),Kk b→Kk (FL x (DT a) b)
 | [],_=>by
  rw[FL,Kk,List.pairwise_cons];exact⟨HX (Q:=fun v=>x.index<v.index) (fun u v h _ _=>h) a [] hx As,hr [] (by simp[Kk])⟩
 | y::b,hb=>by
  have hb':=hb;rw[Kk,List.pairwise_cons] at hb';simp only[FL];split
  ·rename_i q;rw[Kk,List.pairwise_cons];refine⟨HX (Q:=fun v=>x.index<v.index) (fun u v h _ _=>h) a _ hx fun v hv=>?_,hr _ hb⟩;rcases List.mem_cons.1 hv with rfl | hv
   ·exact q
   have:=hb'.1 v hv;omega
  split
  ·rename_i q;rw[Kk,List.pairwise_cons];refine⟨LF (Q:=fun v=>y.index<v.index) q (fun u v h _ _=>h) (fun c hc=>HX (Q:=fun v=>y.index<v.index) (fun u v h _ _=>h) a c (fun v hv=>by have:=hx v hv;omega) hc) b hb'.1,O9 hr hx b hb'.2⟩
  have e:x.index=y.index:=by omega
  rw[Kk,List.pairwise_cons];refine⟨HX (Q:=fun v=>x.index<v.index) (fun u v h _ _=>h) a b hx (fun v hv=>by have:=hb'.1 v hv;omega),hr _ hb'.2⟩
theorem N8:∀{a b:List CT},Kk a→Kk b→Kk (DT a b)
 | [],b,_,hb=>by simpa [DT] using hb
 | x::a,b,ha,hb=>by
  rw[Kk,List.pairwise_cons] at ha;rw[DT];exact O9 (fun b hb=>N8 ha.2 hb) ha.1 b hb
-- the greatest offset
theorem UX:∀(vs:List CT) (m:Int),m≤vs.foldl (fun m v=>max m v.plus) m
 | [],m=>by simp
 | v::vs,m=>by have:=UX vs (max m v.plus);simp only[List.foldl_cons];omega
theorem SI:∀{vs:List CT}{m:Int}{v:CT},v∈vs→v.plus≤vs.foldl (fun m v=>max m v.plus) m
 | w::vs,m,v,h=>by
  rcases List.mem_cons.1 h with rfl | h
  ·have:=UX vs (max m v.plus);simp only[List.foldl_cons];omega
  rw[List.foldl_cons];exact SI (vs:=vs) h
theorem Ub:∀{vs:List CT}{m c:Int},m<c→(∀v∈vs,v.plus<c)→vs.foldl (fun m v=>max m v.plus) m<c
 | [],m,c,h,_=>by simpa using h
 | v::vs,m,c,h,hv=>by
  have:=hv v As;simp only[List.foldl_cons];exact Ub Ar fun w hw=>hv w (by simp[hw])
def IF (c:Int) (vs:List CT):Int:=if (vs.any fun v=>decide (c≤v.plus))=true then 0 else c
theorem VK {c:Int}{vs:List CT}(hc:0≤c) (hv:∀v∈vs,0≤v.plus):(Vd c vs).const=IF c vs:=by
 simp only[Vd,IF];by_cases h:(vs.any fun v=>decide (c≤v.plus))=true
 ·rw[if_pos h];simp only[List.any_eq_true,decide_eq_true_eq] at h;obtain⟨v,hm,hp⟩:=h;have h1:=SI (m:=0) hm;rw[if_pos ⟨List.ne_nil_of_mem hm,by unfold PC;omega⟩]
 rw[if_neg h];simp only[List.any_eq_true,decide_eq_true_eq,not_exists,not_and] at h;split
 ·rename_i q;by_cases hc0:c=0
  ·exact hc0.symm
  have:=Ub (vs:=vs) (m:=0) (c:=c) Ar fun v hv=>by have:=h v hv;omega
  have:=q.2;unfold PC at this;omega
 rfl
-- the offsets of the program
def JQ (m:List (Int×Int)) (i:Int):Int:=(mg i m).getD (-1)
theorem aY (k v:Int):∀(m:List (Int×Int)) (j:Int),mg j (ms k v m)=if k=j then some v else mg j m
 | [],j=>by simp[ms,mg]
 | (i,x)::m,j=>by
  have ih:=aY k v m j;simp only[ms];split
  ·rename_i q;subst q;simp only[mg];split<;>rfl
  rename_i q;simp only[mg,ih];by_cases h1:i=j
  ·subst h1;rw[if_pos rfl,if_neg (Ne.symm q),if_pos rfl]
  simp[h1]
theorem Ta (k v:Int):∀(m:List (Int×Int)),(ms k v m).map Prod.fst=if k∈m.map Prod.fst then m.map Prod.fst else m.map Prod.fst++[k]
 | []=>by simp[ms]
 | (i,x)::m=>by
  have ih:=Ta k v m;simp only[ms];split
  ·rename_i q;subst q;simp
  rename_i q;simp only[List.map_cons,ih,List.mem_cons,(show (k=i)=False by simp;exact fun h=>q h.symm),false_or];split<;>simp
theorem T7:∀{m:List (Int×Int)}{k:Int},mg k m=none↔k ∉ m.map Prod.fst
 | [],k=>by simp[mg]
 | (i,x)::m,k=>by
  simp only[mg,List.map_cons,List.mem_cons,not_or];split
  ·rename_i q;subst q;simp
  rename_i q;rw[T7];exact⟨fun h=>⟨fun e=>q e.symm,h⟩,fun h=>h.2⟩
structure PM (m:List (Int×Int)):Prop where
 nd:(m.map Prod.fst).Nodup
 pos:∀k v,mg k m=some v→0≤v
theorem PM.nil:PM []:=⟨by simp,fun k v h=>by simp[mg] at h⟩
theorem bO {m:List (Int×Int)}(k v:Int) (h:(m.map Prod.fst).Nodup):((ms k v m).map Prod.fst).Nodup:=by
 rw[Ta];split
 ·exact h
 rename_i q;rw[List.nodup_append];refine⟨h,by simp,fun a ha b hb=>?_⟩;simp only[List.mem_singleton] at hb;subst hb;exact fun e=>q (e▸ha)
theorem Q6 {m:List (Int×Int)}{i p:Int}(h:PM m) (hp:0≤p):PM (Fk m i p):=by
 have hs:PM (ms i p m):=⟨bO i p h.nd,fun k v hk=>by
  rw[aY] at hk;split at hk
  ·cases hk;exact hp
  exact h.pos k v hk⟩
 unfold Fk;split
 ·split
  ·exact hs
  exact h
 exact hs
theorem TE {m:List (Int×Int)}(h:PM m) (i:Int): -1≤JQ m i:=by
 unfold JQ;cases e:mg i m with
 | none=>simp
 | some v=>have:=h.pos i v e;simp;omega
theorem MO {m:List (Int×Int)}{i p:Int}(h:PM m) (hp:0≤p) (j:Int):JQ (Fk m i p) j=max (D5 [⟨i,p⟩] j) (JQ m j):=by
 have h1:JQ (ms i p m) j=if i=j then p else JQ m j:=by unfold JQ;rw[aY];split<;>rfl
 have h2:=TE h j;unfold Fk;simp only[D5];cases e:mg i m with
 | none =>
  simp only[h1];split
  ·rename_i q;subst q;simp only[JQ,e,Option.getD_none];omega
  ·omega
 | some old =>
  simp only;split
  ·rw[h1];split
   ·rename_i q;subst q;simp only[JQ,e,Option.getD_some];omega
   omega
  split
  ·rename_i q;subst q;simp only[JQ,e,Option.getD_some];omega
  omega
theorem MK {n:Int}:∀(vs:List CT) (m:List (Int×Int)),PM m→(∀v∈vs,0≤v.plus+n)→PM (vs.foldl (HL n) m)∧∀i,JQ (vs.foldl (HL n) m) i=max (D5 (vs.map (YZ n)) i) (JQ m i)
 | [],m,h,_=>⟨h,fun i=>by have:=TE h i;simp only[List.foldl_nil,List.map_nil,D5];omega⟩
 | v::vs,m,h,hv=>by
  have hp:=hv v As;have h1:PM (HL n m v):=Q6 h hp;obtain⟨h2,h3⟩:=MK vs (HL n m v) h1 fun w hw=>hv w (by simp[hw]);refine⟨h2,fun i=>?_⟩;rw[List.foldl_cons,h3 i,show JQ (HL n m v) i=max (D5 [⟨v.index,v.plus+n⟩] i) (JQ m i) from MO h hp i];have:=TE h i;simp only[List.map_cons,D5,YZ];split<;>omega
theorem Ma (zs:List Int):(Et zs).Perm zs:=List.mergeSort_perm _ _
theorem TM (zs:List Int):(Et zs).Pairwise fun a b=>a≤b:=by
 have:=List.pairwise_mergeSort (le:=fun(x y:Int)=>decide (x≤y)) (fun a b c h1 h2=>by simp at *;omega) (fun a b=>by simp;omega) zs;exact this.imp fun h=>by simpa using h
theorem R7 {m:List (Int×Int)}(h:PM m):Kk (GQ m):=by
 have hn:(Et (m.map Prod.fst)).Nodup:=(Ma _).nodup_iff.2 h.nd;have hs:=TM (m.map Prod.fst);rw[Kk,GQ,List.pairwise_map];exact(hs.and hn).imp fun⟨h1,h2⟩=>by simp only;omega
theorem VV {f:Int→Int}:∀(ks:List Int) (i:Int),(∀k∈ks,0≤f k)→D5 (ks.map fun k=>(⟨k,f k⟩:CT)) i=if i∈ks then f i else -1
 | [],i,_=>by simp[D5]
 | k::ks,i,h=>by
  have ih:=VV ks i fun k hk=>h k (by simp[hk]);simp only[List.map_cons,D5,ih,List.mem_cons];by_cases q:k=i
  ·subst q;have:=h k As;simp only[if_true,true_or];split<;>omega
  simp[q,Ne.symm q]
theorem RM {m:List (Int×Int)}(h:PM m) (i:Int):D5 (GQ m) i=JQ m i:=by
 rw[GQ,VV (f:=fun i=>(mg i m).getD 0)]
 ·simp only[(Ma _).mem_iff,JQ];split
  ·rename_i q;cases e:mg i m with
   | none=>exact absurd q (T7.1 e)
   | some v=>simp
  rename_i q;rw[T7.2 q];rfl
 intro k hk;cases e:mg k m with
 | none=>simp
 | some v=>simpa using h.pos k v e
theorem ZK {m:List (Int×Int)}(h:PM m):∀v∈GQ m,0≤v.plus:=by
 intro v hv;simp only[GQ,List.mem_map] at hv;obtain⟨k,_,rfl⟩:=hv;simp only;cases e:mg k m with
 | none=>simp
 | some v=>simpa using h.pos k v e
-- valid levels
theorem IW:∀{c:Int}{vs:List CT}{p:Option Int},FM c p vs=true→∀v∈vs,WT c v=true
 | c,w::vs,p,h,v,hv=>by
  simp only[FM,Bool.and_eq_true] at h;rcases List.mem_cons.1 hv with rfl | hv
  ·exact h.1.1
  exact IW h.2 v hv
theorem PU {c:Int}{v:CT}(h:WT c v=true):0≤v.plus∧v.plus≤100:=by
 simp only[WT,Bool.and_eq_true,decide_eq_true_eq] at h;exact⟨h.1.1.2,h.1.2⟩
theorem LU:∀{c:Int}{vs:List CT}{p:Option Int},FM c p vs=true→Kk vs∧∀v∈vs,Ji p v.index=true
 | c,[],p,_=>⟨by simp[Kk],by simp⟩
 | c,w::vs,p,h=>by
  simp only[FM,Bool.and_eq_true] at h;obtain⟨h1,h2⟩:=LU h.2;simp only[Ji,decide_eq_true_eq] at h2;refine⟨?_,fun v hv=>?_⟩
  ·rw[Kk,List.pairwise_cons];exact⟨h2,h1⟩
  rcases List.mem_cons.1 hv with rfl | hv
  ·exact h.1.2
  have a:=h.1.2;have b:=h2 v hv;unfold Ji at a ⊢;cases p with
  | none=>rfl
  | some j=>simp only[decide_eq_true_eq] at a ⊢;omega
theorem bz {n:Int}{vs:List CT}(h:Kk vs):Kk (vs.map (YZ n)):=by
 rw[Kk,List.pairwise_map];exact h.imp fun h=>h
structure fN (m:List (Int×Int)) (c:Int) (out:Cf):Prop where
 ok:PM m
 asc:Kk out.vars
 pos:∀v∈out.vars,0≤v.plus∧v.plus≤100
 off:∀i,D5 out.vars i=JQ m i
 c0:0≤c
 c1:c≤100
 con:out.const=IF c out.vars
theorem Uw {m m' : List (Int × Int)} {c cx : Int} {out x : Cf} (h : fN m c out) (hm : PM m') (hx : Kk x.vars) (hp : ∀ v ∈ x.vars, 0 ≤ v.plus ∧ v.plus ≤ 100) (ho : ∀ i, JQ m' i = max (D5 x.vars i) (JQ m i)) (h0 : 0 ≤ cx) (h1 : cx ≤ 100) (hc : x.const = cx ∨ x.const = 0 ∧ ∃ v ∈ x.vars, cx ≤ v.plus) : fN m' (max c cx) (Qw out x) := by
 have hv : ∀ v ∈ DT out.vars x.vars, 0 ≤ v.plus ∧ v.plus ≤ 100 := HX (Q := fun v => 0 ≤ v.plus ∧ v.plus ≤ 100) (fun u v h1 h2 _ => by simp only; omega) _ _ h.pos hp
 have hx0 : 0 ≤ x.const := by rcases hc with h | h <;> omega
 have ho0 : 0 ≤ out.const := by rw [h.con]; unfold IF; split; · omega
                                exact h.c0
 refine ⟨hm, N8 h.asc hx, hv, fun i => ?_, by have := h.c0; omega, by have := h.c1; omega, ?_⟩
 ·simp only [Qw, Vd, MZ, h.off i, ho i]; omega
 have hmem : ∀ v, (v ∈ out.vars ∨ v ∈ x.vars) → ∃ u ∈ DT out.vars x.vars, v.plus ≤ u.plus := by
  intro v hv'
  have h1 : v.plus ≤ D5 (DT out.vars x.vars) v.index := by
   rw [MZ]
   rcases hv' with h | h <;> have := K2 h <;> omega
  have h2 : 0 ≤ v.plus := by
   rcases hv' with q | q
   ·exact (h.pos v q).1
   exact (hp v q).1
  revert h1
  generalize DT out.vars x.vars = l
  intro h1
  induction l with
  | nil => simp only [D5] at h1; omega
  | cons y l ih =>
   simp only [D5] at h1
   by_cases q : v.plus ≤ y.plus
   ·exact ⟨y, by simp, q⟩
   obtain ⟨u, hu, hl⟩ := ih (by split at h1 <;> omega)
   exact ⟨u, by simp [hu], hl⟩
 rw [Qw, VK Ar fun v hv' => (hv v hv').1]
 show IF (max out.const x.const) (DT out.vars x.vars) = IF (max c cx) (DT out.vars x.vars)
 generalize hl : DT out.vars x.vars = l
 rw [hl] at hmem hv
 have e1 : out.const = c ∨ out.const = 0 ∧ ∃ v ∈ l, c ≤ v.plus := by
  rw [h.con]
  unfold IF
  split
  ·rename_i q
   simp only [List.any_eq_true, decide_eq_true_eq] at q
   obtain ⟨v, q1, q2⟩ := q
   obtain ⟨u, hu, hle⟩ := hmem v (.inl q1)
   exact .inr ⟨O, u, hu, by omega⟩
  exact .inl O
 have e2 : x.const = cx ∨ x.const = 0 ∧ ∃ v ∈ l, cx ≤ v.plus := by
  rcases hc with q | ⟨q, v, q1, q2⟩
  ·exact .inl q
  obtain ⟨u, hu, hle⟩ := hmem v (.inr q1)
  exact .inr ⟨q, u, hu, by omega⟩
 have hc0 := h.c0
 have key : ∀ a b : Int, (∀ v ∈ l, a ≤ v.plus ↔ b ≤ v.plus) → (a = b ∨ ∃ v ∈ l, a ≤ v.plus) → IF a l = IF b l := by
  intro a b h1 h2
  unfold IF
  have : (l.any fun v => decide (a ≤ v.plus)) = (l.any fun v => decide (b ≤ v.plus)) := by
   rw [Bool.eq_iff_iff]
   simp only [List.any_eq_true, decide_eq_true_eq]
   exact ⟨fun ⟨v, q1, q2⟩ => ⟨v, q1, (h1 v q1).1 q2⟩, fun ⟨v, q1, q2⟩ => ⟨v, q1, (h1 v q1).2 q2⟩⟩
  rw [this]
  rcases h2 with rfl | ⟨v, q1, q2⟩
  ·rfl
  have : (l.any fun v => decide (b ≤ v.plus)) = true := by
   simp only [List.any_eq_true, decide_eq_true_eq]; exact ⟨v, q1, (h1 v q1).1 q2⟩
  rw [if_pos this, if_pos this]
 by_cases hM : ∃ v ∈ l, max c cx ≤ v.plus
 ·obtain ⟨v, q1, q2⟩ := hM
  have a1 : IF (max c cx) l = 0 := by
   unfold IF; rw [if_pos]; simp only [List.any_eq_true, decide_eq_true_eq]; exact ⟨v, q1, q2⟩
  have a2 : IF (max out.const x.const) l = 0 := by
   unfold IF; rw [if_pos]; simp only [List.any_eq_true, decide_eq_true_eq]
   exact ⟨v, q1, by rcases e1 with q | q <;> rcases e2 with q' | q' <;> omega⟩
  rw [a1, a2]
 have hM' : ∀ v ∈ l, v.plus < max c cx := fun v hv' => by
  exact Int.not_le.1 fun q => hM ⟨v, hv', q⟩
 have : max out.const x.const = max c cx := by
  rcases e1 with q | ⟨q, v, v1, v2⟩
  ·rcases e2 with q' | ⟨q', u, u1, u2⟩
   ·omega
   have := hM' u u1; omega
  have := hM' v v1
  rcases e2 with q' | ⟨q', u, u1, u2⟩
  ·omega
  have := hM' u u1; omega
 rw [this]
-- errors stay
def ZE (s:List (Int×Int)×Int):Prop:=(∃i,100<JQ s.1 i)∨100<s.2
theorem VW {ps:List Cf}(hps:∀l∈ps,Ca l=true) {s:List (Int×Int)×Int}{v:CT}(hm:PM s.1) (hv:0≤v.plus) (hi:v.index<ps.length):PM (D3 ps s v).1∧(ZE s→ZE (D3 ps s v)):=by
 unfold D3;split
 ·refine⟨Q6 hm hv,fun h=>?_⟩;rcases h with ⟨i,h⟩ | h
  ·exact .inl ⟨i,by rw[MO hm hv];omega⟩
  exact .inr h
 rename_i q;have hmem:ps.getD v.index.toNat default∈ps:=by
  have hlt:v.index.toNat<ps.length:=by omega
  rw[List.getD_eq_getElem?_getD,List.getElem?_eq_getElem hlt];exact List.getElem_mem hlt
 have hl:=hps _ hmem;simp only[Ca,Bool.and_eq_true,decide_eq_true_eq] at hl;obtain⟨h1,h2⟩:=MK (n:=v.plus) (ps.getD v.index.toNat default).vars s.1 hm fun w hw=>by have:=(PU (IW hl.2 w hw)).1;omega
 refine⟨h1,fun h=>?_⟩;rcases h with ⟨i,h⟩ | h
 ·exact .inl ⟨i,by simp only[QQ,h2];omega⟩
 exact .inr (by simp only[QQ];omega)
theorem Uj {ps:List Cf}(hps:∀l∈ps,Ca l=true):∀(vs:List CT) (s:List (Int×Int)×Int),(∀v∈vs,0≤v.plus∧v.index<ps.length)→PM s.1→PM (vs.foldl (D3 ps) s).1∧(ZE s→ZE (vs.foldl (D3 ps) s))
 | [],s,_,h=>⟨h,id⟩
 | v::vs,s,hv,h=>by
  have hv0:=hv v As;obtain⟨h1,h2⟩:=VW hps (s:=s) h hv0.1 hv0.2;obtain⟨h3,h4⟩:=Uj hps vs (D3 ps s v) (fun w hw=>hv w (by simp[hw])) h1;exact⟨h3,fun b=>h4 (h2 b)⟩
theorem dy {s:List (Int×Int)×Int}(hm:PM s.1) (h:ZE s):Ij ⟨s.2,GQ s.1⟩=(G7,15):=by
 unfold Ij;rcases h with ⟨i,h⟩ | h
 ·rw[if_pos];simp only[List.any_eq_true,decide_eq_true_eq];rw[←RM hm] at h;have:∀l:List CT,100<D5 l i→∃v∈l,100<v.plus:=by
   intro l h
   induction l with
   | nil=>simp only[D5] at h;omega
   | cons y l ih =>
    simp only[D5] at h;by_cases q:100<y.plus
    ·exact⟨y,by simp,q⟩
    obtain⟨u,hu,hl⟩:=ih (by split at h<;>omega);exact⟨u,by simp[hu],hl⟩
  obtain⟨v,hv,hl⟩:=this _ h;exact⟨v,hv,by omega⟩
 split
 ·rfl
 first | rfl | (split<;>first | rfl | (rename_i q;exact absurd h q)) | simp[h]
theorem bA {m:List (Int×Int)}{c:Int}{out:Cf}(h:fN m c out):Ij ⟨c,GQ m⟩=(out,0):=by
 have e:GQ m=out.vars:=Xd (R7 h.ok) h.asc (ZK h.ok) (fun v hv=>(h.pos v hv).1) fun i=>by rw[RM h.ok,h.off i]
 unfold Ij;simp only[e];rw[if_neg,if_neg (by have:=h.c1;omega)]
 ·have hc:=h.con;unfold PF IF at *;simp only;split
  ·rename_i q;rw[if_pos q] at hc;rw[←hc]
  rename_i q;rw[if_neg q] at hc;rw[←hc]
 simp only[List.any_eq_true,decide_eq_true_eq,not_exists,not_and];intro v hv;have:=(h.pos v hv).2;omega
theorem O5 {l:Cf}{n:Int}(hl:Ca l=true) (h0:0≤n) (h1:n≤100) :
  (O4 l n=(G7,15)∧(100<l.const+n∨∃v∈l.vars,100<v.plus+n)) ∨
  (O4 l n=(⟨QK l n,l.vars.map (YZ n)⟩,0)∧l.const+n≤100∧∀v∈l.vars,v.plus+n≤100):=by
 have hl':=hl;simp only[Ca,Bool.and_eq_true,decide_eq_true_eq] at hl';unfold O4;rw[if_neg (by simp[hl]),if_neg Ar,if_neg Ar];split
 ·rename_i q;refine .inl ⟨O,.inl ?_⟩;unfold QK at q;split at q<;>omega
 rename_i q;split
 ·rename_i q';simp only[List.any_eq_true,decide_eq_true_eq] at q';obtain⟨v,h1,h2⟩:=q';exact .inl ⟨O,.inr ⟨v,h1,by omega⟩⟩
 rename_i q';simp only[List.any_eq_true,decide_eq_true_eq,not_exists,not_and] at q';refine .inr ⟨O,?_,fun v hv=>by have:=q' v hv;omega⟩;unfold QK at q;split at q<;>omega
theorem fold_eq {ps:List Cf}(hps:∀l∈ps,Ca l=true):∀(vs:List CT) (s:List (Int×Int)×Int) (out:Cf),(∀v∈vs,0≤v.plus∧v.plus≤100∧v.index<ps.length)→fN s.1 s.2 out →
  Ij ⟨(vs.foldl (D3 ps) s).2,GQ (vs.foldl (D3 ps) s).1⟩=Pt ps out vs
 | [],s,out,_,h=>bA h
 | v::vs,s,out,hv,h=>by
  obtain⟨p0,p1,pi⟩:=hv v As;have hv':∀w∈vs,0≤w.plus∧w.plus≤100∧w.index<ps.length:=fun w hw=>hv w (by simp[hw]);have hb:∀w∈vs,0≤w.plus∧w.index<ps.length:=fun w hw=>⟨(hv' w hw).1,(hv' w hw).2.2⟩;rw[List.foldl_cons,Pt];by_cases hi:0≤v.index
  ·rw[if_pos ⟨hi,pi⟩];have hst:D3 ps s v=QQ s (ps.getD v.index.toNat default) v.plus:=by unfold D3;rw[if_neg Ar]
   have hmem:ps.getD v.index.toNat default∈ps:=by
    have hlt:v.index.toNat<ps.length:=by omega
    rw[List.getD_eq_getElem?_getD,List.getElem?_eq_getElem hlt];exact List.getElem_mem hlt
   rw[hst];generalize ps.getD v.index.toNat default=l at hmem ⊢;have hl:=hps l hmem;have hl':=hl;simp only[Ca,Bool.and_eq_true,decide_eq_true_eq] at hl';have hpos:∀w∈l.vars,0≤w.plus+v.plus:=fun w hw=>by have:=(PU (IW hl'.2 w hw)).1;omega
   obtain⟨hm,ho⟩:=MK (n:=v.plus) l.vars s.1 h.ok hpos;rcases O5 hl p0 p1 with ⟨e,q⟩ | ⟨e,q1,q2⟩
   ·rw[e,if_pos As];have hB:ZE (QQ s l v.plus):=by
     rcases q with q | ⟨w,q1,q2⟩
     ·exact .inr (by simp only[QQ];omega)
     refine .inl ⟨w.index,?_⟩;simp only[QQ,ho];have:=K2 (vs:=l.vars.map (YZ v.plus)) (v:=YZ v.plus w) (List.mem_map_of_mem q1);simp only[YZ] at this;omega
    obtain⟨g1,g2⟩:=Uj hps vs (QQ s l v.plus) hb hm;exact dy g1 (g2 hB)
   rw[e,if_neg As];refine fold_eq hps vs _ _ hv' (Uw h hm (bz (LU hl'.2).1) (fun w hw=>?_) ho Ar q1 ?_)
   ·simp only[List.mem_map] at hw;obtain⟨u,hu,rfl⟩:=hw;exact⟨by have:=hpos u hu;simp only[YZ];omega,by have:=q2 u hu;simp only[YZ];omega⟩
   simp only[QK];split
   ·exact .inl O
   rename_i q;simp only[not_or] at q;refine .inr ⟨O,?_⟩;obtain⟨w,hw⟩:=List.exists_mem_of_ne_nil _ q.2;exact⟨YZ v.plus w,List.mem_map_of_mem hw,by have:=(PU (IW hl'.2 w hw)).1;simp only[YZ];omega⟩
  rw[if_neg Ar];have hst:D3 ps s v=(Fk s.1 v.index v.plus,s.2):=by unfold D3;rw[if_pos Ar]
  rw[hst];refine fold_eq hps vs _ _ hv' ?_;have:=Uw (m':=Fk s.1 v.index v.plus) (cx:=0) (x:=⟨0,[v]⟩) h (Q6 h.ok p0) (by simp[Kk]) (by simp;exact⟨p0,p1⟩) (fun i=>MO h.ok p0 i) Ar Ar (.inl rfl)
  rwa [show max s.2 0=s.2 by have:=h.c0;omega] at this
theorem M8:∀{vs:List CT},Kk vs→∀v∈vs,v.index≤QT vs
 | [w],_,v,hv=>by simp only[List.mem_singleton] at hv;subst hv;simp[QT]
 | w::u::vs,h,v,hv=>by
  rw[Kk,List.pairwise_cons] at h;have e:QT (w::u::vs)=QT (u::vs):=by simp[QT]
  rw[e];rcases List.mem_cons.1 hv with rfl | hv
  ·have:=h.1 u As;have:=M8 h.2 u As;omega
  exact M8 h.2 v hv
theorem ZL (l:Cf) (ps:List Cf):H4 l ps=EK l ps:=by
 unfold H4 EK;by_cases h1:Ca l=false∨ps.all Ca=false
 ·rw[if_pos h1,if_pos h1]
 rw[if_neg h1,if_neg h1];by_cases h2:GY l > ps.length
 ·rw[if_pos h2,if_pos h2]
 rw[if_neg h2,if_neg h2];simp only[not_or,Bool.not_eq_false] at h1;have hl:=h1.1;simp only[Ca,Bool.and_eq_true,decide_eq_true_eq] at hl;have hps:∀l∈ps,Ca l=true:=by simpa [List.all_eq_true] using h1.2
 have ha:=(LU hl.2).1;refine fold_eq hps l.vars _ _ (fun v hv=>?_) ⟨PM.nil,by simp[Kk],by simp,fun i=>by simp[D5,JQ,mg],hl.1.1,hl.1.2,by simp[IF]⟩;have a:=PU (IW hl.2 v hv);refine⟨a.1,a.2,?_⟩;have:=M8 ha v hv;unfold GY at h2;rw[if_pos ⟨h1.1,List.ne_nil_of_mem hv⟩] at h2;omega
def Hn (ps:List Cf):Int→List Cf→List Cf×Int
 | er,[]=>([],er)
 | er,l::ls=>((EK l ps).1::(Hn ps (GI er (EK l ps).2) ls).1,(Hn ps (GI er (EK l ps).2) ls).2)
mutual
def LG (ps:List Cf):Int→Tm→Tm×Int
 | er,.mk k i n ls ks=>(.mk k i n (Hn ps er ls).1 (JG ps (Hn ps er ls).2 ks).1,(JG ps (Hn ps er ls).2 ks).2)
def JG (ps:List Cf):Int→List Tm→List Tm×Int
 | er,[]=>([],er)
 | er,t::ts=>((LG ps er t).1::(JG ps (LG ps er t).2 ts).1,(JG ps (LG ps er t).2 ts).2)
end
def B5 (t:Tm) (ps:List Cf):Tm×Int:=if (LG ps 0 t).2≠0 then (Be,(LG ps 0 t).2) else ((LG ps 0 t).1,0)
inductive Out (α:Type) where
 | stuck
 | fail
 | ok (a:α)
def Out.bind {α β:Type}:Out α→(α→Out β)→Out β
 | .stuck,_=> .stuck
 | .fail,_=> .fail
 | .ok a,k=>k a
def Pw (n:Int):Bool:=decide (-9223372036854775808≤n)&&decide (n≤9223372036854775807)
def V5 (l:Cf):Bool:=decide (l.vars.length<Dv)&&Pw l.const&&l.vars.all fun v=>Pw v.index&&Pw v.plus
mutual
def Rz:Tm→Bool
 | .mk k i n ls ks=>decide (n.size<Dv)&&decide (ls.length<Dv)&&ls.all V5&&decide (ks.length<Dv)&&Pw k&&Pw i&&decide ((ks.length:Int)=arity k)&&(decide (k≠12)||decide (0≤i))&&(decide (k≠0)||decide (0≤i)&&decide (i<1099511627776))&&Kj ks
def Kj:List Tm→Bool
 | []=>true
 | t::ts=>Rz t&&Kj ts
end
def okB (t:Tm):Bool:=Rz t&&decide (size t<549755813888)
def Out.chk {σ β:Type}(o:Out (Tm×σ)) (k:Tm×σ→Out β):Out β:=o.bind fun r=>if okB r.1=true then k r else .stuck
structure Sys (σ:Type) where
 over:σ→Bool
 res:σ→Tm→Int→Option σ
 many:Nat→Bool
def Sys.put {σ α:Type}(S:Sys σ) (s:σ) (x:Tm×Int) (k:Tm→σ→Out α):Out α :=
 if okB x.1=true then (match S.res s x.1 x.2 with
  | none=> .fail
  | some s'=>k x.1 s')
 else .stuck
def Ik.result (c:Ik) (t:Tm) (e:Int):Ik:=({ c with steps:=wr (c.steps+1),nodes:=wr (c.nodes+Fo t) }).form t e
def jB:Sys Ik:=⟨Ik.over,fun c t e=>some (c.result t e),fun _=>false⟩
def Bq:Sys Int:=⟨fun _=>false,fun n t e=>if n - 1<0∨e≠0 then none else some (n - 1),fun k=>decide (40960<k)⟩
def Hw:Tm→List Tm×Tm
 | .mk k i n l [a,b]=>if k=6 then (a::(Hw b).1,(Hw b).2) else ([],.mk k i n l [a,b])
 | t=>([],t)
section
variable (E:List CM)
def CY (i:Int):CM:=E.getD i.toNat default
def FU (d:CM) (j:Int):Hz:=d.ctors.getD j.toNat default
def F8 (d:CM) (j:Int):HB:=d.funs.getD j.toNat default
def YX (t:Tm):Int:=((Hw t).1.length:Int)
def Gr (d:CM) (j:Int):Int:=max 0 (YX (FU d j).type - d.fixed)
def Gy (nm:ByteArray):Option (CM×Int) :=
 if (Bw E nm).2≠0 then none
 else if (Bw E nm).1.kind=3 then some (CY E (Bw E nm).1.decl,-1)
 else if (Bw E nm).1.kind=4 then some (CY E (Bw E nm).1.decl,(Bw E nm).1.item)
 else if (Bw E nm).1.kind=5 then some (CY E (Bw E nm).1.decl,-2)
 else none
def DL (t:Tm):Option (CM×Int×List Tm) :=
 if (BD t).1.kind≠3 then none
 else match Gy E (BD t).1.name with
  | none=>none
  | some (d,j)=>if j<0 then none else if ((BD t).2.length:Int)≠d.fixed+Gr d j then none else some (d,j,(BD t).2.drop d.fixed.toNat)
def Nc (d:CM):Int:=max 0 (YX d.type - d.fixed)
def Cc (d:CM):Int:=d.fixed+1+d.ctors.length+Nc d
def C3 (nm:ByteArray):List GF→Option FE
 | []=>none
 | b::l=>if b.ctor=nm then (if b.absurd=true then none else some b.tree) else C3 nm l
def J0 (h:Tm):Option Fu:=if (Bw E h.name).2=0∧(h.levels.length:Int)=(Bw E h.name).1.params then some (Bw E h.name).1 else none
variable {σ:Type}(S:Sys σ)
def EH (W:σ→Tm→Out (Tm×σ)):Nat→FE→List Tm→Tm→σ→Out ((Option (Tm×List Tm)×Tm)×σ)
 | 0,_,_,_,_=> .stuck
 | n+1,t,vars,last,s =>
  if t.kind=1 then
   if t.var<0∨t.var≥(vars.length:Int)∨S.over s=true then .ok ((none,last),s)
   else (W s (vars.getD t.var.toNat default)).chk fun r=>match DL E r.1 with
    | none=> .ok ((none,r.1),r.2)
    | some (d,j,fields)=>match C3 (FU d j).name t.branches with
     | none=> .ok ((none,r.1),r.2)
     | some t'=>EH W n t' (vars++fields) r.1 r.2
  else .ok ((some (t.body,vars),Be),s)
def Es (d:CM) (h:Tm) (a:List Tm) (s:σ):Out (Option Tm×σ) :=
 if (B5 d.value h.levels).2≠0 then .ok (none,s)
 else S.put s ((B5 d.value h.levels).1,0) fun t s'=> .ok (some (apply t a),s')
def UE (d:CM) (j:Int):Tm:=d.recs.rules.getD j.toNat default
def FA (d:CM) (h:Tm) (a:List Tm) (m:Tm) (s:σ):Out (Option Tm×σ):=match DL E m with
 | none=> .ok (none,s)
 | some (e,j,fields) =>
  if e.name≠d.name∨j≥(d.recs.rules.length:Int) then .ok (none,s)
  else if (B5 (UE d j) h.levels).2≠0 then .ok (none,s)
  else S.put s (apply (apply (B5 (UE d j) h.levels).1 (a.take (d.fixed+1+d.ctors.length).toNat)) fields,0) fun t s'=> .ok (some (apply t (a.drop (Cc d+1).toNat)),s')
def Hk (h:Tm) (b:Tm) (vars:List Tm) (rest:List Tm) (s:σ):Out (Option Tm×σ) :=
 if (B5 b h.levels).2≠0 then .ok (none,s)
 else if okB (B5 b h.levels).1=false∨vars.all okB=false∨1125899906842624≤Bg vars then .stuck
 else S.put s (Cv (B5 b h.levels).1 vars.reverse 0) fun t s'=> .ok (some (apply t rest),s')
def Iw (W:σ→Tm→Out (Tm×σ)) (n:Nat) (f:HB) (h:Tm) (a:List Tm) (s:σ):Out (Option Tm×σ) :=
 if (a.length:Int)<f.arity then .ok (none,s)
 else (EH E S W n f.tree (a.take f.arity.toNat) Be s).bind fun q=>match q.1.1 with
  | none=> .ok (none,q.2)
  | some (b,vars)=>if S.over q.2=true then .ok (none,q.2) else Hk S h b vars (a.drop f.arity.toNat) q.2
def RG (W:σ→Tm→Out (Tm×σ)) (d:CM) (h:Tm) (a:List Tm) (s:σ):Out (Option Tm×σ) :=
 if (a.length:Int)≤Cc d then .ok (none,s)
 else (W s (a.getD (Cc d).toNat default)).chk fun r=>FA E S d h a r.1 r.2
def Ed (W:σ→Tm→Out (Tm×σ)) (n:Nat) (h:Tm) (a:List Tm) (s:σ):Out (Option Tm×σ):=match J0 E h with
 | none=> .ok (none,s)
 | some x =>
  if x.kind=1 then Es S (CY E x.decl) h a s
  else if x.kind=5 then RG E S W (CY E x.decl) h a s
  else if x.kind=6 then Iw E S W n (F8 (CY E x.decl) x.item) h a s
  else .ok (none,s)
def I6 (k:Int) (p:Tm):Tm:= .mk k 0 ⟨#[]⟩ [] [p]
def Mu (h:Tm) (a:List Tm) (s:σ) {α:Type}(k:Tm→σ→Out α):Out α:=match h.kids[1]? with
 | none=> .stuck
 | some b=>S.put s (Cv b (a.take 1) 0) fun x s'=>k (apply x (a.drop 1)) s'
def Tw (h:Tm) (a:List Tm) (s:σ) {α:Type}(k:Tm→σ→Out α):Out α:=match h.kids[1]?,h.kids[2]? with
 | some v,some b=>S.put s (Cv b [v] 0) fun x s'=>k (apply x a) s'
 | _,_=> .stuck
def MF (h p:Tm) (a:List Tm) (s:σ) {α:Type}(k:Tm→σ→Out α):Out α:=match p.kids[(1+h.kind - 9).toNat]? with
 | none=> .stuck
 | some q=>S.put s (q,0) fun x s'=>k (apply x a) s'
def DJ:Nat→σ→Tm→Out (Tm×σ)
 | 0,_,_=> .stuck
 | n+1,s,t =>
  if okB t=false then .stuck
  else if S.over s=true then .ok (t,s)
  else if S.many (BD t).2.length=true then .fail
  else if (BD t).1.kind=5 then
   (if (BD t).2.length=0 then .ok (t,s) else Mu S (BD t).1 (BD t).2 s fun x s'=>DJ n s' x)
  else if (BD t).1.kind=11 then Tw S (BD t).1 (BD t).2 s fun x s'=>DJ n s' x
  else if (BD t).1.kind=9∨(BD t).1.kind=10 then match (BD t).1.kids[0]? with
   | none=> .stuck
   | some p=>(DJ n s p).chk fun r =>
    if r.1.kind≠8 then .ok (apply (I6 (BD t).1.kind r.1) (BD t).2,r.2)
    else MF S (BD t).1 r.1 (BD t).2 r.2 fun x s'=>DJ n s' x
  else if (BD t).1.kind=3 then (Ed E S (DJ n) n (BD t).1 (BD t).2 s).bind fun r=>match r.1 with
   | none=> .ok (t,r.2)
   | some x=>DJ n r.2 x
  else .ok (t,s)
noncomputable def HJ:Nat→σ→Tm→Out (Option Int×σ)
 | 0,_,_=> .stuck
 | n+1,s,t=>(DJ E S n s t).chk fun r =>
  if (BD r.1).1.kind=12 then .ok (some (BD r.1).1.index,r.2)
  else if (BD r.1).1.kind=9∨(BD r.1).1.kind=10 then match (BD r.1).1.kids[0]? with
   | none=> .stuck
   | some p=>HJ n r.2 p
  else if (BD r.1).1.kind=3 then match J0 E (BD r.1).1 with
   | none=> .ok (none,r.2)
   | some x =>
    if S.over r.2=true then .ok (none,r.2)
    else if x.kind=5∧((BD r.1).2.length:Int) > Cc (CY E x.decl) then HJ n r.2 ((BD r.1).2.getD (Cc (CY E x.decl)).toNat default)
    else if x.kind=6∧((BD r.1).2.length:Int)≥(F8 (CY E x.decl) x.item).arity then
     (EH E S (DJ E S n) n (F8 (CY E x.decl) x.item).tree ((BD r.1).2.take (F8 (CY E x.decl) x.item).arity.toNat) Be r.2).bind fun q=>match q.1.1 with
      | some _=> .ok (none,q.2)
      | none=>if S.over q.2=false∧NQ q.1.2 Be=false then HJ n q.2 q.1.2 else .ok (none,q.2)
    else .ok (none,r.2)
  else .ok (none,r.2)
def I5:Tm→List Int→Tm→Option Tm
 | _,[],x=>some x
 | t,p::ps,x=>match (BD t).2[p.toNat]? with
  | none=>none
  | some y=>(I5 y ps x).map fun z=>apply (BD t).1 ((BD t).2.set p.toNat z)
def EY (a:Int×List Int) (fx:Int) (n:Nat):List (Int×List Int):=(List.range n).map fun i:Nat=>(a.1,a.2++[fx+(i:Int)])
def JO (T:σ→Tm→Out (Option Tm×σ)) (h:Tm) (ar:Int) (a:List Tm):Nat→FE→List Tm→List (Int×List Int)→σ→Out (Option Tm×σ)
 | 0,_,_,_,_=> .stuck
 | n+1,t,vars,pl,s =>
  if t.kind=1 then
   if t.var<0∨t.var≥(vars.length:Int) then .ok (none,s)
   else match DL E (vars.getD t.var.toNat default) with
    | none=>(T s (vars.getD t.var.toNat default)).bind fun r=>match r.1 with
     | none=> .ok (none,r.2)
     | some x=>match I5 (a.getD (pl.getD t.var.toNat default).1.toNat default) (pl.getD t.var.toNat default).2 x with
      | none=> .stuck
      | some y=> .ok (some (apply h (a.set (pl.getD t.var.toNat default).1.toNat y)),r.2)
    | some (d,j,fields)=>match C3 (FU d j).name t.branches with
     | none=> .ok (none,s)
     | some t'=>JO T h ar a n t' (vars++fields) (pl++EY (pl.getD t.var.toNat default) d.fixed fields.length) s
  else Hk S h t.body vars (a.drop ar.toNat) s
def EN:Nat→σ→Tm→Out (Option Tm×σ)
 | 0,_,_=> .stuck
 | n+1,s,t =>
  if okB t=false then .stuck
  else if (BD t).1.kind=5 then
   (if (BD t).2.length=0 then .ok (none,s) else Mu S (BD t).1 (BD t).2 s fun x s'=> .ok (some x,s'))
  else if (BD t).1.kind=11 then Tw S (BD t).1 (BD t).2 s fun x s'=> .ok (some x,s')
  else if (BD t).1.kind=9∨(BD t).1.kind=10 then match (BD t).1.kids[0]? with
   | none=> .stuck
   | some p =>
    if p.kind=8 then MF S (BD t).1 p (BD t).2 s fun x s'=> .ok (some x,s')
    else (EN n s p).bind fun r=>match r.1 with
     | none=> .ok (none,r.2)
     | some x=> .ok (some (apply (I6 (BD t).1.kind x) (BD t).2),r.2)
  else if (BD t).1.kind=3 then match J0 E (BD t).1 with
   | none=> .ok (none,s)
   | some x =>
    if x.kind=1 then Es S (CY E x.decl) (BD t).1 (BD t).2 s
    else if x.kind=5∧((BD t).2.length:Int) > Cc (CY E x.decl) then match DL E ((BD t).2.getD (Cc (CY E x.decl)).toNat default) with
     | some _=>FA E S (CY E x.decl) (BD t).1 (BD t).2 ((BD t).2.getD (Cc (CY E x.decl)).toNat default) s
     | none=>(EN n s ((BD t).2.getD (Cc (CY E x.decl)).toNat default)).bind fun r=>match r.1 with
      | none=> .ok (none,r.2)
      | some y=> .ok (some (apply (BD t).1 ((BD t).2.set (Cc (CY E x.decl)).toNat y)),r.2)
    else if x.kind=6∧((BD t).2.length:Int)≥(F8 (CY E x.decl) x.item).arity then
     JO E S (EN n) (BD t).1 (F8 (CY E x.decl) x.item).arity (BD t).2 n (F8 (CY E x.decl) x.item).tree ((BD t).2.take (F8 (CY E x.decl) x.item).arity.toNat) ((List.range (F8 (CY E x.decl) x.item).arity.toNat).map fun i:Nat=>((i:Int),[])) s
    else .ok (none,s)
  else .ok (none,s)
def qJ (n:Nat) (t:FE) (a:List Tm) (s:σ):Out (Option Tm×σ) :=
 (EH E S (DJ E S n) n t a Be s).bind fun q=>match q.1.1 with
  | none=> .ok (none,q.2)
  | some (b,vars)=>if okB b=false∨vars.all okB=false∨1125899906842624≤Bg vars then .stuck else S.put q.2 (Cv b vars.reverse 0) fun x s'=> .ok (some x,s')
end
def kF (k i:Int) (n:ByteArray) (ls:List Cf) (ks:Nat):Bool:=decide (n.size<Dv)&&decide (ls.length<Dv)&&ls.all V5&&decide (ks<Dv)&&Pw k&&Pw i&&decide ((ks:Int)=arity k)&&(decide (k≠12)||decide (0≤i))&&(decide (k≠0)||decide (0≤i)&&decide (i<1099511627776))
theorem KJ (k i:Int) (n:ByteArray) (ls:List Cf) (ks:List Tm):Rz (.mk k i n ls ks)=(kF k i n ls ks.length&&Kj ks):=by rw[Rz,kF]
theorem Iy:∀{ts:List Tm},Kj ts=true↔∀t∈ts,Rz t=true
 | []=>by simp[Kj]
 | t::ts=>by simp only[Kj,Bool.and_eq_true,Iy (ts:=ts),List.mem_cons,forall_eq_or_imp]
theorem eA {l:Cf}(h:V5 l=true):RQ l:=by
 simp only[V5,Pw,Bool.and_eq_true,decide_eq_true_eq,List.all_eq_true] at h;exact⟨h.1.1,h.1.2,fun v hv=>h.2 v hv⟩
theorem YO {l:Cf}(h:RQ l):V5 l=true:=by
 simp only[V5,Pw,Bool.and_eq_true,decide_eq_true_eq,List.all_eq_true];exact⟨⟨h.vars,h.c⟩,fun v hv=>h.v v hv⟩
mutual
theorem Rq:∀(t:Tm),Rz t=true→Nd t∧Wt t∧Vp t
 | .mk k i n ls ks,h=>by
  rw[KJ,Bool.and_eq_true] at h;obtain⟨h1,h2⟩:=h;simp only[kF,Pw,Bool.and_eq_true,Bool.or_eq_true,decide_eq_true_eq,List.all_eq_true] at h1;obtain⟨a,b,c⟩:=Md ks h2;obtain⟨⟨⟨⟨⟨⟨⟨⟨g1,g2⟩,g3⟩,g4⟩,g5⟩,g6⟩,g7⟩,g8⟩,g9⟩:=h1;refine⟨⟨g1,g2,fun l hl=>eA (g3 l hl),g4,a,g5,g6⟩,⟨g7,fun e=>?_,b⟩,fun e=>?_,c⟩
  ·rcases g8 with g | g
   ·exact absurd e g
   exact g
  rcases g9 with g | g
  ·exact absurd e g
  exact g
theorem Md:∀(ts:List Tm),Kj ts=true→Mk ts∧Mn ts∧SU ts
 | [],_=>⟨trivial,trivial,trivial⟩
 | t::ts,h=>by
  simp only[Kj,Bool.and_eq_true] at h;obtain⟨a,b,c⟩:=Rq t h.1;obtain⟨a',b',c'⟩:=Md ts h.2;exact⟨⟨a,a'⟩,⟨b,b'⟩,⟨c,c'⟩⟩
end
mutual
theorem Si:∀(t:Tm),Nd t→Wt t→Vp t→Rz t=true
 | .mk k i n ls ks,h1,h2,h3=>by
  rw[KJ,Bool.and_eq_true];simp only[Nd] at h1;simp only[Wt] at h2;simp only[Vp] at h3;obtain⟨a1,a2,a3,a4,a5,a6,a7⟩:=h1;refine⟨?_,QB ks a5 h2.2.2 h3.2⟩;simp only[kF,Pw,Bool.and_eq_true,Bool.or_eq_true,decide_eq_true_eq,List.all_eq_true];refine⟨⟨⟨⟨⟨⟨⟨⟨a1,a2⟩,fun l hl=>YO (a3 l hl)⟩,a4⟩,a6⟩,a7⟩,h2.1⟩,?_⟩,?_⟩
  ·by_cases e:k=12
   ·exact .inr (h2.2.1 e)
   exact .inl e
  by_cases e:k=0
  ·exact .inr (h3.1 e)
  exact .inl e
theorem QB:∀(ts:List Tm),Mk ts→Mn ts→SU ts→Kj ts=true
 | [],_,_,_=>rfl
 | t::ts,h1,h2,h3=>by
  simp only[Kj,Bool.and_eq_true];exact⟨Si t h1.1 h2.1 h3.1,QB ts h1.2 h2.2 h3.2⟩
end
structure qv (t:Tm):Prop where
 nd:Nd t
 wt:Wt t
 vp:Vp t
 sz:size t<549755813888
theorem Ch {t:Tm}:okB t=true↔qv t:=by
 simp only[okB,Bool.and_eq_true,decide_eq_true_eq];exact⟨fun h=>by obtain⟨a,b,c⟩:=Rq t h.1;exact⟨a,b,c,h.2⟩,fun h=>⟨Si t h.nd h.wt h.vp,h.sz⟩⟩
theorem LC {t:Tm}(h:Rz t=true) (hs:size t<549755813888):okB t=true:=by simp[okB,h,hs]
theorem Ir {t:Tm}(h:okB t=true):Rz t=true:=by simp only[okB,Bool.and_eq_true] at h;exact h.1
theorem G3 {t:Tm}(h:okB t=true):size t<549755813888:=by simp only[okB,Bool.and_eq_true,decide_eq_true_eq] at h;exact h.2
theorem HZ {t x:Tm}{i:Nat}(h:okB t=true) (hx:t.kids[i]?=some x):okB x=true:=by
 have h1:=Ir h;have h2:=G3 h;obtain⟨k,j,n,ls,ks⟩:=t;rw[KJ,Bool.and_eq_true] at h1;simp only[size] at h2;simp only[Tm.kids] at hx;have:=Cj hx;exact LC (Iy.1 h1.2 x (List.mem_of_getElem? hx)) Ar
theorem SO:∀(t:Tm),Rz t=true→Rz (BD t).1=true∧Kj (BD t).2=true
 | .mk k i n l [f,a],h=>by
  unfold BD;split
  ·rw[KJ,Bool.and_eq_true] at h;simp only[Kj,Bool.and_eq_true] at h;obtain⟨h1,h2⟩:=SO f h.2.1;refine⟨h1,Iy.2 fun x hx=>?_⟩;rcases List.mem_append.1 hx with hx | hx
   ·exact Iy.1 h2 x hx
   rw[List.mem_singleton.1 hx];exact h.2.2.1
  ·exact⟨h,O⟩
 | .mk k i n l [],h=>⟨h,rfl⟩
 | .mk k i n l [_],h=>⟨h,rfl⟩
 | .mk k i n l (_::_::_::_),h=>⟨h,rfl⟩
theorem IY {t:Tm}(h:okB t=true):okB (BD t).1=true∧∀x∈(BD t).2,okB x=true:=by
 simp only[okB,Bool.and_eq_true,decide_eq_true_eq] at h ⊢;obtain⟨h1,h2⟩:=SO t h.1;have hs:=H8 t;refine⟨⟨h1,by omega⟩,fun x hx=>⟨Iy.1 h2 x hx,?_⟩⟩;obtain⟨i,hi⟩:=List.mem_iff_getElem?.1 hx;have:=Cj hi;omega
theorem fy {f a:Tm}(h1:Rz f=true) (h2:Rz a=true):Rz (TJ f a)=true:=by
 rw[TJ,KJ,Bool.and_eq_true];exact⟨O,by simp[Kj,h1,h2]⟩
theorem IX:∀{xs:List Tm}{f:Tm},Rz f=true→(∀x∈xs,Rz x=true)→Rz (apply f xs)=true
 | [],f,h,_=>h
 | x::xs,f,h,hx=>by
  rw[apply,List.foldl_cons];exact IX (fy h (hx x As)) fun y hy=>hx y (by simp[hy])
theorem EM:∀(xs:List Tm) (f:Tm),size (apply f xs)=size f+Bg xs+xs.length
 | [],f=>by simp[apply,Bg]
 | x::xs,f=>by
  have:=EM xs (TJ f x);rw[apply] at this ⊢;rw[List.foldl_cons,this];simp only[TJ,size,Bg,List.length_cons];omega
theorem gj (m:Cf):((CD m).map AV.p).all one=true:=rfl
def Kd (l:List CT) (i:Nat):Option Int:=if i=0 then none else (l[i - 1]?).map CT.index
def D1 (c:Int) (l:List CT) (i:Nat):Bool:=FM c (Kd l i) (l.drop i)
theorem Xr {c:Int}{l:List CT}{i:Nat}{v:CT}(h:l[i]?=some v):D1 c l i=(WT c v&&Ji (Kd l i) v.index&&D1 c l (i+1)):=by
 have e:Kd l (i+1)=some v.index:=by simp[Kd,h]
 rw[D1,C2 h,FM,D1,e]
theorem jT {c:Int}{l:List CT}{i:Nat}(h:l.length≤i):D1 c l i=true:=by
 rw[D1,List.drop_eq_nil_of_le h];rfl
theorem fG (l:Cf):Ca l=(decide (0≤l.const)&&decide (l.const≤100)&&D1 l.const l.vars 0):=rfl
theorem j4 {l:Cf}(h:l.const<0∨100<l.const):false=Ca l:=by
 rw[fG];rcases h with h | h
 ·rw[decide_eq_false Ar];rfl
 rw[decide_eq_false (p:=l.const≤100) Ar];simp
theorem ji {c:Int}{v:CT}(h:((v.index < -65536∨8≤v.index)∨v.plus<0)∨100<v.plus):WT c v=false:=by
 simp only[WT,Bool.and_eq_false_iff,decide_eq_false_iff_not];omega
theorem YA {c:Int}{v:CT}(h: -65536≤v.index∧v.index<8∧0≤v.plus∧v.plus≤100) (h1:0<c→v.plus<c):WT c v=true:=by
 simp only[WT,Bool.and_eq_true,Bool.or_eq_true,decide_eq_true_eq];refine⟨⟨⟨⟨h.1,h.2.1⟩,h.2.2.1⟩,h.2.2.2⟩,?_⟩;by_cases q:c≤0
 ·exact .inl q
 exact .inr (h1 Ar)
theorem dQ {l:Cf}(h:Ca l=true):0≤l.const∧l.const≤100:=by
 simp only[Ca,Bool.and_eq_true,decide_eq_true_eq] at h;exact h.1
theorem TQ {l:Cf}{i:Nat}{x:CT}(h:Ca l=true) (hx:l.vars[i]?=some x):(0≤x.plus∧x.plus≤100)∧ -65536≤x.index∧x.index<8:=by
 simp only[Ca,Bool.and_eq_true,decide_eq_true_eq] at h;have:=IW h.2 x (List.mem_of_getElem? hx);simp only[WT,Bool.and_eq_true,decide_eq_true_eq] at this;exact⟨⟨this.1.1.2,this.1.2⟩,this.1.1.1⟩
theorem cQ {l:Cf}(h:Ca l=false∨l.vars.length=0):(0:Int)=GY l:=by
 unfold GY;rw[if_neg];rintro⟨h1,h2⟩;rcases h with h | h
 ·rw[h] at h1;cases h1
 exact h2 (List.length_eq_zero_iff.1 h)
theorem cc {l:Cf}{x:CT}{i:Nat}(h:Ca l=true) (hx:l.vars[i]?=some x) (hi:i=l.vars.length - 1):max 0 (x.index+1)=GY l:=by
 unfold GY;have hne:l.vars≠[]:=by intro e;simp[e] at hx
 rw[if_pos ⟨h,hne⟩,QT,←hi,List.getD_eq_getElem?_getD,hx];rfl
theorem Y8 {l:List CT}{i j:Nat}{u:CT}{x:Int}(hj:l[j]?=some u) (he:i=j+1):(!Ji (Kd l i) x)=decide (u.index≥x):=by
 subst he;have e:Kd l (j+1)=some u.index:=by simp[Kd,hj]
 rw[e];simp only[Ji];rw[←decide_not,decide_eq_decide];omega
theorem Vs {l:List CT}{i:Nat}{x:Int}(h:¬(i:Int) > 0):(!Ji (Kd l i) x)=false:=by
 have:i=0:=by omega
 subst this;rfl
theorem cX {x y:CT}{a b:List CT}(h:y.index<x.index):DT (x::a) (y::b)=y::DT (x::a) b:=by
 rw[DT,FL,if_neg Ar,if_pos h];rfl
def df (a b:List CT) (i k:Nat):Bool:=(k==b.length)||(match a[i]?,b[k]? with
 | some x,some y=>decide (x.index<y.index)
 | _,_=>false)
def gQ (a b:List CT) (i k:Nat):Bool:=(i==a.length)||(match a[i]?,b[k]? with
 | some x,some y=>decide (y.index<x.index)
 | _,_=>false)
section
variable {a b:List CT}{i k:Nat}{vs:List CT}{m:Int}{x y:CT}
theorem X6 (hx:a[i]?=some x) (hy:b[k]?=some y):decide (x.index<y.index)=df a b i k:=by
 have:=(List.getElem?_eq_some_iff.1 hy).1;simp only[df,hx,hy];rw[show (k==b.length)=false by simp;omega,Bool.false_or]
theorem YC (hx:a[i]?=some x) (hy:b[k]?=some y):decide (y.index<x.index)=gQ a b i k:=by
 have:=(List.getElem?_eq_some_iff.1 hx).1;simp only[gQ,hx,hy];rw[show (i==a.length)=false by simp;omega,Bool.false_or]
structure Nw (a b:List CT) (i k:Nat) (vs:List CT) (m:Int):Prop where
 hi:i≤a.length
 hk:k≤b.length
 eq:vs++DT (a.drop i) (b.drop k)=DT a b
 mo:m=PC vs
 ln:vs.length≤i+k
theorem Of (vs:List CT) (v:CT):PC (vs++[v])=max (PC vs) v.plus:=by simp[PC]
theorem Nw.zero:Nw a b 0 0 [] 0:=⟨by omega,by omega,by simp,rfl,by simp⟩
theorem Nw.left (h:Nw a b i k vs m) (hx:a[i]?=some x) (hs:df a b i k=true):Nw a b (i+1) k (vs++[x]) (max m x.plus):=by
 have hl:=(List.getElem?_eq_some_iff.1 hx).1;have:=h.ln;refine⟨hl,h.hk,?_,by rw[Of,←h.mo],by simp;omega⟩;rw[←h.eq,C2 hx,List.append_assoc];congr 1;by_cases q:k<b.length
 ·obtain⟨y,hy⟩:∃y,b[k]?=some y:=⟨_,List.getElem?_eq_getElem q⟩;rw[←X6 hx hy,decide_eq_true_eq] at hs;rw[C2 hy,DT,FL,if_pos hs];rfl
 rw[List.drop_eq_nil_of_le (show b.length≤k by omega),DT,FL];rfl
theorem Nw.right (h:Nw a b i k vs m) (hy:b[k]?=some y) (hs:df a b i k=false) (h2:gQ a b i k=true):Nw a b i (k+1) (vs++[y]) (max m y.plus):=by
 have hl:=(List.getElem?_eq_some_iff.1 hy).1;have:=h.ln;refine⟨h.hi,hl,?_,by rw[Of,←h.mo],by simp;omega⟩;rw[←h.eq,C2 hy,List.append_assoc];congr 1;by_cases q:i<a.length
 ·obtain⟨x,hx⟩:∃x,a[i]?=some x:=⟨_,List.getElem?_eq_getElem q⟩;rw[←YC hx hy,decide_eq_true_eq] at h2;rw[C2 hx,cX h2];rfl
 rw[List.drop_eq_nil_of_le (show a.length≤i by omega),DT,DT];rfl
theorem Nw.both (h:Nw a b i k vs m) (hx:a[i]?=some x) (hy:b[k]?=some y) (hs:df a b i k=false) (h2:gQ a b i k=false):Nw a b (i+1) (k+1) (vs++[⟨x.index,max x.plus y.plus⟩]) (max m (max x.plus y.plus)):=by
 have hl:=(List.getElem?_eq_some_iff.1 hx).1;have hl':=(List.getElem?_eq_some_iff.1 hy).1;have:=h.ln;rw[←X6 hx hy,decide_eq_false_iff_not] at hs;rw[←YC hx hy,decide_eq_false_iff_not] at h2;refine⟨hl,hl',?_,by rw[Of,←h.mo],by simp;omega⟩;rw[←h.eq,C2 hx,C2 hy,List.append_assoc,DT,FL,if_neg hs,if_neg h2];rfl
theorem Nw.fin (h:Nw a b i k vs m) (hc:¬(i<a.length∨k<b.length)):vs=DT a b∧m=PC vs:=by
 refine⟨?_,h.mo⟩;rw[←h.eq,List.drop_eq_nil_of_le Ar,List.drop_eq_nil_of_le Ar];simp[DT]
end
theorem TD:∀{vs:List CT}{lo:Int},Kk vs→(∀v∈vs,lo≤v.index∧v.index<8)→lo≤8→(vs.length:Int)≤8 - lo
 | [],lo,_,_,h=>by simp;omega
 | x::vs,lo,ha,hv,h=>by
  rw[Kk,List.pairwise_cons] at ha;have hx:=hv x As;have:=TD (vs:=vs) (lo:=x.index+1) ha.2 (fun v hv'=>⟨by have:=ha.1 v hv';omega,(hv v (by simp[hv'])).2⟩) Ar;simp only[List.length_cons];omega
structure Lx (l:Cf):Prop where
 c:0≤l.const∧l.const≤100
 asc:Kk l.vars
 rg:∀v∈l.vars,(0≤v.plus∧v.plus≤100)∧ -65536≤v.index∧v.index<8
theorem Lx.len {l:Cf}(h:Lx l):l.vars.length≤65544:=by
 have:=TD (lo:= -65536) h.asc (fun v hv=>(h.rg v hv).2) Ar;omega
theorem Lx.nd {l:Cf}(h:Lx l):RQ l :=
 ⟨by have:=h.len;simp only[Dv];omega,by have:=h.c;unfold JJ;omega,fun v hv=>by have:=h.rg v hv;unfold JJ;omega⟩
theorem Lx.of {l:Cf}(h:Ca l=true):Lx l:=by
 have h0:=dQ h;have h':=h;simp only[Ca,Bool.and_eq_true,decide_eq_true_eq] at h';exact⟨h0,(LU h'.2).1,fun v hv=>by obtain⟨i,hi⟩:=List.mem_iff_getElem?.1 hv;exact TQ h hi⟩
theorem Lx.join {a b:Cf}(h1:Lx a) (h2:Lx b):Lx (Qw a b):=by
 have hc1:=h1.c;have hc2:=h2.c;refine⟨?_,N8 h1.asc h2.asc,HX (Q:=fun v=>(0≤v.plus∧v.plus≤100)∧ -65536≤v.index∧v.index<8) (fun u v g1 g2 _=>by simp only;omega) _ _ h1.rg h2.rg⟩;simp only[Qw,Vd];split<;>omega
theorem Lx.one {v:CT}(h:(0≤v.plus∧v.plus≤100)∧ -65536≤v.index∧v.index<8):Lx ⟨0,[v]⟩:=⟨by simp,by simp[Kk],by simpa using h⟩
theorem Lx.num {n:Int}(h:0≤n∧n≤100):Lx ⟨n,[]⟩:=⟨h,by simp[Kk],by simp⟩
theorem Lx.plus {l:Cf}{n:Int}(hl:Ca l=true) (h0:0≤n) (h1:n≤100) (he:(O4 l n).2=0):Lx (O4 l n).1:=by
 rcases O5 hl h0 h1 with ⟨e,_⟩ | ⟨e,q1,q2⟩
 ·rw[e] at he;simp at he
 have h:=Lx.of hl;have hc:=h.c;rw[e];refine⟨?_,bz h.asc,fun w hw=>?_⟩
 ·simp only[QK];split<;>omega
 simp only[List.mem_map] at hw;obtain⟨u,hu,rfl⟩:=hw;have:=h.rg u hu;have:=q2 u hu;simp only[YZ];omega
section
variable {ps:List Cf}{q p:Cf}{vs:List CT}{v:CT}{i:Nat}
theorem CZ {α:Type} [Inhabited α] {l:List α}{i:Nat}{x:α}(h:l[i]?=some x):l.getD i default=x:=by rw[List.getD_eq_getElem?_getD,h];rfl
end
theorem jG (e:Int):GI e 0=e:=by unfold GI;split<;>simp_all
def MX {α:Type}(p:α→Bool):List α→Int→Int
 | [],_=> -1
 | x::l,i=>if p x=true then i else MX p l (i+1)
theorem UA {α:Type}{p:α→Bool}{l:List α}{i:Nat}{x:α}{k:Int}(h:l[i]?=some x):MX p (l.drop i) k=if p x=true then k else MX p (l.drop (i+1)) (k+1):=by rw[C2 h,MX]
theorem Ty {α:Type}{p:α→Bool}:∀(l:List α) (i:Int),0≤i→decide (MX p l i≥0)=l.any p
 | [],i,_=>by simp[MX]
 | x::l,i,h=>by
  simp only[MX,List.any_cons];split
  ·rename_i q;simp[q,h]
  rename_i q;rw[Ty l (i+1) Ar];simp[q]
theorem JE (c:Int):∀(p:Option Int) (vs:List CT),FM c p vs=(FM 0 p vs&&(decide (c≤0)|| !(vs.any fun v=>decide (c≤v.plus))))
 | p,[]=>by simp[FM]
 | p,v::vs=>by
  simp only[FM,JE c _ vs,List.any_cons,WT];by_cases h:c≤0
  ·simp[h]
  simp only[h,decide_false,Bool.false_or,Int.le_refl,decide_true,Bool.true_or,Bool.and_true,Bool.not_or];have:decide (v.plus<c)= !decide (c≤v.plus):=by rw[←decide_not,decide_eq_decide];omega
  rw[this];cases (!decide (c≤v.plus))<;>cases Ji p v.index<;>cases FM 0 (some v.index) vs<;>simp
theorem jR {l:Cf}(h:(l.const<0∨100<l.const)∨0<l.const∧PF l=true):false=Ca l:=by
 rcases h with h | ⟨h1,h2⟩
 ·exact j4 h
 unfold PF at h2;rw[Ca,JE,h2,decide_eq_false (p:=l.const≤0) Ar];simp
theorem gG {l:Cf}{i:Nat}(h:D1 0 l.vars 0=D1 0 l.vars i) (hb:D1 0 l.vars i=false):false=Ca l:=by
 rw[Ca,JE,show FM 0 none l.vars=D1 0 l.vars 0 from rfl,h,hb];simp
theorem fh {l:Cf}{i:Nat}(h1:¬((l.const<0∨100<l.const)∨0<l.const∧PF l=true)) (h:D1 0 l.vars 0=D1 0 l.vars i) (hb:l.vars.length≤i):true=Ca l:=by
 rw[Ca,JE,show FM 0 none l.vars=D1 0 l.vars 0 from rfl,h,jT hb];simp only[not_or,not_and] at h1;rw[decide_eq_true Ar,decide_eq_true Ar];by_cases q:l.const≤0
 ·simp[q]
 have:=h1.2 Ar;simp only[PF,Bool.not_eq_true] at this;simp[this,q]
section
variable {l:List CT}{i j:Nat}{x u:CT}
theorem Oe (h:((x.index < -65536∨7<x.index)∨x.plus<0)∨100<x.plus):true= !(WT 0 x&&Ji (Kd l i) x.index):=by
 rw[ji Ar];rfl
theorem Li (h:¬(((x.index < -65536∨7<x.index)∨x.plus<0)∨100<x.plus)) (hi:(i:Int)≤0):false= !(WT 0 x&&Ji (Kd l i) x.index):=by
 rw[YA Ar Ar,Bool.true_and,Vs Ar]
theorem Sk (hj:l[j]?=some u) (he:i=j+1) (h:¬(((x.index < -65536∨7<x.index)∨x.plus<0)∨100<x.plus)):decide (u.index≥x.index)= !(WT 0 x&&Ji (Kd l i) x.index):=by
 rw[YA Ar Ar,Bool.true_and,Y8 hj he]
end
theorem m4 {l:Cf}(h:(0≤l.const∧l.const≤100)∧(0<l.const→PF l=false)):¬((l.const<0∨100<l.const)∨0<l.const∧PF l=true):=by
 rintro((q | q) | ⟨q1,q2⟩)
 ·omega
 ·omega
 rw[h.2 q1] at q2;cases q2
theorem lj {l:Cf}(h:Ca l=true→(l.vars.length:Int)≤0):Ca l=false∨l.vars.length=0:=by
 by_cases q:Ca l=true
 ·exact .inr (by have:=h q;omega)
 exact .inl (by simpa using q)
def GN (m:List (Int×Int)):List (Int×AV):=m.map fun p=>(p.1,.p (I p.2))
theorem TG (k:Int):∀m:List (Int×Int),JP k (GN m)=(mg k m).map fun v=> .p (I v)
 | []=>rfl
 | (j,x)::m=>by
  have ih:=TG k m;simp only[GN] at ih;simp only[GN,List.map_cons,JP,mg];split
  ·rfl
  exact ih
theorem X4 (k v:Int):∀m:List (Int×Int),MS k (.p (I v)) (GN m)=GN (ms k v m)
 | []=>rfl
 | (j,x)::m=>by
  have ih:=X4 k v m;simp only[GN] at ih;simp only[GN,List.map_cons,MS,ms];split
  ·rfl
  rw[ih];rfl
theorem Va (m:List (Int×Int)) (k:Int):(JP k (GN m)).getD (.p (I 0))= .p (I ((mg k m).getD 0)):=by rw[TG];cases mg k m<;>rfl
theorem bN (m:List (Int×Int)) (k:Int):(JP k (GN m)).isSome=(mg k m).isSome:=by rw[TG];cases mg k m<;>rfl
theorem ZA {m:List (Int×Int)}{i p:Int}(h:(mg i m).isSome=false∨(mg i m).getD 0<p):Fk m i p=ms i p m:=by
 unfold Fk;cases e:mg i m with
 | none=>rfl
 | some old =>
  rw[e] at h;simp at h;simp only;rw[if_pos Ar]
theorem WB {m:List (Int×Int)}{i p:Int}(h:(mg i m).isSome=true∧p≤(mg i m).getD 0):Fk m i p=m:=by
 unfold Fk;cases e:mg i m with
 | none=>rw[e] at h;simp at h
 | some old =>
  rw[e] at h;simp at h;simp only;rw[if_neg Ar]
theorem oG {l:Cf}{i:Nat}{x:CT}(hx:l.vars[i]?=some x) (h:100<x.plus):Ij l=(G7,15):=by
 unfold Ij;rw[if_pos];rw[List.any_eq_true];exact⟨x,List.mem_of_getElem? hx,by simpa using h⟩
theorem pL {l:Cf}(h:100<l.const):Ij l=(G7,15):=by
 unfold Ij;split
 ·rfl
 first | rfl | rw[if_pos Ar]
theorem XO {l:Cf}(h:∀j,j<l.vars.length→∀y,l.vars[j]?=some y→¬100<y.plus):¬(l.vars.any fun v=>decide (v.plus > 100))=true:=by
 rw[List.any_eq_true];rintro⟨x,hx,hq⟩;obtain⟨j,hj⟩:=List.mem_iff_getElem?.1 hx;exact h j (List.getElem?_eq_some_iff.1 hj).1 x hj (by simpa using hq)
theorem pJ {l:Cf}(h:∀j,j<l.vars.length→∀y,l.vars[j]?=some y→¬100<y.plus) (h1:l.const≤100) (h2:PF l=true):Ij l=(⟨0,l.vars⟩,0):=by
 unfold Ij;rw[if_neg (XO h),if_neg Ar,if_pos h2]
theorem pK {l:Cf}(h:∀j,j<l.vars.length→∀y,l.vars[j]?=some y→¬100<y.plus) (h1:l.const≤100) (h2:PF l=false):Ij l=(l,0):=by
 unfold Ij;rw[if_neg (XO h),if_neg Ar,if_neg (by simp[h2])]
theorem Yn {n:Int}{vs:List CT}{i:Nat}{x:CT}{M:List (Int×Int)}(hx:vs[i]?=some x):Fk ((vs.take i).foldl (HL n) M) x.index (x.plus+n)=(vs.take (i+1)).foldl (HL n) M:=by
 rw[List.take_add_one,hx,List.foldl_append];rfl
theorem step_take {ps:List Cf}{vs:List CT}{i:Nat}{x:CT}{S:List (Int×Int)×Int}(hx:vs[i]?=some x):(vs.take (i+1)).foldl (D3 ps) S=D3 ps ((vs.take i).foldl (D3 ps) S) x:=by
 rw[List.take_add_one,hx,List.foldl_append];rfl
theorem Y6 (M:List (Int×Int)):(GQ M).length=M.length:=by simp[GQ,Su]
def PJ (M:List (Int×Int)) (k:Int):CT:=⟨k,(mg k M).getD 0⟩
theorem V4 {M:List (Int×Int)}{i:Nat}(h:(Et (M.map Prod.fst)).length≤i):((Et (M.map Prod.fst)).take i).map (PJ M)=GQ M:=by
 rw[List.take_of_length_le h];rfl
theorem UL {ps:List Cf}{S:List (Int×Int)×Int}{x:CT}(h:x.index<0):D3 ps S x=(Fk S.1 x.index x.plus,S.2):=by unfold D3;rw[if_pos h]
theorem Td {ps:List Cf}{S:List (Int×Int)×Int}{x:CT}{p:Cf}(h:0≤x.index) (hp:ps[x.index.toNat]?=some p):D3 ps S x=QQ (S.1,S.2) p x.plus:=by unfold D3;rw[if_neg Ar,CZ hp]
theorem PM.len {m:List (Int×Int)}(h:PM m) (hr:∀k∈m.map Prod.fst,-65536≤k∧k<8):m.length≤65544:=by
 have ha:=R7 h;have:=TD (lo:= -65536) ha (fun v hv=>by
  simp only[GQ,List.mem_map] at hv;obtain⟨k,hk,rfl⟩:=hv;exact hr k ((Ma _).mem_iff.1 hk)) Ar
 rw[Y6] at this;omega
structure Vz (S:List (Int×Int)×Int):Prop where
 m:PM S.1
 r:∀k∈S.1.map Prod.fst,-65536≤k∧k<8
theorem Vz.len {S:List (Int×Int)×Int}(h:Vz S):S.1.length≤65544:=h.m.len h.r
theorem QD {m:List (Int×Int)}{i p:Int}{Q:Int→Prop}(h:∀k∈m.map Prod.fst,Q k) (hi:Q i):∀k∈(Fk m i p).map Prod.fst,Q k:=by
 have hs:∀k∈(ms i p m).map Prod.fst,Q k:=by
  rw[Ta];split
  ·exact h
  intro k hk;rcases List.mem_append.1 hk with hk | hk
  ·exact h k hk
  rw[List.mem_singleton.1 hk];exact hi
 unfold Fk;split
 ·split
  ·exact hs
  exact h
 exact hs
theorem S8 {n:Int}{Q:Int→Prop}:∀(vs:List CT) (m:List (Int×Int)),(∀k∈m.map Prod.fst,Q k)→(∀v∈vs,Q v.index)→∀k∈(vs.foldl (HL n) m).map Prod.fst,Q k
 | [],m,h,_=>h
 | v::vs,m,h,hv=>S8 vs (HL n m v) (QD h (hv v As)) fun w hw=>hv w (by simp[hw])
theorem Vz.step {ps:List Cf}{S:List (Int×Int)×Int}{x:CT}(hps:∀l∈ps,Ca l=true) (h:Vz S) (hx:(0≤x.plus∧x.plus≤100)∧ -65536≤x.index∧x.index<8) (hi:x.index<ps.length):Vz (D3 ps S x):=by
 refine⟨(VW hps h.m hx.1.1 hi).1,?_⟩;unfold D3;split
 ·exact QD h.r hx.2
 rename_i q;refine S8 _ _ h.r fun v hv=>?_;have hlt:x.index.toNat<ps.length:=by omega
 rw[List.getD_eq_getElem?_getD,List.getElem?_eq_getElem hlt] at hv;exact((Lx.of (hps _ (List.getElem_mem hlt))).rg v hv).2
theorem Vz.fold {ps:List Cf}(hps:∀l∈ps,Ca l=true):∀(vs:List CT) (S:List (Int×Int)×Int),Vz S→(∀x∈vs,((0≤x.plus∧x.plus≤100)∧ -65536≤x.index∧x.index<8)∧x.index<ps.length)→Vz (vs.foldl (D3 ps) S)
 | [],S,h,_=>h
 | v::vs,S,h,hv=>Vz.fold hps vs _ (h.step hps (hv v As).1 (hv v As).2) fun w hw=>hv w (by simp[hw])
theorem Vz.zero (c:Int):Vz ([],c):=⟨PM.nil,by simp⟩
theorem aF {l:Cf}{ps:List Cf}{i:Nat}{x:CT}(h:Ca l=true) (hp:¬(GY l > ps.length)) (hx:l.vars[i]?=some x):x.index<ps.length:=by
 have hm:=List.mem_of_getElem? hx;have:=M8 (Lx.of h).asc x hm;unfold GY at hp;rw[if_pos ⟨h,List.ne_nil_of_mem hm⟩] at hp;omega
def ID (ps:List Cf):List Cf→Except Int (List Cf)
 | []=> .ok []
 | l::ls=>if (EK l ps).2≠0 then .error (EK l ps).2 else match ID ps ls with
  | .ok zs=> .ok ((EK l ps).1::zs)
  | .error e=> .error e
def Nn (ys:List Cf):Except Int (List Cf)→Except Int (List Cf)
 | .ok zs=> .ok (ys++zs)
 | .error e=> .error e
def Tf (ps:List Cf) (_:Unit) (t:Tm) (_:Int):Except Int ((Tm×Bool)×Unit):=match ID ps t.levels with
 | .ok ls=> .ok ((.mk t.kind t.index t.name ls [],false),())
 | .error e=> .error e
section
variable {ps:List Cf}
theorem jd {ls ys:List Cf}{i:Nat}{l:Cf}(h:ls[i]?=some l) (h0:(EK l ps).2=0):Nn ys (ID ps (ls.drop i))=Nn (ys++[(EK l ps).1]) (ID ps (ls.drop (i+1))):=by
 rw[C2 h,ID,if_neg (by simp[h0])];cases ID ps (ls.drop (i+1))<;>simp[Nn]
theorem jx {ls ys:List Cf}{i:Nat}{l:Cf}(h:ls[i]?=some l) (h0:(EK l ps).2≠0):Nn ys (ID ps (ls.drop i))= .error (EK l ps).2:=by
 rw[C2 h,ID,if_pos h0];rfl
theorem Pz:∀(ls:List Cf) (er:Int),er≠0→(Hn ps er ls).2=er
 | [],er,_=>rfl
 | l::ls,er,h=>by
  rw[Hn];simp only;rw[show GI er (EK l ps).2=er by unfold GI;rw[if_neg h]];exact Pz ls er h
mutual
theorem eP:∀(t:Tm) (er:Int),er≠0→(LG ps er t).2=er
 | .mk k i n ls ks,er,h=>by
  rw[LG];simp only;rw[Pz ls er h];exact NO ks er h
theorem NO:∀(ts:List Tm) (er:Int),er≠0→(JG ps er ts).2=er
 | [],er,_=>rfl
 | t::ts,er,h=>by
  rw[JG];simp only;rw[eP t er h];exact NO ts er h
end
theorem Ue:∀(ls:List Cf),ID ps ls=if (Hn ps 0 ls).2=0 then .ok (Hn ps 0 ls).1 else .error (Hn ps 0 ls).2
 | []=>rfl
 | l::ls=>by
  have ih:=Ue ls;rw[ID,Hn];simp only;by_cases h:(EK l ps).2=0
  ·rw[if_neg (by simp[h]),h,jG,ih];by_cases q:(Hn ps 0 ls).2=0
   ·rw[if_pos q,if_pos q]
   rw[if_neg q,if_neg q]
  rw[if_pos h,show GI 0 (EK l ps).2=(EK l ps).2 from rfl,Pz ls _ h,if_neg h]
mutual
theorem OU:∀(t:Tm) (d:Int),Dx (Tf ps) t d ()=E6 (LG ps 0 t)
 | .mk k i n ls ks,d=>by
  rw[Dx,LG];simp only[Tf,Tm.levels,Tm.kind,Tm.index,Tm.name,Ue];by_cases h:(Hn ps 0 ls).2=0
  ·rw[if_pos h,h];simp only[DZ];rw[if_neg As,RH k 0 ks d];unfold E6 GW;simp only;by_cases q:(JG ps 0 ks).2=0
   ·rw[if_pos q,if_pos q];rfl
   rw[if_neg q,if_neg q]
  rw[if_neg h];simp only[DZ,E6];rw[NO ks _ h,if_neg h]
theorem RH (k:Int):∀(j:Nat) (ts:List Tm) (d:Int),Dm (Tf ps) k j ts d ()=GW (JG ps 0 ts)
 | _,[],_=>rfl
 | j,t::ts,d=>by
  rw[Dm,OU t,JG];unfold E6 GW;simp only;by_cases h:(LG ps 0 t).2=0
  ·rw[if_pos h,h];simp only[DZ];rw[RH k (j+1) ts d];unfold GW;by_cases q:(JG ps 0 ts).2=0
   ·rw[if_pos q,if_pos q]
   rw[if_neg q,if_neg q]
  rw[if_neg h,NO ts _ h,if_neg h];rfl
end
end
theorem Zp (x:Except Int (List Cf)):x=Nn [] x:=by cases x<;>simp[Nn]
theorem fe {ps:List Cf}{s:Unit}{k i d e:Int}{n:ByteArray}{ls:List Cf}{ks:List Tm}(h:ID ps ls= .error e):Tf ps s (.mk k i n ls ks) d= .error e:=by
 simp only[Tf,Tm.levels,h]
theorem jP {ps:List Cf}{s:Unit}{k i d:Int}{n:ByteArray}{ls ys:List Cf}{ks:List Tm}(h:ID ps ls= .ok ys):Tf ps s (.mk k i n ls ks) d= .ok ((.mk k i n ys [],false),()):=by
 simp only[Tf,Tm.levels,Tm.kind,Tm.index,Tm.name,h]
theorem set_drop {ys tl:List Cf}{i:Nat}{x m:Cf}(h:ys.length=i) (hx:tl[i]?=some x):(ys++tl.drop i).set i m=(ys++[m])++tl.drop (i+1):=by
 subst h;rw[C2 hx];simp
theorem iV {ps:List Cf}{tl ys:List Cf}{i:Nat}{X:Except Int (List Cf)}(h:X=Nn ys (ID ps (tl.drop i))) (hi:tl.length≤i):X= .ok ys:=by
 rw[h,List.drop_eq_nil_of_le hi];simp[ID,Nn]
theorem Yr (m:Cf):F9 (((CD m).map AV.p).map dn)=some (CD m):=by obtain⟨c,v⟩:=m;rfl
theorem Uu {t:Tm}{ps:List Cf}{e:Int}(h:E6 (LG ps 0 t)= .error e):B5 t ps=(Be,e):=by
 unfold E6 at h;unfold B5;split at h
 ·cases h
 rename_i q;cases h;rw[if_pos q]
theorem Wi {t z:Tm}{ps:List Cf}{u:Unit}(h:E6 (LG ps 0 t)= .ok (z,u)):B5 t ps=(z,0):=by
 unfold E6 at h;unfold B5;split at h
 ·rename_i q;cases h;rw[if_neg (by simp[q])]
 cases h
def Pe {α:Type}(a b:Out α):Prop:=a= .stuck∨a=b
section
variable {α β:Type}
theorem Pe.refl (a:Out α):Pe a a:= .inr rfl
theorem Pe.bind {a b:Out α}{k k':α→Out β}(h:Pe a b) (hk:∀x,Pe (k x) (k' x)):Pe (a.bind k) (b.bind k'):=by
 rcases h with rfl | rfl
 ·exact .inl O
 cases a with
 | stuck=>exact .inl rfl
 | fail=>exact .inr rfl
 | ok x=>exact hk x
theorem Pe.ite {c:Prop} [Decidable c] {a a' b b':Out α}(h1:Pe a a') (h2:Pe b b'):Pe (if c then a else b) (if c then a' else b'):=by
 split
 ·exact h1
 exact h2
theorem Pe.chk {σ:Type}{a b:Out (Tm×σ)}{k k':Tm×σ→Out β}(h:Pe a b) (hk:∀x,Pe (k x) (k' x)):Pe (a.chk k) (b.chk k'):=Pe.bind h fun x=>Pe.ite (hk x) (Pe.refl _)
variable {σ:Type}{E:List CM}{S:Sys σ}
theorem Pe.put {s:σ}{x:Tm×Int}{k k':Tm→σ→Out β}(hk:∀t s',Pe (k t s') (k' t s')):Pe (S.put s x k) (S.put s x k'):=by
 unfold Sys.put;refine Pe.ite ?_ (Pe.refl _);cases S.res s x.1 x.2 with
 | none=>exact Pe.refl _
 | some s'=>exact hk _ _
variable {W W':σ→Tm→Out (Tm×σ)}(hW:∀s t,Pe (W s t) (W' s t))
include hW
end
section
variable {σ:Type}{E:List CM}{S:Sys σ}
end
theorem ed {k i:Int}{n:ByteArray}{l:List Cf}{ts:List Tm}{x y:Tm}(h:k=6∧((ts.length:Nat):Int)=2) (hx:ts[0]?=some x) (hy:ts[1]?=some y):Hw (.mk k i n l ts)=(x::(Hw y).1,(Hw y).2):=by
 obtain⟨rfl,h2⟩:=h;rw[cP h2 hx hy,Hw,if_pos rfl]
theorem gw {k i:Int}{n:ByteArray}{l:List Cf}{ts:List Tm}(h:k≠6∨((ts.length:Nat):Int)≠2):Hw (.mk k i n l ts)=([],.mk k i n l ts):=by
 unfold Hw;split
 ·rename_i k' i' n' l' a b e;injection e with e1 e2 e3 e4 e5;subst e1 e2 e3 e4 e5;simp at h;rw[if_neg h]
 rfl
theorem Ym {k i:Int}{n:ByteArray}{ls:List Cf}{ts l:List Tm}{x y:Tm}{X:List Tm×Tm}(h:k=6∧((ts.length:Nat):Int)=2) (hx:ts[0]?=some x) (hy:ts[1]?=some y) (hX:(l++(Hw (.mk k i n ls ts)).1,(Hw (.mk k i n ls ts)).2)=X):((l++[x])++(Hw y).1,(Hw y).2)=X:=by
 rw[←hX,ed h hx hy];simp
theorem dY {k i:Int}{n:ByteArray}{ls:List Cf}{ts l:List Tm}{X:List Tm×Tm}(h:k≠6∨((ts.length:Nat):Int)≠2) (hX:(l++(Hw (.mk k i n ls ts)).1,(Hw (.mk k i n ls ts)).2)=X):X=(l,.mk k i n ls ts):=by
 rw[←hX,gw h];simp
theorem Jh:∀(t:Tm),(Hw t).1.length<size t
 | .mk k i n l [a,b]=>by
  unfold Hw;split
  ·have:=Jh b;have:=size_pos a;simp only[List.length_cons,size,Bg];omega
  ·simp[size,Bg];omega
 | .mk k i n l []=>by simp[Hw,size,Bg]
 | .mk k i n l [_]=>by simp[Hw,size,Bg];omega
 | .mk k i n l (_::_::_::_)=>by simp[Hw,size,Bg];omega
mutual
def FJ:FE→Prop
 | .mk k b v l=>okB b=true∧QS l
def iK:GF→Prop
 | .mk c a t=>FJ t
def QS:List GF→Prop
 | []=>True
 | b::l=>iK b∧QS l
end
structure DG (d:CM):Prop where
 din:OD d
 fx:0≤d.fixed∧d.fixed≤1000000
 vl:okB d.value=true
 ru:∀t∈d.recs.rules,okB t=true
 fu:∀f∈d.funs,1≤f.arity∧f.arity≤16∧FJ f.tree
structure L3 (E:List CM):Prop where
 env:Ho E
 all:∀d∈E,DG d
theorem Ps {nm:ByteArray}:∀{l:List (ByteArray×Fu)}{e:Fu},Ck nm l=some e→∃s,(s,e)∈l
 | (s,x)::l,e,h=>by
  simp only[Ck] at h;split at h
  ·cases h;exact⟨s,by simp⟩
  obtain⟨s',h'⟩:=Ps h;exact⟨s',List.mem_cons_of_mem _ h'⟩
theorem U9 {i p:Int}{s:ByteArray}{e:Fu}:∀{cs:List Hz}{k:Int},(s,e)∈Hp i p cs k→∃(j:Nat) (c:Hz),cs[j]?=some c∧e=⟨4,i,k+j,p,c.type⟩
 | c::cs,k,h=>by
  simp only[Hp,List.mem_cons] at h;rcases h with h | h
  ·cases h;exact⟨0,c,rfl,by simp⟩
  obtain⟨j,c',h1,h2⟩:=U9 h;exact⟨j+1,c',by simpa using h1,by rw[h2];congr 1;omega⟩
theorem XR {i p:Int}{s:ByteArray}{e:Fu}:∀{cs:List HB}{k:Int},(s,e)∈K5 i p cs k→∃(j:Nat) (c:HB),cs[j]?=some c∧e=⟨6,i,k+j,p,c.type⟩
 | c::cs,k,h=>by
  simp only[K5,List.mem_cons] at h;rcases h with h | h
  ·cases h;exact⟨0,c,rfl,by simp⟩
  obtain⟨j,c',h1,h2⟩:=XR h;exact⟨j+1,c',by simpa using h1,by rw[h2];congr 1;omega⟩
structure YI (d:CM) (i:Int) (e:Fu):Prop where
 decl:e.decl=i
 kind:0≤e.kind∧e.kind≤6
 ctor:e.kind=4→∃(j:Nat) (c:Hz),d.ctors[j]?=some c∧e.item=j
 func:e.kind=6→∃(j:Nat) (c:HB),d.funs[j]?=some c∧e.item=j
theorem iu {d:CM}{i:Int}{s:ByteArray}{e:Fu}(h:(s,e)∈E9 d i):YI d i e:=by
 unfold E9 at h;split at h
 ·rename_i hk;simp only[List.mem_singleton,Prod.mk.injEq] at h;obtain⟨_,rfl⟩:=h;exact⟨O,by simp only;omega,fun q=>by simp only at q;omega,fun q=>by simp only at q;omega⟩
 split at h
 ·simp only[List.mem_cons,List.mem_append,List.mem_singleton,Prod.mk.injEq,List.not_mem_nil,or_false] at h;rcases h with ⟨_,rfl⟩ | h | ⟨_,rfl⟩
  ·exact⟨O,by simp,fun q=>by simp at q,fun q=>by simp at q⟩
  ·obtain⟨j,c,h1,rfl⟩:=U9 h;exact⟨O,by simp,fun _=>⟨j,c,h1,by simp⟩,fun q=>by simp at q⟩
  exact⟨O,by simp,fun q=>by simp at q,fun q=>by simp at q⟩
 split at h
 ·obtain⟨j,c,h1,rfl⟩:=XR h;exact⟨O,by simp,fun q=>by simp at q,fun _=>⟨j,c,h1,by simp⟩⟩
 cases h
theorem Ul {nm:ByteArray}:∀{ds:List CM}{k:Int}{e:Fu},findF nm ds k=some e→∃(i:Nat) (d:CM),ds[i]?=some d∧YI d (k+i) e
 | d::ds,k,e,h=>by
  simp only[findF] at h;split at h
  ·rename_i x hx;cases h;obtain⟨s,hs⟩:=Ps hx;exact⟨0,d,O,by simpa using iu hs⟩
  obtain⟨i,d',h1,h2⟩:=Ul h;refine⟨i+1,d',by simpa using h1,?_⟩;rw[show k+((i+1:Nat):Int)=k+1+i by omega];exact h2
theorem RO {ds:List CM}{nm:ByteArray}(h:(Bw ds nm).2=0):∃(i:Nat) (d:CM),ds[i]?=some d∧YI d i (Bw ds nm).1:=by
 unfold Bw at h ⊢;cases e:findF nm ds 0 with
 | none=>rw[e] at h;simp at h
 | some x =>
  obtain⟨i,d,h1,h2⟩:=Ul e;exact⟨i,d,h1,by simpa using h2⟩
def US:CM:=⟨0,⟨#[]⟩,0,Be,Be,0,[],⟨0,Be,[]⟩,[]⟩
def D4 (E:List CM) (nm:ByteArray):CM×Int×Bool:=match Gy E nm with
 | some (d,j)=>(d,j,true)
 | none=>(US,0,false)
section
variable {E:List CM}{nm:ByteArray}{x:CM}
theorem eg (h:(Bw E nm).2≠0):D4 E nm=(US,0,false):=by simp[D4,Gy,h]
theorem OG (hx:E[(Bw E nm).1.decl.toNat]?=some x):CY E (Bw E nm).1.decl=x:=CZ hx
theorem kS (h:(Bw E nm).2=0) (h3:(Bw E nm).1.kind=3) (hx:E[(Bw E nm).1.decl.toNat]?=some x):D4 E nm=(x,-1,true):=by
 simp[D4,Gy,h,h3,OG hx]
theorem mi (h:(Bw E nm).2=0) (h3:(Bw E nm).1.kind=4) (hx:E[(Bw E nm).1.decl.toNat]?=some x):D4 E nm=(x,(Bw E nm).1.item,true):=by
 simp[D4,Gy,h,h3,OG hx]
theorem lk (h:(Bw E nm).2=0) (h3:(Bw E nm).1.kind=5) (hx:E[(Bw E nm).1.decl.toNat]?=some x):D4 E nm=(x,-2,true):=by
 simp[D4,Gy,h,h3,OG hx]
theorem jH (h3:(Bw E nm).1.kind≠3) (h4:(Bw E nm).1.kind≠4) (h5:(Bw E nm).1.kind≠5):D4 E nm=(US,0,false):=by
 simp[D4,Gy,h3,h4,h5]
end
theorem Hq {d:CM}(h:OD d) (hf:0≤d.fixed∧d.fixed≤1000000):0≤Nc d∧Nc d≤1000000:=by
 have h1:=Jh d.type;have h2:=h.ty.sz;unfold Nc YX;omega
def U0 (E:List CM) (h:Tm):Bool:=decide ((Bw E h.name).2=0)&&decide ((h.levels.length:Int)=(Bw E h.name).1.params)
theorem Cs (E:List CM) (h:Tm):J0 E h=if U0 E h=true then some (Bw E h.name).1 else none:=by
 unfold J0 U0;simp only[Bool.and_eq_true,decide_eq_true_eq]
theorem iU {E:List CM}{k i:Int}{n:ByteArray}{ls:List Cf}{ks:List Tm}(h:(Bw E n).2=0):(((ls.length:Nat):Int)==(Bw E n).1.params)=U0 E (.mk k i n ls ks):=by
 simp only[U0,Tm.name,Tm.levels,h,decide_true,Bool.true_and];rw[Bool.eq_iff_iff,beq_iff_eq];exact⟨fun q=>decide_eq_true q,fun q=>of_decide_eq_true q⟩
theorem lT {E:List CM}{k i:Int}{n:ByteArray}{ls:List Cf}{ks:List Tm}(h:(Bw E n).2≠0):false=U0 E (.mk k i n ls ks):=by
 simp[U0,Tm.name,h]
end Go.Eu
namespace Go.Proofs.YtboammbpdaoojaaGreat
open Go.Abs Go.Eu
theorem jE:∀(b0:Nat) (l:Cf) (x:CT),Bu Tryz.prog 196 [.agg ((Gm x).map .p),.ptr b0 0] [.box b0 ((CD l).map .p)] (HM (.p (.bool (decide (l.const≤x.plus)))) [.box b0 ((CD l).map .p)]):=by
 intro b0 l x;refine A9 Tryz.func196 O mZ (n:=9) O O (A3 (BP O (BY O) fun b2=>Ax A8 1 [] O (Ay A8 6 [0,1] O (A4 (⟨O,_,_,⟨_,_,O,O,O⟩,(CO (is:=[1]) O),?_⟩)))))
 all_goals exact⟨rfl,rfl⟩
theorem kB:∀(b0:Nat) (l:Cf) (vs:List CT),(vs.length<Dv)→Bu Tryz.prog 200 [.p (.lst (List.map Gm vs)),.fn (.func 196) [] [.ptr b0 0]] [.box b0 ((CD l).map .p)] (HM (.p (I (MX (fun v=>decide (l.const≤v.plus)) vs 0))) [.box b0 ((CD l).map .p)]):=by
 intro b0 l vs h1;simp only[Dv] at h1;refine A9 Tryz.func200 O mY (n:=19) O O (Ay A8 1 [] O (Az (A3 (B0 O (Av O (BS EA O (List.length_map _)) (Ax A8 1 [] O (BH (Bn (α:=Nat) (fun i=>⟨19,mk [(0,.p (.lst (List.map Gm vs))),(1,.fn (.func 196) [] [.ptr b0 0]),(7,.p (I (vs.length:Nat))),(8,.p (I (i:Int)))],[.box b0 ((CD l).map .p)],[]⟩) (fun i=>vs.length - i) (fun i=>i≤vs.length∧(MX (fun v=>decide (l.const≤v.plus)) (vs.drop i) i=MX (fun v=>decide (l.const≤v.plus)) vs 0)) 0 (⟨by omega,rfl⟩) ?_ ?_))))))))
 ·exact Bh ⟨we O,we O,we O,we O,Au⟩ (leH (is:=[0]) O (wl (oe O) (Dd)))
 rintro i hC
 try simp only at hC
 obtain⟨hi,hC⟩:=hC;refine Ay A8 1 [] O (Az (A0 O (fun c=>?_) (fun c=>?_)))
 ·(try simp only[sd,se] at c);refine A5 (Az (BH (Ay A8 2 [] O (A3 (A2 A8 3 [] O ?_)))));obtain⟨x,hx⟩:=BB (l:=vs) (i:=i) Ar;refine Av O (BA EA O O Ar (Ee hx) (O)) (Av O (BO O1 O (O)) (Av O (Co [0] O (.inr O) (jE b0 l x) ⟨_,_,O,O,O⟩ Aq O (.inl O)) (Bk O (A0 O (fun c1=>?_) (fun c1=>?_)))))
  ·(try simp only[sd,se] at c1);refine Ay A8 2 [] O (A4 (⟨O,_,_,⟨_,_,O,O,O⟩,(CO (is:=[0]) O),?_⟩))
   all_goals exact⟨by show (.p (I (i:Int)):AV)=_;rw[←hC,UA hx,if_pos (by simpa using c1)],rfl⟩
  (try simp only[sd,se] at c1);refine A5 (A7 (Ax A8 2 [] O ?_));refine⟨(i+1),AT,⟨by omega,by rw[←hC,UA hx,if_neg (by simpa using c1)];rfl⟩,Bh ⟨we rfl,we rfl,we rfl,we rfl,trivial⟩ (leH (is:=[0]) rfl (wl (oe rfl) (Dd)))⟩
 (try simp only[sd,se] at c);refine Bp (Ay A8 1 [] O (A4 (⟨O,_,_,⟨_,_,O,O,O⟩,(CO (is:=[0]) O),?_⟩)))
 all_goals exact⟨by show (.p (I (-1)):AV)=_;rw[←hC,List.drop_eq_nil_of_le Ar];rfl,rfl⟩
theorem jO:∀(b0:Nat) (l:Cf) (vs:List CT),(vs.length<Dv)→Bu Tryz.prog 195 [.p (.lst (List.map Gm vs)),.fn (.func 196) [] [.ptr b0 0]] [.box b0 ((CD l).map .p)] (HM (.p (.bool (vs.any (fun v=>decide (l.const≤v.plus))))) [.box b0 ((CD l).map .p)]):=by
 intro b0 l vs h1;refine A9 Tryz.func195 O lR (n:=9) O O (Ay A8 1 [] O (A3 (A2 A8 2 [] O (Av O (Co [0] O (.inl ⟨O,O,O⟩) (kB b0 l vs h1) ⟨_,_,O,O,O⟩ Aq O (.inl O)) (Ax A8 2 [] O (A4 (⟨O,_,_,⟨_,_,O,O,O⟩,(CO (is:=[0]) O),?_⟩)))))))
 all_goals exact⟨by show (.p (.bool (decide ((MX (fun v=>decide (l.const≤v.plus)) vs 0:Int)≥(0:Int)))):AV)=_;rw[←Ty vs 0 Ar],rfl⟩
theorem QO:∀(l:Cf),(l.vars.length<Dv)→FF Tryz.prog 190 [.agg ((CD l).map .p)] (.p (.bool (PF l))):=by
 intro l h1;refine A9 Tryz.func190 O lZ (n:=7) O O (A3 (BP O (BY O) fun b1=>Ax A8 1 [] O (A3 (A2 A8 3 [0] O (Av O (Co [0] O (.inl ⟨O,O,O⟩) (jO b1 l l.vars h1) ⟨_,_,O,O,O⟩ Aq O (.inl O)) (Ax A8 1 [] O (A4 (⟨O,_,_,⟨_,_,O,O,O⟩,(List.nil_sublist _),?_⟩))))))))
 all_goals exact⟨rfl,rfl⟩
theorem _root_.Go.AI {α:Prop}(h:α:=by first | rfl | (refine pB ?_;simp_all;done) | (refine pB ?_;simp_all<;>(intros;omega))):α:=h
theorem QU:∀(l:Cf),(RQ l)→FF Tryz.prog 180 [.agg ((CD l).map .p)] (.p (.bool (Ca l))):=by
 intro l h1;have hl:=h1.vars;simp only[Dv] at hl;refine A9 Tryz.func180 O kv (n:=65) O O (A3 (BP O (BY O) fun b1=>Ax A8 1 [] O (Az (Az (Bb [1] 21 (fun y=>y= .p (.bool (((decide ((l.const:Int)<(0:Int)))||(decide ((l.const:Int) > (100:Int))))||((decide ((l.const:Int) > (0:Int)))&&(PF (Cf.mk l.const l.vars)))))) ?_ ?_)))))
 ·refine A7 (A2 A8 4 [0] O (BQ 8 O (fun g=>?_) (fun g=>?_)))
  ·(try simp only[sd,se] at g);exact Ax A8 13 [] O (⟨O,O,AK,AI,⟨O,Au⟩⟩)
  (try simp only[sd,se] at g);refine A2 A8 5 [0] O (BQ 13 O (fun g1=>?_) (fun g1=>?_))
  ·(try simp only[sd,se] at g1);exact Ax A8 8 [] O (⟨O,O,AK,AI,⟨O,Au⟩⟩)
  (try simp only[sd,se] at g1);refine A2 A8 4 [0] O (BQ 17 O (fun g2=>?_) (fun g2=>?_))
  ·(try simp only[sd,se] at g2);exact BF O (BI (i:=0) FK O O O) (BF O (BM O O (QO (Cf.mk l.const l.vars) h1.vars) O) (Ax A8 2 [] O (⟨O,O,AK,AI,⟨O,Au⟩⟩)))
  (try simp only[sd,se] at g2);exact Ax A8 4 [] O (⟨O,O,AK,AI,⟨O,Au⟩⟩)
 rintro _ rfl;refine A0 O (fun c=>?_) (fun c=>?_)
 ·(try simp only[sd,se] at c);refine Ay A8 1 [] O (A4 (⟨O,_,_,⟨_,_,O,O,O⟩,(List.nil_sublist _),?_⟩))
  all_goals exact⟨pB (jR c),rfl⟩
 (try simp only[sd,se] at c);refine A5 (Az (A3 (A2 A8 2 [0] O (Av O (BS EA O (List.length_map _)) (Ax A8 1 [] O (BH (Bn (α:=Nat) (fun i=>⟨65,mk [(1,.ptr b1 0),(23,.p (.lst (List.map Gm l.vars))),(24,.p (I (l.vars.length:Nat))),(25,.p (I (i:Int)))],[.box b1 [.p (I l.const),.p (.lst (List.map Gm l.vars))]],[]⟩) (fun i=>l.vars.length - i) (fun i=>i≤l.vars.length∧(D1 0 l.vars 0=D1 0 l.vars i)) 0 (⟨by omega,rfl⟩) ?_ ?_)))))))
 ·exact Bh ⟨we O,we O,we O,we O,Au⟩ (leH (is:=[0]) O (wl (oe O) (Dd)))
 rintro i hC
 try simp only at hC
 obtain⟨hi,hC⟩:=hC;refine Ay A8 1 [] O (Az (A0 O (fun c1=>?_) (fun c1=>?_)))
 ·(try simp only[sd,se] at c1);refine A5 (Az (BH (A3 (B0 O ?_))));obtain⟨x,hx⟩:=BB (l:=l.vars) (i:=i) Ar;refine Av O (BA EA O O Ar (Ee hx) (O)) (Av O (BO O1 O (O)) (BP O (BE L4 O) fun b4=>Ax A8 2 [0,1] O (Az (Bb [1,23,24,25] 63 (fun y=>y= .p (.bool (!(WT 0 x&&Ji (Kd l.vars i) x.index)))) ?_ ?_))))
  ·refine CG (fun k=>false) Eg (A1 O (fun _=>Aw Ia O O) Au (BT (j:=0) O O O (fun H i hi=>BG (i:=i) C7 O hi O) AB Au (A1 O (fun _=>D8 O O O) Au (A1 O (fun _=>BC O) Au (GX 33 O (fun g=>?_) (fun g=>?_))))))
   ·(try simp only[sd,se] at g);exact B1 O Au (B1 O Au (B1 O Au (A1 O (fun _=>CS O O) Au (A1 O (fun _=>BC O) Au (B1 O Au (B1 O Au (B1 O Au (A1 O (fun _=>CS O O) Au (A1 O (fun _=>BC O) Au (B1 O Au (B1 O Au (B1 O Au (A1 O (fun _=>CS O O) Au (A1 O (fun _=>BC O) Au (B1 O Au (B1 O Au (B1 O Au (CR O O O O Au (CR O O O O Au (CR O O O O Au (CR O O O O Au (CR O O O O Au (CR O O O O Au (CR O O O O Au (CR O O O O Au (CR O O O O Au (CR O O O O Au (B1 O Au (A1 O (fun _=>CS O O) Au (B6 O An (⟨O,O,AK,(by first | exact pB (Oe Ar) | exact pB (Li Ar Ar) | exact pB (Sk hx1 Ar Ar)),⟨O,O,O,O,Au⟩⟩)))))))))))))))))))))))))))))))
   (try simp only[sd,se] at g);refine By O (fun _=>Aw Ia O O) Au (Dl (i:=0) O O O O O (fun H i hi=>BG (i:=i) C7 O hi O) AB Au (By O (fun _=>D8 O O O) Au (A1 O (fun _=>CS O O) Au (A1 O (fun _=>BC O) Au (GX 38 O (fun g1=>?_) (fun g1=>?_))))))
   ·(try simp only[sd,se] at g1);exact B1 O Au (B1 O Au (B1 O Au (A1 O (fun _=>CS O O) Au (A1 O (fun _=>BC O) Au (B1 O Au (B1 O Au (B1 O Au (A1 O (fun _=>CS O O) Au (A1 O (fun _=>BC O) Au (B1 O Au (B1 O Au (B1 O Au (CR O O O O Au (CR O O O O Au (CR O O O O Au (CR O O O O Au (CR O O O O Au (CR O O O O Au (CR O O O O Au (CR O O O O Au (CR O O O O Au (CR O O O O Au (B1 O Au (A1 O (fun _=>CS O O) Au (B6 O An (⟨O,O,AK,(by first | exact pB (Oe Ar) | exact pB (Li Ar Ar) | exact pB (Sk hx1 Ar Ar)),⟨O,O,O,O,Au⟩⟩))))))))))))))))))))))))))
   (try simp only[sd,se] at g1);refine By O (fun _=>Aw Ia O O) Au (Dl (i:=0) O O O O O (fun H i hi=>BG (i:=i) C7 O hi O) AB Au (By O (fun _=>D8 O O O) Au (A1 O (fun _=>CS O O) Au (A1 O (fun _=>BC O) Au (GX 43 O (fun g2=>?_) (fun g2=>?_))))))
   ·(try simp only[sd,se] at g2);exact B1 O Au (B1 O Au (B1 O Au (A1 O (fun _=>CS O O) Au (A1 O (fun _=>BC O) Au (B1 O Au (B1 O Au (B1 O Au (CR O O O O Au (CR O O O O Au (CR O O O O Au (CR O O O O Au (CR O O O O Au (CR O O O O Au (CR O O O O Au (CR O O O O Au (CR O O O O Au (CR O O O O Au (B1 O Au (A1 O (fun _=>CS O O) Au (B6 O An (⟨O,O,AK,(by first | exact pB (Oe Ar) | exact pB (Li Ar Ar) | exact pB (Sk hx1 Ar Ar)),⟨O,O,O,O,Au⟩⟩)))))))))))))))))))))
   (try simp only[sd,se] at g2);refine By O (fun _=>Aw Ia O O) Au (Dl (i:=0) O O O O O (fun H i hi=>BG (i:=i) C7 O hi O) AB Au (By O (fun _=>D8 O O O) Au (A1 O (fun _=>CS O O) Au (A1 O (fun _=>BC O) Au (GX 48 O (fun g3=>?_) (fun g3=>?_))))))
   ·(try simp only[sd,se] at g3);exact B1 O Au (B1 O Au (B1 O Au (CR O O O O Au (CR O O O O Au (CR O O O O Au (CR O O O O Au (CR O O O O Au (CR O O O O Au (CR O O O O Au (CR O O O O Au (CR O O O O Au (CR O O O O Au (B1 O Au (A1 O (fun _=>CS O O) Au (B6 O An (⟨O,O,AK,(by first | exact pB (Oe Ar) | exact pB (Li Ar Ar) | exact pB (Sk hx1 Ar Ar)),⟨O,O,O,O,Au⟩⟩))))))))))))))))
   (try simp only[sd,se] at g3);refine By O (fun _=>BC O) Au (By O (fun _=>D8 O O O) Au (By O (fun _=>BC O) Au (GX 51 O (fun g4=>?_) (fun g4=>?_))))
   ·(try simp only[sd,se] at g4);refine By O (fun _=>Aw JB O O) Au (Dl (i:=1) O O O O O (fun H i hi=>BG (i:=i) PB O hi O) AB Au (By O (fun _=>BC O) Au (By O (fun _=>Lp O O Ar Ar) Au ?_)));obtain⟨x1,hx1⟩:=BB (l:=l.vars) (i:=(((i:Int):Int) - (1:Int):Int).toNat) Ar;exact By O (fun _=>BA EA O O Ar (Ee hx1) (O)) Au (By O (fun _=>B3 Ia O O) Au (By O (fun _=>Dt C7 O) Au (By O (fun _=>Aw Ia O O) Au (Dl (i:=0) O O O O O (fun H i hi=>BG (i:=i) C7 O hi O) AB Au (By O (fun _=>D8 O O O) Au (By O (fun _=>CS O O) Au (A1 O (fun _=>CS O O) Au (B6 O An (⟨O,O,AK,(by first | exact pB (Oe Ar) | exact pB (Li Ar Ar) | exact pB (Sk hx1 Ar Ar)),⟨O,O,O,O,Au⟩⟩)))))))))
   (try simp only[sd,se] at g4);exact B1 O Au (B1 O Au (B1 O Au (B1 O Au (B1 O Au (B1 O Au (B1 O Au (B1 O Au (B1 O Au (B1 O Au (By O (fun _=>CS O O) Au (A1 O (fun _=>CS O O) Au (B6 O An (⟨O,O,AK,(by first | exact pB (Oe Ar) | exact pB (Li Ar Ar) | exact pB (Sk hx1 Ar Ar)),⟨O,O,O,O,Au⟩⟩)))))))))))))
  rintro _ rfl;refine A0 O (fun c2=>?_) (fun c2=>?_)
  ·(try simp only[sd,se] at c2);refine Ay A8 1 [] O (A4 (⟨O,_,_,⟨_,_,O,O,O⟩,(List.nil_sublist _),?_⟩))
   all_goals exact⟨pB (gG hC (by rw[Xr hx];simp at c2 ⊢;intro q1 q2;simp[c2 q1] at q2)),rfl⟩
  (try simp only[sd,se] at c2);refine A5 (A7 (Ax A8 2 [] O (⟨(i+1),AT,⟨by omega,(hC.trans (by rw[Xr hx,c2.1,c2.2];rfl))⟩,Bh ⟨we rfl,we rfl,we rfl,we rfl,trivial⟩ (leH (is:=[1]) rfl (wl (oe rfl) (Dd)))⟩)))
 (try simp only[sd,se] at c1);refine Bp (Ay A8 1 [] O (A4 (⟨O,_,_,⟨_,_,O,O,O⟩,(List.nil_sublist _),?_⟩)))
 all_goals exact⟨pB (fh (m4 c) hC Ar),rfl⟩
theorem _root_.Go.Aj {α:Prop}(h:α:=by simp[Dw]):α:=h
theorem fO:∀(x:Cf),(RQ x)→FF Tryz.prog 191 [.agg ((CD x).map .p)] (.p (.bool (!Ca x))):=by
 intro x h1;refine A9 Tryz.func191 O nH (n:=6) O O (A3 (BP O (BY O) fun b1=>Ax A8 1 [] O (A3 (Av O (BI (i:=0) FK O O Aj) (Av O (BM O O (QU x h1) O) (Ax A8 2 [] O (A4 (⟨O,_,_,⟨_,_,O,O,O⟩,(List.nil_sublist _),?_⟩))))))))
 all_goals exact⟨rfl,rfl⟩
theorem ek:∀(l:List Cf),(l.length<Dv)→(∀x∈l,RQ x)→FF Tryz.prog 130 [.p (.lst (List.map CD l)),.p (.fn 191)] (.p (I (MX (fun x=> !Ca x) l 0))):=by
 intro l h1 h2;simp only[Dv] at h1;refine A9 Tryz.func130 O iH (n:=19) O O (Ay A8 1 [] O (Az (A3 (B0 O (Av O (BS Fb O (List.length_map _)) (Ax A8 1 [] O (BH (Bn (α:=Nat) (fun i=>⟨19,mk [(0,.p (.lst (List.map CD l))),(1,.p (.fn 191)),(7,.p (I (l.length:Nat))),(8,.p (I (i:Int)))],[],[]⟩) (fun i=>l.length - i) (fun i=>i≤l.length∧(MX (fun x=> !Ca x) (l.drop i) i=MX (fun x=> !Ca x) l 0)) 0 (⟨by omega,rfl⟩) ?_ ?_))))))))
 ·exact Bh ⟨we O,we O,we O,we O,Au⟩ (leH (is:=[]) O (Dd))
 rintro i hC
 try simp only at hC
 obtain⟨hi,hC⟩:=hC;refine Ay A8 1 [] O (Az (A0 O (fun c=>?_) (fun c=>?_)))
 ·(try simp only[sd,se] at c);refine A5 (Az (BH (Ay A8 2 [] O (A3 (A2 A8 3 [] O ?_)))));obtain⟨x,hx⟩:=BB (l:=l) (i:=i) Ar;refine Av O (BA Fb O O Ar (G0 hx) (Dw _)) (Av O (BO FK O (Dw _)) (Av O (BM O O (fO x (h2 x (List.mem_of_getElem? hx))) O) (Bk O (A0 O (fun c1=>?_) (fun c1=>?_)))))
  ·(try simp only[sd,se] at c1);refine Ay A8 2 [] O (A4 (⟨O,_,_,⟨_,_,O,O,O⟩,(List.nil_sublist _),?_⟩))
   all_goals exact⟨by show (.p (I (i:Int)):AV)=_;rw[←hC,UA hx,if_pos (by simpa using c1)],rfl⟩
  (try simp only[sd,se] at c1);refine A5 (A7 (Ax A8 2 [] O ?_));refine⟨(i+1),AT,⟨by omega,by rw[←hC,UA hx,if_neg (by simpa using c1)];rfl⟩,Bh ⟨we rfl,we rfl,we rfl,we rfl,trivial⟩ (leH (is:=[]) rfl (Dd))⟩
 (try simp only[sd,se] at c);refine Bp (Ay A8 1 [] O (A4 (⟨O,_,_,⟨_,_,O,O,O⟩,(List.nil_sublist _),?_⟩)))
 all_goals exact⟨by show (.p (I (-1)):AV)=_;rw[←hC,List.drop_eq_nil_of_le Ar];rfl,rfl⟩
theorem gD:∀(l:List Cf),(l.length<Dv)→(∀x∈l,RQ x)→FF Tryz.prog 99 [.p (.lst (List.map CD l)),.p (.fn 191)] (.p (.bool (l.any (fun x=> !Ca x)))):=by
 intro l h1 h2;refine A9 Tryz.func99 O kl (n:=9) O O (Ay A8 1 [] O (A3 (A2 A8 2 [] O (Av O (BM O O (ek l h1 h2) O) (Ax A8 2 [] O (A4 (⟨O,_,_,⟨_,_,O,O,O⟩,(List.nil_sublist _),?_⟩)))))))
 all_goals exact⟨by show (.p (.bool (decide ((MX (fun x=> !Ca x) l 0:Int)≥(0:Int)))):AV)=_;rw[←Ty l 0 Ar],rfl⟩
theorem UQ:∀(l:List Cf),(l.length<Dv)→(∀x∈l,RQ x)→FF Tryz.prog 181 [.p (.lst (List.map CD l))] (.p (.bool (l.all Ca))):=by
 intro l h1 h2;refine A9 Tryz.func181 O nT (n:=6) O O (Ay A8 1 [] O (A3 (B0 O (Av O (BM O O (gD l h1 h2) O) (Ax A8 2 [] O (A4 (⟨O,_,_,⟨_,_,O,O,O⟩,(List.nil_sublist _),?_⟩)))))))
 all_goals exact⟨pB (by rw[List.all_eq_not_any_not]),rfl⟩
theorem Zn:∀(l:Cf),(RQ l)→FF Tryz.prog 182 [.agg ((CD l).map .p)] (.p (I (GY l))):=by
 intro l h1;have hl:=h1.vars;simp only[Dv] at hl;refine A9 Tryz.func182 O lu (n:=22) O O (A3 (BP O (BY O) fun b1=>Ax A8 1 [] O (Az (A3 (A2 A8 2 [0] O (Av O (BS EA O (List.length_map _)) (Ax A8 1 [] O (Az (Bb [1,3] 12 (fun y=>y= .p (.bool ((Ca (Cf.mk l.const l.vars))&&(decide (((l.vars.length:Nat):Int) > (0:Int)))))) ?_ ?_)))))))))
 ·refine A7 (Av O (BI (i:=0) FK O O O) (Av O (BM O O (QU (Cf.mk l.const l.vars) h1) O) (B0 O (BQ 9 O (fun g=>?_) (fun g=>?_)))))
  ·(try simp only[sd,se] at g);exact Ax A8 3 [] O (⟨O,O,AK,AI,⟨O,O,Au⟩⟩)
  (try simp only[sd,se] at g);exact Ax A8 3 [] O (⟨O,O,AK,AI,⟨O,O,Au⟩⟩)
 rintro _ rfl;refine A0 O (fun c=>?_) (fun c=>?_)
 ·(try simp only[sd,se] at c);obtain⟨hv,hn⟩:Ca l=true∧0<l.vars.length:=by simpa using c
  refine A3 (A2 A8 4 [0] O ?_);obtain⟨x,hx⟩:=BB (l:=l.vars) (i:=(((l.vars.length:Nat):Int) - (1:Int):Int).toNat) Ar;have hw:=TQ hv hx;refine Av O (BA EA O O Ar (Ee hx) (O)) (A2 A8 3 [] O (Av O (IN O O) (Ax A8 1 [] O (A4 (⟨O,_,_,⟨_,_,O,O,O⟩,(List.nil_sublist _),?_⟩)))))
  all_goals exact⟨pI (cc hv hx Ar),rfl⟩
 (try simp only[sd,se] at c);refine A5 (Ay A8 1 [] O (A4 (⟨O,_,_,⟨_,_,O,O,O⟩,(List.nil_sublist _),?_⟩)))
 all_goals exact⟨pI (cQ (lj c)),rfl⟩
theorem bw:Bu Tryz.prog 183 [] [] (fo (fun b:Nat×Nat=> .ptr b.1 0) (fun b=>[.box b.1 [.map b.2,.p (I 0)],.map b.2 (D7 (GN []))])):=by
 refine A9 Tryz.func183 O lK (n:=4) O O (Ay A8 1 [] O (A3 (jz O O VZ fun m1=>Av O (CE Sj mJ O) (BP O (BY O) fun b3=>Ax A8 1 [] O (A4 (⟨O,_,_,⟨_,_,O,O,O⟩,(CO (is:=[0,1]) O),?_⟩))))));exact⟨(_,_),O,O⟩
theorem VX:∀(m:Nat) (M:List (Int×Int)) (i p:Int),Bu Tryz.prog 184 [.map m,.p (I i),.p (I p)] [.map m (D7 (GN M))] (HM (.tup []) [.map m (D7 (GN (Fk M i p)))]):=by
 intro m M i p;refine A9 Tryz.func184 O mr (n:=24) O O (A3 (A2 A8 2 [] O ?_));refine Av O (RS (i:=0) Z0 fj (fun _ _=>by simp[CF,CK]) rfl rfl rfl (Va _ _) (bN _ _)) ?_;refine Ax A8 5 [] O (Az (Bb [0,1,2] 20 (fun y=>y= .p (.bool ((!((mg i M).isSome))||(decide ((p:Int) > ((mg i M).getD 0:Int)))))) ?_ ?_))
 ·refine A7 (A2 A8 3 [] O (BQ 16 O (fun g=>?_) (fun g=>?_)))
  ·(try simp only[sd,se] at g);exact Ax A8 4 [] O (⟨O,O,AK,AI,⟨O,O,O,Au⟩⟩)
  (try simp only[sd,se] at g);exact Ax A8 4 [] O (⟨O,O,AK,AI,⟨O,O,O,Au⟩⟩)
 rintro _ rfl;refine A0 O (fun c=>?_) (fun c=>?_)
 ·(try simp only[sd,se] at c);refine A7 (A2 A8 3 [] O (Av O (Rj (i:=0) Z0 O O O O) (Bk O ⟨O,_,_,O,(CO (is:=[0]) O),?_⟩)));refine⟨O,?_⟩;show ([.map m (D7 (MS i (.p (I p)) (GN M)))]:List BL)=_;rw[ZA c,←X4]
 (try simp only[sd,se] at c);refine A5 ⟨O,_,_,O,(CO (is:=[0]) O),?_⟩;refine⟨O,?_⟩;show ([.map m (D7 (GN M))]:List BL)=_;rw[WB c]
theorem W2:∀(l:Cf),(l.vars.length<Dv)→FF Tryz.prog 194 [.agg ((CD l).map .p)] (.tup [.agg ((CD ((Ij l).1)).map .p),.p (I ((Ij l).2))]):=by
 intro l h1;have hl:=h1;simp only[Dv] at hl;refine A9 Tryz.func194 O k0 (n:=26) O O (A3 (BP O (BY O) fun b1=>BP O (BE He O) fun b2=>Ax A8 1 [] O (Az (A3 (A2 A8 2 [1] O (Av O (BS EA O (List.length_map _)) (Ax A8 1 [] O (BH ?_))))))));refine Bn (α:=Nat) (fun i=>⟨26,mk [(1,.ptr b1 0),(2,.ptr b2 0),(7,.p (.lst (List.map Gm l.vars))),(8,.p (I (l.vars.length:Nat))),(9,.p (I (i:Int)))],[.box b2 [.p (I 0),.p (.nils)],.box b1 [.p (I l.const),.p (.lst (List.map Gm l.vars))]],[]⟩) (fun i=>l.vars.length - i) (fun i=>i≤l.vars.length∧(∀j,j<i→∀y,l.vars[j]?=some y→¬100<y.plus)) 0 (⟨by omega,fun j h=>by omega⟩) ?_ ?_
 ·exact Bh ⟨we O,we O,we O,we O,we O,Au⟩ (leH (is:=[0,1]) O (wl (oe O) (wl (oe O) (Dd))))
 rintro i hC
 try simp only at hC
 obtain⟨hi,hC⟩:=hC;refine Ay A8 1 [] O (Az (A0 O (fun c=>?_) (fun c=>?_)))
 ·(try simp only[sd,se] at c);refine A5 (Az (BH (A3 ?_)));obtain⟨x,hx⟩:=BB (l:=l.vars) (i:=i) Ar;refine Av O (BA EA O O Ar (Ee hx) (O)) (Av O (BO O1 O (O)) (BP O (BE L4 O) fun b5=>Ax A8 1 [0,1] O (Ay A8 3 [0] O (A0 O (fun c1=>?_) (fun c1=>?_)))))
  ·(try simp only[sd,se] at c1);refine Ay A8 3 [1,0] O (BZ (Bl (i:=1) O) (A4 (⟨O,_,_,⟨_,_,O,(BN (i:=1) FK O O O),⟨_,_,O,O,O⟩⟩,(List.nil_sublist _),?_⟩)))
   all_goals exact⟨by show (.tup [.agg [.p (I 0),.p (.lst [])],.p (I 15)]:AV)=_;rw[oG hx c1];rfl,rfl⟩
  (try simp only[sd,se] at c1);refine A5 (A7 (Ax A8 2 [] O (⟨(i+1),AT,⟨by omega,C6 (p:=fun _ (y:CT)=>¬100<y.plus) hC hx Ar⟩,Bh ⟨we rfl,we rfl,we rfl,we rfl,we rfl,trivial⟩ (leH (is:=[1,2]) rfl (wl (oe rfl) (wl (oe rfl) (Dd))))⟩)))
 (try simp only[sd,se] at c);refine Bp (Az (Ay A8 3 [1] O (A0 O (fun c1=>?_) (fun c1=>?_))))
 ·(try simp only[sd,se] at c1);refine Ay A8 3 [0,0] O (BZ (Bl (i:=0) O) (A4 (⟨O,_,_,⟨_,_,O,(BN (i:=0) FK O O O),⟨_,_,O,O,O⟩⟩,(List.nil_sublist _),?_⟩)))
  all_goals exact⟨by show (.tup [.agg [.p (I 0),.p (.lst [])],.p (I 15)]:AV)=_;rw[pL c1];rfl,rfl⟩
 (try simp only[sd,se] at c1);refine A5 (Az (A3 (Av O (BI (i:=1) FK O O O) (Av O (BM O O (QO (Cf.mk l.const l.vars) h1) O) (Bk O (A0 O (fun c2=>?_) (fun c2=>?_)))))))
 ·(try simp only[sd,se] at c2);refine A7 (Ax A8 2 [1,0] O (Ay A8 3 [1,0,0] O (A4 (⟨O,_,_,⟨_,_,O,(BN (i:=0) FK O O O),⟨_,_,O,O,O⟩⟩,(List.nil_sublist _),?_⟩))))
  all_goals exact⟨by show (.tup [.agg [.p (I 0),.p (.lst (List.map Gm l.vars))],.p (I 0)]:AV)=_;rw[pJ (fun j hj=>hC j Ar) Ar c2];rfl,rfl⟩
 (try simp only[sd,se] at c2);refine A5 (Ay A8 3 [1,0,0] O (A4 (⟨O,_,_,⟨_,_,O,(BN (i:=0) FK O O O),⟨_,_,O,O,O⟩⟩,(List.nil_sublist _),?_⟩)))
 all_goals exact⟨by show (.tup [.agg [.p (I l.const),.p (.lst (List.map Gm l.vars))],.p (I 0)]:AV)=_;rw[pK (fun j hj=>hC j Ar) Ar (by simpa using c2)];rfl,rfl⟩
theorem gN:∀(s m:Nat) (M:List (Int×Int)) (C:Int) (l:Cf) (n:Int),(Lx l)→(0≤n)→(n≤100)→Bu Tryz.prog 185 [.ptr s 0,.agg ((CD l).map .p),.p (I n)] [.box s [.map m,.p (I C)],.map m (D7 (GN M))] (HM (.tup []) [.box s [.map m,.p (I ((QQ (M,C) l n).2))],.map m (D7 (GN (QQ (M,C) l n).1))]):=by
 intro s m M C l n h1 h2 h3;have hl:=h1.len;have hc:=h1.c;refine A9 Tryz.func185 O kP (n:=39) O O (A3 (BP O (BY O) fun b4=>Bk O (Az (CG (fun k=>false) Eg (A1 O (fun _=>BC O) Au (A1 O (fun _=>BC O) Au (A1 O (fun _=>DB O) Au (A1 O (fun _=>Aw Sj O O) Au (BT (j:=1) O O O (fun H i hi=>BG (i:=i) C7 O hi O) AB Au (A1 O (fun _=>Aw JB O O) Au (BT (j:=0) O O O (fun H i hi=>BG (i:=i) C7 O hi O) AB Au (A1 O (fun _=>BC O) Au (A1 O (fun _=>Ga O O Ar Ar) Au (A1 O (fun _=>IN O O) Au (A1 O (fun _=>DB O) Au (A1 O (fun _=>Aw Sj O O) Au (Cd O O (Cl (i:=1) C7 O O O O O O) AB Au (B6 O An (A3 (A2 A8 2 [0] O (Av O (BS EA O (List.length_map _)) (Ax A8 1 [] O ?_))))))))))))))))))))));refine BH (Bn (α:=Nat) (fun i=>⟨39,mk [(0,.ptr s 0),(2,.p (I n)),(21,.p (.lst (List.map Gm l.vars))),(22,.p (I (l.vars.length:Nat))),(23,.p (I (i:Int)))],[.box s [.map m,.p (I (max (C:Int) ((l.const:Int)+(n:Int):Int)))],.map m (D7 (GN ((l.vars.take i).foldl (HL n) M)))],[]⟩) (fun i=>l.vars.length - i) (fun i=>i≤l.vars.length) 0 AP ?_ ?_)
 ·exact Bh ⟨we O,we O,we O,we O,we O,Au⟩ (leH (is:=[1,2]) O (wl (oe O) (wl (oe O) (Dd))))
 rintro i hC
 try simp only at hC
 have hi:=hC;refine Ay A8 1 [] O (Az (A0 O (fun c=>?_) (fun c=>?_)))
 ·(try simp only[sd,se] at c);refine A5 (Az (BH (A3 ?_)));obtain⟨x,hx⟩:=BB (l:=l.vars) (i:=i) Ar;have hv:=h1.rg x (List.mem_of_getElem? hx);refine Av O (BA EA O O Ar (Ee hx) (O)) (Av O (BO O1 O (O)) (BP O (BE L4 O) fun b7=>Ax A8 1 [0,1] O (CG (fun k=>false) Eg (A1 O (fun _=>BC O) Au (A1 O (fun _=>DB O) Au (A1 O (fun _=>Aw Sj O O) Au (BT (j:=1) O O O (fun H i hi=>BG (i:=i) dE O hi O) AB Au (A1 O (fun _=>Aw Ia O O) Au (BT (j:=0) O O O (fun H i hi=>BG (i:=i) C7 O hi O) AB Au (A1 O (fun _=>Aw Ia O O) Au (BT (j:=0) O O O (fun H i hi=>BG (i:=i) C7 O hi O) AB Au (A1 O (fun _=>BC O) Au (A1 O (fun _=>Ga O O Ar Ar) Au ?_)))))))))))));refine Cd O O (Co [2] O (.inl ⟨O,O,O⟩) (VX m ((l.vars.take i).foldl (HL n) M) x.index ((x.plus:Int)+(n:Int))) ⟨_,_,O,O,O⟩ Aq O (.inl O)) AB Au (B6 O An (A7 (CN (Lu (i:=2) O (om (congrArg D7 (congrArg GN (Yn hx))))) (Ax A8 2 [] O ?_))));refine⟨(i+1),AT,by omega,Bh ⟨we rfl,we rfl,we rfl,we rfl,we rfl,trivial⟩ (leH (is:=[1,2]) rfl (wl (oe rfl) (wl (oe rfl) (Dd))))⟩
 (try simp only[sd,se] at c);refine Bp ⟨O,_,_,O,(CO (is:=[0,1]) O),?_⟩;refine⟨O,?_⟩;show ([.box s [.map m,.p (I (max (C:Int) ((l.const:Int)+(n:Int):Int)))],.map m (D7 (GN ((l.vars.take i).foldl (HL n) M)))]:List BL)=_;rw[show l.vars.take i=l.vars from List.take_of_length_le Ar];rfl
end Go.Proofs.YtboammbpdaoojaaGreat
