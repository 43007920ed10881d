/- Part of the proofs: an abstract program logic, plain models and contracts of functions. -/
import Derived.Test.YtboammbpdaoojaaGreatPb
import Derived.Shelf.Sort.Plain
import Derived.Shelf.Slices.In.SortNone
import Derived.Test.YtboammbpdaoojaaGreatPc
import Derived.Test.YtboammbpdaoojaaGreatPd
set_option linter.unusedVariables false
set_option linter.unusedSimpArgs false
set_option maxRecDepth 100000
namespace Go.Eu
open Go.Abs Go.Sort
def Fe (zs:List Int):List Int:=zs.mergeSort fun x y=>decide (x≤y)
theorem TE (zs:List Int):(Fe zs).length=zs.length:=List.length_mergeSort _
end Go.Eu
namespace Go.Eu
open Go.Abs
def US (c:Int) (v:CS):Bool:=decide (-65536≤v.index)&&decide (v.index<8)&&decide (0≤v.plus)&&decide (v.plus≤100)&&(decide (c≤0)||decide (v.plus<c))
def Jb (p:Option Int) (i:Int):Bool:=match p with
 | none=>true
 | some j=>decide (j<i)
def F7 (c:Int):Option Int→List CS→Bool
 | _,[]=>true
 | p,v::vs=>US c v&&Jb p v.index&&F7 c (some v.index) vs
def CL (l:Ci):Bool:=decide (0≤l.const)&&decide (l.const≤100)&&F7 l.const none l.vars
def Ft:Ci:=⟨0,[]⟩
def QU (l:Ci):Bool:=l.vars.any fun v=>decide (l.const≤v.plus)
def Rr (vs:List CS):Int:=(vs.getD (vs.length - 1) default).index
def Gk (l:Ci):Int:=if CL l=true∧l.vars≠[] then max 0 (Rr l.vars+1) else 0
def F8 (x:CS) (rec:List CS→List CS):List CS→List CS
 | []=>x::rec []
 | y::b=>if x.index<y.index then x::rec (y::b) else if y.index<x.index then y::F8 x rec b else ⟨x.index,max x.plus y.plus⟩::rec b
def Dm:List CS→List CS→List CS
 | [],b=>b
 | x::a,b=>F8 x (Dm a) b
def M5 (vs:List CS):Int:=vs.foldl (fun m v=>max m v.plus) 0
def SY (c:Int) (vs:List CS):Ci:=⟨if vs≠[]∧c≤M5 vs then 0 else c,vs⟩
def I7 (a b:Ci):Ci:=SY (max a.const b.const) (Dm a.vars b.vars)
def Nr (n:Int) (v:CS):CS:=⟨v.index,v.plus+n⟩
def JX (l:Ci) (n:Int):Int:=if l.const > 0∨l.vars=[] then l.const+n else 0
def FV (l:Ci) (n:Int):Ci×Int :=
 if CL l=false then (Ft,3) else if n<0 then (Ft,2) else if n > 100 then (Ft,15)
 else if JX l n > 100 then (Ft,15)
 else if (l.vars.any fun v=>decide (v.plus+n > 100))=true then (Ft,15)
 else (⟨JX l n,l.vars.map (Nr n)⟩,0)
def Gf (ps:List Ci):Ci→List CS→Ci×Int
 | out,[]=>(out,0)
 | out,v::vs =>
  if 0≤v.index∧v.index<ps.length then
   (if (FV (ps.getD v.index.toNat default) v.plus).2≠0 then (Ft,(FV (ps.getD v.index.toNat default) v.plus).2)
    else Gf ps (I7 out (FV (ps.getD v.index.toNat default) v.plus).1) vs)
  else Gf ps (I7 out ⟨0,[v]⟩) vs
def C7 (l:Ci) (ps:List Ci):Ci×Int :=
 if CL l=false∨ps.all CL=false then (Ft,3)
 else if Gk l > ps.length then (Ft,24)
 else Gf ps ⟨l.const,[]⟩ l.vars
-- the program's way
def mg (k:Int):List (Int×Int)→Option Int
 | []=>none
 | (j,x)::r=>if j=k then some x else mg k r
def ms (k v:Int):List (Int×Int)→List (Int×Int)
 | []=>[(k,v)]
 | (j,x)::r=>if j=k then (j,v)::r else (j,x)::ms k v r
def Gc (m:List (Int×Int)) (i p:Int):List (Int×Int):=match mg i m with
 | some old=>if p > old then ms i p m else m
 | none=>ms i p m
def IE (n:Int) (m:List (Int×Int)) (v:CS):List (Int×Int):=Gc m v.index (v.plus+n)
def Rq (s:List (Int×Int)×Int) (l:Ci) (n:Int):List (Int×Int)×Int:=(l.vars.foldl (IE n) s.1,max s.2 (l.const+n))
def EL (ps:List Ci) (s:List (Int×Int)×Int) (v:CS):List (Int×Int)×Int :=
 if v.index<0 then (Gc s.1 v.index v.plus,s.2) else Rq s (ps.getD v.index.toNat default) v.plus
def HB (m:List (Int×Int)):List CS:=(Fe (m.map Prod.fst)).map fun i=>⟨i,(mg i m).getD 0⟩
def Je (l:Ci):Ci×Int :=
 if (l.vars.any fun v=>decide (v.plus > 100))=true then (Ft,15)
 else if l.const > 100 then (Ft,15)
 else if QU l=true then (⟨0,l.vars⟩,0) else (l,0)
def Iy (l:Ci) (ps:List Ci):Ci×Int :=
 if CL l=false∨ps.all CL=false then (Ft,3)
 else if Gk l > ps.length then (Ft,24)
 else Je ⟨(l.vars.foldl (EL ps) ([],l.const)).2,HB (l.vars.foldl (EL ps) ([],l.const)).1⟩
-- offsets
def EO:List CS→Int→Int
 | [],_=> -1
 | v::vs,i=>if v.index=i then max v.plus (EO vs i) else EO vs i
abbrev Lh (l:List CS):Prop:=l.Pairwise fun a b=>a.index<b.index
theorem Oh:∀(vs:List CS) (i:Int),-1≤EO vs i
 | [],i=>by simp[EO]
 | v::vs,i=>by have:=Oh vs i;simp only[EO];split<;>omega
theorem KO:∀{vs:List CS}{i:Int},(∀v∈vs,v.index≠i)→EO vs i= -1
 | [],i,_=>rfl
 | v::vs,i,h=>by simp only[EO,if_neg (h v Ay)];exact KO fun w hw=>h w (by simp[hw])
theorem MJ:∀{vs:List CS}{v:CS},v∈vs→v.plus≤EO vs v.index
 | w::vs,v,h=>by
  rcases List.mem_cons.1 h with rfl | h
  ·simp only[EO,if_true];omega
  have:=MJ h;simp only[EO];split<;>omega
theorem ZZ:∀{a b:List CS},Lh a→Lh b→(∀v∈a,0≤v.plus)→(∀v∈b,0≤v.plus)→(∀i,EO a i=EO b i)→a=b
 | [],[],_,_,_,_,_=>rfl
 | [],y::b,_,_,_,hb,h=>by
  have:=h y.index;have:=hb y Ay;have:=MJ (vs:=y::b) (v:=y) Ay;simp only[EO] at *;omega
 | x::a,[],_,_,ha,_,h=>by
  have:=h x.index;have:=ha x Ay;have:=MJ (vs:=x::a) (v:=x) Ay;simp only[EO] at *;omega
 | x::a,y::b,h1,h2,ha,hb,h=>by
  have hx:=ha x Ay;have hy:=hb y Ay;rw[Lh,List.pairwise_cons] at h1 h2;have na:EO a x.index= -1:=KO fun v hv=>by have:=h1.1 v hv;omega
  have nb:EO b y.index= -1:=KO fun v hv=>by have:=h2.1 v hv;omega
  have e:x.index=y.index:=by
   rcases Int.lt_trichotomy x.index y.index with q | q | q
   ·have:=h x.index;have nb':EO b x.index= -1:=KO fun v hv=>by have:=h2.1 v hv;omega
    simp only[EO,if_true,if_neg (show ¬y.index=x.index by omega),nb'] at this;omega
   ·exact q
   have:=h y.index;have na':EO a y.index= -1:=KO fun v hv=>by have:=h1.1 v hv;omega
   simp only[EO,if_true,if_neg (show ¬x.index=y.index by omega),na'] at this;omega
  have e2:x.plus=y.plus:=by
   have:=h x.index;simp only[EO,if_true,if_pos e.symm] at this;rw[←e] at nb;omega
  have exy:x=y:=by cases x;cases y;simp_all
  subst exy;congr 1;refine ZZ h1.2 h2.2 (fun v hv=>ha v (by simp[hv])) (fun v hv=>hb v (by simp[hv])) fun i=>?_;by_cases q:x.index=i
  ·subst q;rw[na,nb]
  have:=h i;simpa only[EO,if_neg q] using this
-- merging
theorem OG {x:CS}{rec:List CS→List CS}{g:Int→Int}(hg:∀i,-1≤g i) (hr:∀b i,EO (rec b) i=max (g i) (EO b i)):∀(b:List CS) (i:Int),EO (F8 x rec b) i=max (EO [x] i) (max (g i) (EO b i))
 | [],i=>by have:=hg i;simp only[F8,EO,hr];split<;>omega
 | y::b,i=>by
  have:=hg i;have h0:=Oh b i;have ih:=OG (x:=x) hg hr b i;simp only[EO] at ih;simp only[F8];split
  ·simp only[EO,hr]
   repeat' split
   all_goals omega
  split
  ·simp only[EO,ih]
   repeat' split
   all_goals omega
  have e:x.index=y.index:=by omega
  simp only[EO,hr,e]
  repeat' split
  all_goals omega
theorem NQ:∀(a b:List CS) (i:Int),EO (Dm a b) i=max (EO a i) (EO b i)
 | [],b,i=>by have:=Oh b i;simp only[Dm,EO];omega
 | x::a,b,i=>by
  have h:=OG (x:=x) (rec:=Dm a) (g:=EO a) (Oh a) (fun b i=>NQ a b i) b i;have h1:=Oh a i;rw[Dm,h];simp only[EO];split<;>omega
theorem ML {Q:CS→Prop}{x:CS}{rec:List CS→List CS}(hx:Q x) (hm:∀u v:CS,Q u→Q v→u.index=v.index→Q ⟨u.index,max u.plus v.plus⟩) (hr:∀b,(∀v∈b,Q v)→∀v∈rec b,Q v):∀(b:List CS),(∀v∈b,Q v)→∀v∈F8 x rec b,Q v
 | [],hb,v,hv=>by
  simp only[F8,List.mem_cons] at hv;rcases hv with rfl | hv
  ·exact hx
  ·exact hr [] Ay v hv
 | y::b,hb,v,hv=>by
  simp only[F8] at hv;have hy:=hb y Ay;have hb':∀v∈b,Q v:=fun v hv=>hb v (by simp[hv]);split at hv
  ·rcases List.mem_cons.1 hv with rfl | hv
   ·exact hx
   exact hr _ hb v hv
  split at hv
  ·rcases List.mem_cons.1 hv with rfl | hv
   ·exact hy
   exact ML hx hm hr b hb' v hv
  rcases List.mem_cons.1 hv with rfl | hv
  ·exact hm x y hx hy Ax
  exact hr _ hb' v hv
theorem IK {Q:CS→Prop}(hm:∀u v:CS,Q u→Q v→u.index=v.index→Q ⟨u.index,max u.plus v.plus⟩):∀(a b:List CS),(∀v∈a,Q v)→(∀v∈b,Q v)→∀v∈Dm a b,Q v
 | [],b,_,hb=>by simpa [Dm] using hb
 | x::a,b,ha,hb=>by
  rw[Dm];exact ML (ha x Ay) hm (fun b hb=>IK hm a b (fun v hv=>ha v (by simp[hv])) hb) b hb
theorem QE {x:CS}{a:List CS}(hr:∀b,Lh b→Lh (Dm a b)) (hx:∀v∈a,x.index<v.index):∀(b:List CS),Lh b→Lh (F8 x (Dm a) b)
 | [],_=>by
  rw[F8,Lh,List.pairwise_cons];exact⟨IK (Q:=fun v=>x.index<v.index) (fun u v h _ _=>h) a [] hx Ay,hr [] (by simp[Lh])⟩
 | y::b,hb=>by
  have hb':=hb;rw[Lh,List.pairwise_cons] at hb';simp only[F8];split
  ·rename_i q;rw[Lh,List.pairwise_cons];refine⟨IK (Q:=fun v=>x.index<v.index) (fun u v h _ _=>h) a _ hx fun v hv=>?_,hr _ hb⟩;rcases List.mem_cons.1 hv with rfl | hv
   ·exact q
   have:=hb'.1 v hv;omega
  split
  ·rename_i q;rw[Lh,List.pairwise_cons];refine⟨ML (Q:=fun v=>y.index<v.index) q (fun u v h _ _=>h) (fun c hc=>IK (Q:=fun v=>y.index<v.index) (fun u v h _ _=>h) a c (fun v hv=>by have:=hx v hv;omega) hc) b hb'.1,QE hr hx b hb'.2⟩
  have e:x.index=y.index:=by omega
  rw[Lh,List.pairwise_cons];refine⟨IK (Q:=fun v=>x.index<v.index) (fun u v h _ _=>h) a b hx (fun v hv=>by have:=hb'.1 v hv;omega),hr _ hb'.2⟩
theorem PW:∀{a b:List CS},Lh a→Lh b→Lh (Dm a b)
 | [],b,_,hb=>by simpa [Dm] using hb
 | x::a,b,ha,hb=>by
  rw[Lh,List.pairwise_cons] at ha;rw[Dm];exact QE (fun b hb=>PW ha.2 hb) ha.1 b hb
-- the greatest offset
theorem Vh:∀(vs:List CS) (m:Int),m≤vs.foldl (fun m v=>max m v.plus) m
 | [],m=>by simp
 | v::vs,m=>by have:=Vh vs (max m v.plus);simp only[List.foldl_cons];omega
theorem Ts:∀{vs:List CS}{m:Int}{v:CS},v∈vs→v.plus≤vs.foldl (fun m v=>max m v.plus) m
 | w::vs,m,v,h=>by
  rcases List.mem_cons.1 h with rfl | h
  ·have:=Vh vs (max m v.plus);simp only[List.foldl_cons];omega
  rw[List.foldl_cons];exact Ts (vs:=vs) h
theorem VU:∀{vs:List CS}{m c:Int},m<c→(∀v∈vs,v.plus<c)→vs.foldl (fun m v=>max m v.plus) m<c
 | [],m,c,h,_=>by simpa using h
 | v::vs,m,c,h,hv=>by
  have:=hv v Ay;simp only[List.foldl_cons];exact VU Ax fun w hw=>hv w (by simp[hw])
def I5 (c:Int) (vs:List CS):Int:=if (vs.any fun v=>decide (c≤v.plus))=true then 0 else c
theorem WQ {c:Int}{vs:List CS}(hc:0≤c) (hv:∀v∈vs,0≤v.plus):(SY c vs).const=I5 c vs:=by
 simp only[SY,I5];by_cases h:(vs.any fun v=>decide (c≤v.plus))=true
 ·rw[if_pos h];simp only[List.any_eq_true,decide_eq_true_eq] at h;obtain⟨v,hm,hp⟩:=h;have h1:=Ts (m:=0) hm;rw[if_pos ⟨List.ne_nil_of_mem hm,by unfold M5;omega⟩]
 rw[if_neg h];simp only[List.any_eq_true,decide_eq_true_eq,not_exists,not_and] at h;split
 ·rename_i q;by_cases hc0:c=0
  ·exact hc0.symm
  have:=VU (vs:=vs) (m:=0) (c:=c) Ax fun v hv=>by have:=h v hv;omega
  have:=q.2;unfold M5 at this;omega
 rfl
-- the offsets of the program
def KD (m:List (Int×Int)) (i:Int):Int:=(mg i m).getD (-1)
theorem cQ (k v:Int):∀(m:List (Int×Int)) (j:Int),mg j (ms k v m)=if k=j then some v else mg j m
 | [],j=>by simp[ms,mg]
 | (i,x)::m,j=>by
  have ih:=cQ k v m j;simp only[ms];split
  ·rename_i q;subst q;simp only[mg];split<;>rfl
  rename_i q;simp only[mg,ih];by_cases h1:i=j
  ·subst h1;rw[if_pos rfl,if_neg (Ne.symm q),if_pos rfl]
  simp[h1]
theorem UX (k v:Int):∀(m:List (Int×Int)),(ms k v m).map Prod.fst=if k∈m.map Prod.fst then m.map Prod.fst else m.map Prod.fst++[k]
 | []=>by simp[ms]
 | (i,x)::m=>by
  have ih:=UX k v m;simp only[ms];split
  ·rename_i q;subst q;simp
  rename_i q;simp only[List.map_cons,ih,List.mem_cons,(show (k=i)=False by simp;exact fun h=>q h.symm),false_or];split<;>simp
theorem VM:∀{m:List (Int×Int)}{k:Int},mg k m=none↔k ∉ m.map Prod.fst
 | [],k=>by simp[mg]
 | (i,x)::m,k=>by
  simp only[mg,List.map_cons,List.mem_cons,not_or];split
  ·rename_i q;subst q;simp
  rename_i q;rw[VM];exact⟨fun h=>⟨fun e=>q e.symm,h⟩,fun h=>h.2⟩
structure QO (m:List (Int×Int)):Prop where
 nd:(m.map Prod.fst).Nodup
 pos:∀k v,mg k m=some v→0≤v
theorem QO.nil:QO []:=⟨by simp,fun k v h=>by simp[mg] at h⟩
theorem dc {m:List (Int×Int)}(k v:Int) (h:(m.map Prod.fst).Nodup):((ms k v m).map Prod.fst).Nodup:=by
 rw[UX];split
 ·exact h
 rename_i q;rw[List.nodup_append];refine⟨h,by simp,fun a ha b hb=>?_⟩;simp only[List.mem_singleton] at hb;subst hb;exact fun e=>q (e▸ha)
theorem RM {m:List (Int×Int)}{i p:Int}(h:QO m) (hp:0≤p):QO (Gc m i p):=by
 have hs:QO (ms i p m):=⟨dc i p h.nd,fun k v hk=>by
  rw[cQ] at hk;split at hk
  ·cases hk;exact hp
  exact h.pos k v hk⟩
 unfold Gc;split
 ·split
  ·exact hs
  exact h
 exact hs
theorem VC {m:List (Int×Int)}(h:QO m) (i:Int): -1≤KD m i:=by
 unfold KD;cases e:mg i m with
 | none=>simp
 | some v=>have:=h.pos i v e;simp;omega
theorem NR {m:List (Int×Int)}{i p:Int}(h:QO m) (hp:0≤p) (j:Int):KD (Gc m i p) j=max (EO [⟨i,p⟩] j) (KD m j):=by
 have h1:KD (ms i p m) j=if i=j then p else KD m j:=by unfold KD;rw[cQ];split<;>rfl
 have h2:=VC h j;unfold Gc;simp only[EO];cases e:mg i m with
 | none =>
  simp only[h1];split
  ·rename_i q;subst q;simp only[KD,e,Option.getD_none];omega
  ·omega
 | some old =>
  simp only;split
  ·rw[h1];split
   ·rename_i q;subst q;simp only[KD,e,Option.getD_some];omega
   omega
  split
  ·rename_i q;subst q;simp only[KD,e,Option.getD_some];omega
  omega
theorem NS {n:Int}:∀(vs:List CS) (m:List (Int×Int)),QO m→(∀v∈vs,0≤v.plus+n)→QO (vs.foldl (IE n) m)∧∀i,KD (vs.foldl (IE n) m) i=max (EO (vs.map (Nr n)) i) (KD m i)
 | [],m,h,_=>⟨h,fun i=>by have:=VC h i;simp only[List.foldl_nil,List.map_nil,EO];omega⟩
 | v::vs,m,h,hv=>by
  have hp:=hv v Ay;have h1:QO (IE n m v):=RM h hp;obtain⟨h2,h3⟩:=NS vs (IE n m v) h1 fun w hw=>hv w (by simp[hw]);refine⟨h2,fun i=>?_⟩;rw[List.foldl_cons,h3 i,show KD (IE n m v) i=max (EO [⟨v.index,v.plus+n⟩] i) (KD m i) from NR h hp i];have:=VC h i;simp only[List.map_cons,EO,Nr];split<;>omega
theorem Nb (zs:List Int):(Fe zs).Perm zs:=List.mergeSort_perm _ _
theorem Uv (zs:List Int):(Fe zs).Pairwise fun a b=>a≤b:=by
 have:=List.pairwise_mergeSort (le:=fun(x y:Int)=>decide (x≤y)) (fun a b c h1 h2=>by simp at *;omega) (fun a b=>by simp;omega) zs;exact this.imp fun h=>by simpa using h
theorem Tq {m:List (Int×Int)}(h:QO m):Lh (HB m):=by
 have hn:(Fe (m.map Prod.fst)).Nodup:=(Nb _).nodup_iff.2 h.nd;have hs:=Uv (m.map Prod.fst);rw[Lh,HB,List.pairwise_map];exact(hs.and hn).imp fun⟨h1,h2⟩=>by simp only;omega
theorem Wm {f:Int→Int}:∀(ks:List Int) (i:Int),(∀k∈ks,0≤f k)→EO (ks.map fun k=>(⟨k,f k⟩:CS)) i=if i∈ks then f i else -1
 | [],i,_=>by simp[EO]
 | k::ks,i,h=>by
  have ih:=Wm ks i fun k hk=>h k (by simp[hk]);simp only[List.map_cons,EO,ih,List.mem_cons];by_cases q:k=i
  ·subst q;have:=h k Ay;simp only[if_true,true_or];split<;>omega
  simp[q,Ne.symm q]
theorem Ri {m:List (Int×Int)}(h:QO m) (i:Int):EO (HB m) i=KD m i:=by
 rw[HB,Wm (f:=fun i=>(mg i m).getD 0)]
 ·simp only[(Nb _).mem_iff,KD];split
  ·rename_i q;cases e:mg i m with
   | none=>exact absurd q (VM.1 e)
   | some v=>simp
  rename_i q;rw[VM.2 q];rfl
 intro k hk;cases e:mg k m with
 | none=>simp
 | some v=>simpa using h.pos k v e
theorem bJ {m:List (Int×Int)}(h:QO m):∀v∈HB m,0≤v.plus:=by
 intro v hv;simp only[HB,List.mem_map] at hv;obtain⟨k,_,rfl⟩:=hv;simp only;cases e:mg k m with
 | none=>simp
 | some v=>simpa using h.pos k v e
-- valid levels
theorem JL:∀{c:Int}{vs:List CS}{p:Option Int},F7 c p vs=true→∀v∈vs,US c v=true
 | c,w::vs,p,h,v,hv=>by
  simp only[F7,Bool.and_eq_true] at h;rcases List.mem_cons.1 hv with rfl | hv
  ·exact h.1.1
  exact JL h.2 v hv
theorem Qf {c:Int}{v:CS}(h:US c v=true):0≤v.plus∧v.plus≤100:=by
 simp only[US,Bool.and_eq_true,decide_eq_true_eq] at h;exact⟨h.1.1.2,h.1.2⟩
theorem Md:∀{c:Int}{vs:List CS}{p:Option Int},F7 c p vs=true→Lh vs∧∀v∈vs,Jb p v.index=true
 | c,[],p,_=>⟨by simp[Lh],by simp⟩
 | c,w::vs,p,h=>by
  simp only[F7,Bool.and_eq_true] at h;obtain⟨h1,h2⟩:=Md h.2;simp only[Jb,decide_eq_true_eq] at h2;refine⟨?_,fun v hv=>?_⟩
  ·rw[Lh,List.pairwise_cons];exact⟨h2,h1⟩
  rcases List.mem_cons.1 hv with rfl | hv
  ·exact h.1.2
  have a:=h.1.2;have b:=h2 v hv;unfold Jb at a ⊢;cases p with
  | none=>rfl
  | some j=>simp only[decide_eq_true_eq] at a ⊢;omega
theorem eP {n:Int}{vs:List CS}(h:Lh vs):Lh (vs.map (Nr n)):=by
 rw[Lh,List.pairwise_map];exact h.imp fun h=>h
structure kH (m:List (Int×Int)) (c:Int) (out:Ci):Prop where
 ok:QO m
 asc:Lh out.vars
 pos:∀v∈out.vars,0≤v.plus∧v.plus≤100
 off:∀i,EO out.vars i=KD m i
 c0:0≤c
 c1:c≤100
 con:out.const=I5 c out.vars
theorem W8 {m m' : List (Int × Int)} {c cx : Int} {out x : Ci} (h : kH m c out) (hm : QO m') (hx : Lh x.vars) (hp : ∀ v ∈ x.vars, 0 ≤ v.plus ∧ v.plus ≤ 100) (ho : ∀ i, KD m' i = max (EO x.vars i) (KD m i)) (h0 : 0 ≤ cx) (h1 : cx ≤ 100) (hc : x.const = cx ∨ x.const = 0 ∧ ∃ v ∈ x.vars, cx ≤ v.plus) : kH m' (max c cx) (I7 out x) := by
 have hv : ∀ v ∈ Dm out.vars x.vars, 0 ≤ v.plus ∧ v.plus ≤ 100 := IK (Q := fun v => 0 ≤ v.plus ∧ v.plus ≤ 100) (fun u v h1 h2 _ => by simp only; omega) _ _ h.pos hp
 have hx0 : 0 ≤ x.const := by rcases hc with h | h <;> omega
 have ho0 : 0 ≤ out.const := by rw [h.con]; unfold I5; split; · omega
                                exact h.c0
 refine ⟨hm, PW h.asc hx, hv, fun i => ?_, by have := h.c0; omega, by have := h.c1; omega, ?_⟩
 ·simp only [I7, SY, NQ, h.off i, ho i]; omega
 have hmem : ∀ v, (v ∈ out.vars ∨ v ∈ x.vars) → ∃ u ∈ Dm out.vars x.vars, v.plus ≤ u.plus := by
  intro v hv'
  have h1 : v.plus ≤ EO (Dm out.vars x.vars) v.index := by
   rw [NQ]
   rcases hv' with h | h <;> have := MJ h <;> omega
  have h2 : 0 ≤ v.plus := by
   rcases hv' with q | q
   ·exact (h.pos v q).1
   exact (hp v q).1
  revert h1
  generalize Dm out.vars x.vars = l
  intro h1
  induction l with
  | nil => simp only [EO] at h1; omega
  | cons y l ih =>
   simp only [EO] at h1
   by_cases q : v.plus ≤ y.plus
   ·exact ⟨y, by simp, q⟩
   obtain ⟨u, hu, hl⟩ := ih (by split at h1 <;> omega)
   exact ⟨u, by simp [hu], hl⟩
 rw [I7, WQ Ax fun v hv' => (hv v hv').1]
 show I5 (max out.const x.const) (Dm out.vars x.vars) = I5 (max c cx) (Dm out.vars x.vars)
 generalize hl : Dm out.vars x.vars = l
 rw [hl] at hmem hv
 have e1 : out.const = c ∨ out.const = 0 ∧ ∃ v ∈ l, c ≤ v.plus := by
  rw [h.con]
  unfold I5
  split
  ·rename_i q
   simp only [List.any_eq_true, decide_eq_true_eq] at q
   obtain ⟨v, q1, q2⟩ := q
   obtain ⟨u, hu, hle⟩ := hmem v (.inl q1)
   exact .inr ⟨O, u, hu, by omega⟩
  exact .inl O
 have e2 : x.const = cx ∨ x.const = 0 ∧ ∃ v ∈ l, cx ≤ v.plus := by
  rcases hc with q | ⟨q, v, q1, q2⟩
  ·exact .inl q
  obtain ⟨u, hu, hle⟩ := hmem v (.inr q1)
  exact .inr ⟨q, u, hu, by omega⟩
 have hc0 := h.c0
 have key : ∀ a b : Int, (∀ v ∈ l, a ≤ v.plus ↔ b ≤ v.plus) → (a = b ∨ ∃ v ∈ l, a ≤ v.plus) → I5 a l = I5 b l := by
  intro a b h1 h2
  unfold I5
  have : (l.any fun v => decide (a ≤ v.plus)) = (l.any fun v => decide (b ≤ v.plus)) := by
   rw [Bool.eq_iff_iff]
   simp only [List.any_eq_true, decide_eq_true_eq]
   exact ⟨fun ⟨v, q1, q2⟩ => ⟨v, q1, (h1 v q1).1 q2⟩, fun ⟨v, q1, q2⟩ => ⟨v, q1, (h1 v q1).2 q2⟩⟩
  rw [this]
  rcases h2 with rfl | ⟨v, q1, q2⟩
  ·rfl
  have : (l.any fun v => decide (b ≤ v.plus)) = true := by
   simp only [List.any_eq_true, decide_eq_true_eq]; exact ⟨v, q1, (h1 v q1).1 q2⟩
  rw [if_pos this, if_pos this]
 by_cases hM : ∃ v ∈ l, max c cx ≤ v.plus
 ·obtain ⟨v, q1, q2⟩ := hM
  have a1 : I5 (max c cx) l = 0 := by
   unfold I5; rw [if_pos]; simp only [List.any_eq_true, decide_eq_true_eq]; exact ⟨v, q1, q2⟩
  have a2 : I5 (max out.const x.const) l = 0 := by
   unfold I5; rw [if_pos]; simp only [List.any_eq_true, decide_eq_true_eq]
   exact ⟨v, q1, by rcases e1 with q | q <;> rcases e2 with q' | q' <;> omega⟩
  rw [a1, a2]
 have hM' : ∀ v ∈ l, v.plus < max c cx := fun v hv' => by
  exact Int.not_le.1 fun q => hM ⟨v, hv', q⟩
 have : max out.const x.const = max c cx := by
  rcases e1 with q | ⟨q, v, v1, v2⟩
  ·rcases e2 with q' | ⟨q', u, u1, u2⟩
   ·omega
   have := hM' u u1; omega
  have := hM' v v1
  rcases e2 with q' | ⟨q', u, u1, u2⟩
  ·omega
  have := hM' u u1; omega
 rw [this]
-- errors stay
def bU (s:List (Int×Int)×Int):Prop:=(∃i,100<KD s.1 i)∨100<s.2
theorem W2 {ps:List Ci}(hps:∀l∈ps,CL l=true) {s:List (Int×Int)×Int}{v:CS}(hm:QO s.1) (hv:0≤v.plus) (hi:v.index<ps.length):QO (EL ps s v).1∧(bU s→bU (EL ps s v)):=by
 unfold EL;split
 ·refine⟨RM hm hv,fun h=>?_⟩;rcases h with ⟨i,h⟩ | h
  ·exact .inl ⟨i,by rw[NR hm hv];omega⟩
  exact .inr h
 rename_i q;have hmem:ps.getD v.index.toNat default∈ps:=by
  have hlt:v.index.toNat<ps.length:=by omega
  rw[List.getD_eq_getElem?_getD,List.getElem?_eq_getElem hlt];exact List.getElem_mem hlt
 have hl:=hps _ hmem;simp only[CL,Bool.and_eq_true,decide_eq_true_eq] at hl;obtain⟨h1,h2⟩:=NS (n:=v.plus) (ps.getD v.index.toNat default).vars s.1 hm fun w hw=>by have:=(Qf (JL hl.2 w hw)).1;omega
 refine⟨h1,fun h=>?_⟩;rcases h with ⟨i,h⟩ | h
 ·exact .inl ⟨i,by simp only[Rq,h2];omega⟩
 exact .inr (by simp only[Rq];omega)
theorem Wk {ps:List Ci}(hps:∀l∈ps,CL l=true):∀(vs:List CS) (s:List (Int×Int)×Int),(∀v∈vs,0≤v.plus∧v.index<ps.length)→QO s.1→QO (vs.foldl (EL ps) s).1∧(bU s→bU (vs.foldl (EL ps) s))
 | [],s,_,h=>⟨h,id⟩
 | v::vs,s,hv,h=>by
  have hv0:=hv v Ay;obtain⟨h1,h2⟩:=W2 hps (s:=s) h hv0.1 hv0.2;obtain⟨h3,h4⟩:=Wk hps vs (EL ps s v) (fun w hw=>hv w (by simp[hw])) h1;exact⟨h3,fun b=>h4 (h2 b)⟩
theorem ic {s:List (Int×Int)×Int}(hm:QO s.1) (h:bU s):Je ⟨s.2,HB s.1⟩=(Ft,15):=by
 unfold Je;rcases h with ⟨i,h⟩ | h
 ·rw[if_pos];simp only[List.any_eq_true,decide_eq_true_eq];rw[←Ri hm] at h;have:∀l:List CS,100<EO l i→∃v∈l,100<v.plus:=by
   intro l h
   induction l with
   | nil=>simp only[EO] at h;omega
   | cons y l ih =>
    simp only[EO] at h;by_cases q:100<y.plus
    ·exact⟨y,by simp,q⟩
    obtain⟨u,hu,hl⟩:=ih (by split at h<;>omega);exact⟨u,by simp[hu],hl⟩
  obtain⟨v,hv,hl⟩:=this _ h;exact⟨v,hv,by omega⟩
 split
 ·rfl
 first | rfl | (split<;>first | rfl | (rename_i q;exact absurd h q)) | simp[h]
theorem gS {m:List (Int×Int)}{c:Int}{out:Ci}(h:kH m c out):Je ⟨c,HB m⟩=(out,0):=by
 have e:HB m=out.vars:=ZZ (Tq h.ok) h.asc (bJ h.ok) (fun v hv=>(h.pos v hv).1) fun i=>by rw[Ri h.ok,h.off i]
 unfold Je;simp only[e];rw[if_neg,if_neg (by have:=h.c1;omega)]
 ·have hc:=h.con;unfold QU I5 at *;simp only;split
  ·rename_i q;rw[if_pos q] at hc;rw[←hc]
  rename_i q;rw[if_neg q] at hc;rw[←hc]
 simp only[List.any_eq_true,decide_eq_true_eq,not_exists,not_and];intro v hv;have:=(h.pos v hv).2;omega
theorem P9 {l:Ci}{n:Int}(hl:CL l=true) (h0:0≤n) (h1:n≤100) :
  (FV l n=(Ft,15)∧(100<l.const+n∨∃v∈l.vars,100<v.plus+n)) ∨
  (FV l n=(⟨JX l n,l.vars.map (Nr n)⟩,0)∧l.const+n≤100∧∀v∈l.vars,v.plus+n≤100):=by
 have hl':=hl;simp only[CL,Bool.and_eq_true,decide_eq_true_eq] at hl';unfold FV;rw[if_neg (by simp[hl]),if_neg Ax,if_neg Ax];split
 ·rename_i q;refine .inl ⟨O,.inl ?_⟩;unfold JX at q;split at q<;>omega
 rename_i q;split
 ·rename_i q';simp only[List.any_eq_true,decide_eq_true_eq] at q';obtain⟨v,h1,h2⟩:=q';exact .inl ⟨O,.inr ⟨v,h1,by omega⟩⟩
 rename_i q';simp only[List.any_eq_true,decide_eq_true_eq,not_exists,not_and] at q';refine .inr ⟨O,?_,fun v hv=>by have:=q' v hv;omega⟩;unfold JX at q;split at q<;>omega
theorem fold_eq {ps:List Ci}(hps:∀l∈ps,CL l=true):∀(vs:List CS) (s:List (Int×Int)×Int) (out:Ci),(∀v∈vs,0≤v.plus∧v.plus≤100∧v.index<ps.length)→kH s.1 s.2 out →
  Je ⟨(vs.foldl (EL ps) s).2,HB (vs.foldl (EL ps) s).1⟩=Gf ps out vs
 | [],s,out,_,h=>gS h
 | v::vs,s,out,hv,h=>by
  obtain⟨p0,p1,pi⟩:=hv v Ay;have hv':∀w∈vs,0≤w.plus∧w.plus≤100∧w.index<ps.length:=fun w hw=>hv w (by simp[hw]);have hb:∀w∈vs,0≤w.plus∧w.index<ps.length:=fun w hw=>⟨(hv' w hw).1,(hv' w hw).2.2⟩;rw[List.foldl_cons,Gf];by_cases hi:0≤v.index
  ·rw[if_pos ⟨hi,pi⟩];have hst:EL ps s v=Rq s (ps.getD v.index.toNat default) v.plus:=by unfold EL;rw[if_neg Ax]
   have hmem:ps.getD v.index.toNat default∈ps:=by
    have hlt:v.index.toNat<ps.length:=by omega
    rw[List.getD_eq_getElem?_getD,List.getElem?_eq_getElem hlt];exact List.getElem_mem hlt
   rw[hst];generalize ps.getD v.index.toNat default=l at hmem ⊢;have hl:=hps l hmem;have hl':=hl;simp only[CL,Bool.and_eq_true,decide_eq_true_eq] at hl';have hpos:∀w∈l.vars,0≤w.plus+v.plus:=fun w hw=>by have:=(Qf (JL hl'.2 w hw)).1;omega
   obtain⟨hm,ho⟩:=NS (n:=v.plus) l.vars s.1 h.ok hpos;rcases P9 hl p0 p1 with ⟨e,q⟩ | ⟨e,q1,q2⟩
   ·rw[e,if_pos Ay];have hB:bU (Rq s l v.plus):=by
     rcases q with q | ⟨w,q1,q2⟩
     ·exact .inr (by simp only[Rq];omega)
     refine .inl ⟨w.index,?_⟩;simp only[Rq,ho];have:=MJ (vs:=l.vars.map (Nr v.plus)) (v:=Nr v.plus w) (List.mem_map_of_mem q1);simp only[Nr] at this;omega
    obtain⟨g1,g2⟩:=Wk hps vs (Rq s l v.plus) hb hm;exact ic g1 (g2 hB)
   rw[e,if_neg Ay];refine fold_eq hps vs _ _ hv' (W8 h hm (eP (Md hl'.2).1) (fun w hw=>?_) ho Ax q1 ?_)
   ·simp only[List.mem_map] at hw;obtain⟨u,hu,rfl⟩:=hw;exact⟨by have:=hpos u hu;simp only[Nr];omega,by have:=q2 u hu;simp only[Nr];omega⟩
   simp only[JX];split
   ·exact .inl O
   rename_i q;simp only[not_or] at q;refine .inr ⟨O,?_⟩;obtain⟨w,hw⟩:=List.exists_mem_of_ne_nil _ q.2;exact⟨Nr v.plus w,List.mem_map_of_mem hw,by have:=(Qf (JL hl'.2 w hw)).1;simp only[Nr];omega⟩
  rw[if_neg Ax];have hst:EL ps s v=(Gc s.1 v.index v.plus,s.2):=by unfold EL;rw[if_pos Ax]
  rw[hst];refine fold_eq hps vs _ _ hv' ?_;have:=W8 (m':=Gc s.1 v.index v.plus) (cx:=0) (x:=⟨0,[v]⟩) h (RM h.ok p0) (by simp[Lh]) (by simp;exact⟨p0,p1⟩) (fun i=>NR h.ok p0 i) Ax Ax (.inl rfl)
  rwa [show max s.2 0=s.2 by have:=h.c0;omega] at this
theorem OU:∀{vs:List CS},Lh vs→∀v∈vs,v.index≤Rr vs
 | [w],_,v,hv=>by simp only[List.mem_singleton] at hv;subst hv;simp[Rr]
 | w::u::vs,h,v,hv=>by
  rw[Lh,List.pairwise_cons] at h;have e:Rr (w::u::vs)=Rr (u::vs):=by simp[Rr]
  rw[e];rcases List.mem_cons.1 hv with rfl | hv
  ·have:=h.1 u Ay;have:=OU h.2 u Ay;omega
  exact OU h.2 v hv
theorem Z7 (l:Ci) (ps:List Ci):Iy l ps=C7 l ps:=by
 unfold Iy C7;by_cases h1:CL l=false∨ps.all CL=false
 ·rw[if_pos h1,if_pos h1]
 rw[if_neg h1,if_neg h1];by_cases h2:Gk l > ps.length
 ·rw[if_pos h2,if_pos h2]
 rw[if_neg h2,if_neg h2];simp only[not_or,Bool.not_eq_false] at h1;have hl:=h1.1;simp only[CL,Bool.and_eq_true,decide_eq_true_eq] at hl;have hps:∀l∈ps,CL l=true:=by simpa [List.all_eq_true] using h1.2
 have ha:=(Md hl.2).1;refine fold_eq hps l.vars _ _ (fun v hv=>?_) ⟨QO.nil,by simp[Lh],by simp,fun i=>by simp[EO,KD,mg],hl.1.1,hl.1.2,by simp[I5]⟩;have a:=Qf (JL hl.2 v hv);refine⟨a.1,a.2,?_⟩;have:=OU ha v hv;unfold Gk at h2;rw[if_pos ⟨h1.1,List.ne_nil_of_mem hv⟩] at h2;omega
def Fc (ps:List Ci):Int→List Ci→List Ci×Int
 | er,[]=>([],er)
 | er,l::ls=>((C7 l ps).1::(Fc ps (Gn er (C7 l ps).2) ls).1,(Fc ps (Gn er (C7 l ps).2) ls).2)
mutual
def Hv (ps:List Ci):Int→Tm→Tm×Int
 | er,.mk k i n ls ks=>(.mk k i n (Fc ps er ls).1 (Gt ps (Fc ps er ls).2 ks).1,(Gt ps (Fc ps er ls).2 ks).2)
def Gt (ps:List Ci):Int→List Tm→List Tm×Int
 | er,[]=>([],er)
 | er,t::ts=>((Hv ps er t).1::(Gt ps (Hv ps er t).2 ts).1,(Gt ps (Hv ps er t).2 ts).2)
end
def By (t:Tm) (ps:List Ci):Tm×Int:=if (Hv ps 0 t).2≠0 then (Bp,(Hv ps 0 t).2) else ((Hv ps 0 t).1,0)
inductive Out (α:Type) where
 | stuck
 | fail
 | ok (a:α)
def Out.bind {α β:Type}:Out α→(α→Out β)→Out β
 | .stuck,_=> .stuck
 | .fail,_=> .fail
 | .ok a,k=>k a
def Q9 (n:Int):Bool:=decide (-9223372036854775808≤n)&&decide (n≤9223372036854775807)
def Yh (l:Ci):Bool:=decide (l.vars.length<Dq)&&Q9 l.const&&l.vars.all fun v=>Q9 v.index&&Q9 v.plus
mutual
def Tb:Tm→Bool
 | .mk k i n ls ks=>decide (n.size<Dq)&&decide (ls.length<Dq)&&ls.all Yh&&decide (ks.length<Dq)&&Q9 k&&Q9 i&&decide ((ks.length:Int)=arity k)&&(decide (k≠12)||decide (0≤i))&&(decide (k≠0)||decide (0≤i)&&decide (i<1099511627776))&&Lb ks
def Lb:List Tm→Bool
 | []=>true
 | t::ts=>Tb t&&Lb ts
end
def okB (t:Tm):Bool:=Tb t&&decide (size t<549755813888)
def Out.chk {σ β:Type}(o:Out (Tm×σ)) (k:Tm×σ→Out β):Out β:=o.bind fun r=>if okB r.1=true then k r else .stuck
structure Sys (σ:Type) where
 over:σ→Bool
 res:σ→Tm→Int→Option σ
 many:Nat→Bool
def Sys.put {σ α:Type}(S:Sys σ) (s:σ) (x:Tm×Int) (k:Tm→σ→Out α):Out α :=
 if okB x.1=true then (match S.res s x.1 x.2 with
  | none=> .fail
  | some s'=>k x.1 s')
 else .stuck
def EK.result (c:EK) (t:Tm) (e:Int):EK:=({ c with steps:=wr (c.steps+1),nodes:=wr (c.nodes+E6 t) }).form t e
def Dh:Sys EK:=⟨EK.over,fun c t e=>some (c.result t e),fun _=>false⟩
def CN:Sys Int:=⟨fun _=>false,fun n t e=>if n - 1<0∨e≠0 then none else some (n - 1),fun k=>decide (40960<k)⟩
def HL:Tm→List Tm×Tm
 | .mk k i n l [a,b]=>if k=6 then (a::(HL b).1,(HL b).2) else ([],.mk k i n l [a,b])
 | t=>([],t)
section
variable (E:List CX)
def Cl (i:Int):CX:=E.getD i.toNat default
def El (d:CX) (j:Int):It:=d.ctors.getD j.toNat default
def FL (d:CX) (j:Int):Hi:=d.funs.getD j.toNat default
def Yc (t:Tm):Int:=((HL t).1.length:Int)
def Fh (d:CX) (j:Int):Int:=max 0 (Yc (El d j).type - d.fixed)
def Hh (nm:ByteArray):Option (CX×Int) :=
 if (Bw E nm).2≠0 then none
 else if (Bw E nm).1.kind=3 then some (Cl E (Bw E nm).1.decl,-1)
 else if (Bw E nm).1.kind=4 then some (Cl E (Bw E nm).1.decl,(Bw E nm).1.item)
 else if (Bw E nm).1.kind=5 then some (Cl E (Bw E nm).1.decl,-2)
 else none
def DQ (t:Tm):Option (CX×Int×List Tm) :=
 if (BH t).1.kind≠3 then none
 else match Hh E (BH t).1.name with
  | none=>none
  | some (d,j)=>if j<0 then none else if ((BH t).2.length:Int)≠d.fixed+Fh d j then none else some (d,j,(BH t).2.drop d.fixed.toNat)
def ME (d:CX):Int:=max 0 (Yc d.type - d.fixed)
def CQ (d:CX):Int:=d.fixed+1+d.ctors.length+ME d
def C3 (nm:ByteArray):List GU→Option FY
 | []=>none
 | b::l=>if b.ctor=nm then (if b.absurd=true then none else some b.tree) else C3 nm l
def LJ (h:Tm):Option Gg:=if (Bw E h.name).2=0∧(h.levels.length:Int)=(Bw E h.name).1.params then some (Bw E h.name).1 else none
variable {σ:Type}(S:Sys σ)
def E4 (W:σ→Tm→Out (Tm×σ)):Nat→FY→List Tm→Tm→σ→Out ((Option (Tm×List Tm)×Tm)×σ)
 | 0,_,_,_,_=> .stuck
 | n+1,t,vars,last,s =>
  if t.kind=1 then
   if t.var<0∨t.var≥(vars.length:Int)∨S.over s=true then .ok ((none,last),s)
   else (W s (vars.getD t.var.toNat default)).chk fun r=>match DQ E r.1 with
    | none=> .ok ((none,r.1),r.2)
    | some (d,j,fields)=>match C3 (El d j).name t.branches with
     | none=> .ok ((none,r.1),r.2)
     | some t'=>E4 W n t' (vars++fields) r.1 r.2
  else .ok ((some (t.body,vars),Bp),s)
def FB (d:CX) (h:Tm) (a:List Tm) (s:σ):Out (Option Tm×σ) :=
 if (By d.value h.levels).2≠0 then .ok (none,s)
 else S.put s ((By d.value h.levels).1,0) fun t s'=> .ok (some (apply t a),s')
def VT (d:CX) (j:Int):Tm:=d.recs.rules.getD j.toNat default
def FG (d:CX) (h:Tm) (a:List Tm) (m:Tm) (s:σ):Out (Option Tm×σ):=match DQ E m with
 | none=> .ok (none,s)
 | some (e,j,fields) =>
  if e.name≠d.name∨j≥(d.recs.rules.length:Int) then .ok (none,s)
  else if (By (VT d j) h.levels).2≠0 then .ok (none,s)
  else S.put s (apply (apply (By (VT d j) h.levels).1 (a.take (d.fixed+1+d.ctors.length).toNat)) fields,0) fun t s'=> .ok (some (apply t (a.drop (CQ d+1).toNat)),s')
def Gr (h:Tm) (b:Tm) (vars:List Tm) (rest:List Tm) (s:σ):Out (Option Tm×σ) :=
 if (By b h.levels).2≠0 then .ok (none,s)
 else if okB (By b h.levels).1=false∨vars.all okB=false∨1125899906842624≤Bl vars then .stuck
 else S.put s (CT (By b h.levels).1 vars.reverse 0) fun t s'=> .ok (some (apply t rest),s')
def KE (W:σ→Tm→Out (Tm×σ)) (n:Nat) (f:Hi) (h:Tm) (a:List Tm) (s:σ):Out (Option Tm×σ) :=
 if (a.length:Int)<f.arity then .ok (none,s)
 else (E4 E S W n f.tree (a.take f.arity.toNat) Bp s).bind fun q=>match q.1.1 with
  | none=> .ok (none,q.2)
  | some (b,vars)=>if S.over q.2=true then .ok (none,q.2) else Gr S h b vars (a.drop f.arity.toNat) q.2
def Sa (W:σ→Tm→Out (Tm×σ)) (d:CX) (h:Tm) (a:List Tm) (s:σ):Out (Option Tm×σ) :=
 if (a.length:Int)≤CQ d then .ok (none,s)
 else (W s (a.getD (CQ d).toNat default)).chk fun r=>FG E S d h a r.1 r.2
def Fk (W:σ→Tm→Out (Tm×σ)) (n:Nat) (h:Tm) (a:List Tm) (s:σ):Out (Option Tm×σ):=match LJ E h with
 | none=> .ok (none,s)
 | some x =>
  if x.kind=1 then FB S (Cl E x.decl) h a s
  else if x.kind=5 then Sa E S W (Cl E x.decl) h a s
  else if x.kind=6 then KE E S W n (FL (Cl E x.decl) x.item) h a s
  else .ok (none,s)
def Hd (k:Int) (p:Tm):Tm:= .mk k 0 ⟨#[]⟩ [] [p]
def L1 (h:Tm) (a:List Tm) (s:σ) {α:Type}(k:Tm→σ→Out α):Out α:=match h.kids[1]? with
 | none=> .stuck
 | some b=>S.put s (CT b (a.take 1) 0) fun x s'=>k (apply x (a.drop 1)) s'
def Q2 (h:Tm) (a:List Tm) (s:σ) {α:Type}(k:Tm→σ→Out α):Out α:=match h.kids[1]?,h.kids[2]? with
 | some v,some b=>S.put s (CT b [v] 0) fun x s'=>k (apply x a) s'
 | _,_=> .stuck
def LP (h p:Tm) (a:List Tm) (s:σ) {α:Type}(k:Tm→σ→Out α):Out α:=match p.kids[(1+h.kind - 9).toNat]? with
 | none=> .stuck
 | some q=>S.put s (q,0) fun x s'=>k (apply x a) s'
def FF:Nat→σ→Tm→Out (Tm×σ)
 | 0,_,_=> .stuck
 | n+1,s,t =>
  if okB t=false then .stuck
  else if S.over s=true then .ok (t,s)
  else if S.many (BH t).2.length=true then .fail
  else if (BH t).1.kind=5 then
   (if (BH t).2.length=0 then .ok (t,s) else L1 S (BH t).1 (BH t).2 s fun x s'=>FF n s' x)
  else if (BH t).1.kind=11 then Q2 S (BH t).1 (BH t).2 s fun x s'=>FF n s' x
  else if (BH t).1.kind=9∨(BH t).1.kind=10 then match (BH t).1.kids[0]? with
   | none=> .stuck
   | some p=>(FF n s p).chk fun r =>
    if r.1.kind≠8 then .ok (apply (Hd (BH t).1.kind r.1) (BH t).2,r.2)
    else LP S (BH t).1 r.1 (BH t).2 r.2 fun x s'=>FF n s' x
  else if (BH t).1.kind=3 then (Fk E S (FF n) n (BH t).1 (BH t).2 s).bind fun r=>match r.1 with
   | none=> .ok (t,r.2)
   | some x=>FF n r.2 x
  else .ok (t,s)
noncomputable def Ii:Nat→σ→Tm→Out (Option Int×σ)
 | 0,_,_=> .stuck
 | n+1,s,t=>(FF E S n s t).chk fun r =>
  if (BH r.1).1.kind=12 then .ok (some (BH r.1).1.index,r.2)
  else if (BH r.1).1.kind=9∨(BH r.1).1.kind=10 then match (BH r.1).1.kids[0]? with
   | none=> .stuck
   | some p=>Ii n r.2 p
  else if (BH r.1).1.kind=3 then match LJ E (BH r.1).1 with
   | none=> .ok (none,r.2)
   | some x =>
    if S.over r.2=true then .ok (none,r.2)
    else if x.kind=5∧((BH r.1).2.length:Int) > CQ (Cl E x.decl) then Ii n r.2 ((BH r.1).2.getD (CQ (Cl E x.decl)).toNat default)
    else if x.kind=6∧((BH r.1).2.length:Int)≥(FL (Cl E x.decl) x.item).arity then
     (E4 E S (FF E S n) n (FL (Cl E x.decl) x.item).tree ((BH r.1).2.take (FL (Cl E x.decl) x.item).arity.toNat) Bp r.2).bind fun q=>match q.1.1 with
      | some _=> .ok (none,q.2)
      | none=>if S.over q.2=false∧Nk q.1.2 Bp=false then Ii n q.2 q.1.2 else .ok (none,q.2)
    else .ok (none,r.2)
  else .ok (none,r.2)
def Gq:Tm→List Int→Tm→Option Tm
 | _,[],x=>some x
 | t,p::ps,x=>match (BH t).2[p.toNat]? with
  | none=>none
  | some y=>(Gq y ps x).map fun z=>apply (BH t).1 ((BH t).2.set p.toNat z)
def De (a:Int×List Int) (fx:Int) (n:Nat):List (Int×List Int):=(List.range n).map fun i:Nat=>(a.1,a.2++[fx+(i:Int)])
def GX (T:σ→Tm→Out (Option Tm×σ)) (h:Tm) (ar:Int) (a:List Tm):Nat→FY→List Tm→List (Int×List Int)→σ→Out (Option Tm×σ)
 | 0,_,_,_,_=> .stuck
 | n+1,t,vars,pl,s =>
  if t.kind=1 then
   if t.var<0∨t.var≥(vars.length:Int) then .ok (none,s)
   else match DQ E (vars.getD t.var.toNat default) with
    | none=>(T s (vars.getD t.var.toNat default)).bind fun r=>match r.1 with
     | none=> .ok (none,r.2)
     | some x=>match Gq (a.getD (pl.getD t.var.toNat default).1.toNat default) (pl.getD t.var.toNat default).2 x with
      | none=> .stuck
      | some y=> .ok (some (apply h (a.set (pl.getD t.var.toNat default).1.toNat y)),r.2)
    | some (d,j,fields)=>match C3 (El d j).name t.branches with
     | none=> .ok (none,s)
     | some t'=>GX T h ar a n t' (vars++fields) (pl++De (pl.getD t.var.toNat default) d.fixed fields.length) s
  else Gr S h t.body vars (a.drop ar.toNat) s
def DY:Nat→σ→Tm→Out (Option Tm×σ)
 | 0,_,_=> .stuck
 | n+1,s,t =>
  if okB t=false then .stuck
  else if (BH t).1.kind=5 then
   (if (BH t).2.length=0 then .ok (none,s) else L1 S (BH t).1 (BH t).2 s fun x s'=> .ok (some x,s'))
  else if (BH t).1.kind=11 then Q2 S (BH t).1 (BH t).2 s fun x s'=> .ok (some x,s')
  else if (BH t).1.kind=9∨(BH t).1.kind=10 then match (BH t).1.kids[0]? with
   | none=> .stuck
   | some p =>
    if p.kind=8 then LP S (BH t).1 p (BH t).2 s fun x s'=> .ok (some x,s')
    else (DY n s p).bind fun r=>match r.1 with
     | none=> .ok (none,r.2)
     | some x=> .ok (some (apply (Hd (BH t).1.kind x) (BH t).2),r.2)
  else if (BH t).1.kind=3 then match LJ E (BH t).1 with
   | none=> .ok (none,s)
   | some x =>
    if x.kind=1 then FB S (Cl E x.decl) (BH t).1 (BH t).2 s
    else if x.kind=5∧((BH t).2.length:Int) > CQ (Cl E x.decl) then match DQ E ((BH t).2.getD (CQ (Cl E x.decl)).toNat default) with
     | some _=>FG E S (Cl E x.decl) (BH t).1 (BH t).2 ((BH t).2.getD (CQ (Cl E x.decl)).toNat default) s
     | none=>(DY n s ((BH t).2.getD (CQ (Cl E x.decl)).toNat default)).bind fun r=>match r.1 with
      | none=> .ok (none,r.2)
      | some y=> .ok (some (apply (BH t).1 ((BH t).2.set (CQ (Cl E x.decl)).toNat y)),r.2)
    else if x.kind=6∧((BH t).2.length:Int)≥(FL (Cl E x.decl) x.item).arity then
     GX E S (DY n) (BH t).1 (FL (Cl E x.decl) x.item).arity (BH t).2 n (FL (Cl E x.decl) x.item).tree ((BH t).2.take (FL (Cl E x.decl) x.item).arity.toNat) ((List.range (FL (Cl E x.decl) x.item).arity.toNat).map fun i:Nat=>((i:Int),[])) s
    else .ok (none,s)
  else .ok (none,s)
def uK (n:Nat) (t:FY) (a:List Tm) (s:σ):Out (Option Tm×σ) :=
 (E4 E S (FF E S n) n t a Bp s).bind fun q=>match q.1.1 with
  | none=> .ok (none,q.2)
  | some (b,vars)=>if okB b=false∨vars.all okB=false∨1125899906842624≤Bl vars then .stuck else S.put q.2 (CT b vars.reverse 0) fun x s'=> .ok (some x,s')
end
def nX (k i:Int) (n:ByteArray) (ls:List Ci) (ks:Nat):Bool:=decide (n.size<Dq)&&decide (ls.length<Dq)&&ls.all Yh&&decide (ks<Dq)&&Q9 k&&Q9 i&&decide ((ks:Int)=arity k)&&(decide (k≠12)||decide (0≤i))&&(decide (k≠0)||decide (0≤i)&&decide (i<1099511627776))
theorem Lp (k i:Int) (n:ByteArray) (ls:List Ci) (ks:List Tm):Tb (.mk k i n ls ks)=(nX k i n ls ks.length&&Lb ks):=by rw[Tb,nX]
theorem KK:∀{ts:List Tm},Lb ts=true↔∀t∈ts,Tb t=true
 | []=>by simp[Lb]
 | t::ts=>by simp only[Lb,Bool.and_eq_true,KK (ts:=ts),List.mem_cons,forall_eq_or_imp]
theorem ir {l:Ci}(h:Yh l=true):M6 l:=by
 simp only[Yh,Q9,Bool.and_eq_true,decide_eq_true_eq,List.all_eq_true] at h;exact⟨h.1.1,h.1.2,fun v hv=>h.2 v hv⟩
theorem ZF {l:Ci}(h:M6 l):Yh l=true:=by
 simp only[Yh,Q9,Bool.and_eq_true,decide_eq_true_eq,List.all_eq_true];exact⟨⟨h.vars,h.c⟩,fun v hv=>h.v v hv⟩
mutual
theorem UI:∀(t:Tm),Tb t=true→Nd t∧Wt t∧Vp t
 | .mk k i n ls ks,h=>by
  rw[Lp,Bool.and_eq_true] at h;obtain⟨h1,h2⟩:=h;simp only[nX,Q9,Bool.and_eq_true,Bool.or_eq_true,decide_eq_true_eq,List.all_eq_true] at h1;obtain⟨a,b,c⟩:=NI ks h2;obtain⟨⟨⟨⟨⟨⟨⟨⟨g1,g2⟩,g3⟩,g4⟩,g5⟩,g6⟩,g7⟩,g8⟩,g9⟩:=h1;refine⟨⟨g1,g2,fun l hl=>ir (g3 l hl),g4,a,g5,g6⟩,⟨g7,fun e=>?_,b⟩,fun e=>?_,c⟩
  ·rcases g8 with g | g
   ·exact absurd e g
   exact g
  rcases g9 with g | g
  ·exact absurd e g
  exact g
theorem NI:∀(ts:List Tm),Lb ts=true→Lx ts∧Np ts∧Tk ts
 | [],_=>⟨trivial,trivial,trivial⟩
 | t::ts,h=>by
  simp only[Lb,Bool.and_eq_true] at h;obtain⟨a,b,c⟩:=UI t h.1;obtain⟨a',b',c'⟩:=NI ts h.2;exact⟨⟨a,a'⟩,⟨b,b'⟩,⟨c,c'⟩⟩
end
mutual
theorem TS:∀(t:Tm),Nd t→Wt t→Vp t→Tb t=true
 | .mk k i n ls ks,h1,h2,h3=>by
  rw[Lp,Bool.and_eq_true];simp only[Nd] at h1;simp only[Wt] at h2;simp only[Vp] at h3;obtain⟨a1,a2,a3,a4,a5,a6,a7⟩:=h1;refine⟨?_,RL ks a5 h2.2.2 h3.2⟩;simp only[nX,Q9,Bool.and_eq_true,Bool.or_eq_true,decide_eq_true_eq,List.all_eq_true];refine⟨⟨⟨⟨⟨⟨⟨⟨a1,a2⟩,fun l hl=>ZF (a3 l hl)⟩,a4⟩,a6⟩,a7⟩,h2.1⟩,?_⟩,?_⟩
  ·by_cases e:k=12
   ·exact .inr (h2.2.1 e)
   exact .inl e
  by_cases e:k=0
  ·exact .inr (h3.1 e)
  exact .inl e
theorem RL:∀(ts:List Tm),Lx ts→Np ts→Tk ts→Lb ts=true
 | [],_,_,_=>rfl
 | t::ts,h1,h2,h3=>by
  simp only[Lb,Bool.and_eq_true];exact⟨TS t h1.1 h2.1 h3.1,RL ts h1.2 h2.2 h3.2⟩
end
structure te (t:Tm):Prop where
 nd:Nd t
 wt:Wt t
 vp:Vp t
 sz:size t<549755813888
theorem CJ {t:Tm}:okB t=true↔te t:=by
 simp only[okB,Bool.and_eq_true,decide_eq_true_eq];exact⟨fun h=>by obtain⟨a,b,c⟩:=UI t h.1;exact⟨a,b,c,h.2⟩,fun h=>⟨TS t h.nd h.wt h.vp,h.sz⟩⟩
theorem PJ {t:Tm}(h:Tb t=true) (hs:size t<549755813888):okB t=true:=by simp[okB,h,hs]
theorem La {t:Tm}(h:okB t=true):Tb t=true:=by simp only[okB,Bool.and_eq_true] at h;exact h.1
theorem FA {t:Tm}(h:okB t=true):size t<549755813888:=by simp only[okB,Bool.and_eq_true,decide_eq_true_eq] at h;exact h.2
theorem E0 {t x:Tm}{i:Nat}(h:okB t=true) (hx:t.kids[i]?=some x):okB x=true:=by
 have h1:=La h;have h2:=FA h;obtain⟨k,j,n,ls,ks⟩:=t;rw[Lp,Bool.and_eq_true] at h1;simp only[size] at h2;simp only[Tm.kids] at hx;have:=Co hx;exact PJ (KK.1 h1.2 x (List.mem_of_getElem? hx)) Ax
theorem UJ:∀(t:Tm),Tb t=true→Tb (BH t).1=true∧Lb (BH t).2=true
 | .mk k i n l [f,a],h=>by
  unfold BH;split
  ·rw[Lp,Bool.and_eq_true] at h;simp only[Lb,Bool.and_eq_true] at h;obtain⟨h1,h2⟩:=UJ f h.2.1;refine⟨h1,KK.2 fun x hx=>?_⟩;rcases List.mem_append.1 hx with hx | hx
   ·exact KK.1 h2 x hx
   rw[List.mem_singleton.1 hx];exact h.2.2.1
  ·exact⟨h,O⟩
 | .mk k i n l [],h=>⟨h,rfl⟩
 | .mk k i n l [_],h=>⟨h,rfl⟩
 | .mk k i n l (_::_::_::_),h=>⟨h,rfl⟩
theorem IJ {t:Tm}(h:okB t=true):okB (BH t).1=true∧∀x∈(BH t).2,okB x=true:=by
 simp only[okB,Bool.and_eq_true,decide_eq_true_eq] at h ⊢;obtain⟨h1,h2⟩:=UJ t h.1;have hs:=I0 t;refine⟨⟨h1,by omega⟩,fun x hx=>⟨KK.1 h2 x hx,?_⟩⟩;obtain⟨i,hi⟩:=List.mem_iff_getElem?.1 hx;have:=Co hi;omega
theorem jo {f a:Tm}(h1:Tb f=true) (h2:Tb a=true):Tb (UW f a)=true:=by
 rw[UW,Lp,Bool.and_eq_true];exact⟨O,by simp[Lb,h1,h2]⟩
theorem Ki:∀{xs:List Tm}{f:Tm},Tb f=true→(∀x∈xs,Tb x=true)→Tb (apply f xs)=true
 | [],f,h,_=>h
 | x::xs,f,h,hx=>by
  rw[apply,List.foldl_cons];exact Ki (jo h (hx x Ay)) fun y hy=>hx y (by simp[hy])
theorem DM:∀(xs:List Tm) (f:Tm),size (apply f xs)=size f+Bl xs+xs.length
 | [],f=>by simp[apply,Bl]
 | x::xs,f=>by
  have:=DM xs (UW f x);rw[apply] at this ⊢;rw[List.foldl_cons,this];simp only[UW,size,Bl,List.length_cons];omega
theorem jS (m:Ci):((B9 m).map AV.p).all one=true:=rfl
def Jp (l:List CS) (i:Nat):Option Int:=if i=0 then none else (l[i - 1]?).map CS.index
def C4 (c:Int) (l:List CS) (i:Nat):Bool:=F7 c (Jp l i) (l.drop i)
theorem ON {c:Int}{l:List CS}{i:Nat}{v:CS}(h:l[i]?=some v):C4 c l i=(US c v&&Jb (Jp l i) v.index&&C4 c l (i+1)):=by
 have e:Jp l (i+1)=some v.index:=by simp[Jp,h]
 rw[C4,Cu h,F7,C4,e]
theorem gP {c:Int}{l:List CS}{i:Nat}(h:l.length≤i):C4 c l i=true:=by
 rw[C4,List.drop_eq_nil_of_le h];rfl
theorem Ui (l:Ci):CL l=(decide (0≤l.const)&&decide (l.const≤100)&&C4 l.const l.vars 0):=rfl
theorem fp {c:Int}{l:List CS}{i:Nat}{v:CS}(h:l[i]?=some v) (hb:US c v=false):C4 c l i=false:=by rw[ON h,hb];rfl
theorem iv {c:Int}{l:List CS}{i:Nat}{v:CS}(h:l[i]?=some v) (h1:US c v=true) (h2:Jb (Jp l i) v.index=true):C4 c l i=C4 c l (i+1):=by rw[ON h,h1,h2];simp
theorem fo {l:Ci}(h:l.const<0∨100<l.const):false=CL l:=by
 rw[Ui];rcases h with h | h
 ·rw[decide_eq_false Ax];rfl
 rw[decide_eq_false (p:=l.const≤100) Ax];simp
theorem VO {l:Ci}{i:Nat}(h:C4 l.const l.vars 0=C4 l.const l.vars i) (hb:C4 l.const l.vars i=false):false=CL l:=by
 rw[Ui,h,hb];simp
theorem kA {l:Ci}{i:Nat}(h0:0≤l.const) (h1:l.const≤100) (h:C4 l.const l.vars 0=C4 l.const l.vars i) (hb:l.vars.length≤i):true=CL l:=by
 rw[Ui,h,gP hb,decide_eq_true h0,decide_eq_true h1];rfl
theorem gU {c:Int}{v:CS}(h:((v.index < -65536∨8≤v.index)∨v.plus<0)∨100<v.plus):US c v=false:=by
 simp only[US,Bool.and_eq_false_iff,decide_eq_false_iff_not];omega
theorem iy {c:Int}{v:CS}(h1:0<c) (h:c≤v.plus):US c v=false:=by
 simp only[US,Bool.and_eq_false_iff,Bool.or_eq_false_iff,decide_eq_false_iff_not];omega
theorem Ud {c:Int}{v:CS}(h: -65536≤v.index∧v.index<8∧0≤v.plus∧v.plus≤100) (h1:0<c→v.plus<c):US c v=true:=by
 simp only[US,Bool.and_eq_true,Bool.or_eq_true,decide_eq_true_eq];refine⟨⟨⟨⟨h.1,h.2.1⟩,h.2.2.1⟩,h.2.2.2⟩,?_⟩;by_cases q:c≤0
 ·exact .inl q
 exact .inr (h1 Ax)
theorem hG {l:List Ci}{i:Nat}{x:Ci}(hx:l[i]?=some x) (h:CL x=false):false=l.all CL:=by
 symm;rw[List.all_eq_false];exact⟨x,List.mem_of_getElem? hx,by simp[h]⟩
theorem fZ {l:List Ci}(h:∀j,j<l.length→∀y,l[j]?=some y→CL y=true):true=l.all CL:=by
 symm;rw[List.all_eq_true];intro x hx;obtain⟨j,hj⟩:=List.mem_iff_getElem?.1 hx;exact h j (List.getElem?_eq_some_iff.1 hj).1 x hj
theorem XU {l:Ci}(h:CL l=true):0≤l.const∧l.const≤100:=by
 simp only[CL,Bool.and_eq_true,decide_eq_true_eq] at h;exact h.1
theorem LA {l:Ci}{i:Nat}{x:CS}(h:CL l=true) (hx:l.vars[i]?=some x):(0≤x.plus∧x.plus≤100)∧ -65536≤x.index∧x.index<8:=by
 simp only[CL,Bool.and_eq_true,decide_eq_true_eq] at h;have:=JL h.2 x (List.mem_of_getElem? hx);simp only[US,Bool.and_eq_true,decide_eq_true_eq] at this;exact⟨⟨this.1.1.2,this.1.2⟩,this.1.1.1⟩
theorem XJ {l:Ci}(h:CL l=false∨l.vars.length=0):(0:Int)=Gk l:=by
 unfold Gk;rw[if_neg];rintro⟨h1,h2⟩;rcases h with h | h
 ·rw[h] at h1;cases h1
 exact h2 (List.length_eq_zero_iff.1 h)
theorem Vk {l:Ci}{x:CS}{i:Nat}(h:CL l=true) (hx:l.vars[i]?=some x) (hi:i=l.vars.length - 1):max 0 (x.index+1)=Gk l:=by
 unfold Gk;have hne:l.vars≠[]:=by intro e;simp[e] at hx
 rw[if_pos ⟨h,hne⟩,Rr,←hi,List.getD_eq_getElem?_getD,hx];rfl
theorem uN {l:Ci}{n:Int}(h:CL l=false):FV l n=(Ft,3):=by rw[FV,if_pos h]
theorem uL {l:Ci}{n:Int}(h:CL l=true) (h1:n<0):FV l n=(Ft,2):=by rw[FV,if_neg (by simp[h]),if_pos h1]
theorem tj {l:Ci}{n:Int}(h:CL l=true) (h0:0≤n) (h1:100<n):FV l n=(Ft,15):=by rw[FV,if_neg (by simp[h]),if_neg Ax,if_pos h1]
theorem tm {l:Ci}{n:Int}(h:CL l=true) (h0:0≤n) (h1:n≤100) (h2:100<JX l n):FV l n=(Ft,15):=by rw[FV,if_neg (by simp[h]),if_neg Ax,if_neg Ax,if_pos h2]
theorem tU {l:Ci}{n:Int}{i:Nat}{x:CS}(h:CL l=true) (h0:0≤n) (h1:n≤100) (h2:JX l n≤100) (hx:l.vars[i]?=some x) (h3:100<x.plus+n):FV l n=(Ft,15):=by
 rw[FV,if_neg (by simp[h]),if_neg Ax,if_neg Ax,if_neg Ax,if_pos];rw[List.any_eq_true];exact⟨x,List.mem_of_getElem? hx,by simpa using h3⟩
theorem tW {l:Ci}{n:Int}(h:CL l=true) (h0:0≤n) (h1:n≤100) (h2:JX l n≤100) (h3:∀j,j<l.vars.length→∀y,l.vars[j]?=some y→¬100<y.plus+n):FV l n=(⟨JX l n,l.vars.map (Nr n)⟩,0):=by
 rw[FV,if_neg (by simp[h]),if_neg Ax,if_neg Ax,if_neg Ax,if_neg];rw[List.any_eq_true];rintro⟨x,hx,hq⟩;obtain⟨j,hj⟩:=List.mem_iff_getElem?.1 hx;exact h3 j (List.getElem?_eq_some_iff.1 hj).1 x hj (by simpa using hq)
theorem MZ {l:Ci}{n:Int}(h:0<l.const∨l.vars.length=0):JX l n=l.const+n:=by
 unfold JX;rw[if_pos];rcases h with h | h
 ·exact .inl h
 exact .inr (List.length_eq_zero_iff.1 h)
theorem O9 {l:Ci}{n:Int}(h:¬(0<l.const∨l.vars.length=0)):JX l n=0:=by
 unfold JX;rw[if_neg];rintro(q | q)
 ·exact h (.inl q)
 exact h (.inr (by simp[q]))
theorem PX {l:List CS}{i j:Nat}{u:CS}{x:Int}(hj:l[j]?=some u) (he:i=j+1):(!Jb (Jp l i) x)=decide (u.index≥x):=by
 subst he;have e:Jp l (j+1)=some u.index:=by simp[Jp,hj]
 rw[e];simp only[Jb];rw[←decide_not,decide_eq_decide];omega
theorem Nh {l:List CS}{i:Nat}{x:Int}(h:¬(i:Int) > 0):(!Jb (Jp l i) x)=false:=by
 have:i=0:=by omega
 subst this;rfl
theorem gE {x y:CS}{a b:List CS}(h:y.index<x.index):Dm (x::a) (y::b)=y::Dm (x::a) b:=by
 rw[Dm,F8,if_neg Ax,if_pos h];rfl
def QT (a b:List CS) (i k:Nat):Bool:=(k==b.length)||(match a[i]?,b[k]? with
 | some x,some y=>decide (x.index<y.index)
 | _,_=>false)
def V0 (a b:List CS) (i k:Nat):Bool:=(i==a.length)||(match a[i]?,b[k]? with
 | some x,some y=>decide (y.index<x.index)
 | _,_=>false)
section
variable {a b:List CS}{i k:Nat}{vs:List CS}{m:Int}{x y:CS}
theorem Oy (h:k=b.length):true=QT a b i k:=by simp[QT,h]
theorem Qa (h:a.length≤i) (hk:k≠b.length):false=QT a b i k:=by simp[QT,hk,List.getElem?_eq_none h]
theorem OS (hx:a[i]?=some x) (hy:b[k]?=some y):decide (x.index<y.index)=QT a b i k:=by
 have:=(List.getElem?_eq_some_iff.1 hy).1;simp only[QT,hx,hy];rw[show (k==b.length)=false by simp;omega,Bool.false_or]
theorem RW (h:i=a.length):true=V0 a b i k:=by simp[V0,h]
theorem MO (hx:a[i]?=some x) (hy:b[k]?=some y):decide (y.index<x.index)=V0 a b i k:=by
 have:=(List.getElem?_eq_some_iff.1 hx).1;simp only[V0,hx,hy];rw[show (i==a.length)=false by simp;omega,Bool.false_or]
theorem jP (h:QT a b i k=true) (hc:i<a.length∨k<b.length):i<a.length:=by
 by_cases q:k=b.length
 ·omega
 by_cases q':a.length≤i
 ·rw[←Qa q' q] at h;cases h
 omega
theorem jn (h:QT a b i k=false) (hk:k≤b.length):k<b.length:=by
 by_cases q:k=b.length
 ·rw[←Oy q] at h;cases h
 omega
theorem jE (h:V0 a b i k=false) (hi:i≤a.length):i<a.length:=by
 by_cases q:i=a.length
 ·rw[←RW q] at h;cases h
 omega
structure NJ (a b:List CS) (i k:Nat) (vs:List CS) (m:Int):Prop where
 hi:i≤a.length
 hk:k≤b.length
 eq:vs++Dm (a.drop i) (b.drop k)=Dm a b
 mo:m=M5 vs
 ln:vs.length≤i+k
theorem PO (vs:List CS) (v:CS):M5 (vs++[v])=max (M5 vs) v.plus:=by simp[M5]
theorem NJ.zero:NJ a b 0 0 [] 0:=⟨by omega,by omega,by simp,rfl,by simp⟩
theorem NJ.left (h:NJ a b i k vs m) (hx:a[i]?=some x) (hs:QT a b i k=true):NJ a b (i+1) k (vs++[x]) (max m x.plus):=by
 have hl:=(List.getElem?_eq_some_iff.1 hx).1;have:=h.ln;refine⟨hl,h.hk,?_,by rw[PO,←h.mo],by simp;omega⟩;rw[←h.eq,Cu hx,List.append_assoc];congr 1;by_cases q:k<b.length
 ·obtain⟨y,hy⟩:∃y,b[k]?=some y:=⟨_,List.getElem?_eq_getElem q⟩;rw[←OS hx hy,decide_eq_true_eq] at hs;rw[Cu hy,Dm,F8,if_pos hs];rfl
 rw[List.drop_eq_nil_of_le (show b.length≤k by omega),Dm,F8];rfl
theorem NJ.right (h:NJ a b i k vs m) (hy:b[k]?=some y) (hs:QT a b i k=false) (h2:V0 a b i k=true):NJ a b i (k+1) (vs++[y]) (max m y.plus):=by
 have hl:=(List.getElem?_eq_some_iff.1 hy).1;have:=h.ln;refine⟨h.hi,hl,?_,by rw[PO,←h.mo],by simp;omega⟩;rw[←h.eq,Cu hy,List.append_assoc];congr 1;by_cases q:i<a.length
 ·obtain⟨x,hx⟩:∃x,a[i]?=some x:=⟨_,List.getElem?_eq_getElem q⟩;rw[←MO hx hy,decide_eq_true_eq] at h2;rw[Cu hx,gE h2];rfl
 rw[List.drop_eq_nil_of_le (show a.length≤i by omega),Dm,Dm];rfl
theorem NJ.both (h:NJ a b i k vs m) (hx:a[i]?=some x) (hy:b[k]?=some y) (hs:QT a b i k=false) (h2:V0 a b i k=false):NJ a b (i+1) (k+1) (vs++[⟨x.index,max x.plus y.plus⟩]) (max m (max x.plus y.plus)):=by
 have hl:=(List.getElem?_eq_some_iff.1 hx).1;have hl':=(List.getElem?_eq_some_iff.1 hy).1;have:=h.ln;rw[←OS hx hy,decide_eq_false_iff_not] at hs;rw[←MO hx hy,decide_eq_false_iff_not] at h2;refine⟨hl,hl',?_,by rw[PO,←h.mo],by simp;omega⟩;rw[←h.eq,Cu hx,Cu hy,List.append_assoc,Dm,F8,if_neg hs,if_neg h2];rfl
theorem NJ.fin (h:NJ a b i k vs m) (hc:¬(i<a.length∨k<b.length)):vs=Dm a b∧m=M5 vs:=by
 refine⟨?_,h.mo⟩;rw[←h.eq,List.drop_eq_nil_of_le Ax,List.drop_eq_nil_of_le Ax];simp[Dm]
end
theorem uF {p q:Ci}{vs:List CS}{m:Int}(h:vs=Dm p.vars q.vars∧m=M5 vs) (h1:0<vs.length) (h2:max p.const q.const≤m):I7 p q=⟨0,vs⟩:=by
 rw[I7,SY,←h.1,if_pos ⟨List.ne_nil_of_length_pos h1,by rw[←h.2];exact h2⟩]
theorem tp {p q:Ci}{vs:List CS}{m:Int}(h:vs=Dm p.vars q.vars∧m=M5 vs) (h1:¬(0<vs.length∧max p.const q.const≤m)):I7 p q=⟨max p.const q.const,vs⟩:=by
 rw[I7,SY,←h.1,if_neg];rintro⟨a,b⟩;exact h1 ⟨List.length_pos_iff.2 a,by rw[h.2];exact b⟩
theorem Ub:∀{vs:List CS}{lo:Int},Lh vs→(∀v∈vs,lo≤v.index∧v.index<8)→lo≤8→(vs.length:Int)≤8 - lo
 | [],lo,_,_,h=>by simp;omega
 | x::vs,lo,ha,hv,h=>by
  rw[Lh,List.pairwise_cons] at ha;have hx:=hv x Ay;have:=Ub (vs:=vs) (lo:=x.index+1) ha.2 (fun v hv'=>⟨by have:=ha.1 v hv';omega,(hv v (by simp[hv'])).2⟩) Ax;simp only[List.length_cons];omega
structure JO (l:Ci):Prop where
 c:0≤l.const∧l.const≤100
 asc:Lh l.vars
 rg:∀v∈l.vars,(0≤v.plus∧v.plus≤100)∧ -65536≤v.index∧v.index<8
theorem JO.len {l:Ci}(h:JO l):l.vars.length≤65544:=by
 have:=Ub (lo:= -65536) h.asc (fun v hv=>(h.rg v hv).2) Ax;omega
theorem JO.nd {l:Ci}(h:JO l):M6 l :=
 ⟨by have:=h.len;simp only[Dq];omega,by have:=h.c;unfold JB;omega,fun v hv=>by have:=h.rg v hv;unfold JB;omega⟩
theorem JO.of {l:Ci}(h:CL l=true):JO l:=by
 have h0:=XU h;have h':=h;simp only[CL,Bool.and_eq_true,decide_eq_true_eq] at h';exact⟨h0,(Md h'.2).1,fun v hv=>by obtain⟨i,hi⟩:=List.mem_iff_getElem?.1 hv;exact LA h hi⟩
theorem JO.join {a b:Ci}(h1:JO a) (h2:JO b):JO (I7 a b):=by
 have hc1:=h1.c;have hc2:=h2.c;refine⟨?_,PW h1.asc h2.asc,IK (Q:=fun v=>(0≤v.plus∧v.plus≤100)∧ -65536≤v.index∧v.index<8) (fun u v g1 g2 _=>by simp only;omega) _ _ h1.rg h2.rg⟩;simp only[I7,SY];split<;>omega
theorem JO.one {v:CS}(h:(0≤v.plus∧v.plus≤100)∧ -65536≤v.index∧v.index<8):JO ⟨0,[v]⟩:=⟨by simp,by simp[Lh],by simpa using h⟩
theorem JO.num {n:Int}(h:0≤n∧n≤100):JO ⟨n,[]⟩:=⟨h,by simp[Lh],by simp⟩
theorem JO.plus {l:Ci}{n:Int}(hl:CL l=true) (h0:0≤n) (h1:n≤100) (he:(FV l n).2=0):JO (FV l n).1:=by
 rcases P9 hl h0 h1 with ⟨e,_⟩ | ⟨e,q1,q2⟩
 ·rw[e] at he;simp at he
 have h:=JO.of hl;have hc:=h.c;rw[e];refine⟨?_,eP h.asc,fun w hw=>?_⟩
 ·simp only[JX];split<;>omega
 simp only[List.mem_map] at hw;obtain⟨u,hu,rfl⟩:=hw;have:=h.rg u hu;have:=q2 u hu;simp only[Nr];omega
section
variable {ps:List Ci}{q p:Ci}{vs:List CS}{v:CS}{i:Nat}
theorem CI {α:Type} [Inhabited α] {l:List α}{i:Nat}{x:α}(h:l[i]?=some x):l.getD i default=x:=by rw[List.getD_eq_getElem?_getD,h];rfl
theorem uU (hv:vs[i]?=some v) (h0:0≤v.index) (h1:v.index<ps.length) (hp:ps[v.index.toNat]?=some p) (he:(FV p v.plus).2≠0):Gf ps q (vs.drop i)=(Ft,(FV p v.plus).2):=by
 rw[Cu hv,Gf,if_pos ⟨h0,h1⟩,CI hp,if_pos he]
theorem s5 (hv:vs[i]?=some v) (h0:0≤v.index) (h1:v.index<ps.length) (hp:ps[v.index.toNat]?=some p) (he:(FV p v.plus).2=0):Gf ps q (vs.drop i)=Gf ps (I7 q (FV p v.plus).1) (vs.drop (i+1)):=by
 rw[Cu hv,Gf,if_pos ⟨h0,h1⟩,CI hp,if_neg (by simp[he])]
theorem qW (hv:vs[i]?=some v) (h:¬(0≤v.index∧v.index<ps.length)):Gf ps q (vs.drop i)=Gf ps (I7 q ⟨0,[v]⟩) (vs.drop (i+1)):=by
 rw[Cu hv,Gf,if_neg h]
end
theorem ZY {ps:List Ci}{k i:Int}{n:ByteArray}{ls ys:List Ci}{ks zs:List Tm}{er e e2:Int}(h1:Fc ps er ls=(ys,e)) (h2:Gt ps e ks=(zs,e2)):Hv ps er (.mk k i n ls ks)=(.mk k i n ys zs,e2):=by rw[Hv,h1,h2]
theorem fc {ps:List Ci}{tl ys:List Ci}{e:Int}{i:Nat}{X:List Ci×Int}(h:(ys++(Fc ps e (tl.drop i)).1,(Fc ps e (tl.drop i)).2)=X) (hi:tl.length≤i):X=(ys,e):=by
 rw[←h,List.drop_eq_nil_of_le hi];simp[Fc]
theorem eU {ps:List Ci}{ts zs:List Tm}{e:Int}{i:Nat}{X:List Tm×Int}(h:(zs++(Gt ps e (ts.drop i)).1,(Gt ps e (ts.drop i)).2)=X) (hi:ts.length≤i):X=(zs,e):=by
 rw[←h,List.drop_eq_nil_of_le hi];simp[Gt]
theorem YO (e:Int):Gn e 0=e:=by unfold Gn;split<;>simp_all
def ND {α:Type}(p:α→Bool):List α→Int→Int
 | [],_=> -1
 | x::l,i=>if p x=true then i else ND p l (i+1)
theorem UR {α:Type}{p:α→Bool}{l:List α}{i:Nat}{x:α}{k:Int}(h:l[i]?=some x):ND p (l.drop i) k=if p x=true then k else ND p (l.drop (i+1)) (k+1):=by rw[Cu h,ND]
theorem U5 {α:Type}{p:α→Bool}:∀(l:List α) (i:Int),0≤i→decide (ND p l i≥0)=l.any p
 | [],i,_=>by simp[ND]
 | x::l,i,h=>by
  simp only[ND,List.any_cons];split
  ·rename_i q;simp[q,h]
  rename_i q;rw[U5 l (i+1) Ax];simp[q]
theorem Js (c:Int):∀(p:Option Int) (vs:List CS),F7 c p vs=(F7 0 p vs&&(decide (c≤0)|| !(vs.any fun v=>decide (c≤v.plus))))
 | p,[]=>by simp[F7]
 | p,v::vs=>by
  simp only[F7,Js c _ vs,List.any_cons,US];by_cases h:c≤0
  ·simp[h]
  simp only[h,decide_false,Bool.false_or,Int.le_refl,decide_true,Bool.true_or,Bool.and_true,Bool.not_or];have:decide (v.plus<c)= !decide (c≤v.plus):=by rw[←decide_not,decide_eq_decide];omega
  rw[this];cases (!decide (c≤v.plus))<;>cases Jb p v.index<;>cases F7 0 (some v.index) vs<;>simp
theorem lG {l:Ci}(h:(l.const<0∨100<l.const)∨0<l.const∧QU l=true):false=CL l:=by
 rcases h with h | ⟨h1,h2⟩
 ·exact fo h
 unfold QU at h2;rw[CL,Js,h2,decide_eq_false (p:=l.const≤0) Ax];simp
theorem ie {l:Ci}{i:Nat}(h:C4 0 l.vars 0=C4 0 l.vars i) (hb:C4 0 l.vars i=false):false=CL l:=by
 rw[CL,Js,show F7 0 none l.vars=C4 0 l.vars 0 from rfl,h,hb];simp
theorem il {l:Ci}{i:Nat}(h1:¬((l.const<0∨100<l.const)∨0<l.const∧QU l=true)) (h:C4 0 l.vars 0=C4 0 l.vars i) (hb:l.vars.length≤i):true=CL l:=by
 rw[CL,Js,show F7 0 none l.vars=C4 0 l.vars 0 from rfl,h,gP hb];simp only[not_or,not_and] at h1;rw[decide_eq_true Ax,decide_eq_true Ax];by_cases q:l.const≤0
 ·simp[q]
 have:=h1.2 Ax;simp only[QU,Bool.not_eq_true] at this;simp[this,q]
section
variable {l:List CS}{i j:Nat}{x u:CS}
theorem PH (h:((x.index < -65536∨7<x.index)∨x.plus<0)∨100<x.plus):true= !(US 0 x&&Jb (Jp l i) x.index):=by
 rw[gU Ax];rfl
theorem Mr (h:¬(((x.index < -65536∨7<x.index)∨x.plus<0)∨100<x.plus)) (hi:(i:Int)≤0):false= !(US 0 x&&Jb (Jp l i) x.index):=by
 rw[Ud Ax Ax,Bool.true_and,Nh Ax]
theorem TO (hj:l[j]?=some u) (he:i=j+1) (h:¬(((x.index < -65536∨7<x.index)∨x.plus<0)∨100<x.plus)):decide (u.index≥x.index)= !(US 0 x&&Jb (Jp l i) x.index):=by
 rw[Ud Ax Ax,Bool.true_and,PX hj he]
end
theorem pT {l:Ci}(h:(0≤l.const∧l.const≤100)∧(0<l.const→QU l=false)):¬((l.const<0∨100<l.const)∨0<l.const∧QU l=true):=by
 rintro((q | q) | ⟨q1,q2⟩)
 ·omega
 ·omega
 rw[h.2 q1] at q2;cases q2
theorem mb {l:Ci}(h:CL l=true→(l.vars.length:Int)≤0):CL l=false∨l.vars.length=0:=by
 by_cases q:CL l=true
 ·exact .inr (by have:=h q;omega)
 exact .inl (by simpa using q)
def G5 (m:List (Int×Int)):List (Int×AV):=m.map fun p=>(p.1,.p (I p.2))
theorem VN (k:Int):∀m:List (Int×Int),J8 k (G5 m)=(mg k m).map fun v=> .p (I v)
 | []=>rfl
 | (j,x)::m=>by
  have ih:=VN k m;simp only[G5] at ih;simp only[G5,List.map_cons,J8,mg];split
  ·rfl
  exact ih
theorem Yw (k v:Int):∀m:List (Int×Int),Nf k (.p (I v)) (G5 m)=G5 (ms k v m)
 | []=>rfl
 | (j,x)::m=>by
  have ih:=Yw k v m;simp only[G5] at ih;simp only[G5,List.map_cons,Nf,ms];split
  ·rfl
  rw[ih];rfl
theorem Vv (m:List (Int×Int)) (k:Int):(J8 k (G5 m)).getD (.p (I 0))= .p (I ((mg k m).getD 0)):=by rw[VN];cases mg k m<;>rfl
theorem gD (m:List (Int×Int)) (k:Int):(J8 k (G5 m)).isSome=(mg k m).isSome:=by rw[VN];cases mg k m<;>rfl
theorem aC {m:List (Int×Int)}{i p:Int}(h:(mg i m).isSome=false∨(mg i m).getD 0<p):Gc m i p=ms i p m:=by
 unfold Gc;cases e:mg i m with
 | none=>rfl
 | some old =>
  rw[e] at h;simp at h;simp only;rw[if_pos Ax]
theorem Xt {m:List (Int×Int)}{i p:Int}(h:(mg i m).isSome=true∧p≤(mg i m).getD 0):Gc m i p=m:=by
 unfold Gc;cases e:mg i m with
 | none=>rw[e] at h;simp at h
 | some old =>
  rw[e] at h;simp at h;simp only;rw[if_neg Ax]
theorem rD {l:Ci}{i:Nat}{x:CS}(hx:l.vars[i]?=some x) (h:100<x.plus):Je l=(Ft,15):=by
 unfold Je;rw[if_pos];rw[List.any_eq_true];exact⟨x,List.mem_of_getElem? hx,by simpa using h⟩
theorem ql {l:Ci}(h:100<l.const):Je l=(Ft,15):=by
 unfold Je;split
 ·rfl
 first | rfl | rw[if_pos Ax]
theorem ZE {l:Ci}(h:∀j,j<l.vars.length→∀y,l.vars[j]?=some y→¬100<y.plus):¬(l.vars.any fun v=>decide (v.plus > 100))=true:=by
 rw[List.any_eq_true];rintro⟨x,hx,hq⟩;obtain⟨j,hj⟩:=List.mem_iff_getElem?.1 hx;exact h j (List.getElem?_eq_some_iff.1 hj).1 x hj (by simpa using hq)
theorem sS {l:Ci}(h:∀j,j<l.vars.length→∀y,l.vars[j]?=some y→¬100<y.plus) (h1:l.const≤100) (h2:QU l=true):Je l=(⟨0,l.vars⟩,0):=by
 unfold Je;rw[if_neg (ZE h),if_neg Ax,if_pos h2]
theorem sV {l:Ci}(h:∀j,j<l.vars.length→∀y,l.vars[j]?=some y→¬100<y.plus) (h1:l.const≤100) (h2:QU l=false):Je l=(l,0):=by
 unfold Je;rw[if_neg (ZE h),if_neg Ax,if_neg (by simp[h2])]
theorem cG {n:Int}{vs:List CS}{i:Nat}{x:CS}{M:List (Int×Int)}(hx:vs[i]?=some x):Gc ((vs.take i).foldl (IE n) M) x.index (x.plus+n)=(vs.take (i+1)).foldl (IE n) M:=by
 rw[List.take_add_one,hx,List.foldl_append];rfl
theorem step_take {ps:List Ci}{vs:List CS}{i:Nat}{x:CS}{S:List (Int×Int)×Int}(hx:vs[i]?=some x):(vs.take (i+1)).foldl (EL ps) S=EL ps ((vs.take i).foldl (EL ps) S) x:=by
 rw[List.take_add_one,hx,List.foldl_append];rfl
theorem aT (M:List (Int×Int)):(HB M).length=M.length:=by simp[HB,TE]
def QQ (M:List (Int×Int)) (k:Int):CS:=⟨k,(mg k M).getD 0⟩
theorem Xo {M:List (Int×Int)}{i:Nat}(h:(Fe (M.map Prod.fst)).length≤i):((Fe (M.map Prod.fst)).take i).map (QQ M)=HB M:=by
 rw[List.take_of_length_le h];rfl
theorem UU {ps:List Ci}{S:List (Int×Int)×Int}{x:CS}(h:x.index<0):EL ps S x=(Gc S.1 x.index x.plus,S.2):=by unfold EL;rw[if_pos h]
theorem Ux {ps:List Ci}{S:List (Int×Int)×Int}{x:CS}{p:Ci}(h:0≤x.index) (hp:ps[x.index.toNat]?=some p):EL ps S x=Rq (S.1,S.2) p x.plus:=by unfold EL;rw[if_neg Ax,CI hp]
theorem QO.len {m:List (Int×Int)}(h:QO m) (hr:∀k∈m.map Prod.fst,-65536≤k∧k<8):m.length≤65544:=by
 have ha:=Tq h;have:=Ub (lo:= -65536) ha (fun v hv=>by
  simp only[HB,List.mem_map] at hv;obtain⟨k,hk,rfl⟩:=hv;exact hr k ((Nb _).mem_iff.1 hk)) Ax
 rw[aT] at this;omega
structure YX (S:List (Int×Int)×Int):Prop where
 m:QO S.1
 r:∀k∈S.1.map Prod.fst,-65536≤k∧k<8
theorem YX.len {S:List (Int×Int)×Int}(h:YX S):S.1.length≤65544:=h.m.len h.r
theorem Q7 {m:List (Int×Int)}{i p:Int}{Q:Int→Prop}(h:∀k∈m.map Prod.fst,Q k) (hi:Q i):∀k∈(Gc m i p).map Prod.fst,Q k:=by
 have hs:∀k∈(ms i p m).map Prod.fst,Q k:=by
  rw[UX];split
  ·exact h
  intro k hk;rcases List.mem_append.1 hk with hk | hk
  ·exact h k hk
  rw[List.mem_singleton.1 hk];exact hi
 unfold Gc;split
 ·split
  ·exact hs
  exact h
 exact hs
theorem Tt {n:Int}{Q:Int→Prop}:∀(vs:List CS) (m:List (Int×Int)),(∀k∈m.map Prod.fst,Q k)→(∀v∈vs,Q v.index)→∀k∈(vs.foldl (IE n) m).map Prod.fst,Q k
 | [],m,h,_=>h
 | v::vs,m,h,hv=>Tt vs (IE n m v) (Q7 h (hv v Ay)) fun w hw=>hv w (by simp[hw])
theorem YX.step {ps:List Ci}{S:List (Int×Int)×Int}{x:CS}(hps:∀l∈ps,CL l=true) (h:YX S) (hx:(0≤x.plus∧x.plus≤100)∧ -65536≤x.index∧x.index<8) (hi:x.index<ps.length):YX (EL ps S x):=by
 refine⟨(W2 hps h.m hx.1.1 hi).1,?_⟩;unfold EL;split
 ·exact Q7 h.r hx.2
 rename_i q;refine Tt _ _ h.r fun v hv=>?_;have hlt:x.index.toNat<ps.length:=by omega
 rw[List.getD_eq_getElem?_getD,List.getElem?_eq_getElem hlt] at hv;exact((JO.of (hps _ (List.getElem_mem hlt))).rg v hv).2
theorem YX.fold {ps:List Ci}(hps:∀l∈ps,CL l=true):∀(vs:List CS) (S:List (Int×Int)×Int),YX S→(∀x∈vs,((0≤x.plus∧x.plus≤100)∧ -65536≤x.index∧x.index<8)∧x.index<ps.length)→YX (vs.foldl (EL ps) S)
 | [],S,h,_=>h
 | v::vs,S,h,hv=>YX.fold hps vs _ (h.step hps (hv v Ay).1 (hv v Ay).2) fun w hw=>hv w (by simp[hw])
theorem YX.zero (c:Int):YX ([],c):=⟨QO.nil,by simp⟩
theorem cm {l:Ci}{ps:List Ci}{i:Nat}{x:CS}(h:CL l=true) (hp:¬(Gk l > ps.length)) (hx:l.vars[i]?=some x):x.index<ps.length:=by
 have hm:=List.mem_of_getElem? hx;have:=OU (JO.of h).asc x hm;unfold Gk at hp;rw[if_pos ⟨h,List.ne_nil_of_mem hm⟩] at hp;omega
def I9 (ps:List Ci):List Ci→Except Int (List Ci)
 | []=> .ok []
 | l::ls=>if (C7 l ps).2≠0 then .error (C7 l ps).2 else match I9 ps ls with
  | .ok zs=> .ok ((C7 l ps).1::zs)
  | .error e=> .error e
def OE (ys:List Ci):Except Int (List Ci)→Except Int (List Ci)
 | .ok zs=> .ok (ys++zs)
 | .error e=> .error e
def U7 (ps:List Ci) (_:Unit) (t:Tm) (_:Int):Except Int ((Tm×Bool)×Unit):=match I9 ps t.levels with
 | .ok ls=> .ok ((.mk t.kind t.index t.name ls [],false),())
 | .error e=> .error e
section
variable {ps:List Ci}
theorem kv {ls ys:List Ci}{i:Nat}{l:Ci}(h:ls[i]?=some l) (h0:(C7 l ps).2=0):OE ys (I9 ps (ls.drop i))=OE (ys++[(C7 l ps).1]) (I9 ps (ls.drop (i+1))):=by
 rw[Cu h,I9,if_neg (by simp[h0])];cases I9 ps (ls.drop (i+1))<;>simp[OE]
theorem lZ {ls ys:List Ci}{i:Nat}{l:Ci}(h:ls[i]?=some l) (h0:(C7 l ps).2≠0):OE ys (I9 ps (ls.drop i))= .error (C7 l ps).2:=by
 rw[Cu h,I9,if_pos h0];rfl
theorem Rv:∀(ls:List Ci) (er:Int),er≠0→(Fc ps er ls).2=er
 | [],er,_=>rfl
 | l::ls,er,h=>by
  rw[Fc];simp only;rw[show Gn er (C7 l ps).2=er by unfold Gn;rw[if_neg h]];exact Rv ls er h
mutual
theorem jj:∀(t:Tm) (er:Int),er≠0→(Hv ps er t).2=er
 | .mk k i n ls ks,er,h=>by
  rw[Hv];simp only;rw[Rv ls er h];exact OD ks er h
theorem OD:∀(ts:List Tm) (er:Int),er≠0→(Gt ps er ts).2=er
 | [],er,_=>rfl
 | t::ts,er,h=>by
  rw[Gt];simp only;rw[jj t er h];exact OD ts er h
end
theorem WM:∀(ls:List Ci),I9 ps ls=if (Fc ps 0 ls).2=0 then .ok (Fc ps 0 ls).1 else .error (Fc ps 0 ls).2
 | []=>rfl
 | l::ls=>by
  have ih:=WM ls;rw[I9,Fc];simp only;by_cases h:(C7 l ps).2=0
  ·rw[if_neg (by simp[h]),h,YO,ih];by_cases q:(Fc ps 0 ls).2=0
   ·rw[if_pos q,if_pos q]
   rw[if_neg q,if_neg q]
  rw[if_pos h,show Gn 0 (C7 l ps).2=(C7 l ps).2 from rfl,Rv ls _ h,if_neg h]
mutual
theorem Pe:∀(t:Tm) (d:Int),EI (U7 ps) t d ()=Fq (Hv ps 0 t)
 | .mk k i n ls ks,d=>by
  rw[EI,Hv];simp only[U7,Tm.levels,Tm.kind,Tm.index,Tm.name,WM];by_cases h:(Fc ps 0 ls).2=0
  ·rw[if_pos h,h];simp only[Dw];rw[if_neg Ay,SV k 0 ks d];unfold Fq HI;simp only;by_cases q:(Gt ps 0 ks).2=0
   ·rw[if_pos q,if_pos q];rfl
   rw[if_neg q,if_neg q]
  rw[if_neg h];simp only[Dw,Fq];rw[OD ks _ h,if_neg h]
theorem SV (k:Int):∀(j:Nat) (ts:List Tm) (d:Int),EA (U7 ps) k j ts d ()=HI (Gt ps 0 ts)
 | _,[],_=>rfl
 | j,t::ts,d=>by
  rw[EA,Pe t,Gt];unfold Fq HI;simp only;by_cases h:(Hv ps 0 t).2=0
  ·rw[if_pos h,h];simp only[Dw];rw[SV k (j+1) ts d];unfold HI;by_cases q:(Gt ps 0 ts).2=0
   ·rw[if_pos q,if_pos q]
   rw[if_neg q,if_neg q]
  rw[if_neg h,OD ts _ h,if_neg h];rfl
end
end
theorem cE (x:Except Int (List Ci)):x=OE [] x:=by cases x<;>simp[OE]
theorem iE {ps:List Ci}{s:Unit}{k i d e:Int}{n:ByteArray}{ls:List Ci}{ks:List Tm}(h:I9 ps ls= .error e):U7 ps s (.mk k i n ls ks) d= .error e:=by
 simp only[U7,Tm.levels,h]
theorem lT {ps:List Ci}{s:Unit}{k i d:Int}{n:ByteArray}{ls ys:List Ci}{ks:List Tm}(h:I9 ps ls= .ok ys):U7 ps s (.mk k i n ls ks) d= .ok ((.mk k i n ys [],false),()):=by
 simp only[U7,Tm.levels,Tm.kind,Tm.index,Tm.name,h]
theorem set_drop {ys tl:List Ci}{i:Nat}{x m:Ci}(h:ys.length=i) (hx:tl[i]?=some x):(ys++tl.drop i).set i m=(ys++[m])++tl.drop (i+1):=by
 subst h;rw[Cu hx];simp
theorem ly {ps:List Ci}{tl ys:List Ci}{i:Nat}{X:Except Int (List Ci)}(h:X=OE ys (I9 ps (tl.drop i))) (hi:tl.length≤i):X= .ok ys:=by
 rw[h,List.drop_eq_nil_of_le hi];simp[I9,OE]
theorem aS (m:Ci):Gp (((B9 m).map AV.p).map dn)=some (B9 m):=by obtain⟨c,v⟩:=m;rfl
theorem Wz {t:Tm}{ps:List Ci}{e:Int}(h:Fq (Hv ps 0 t)= .error e):By t ps=(Bp,e):=by
 unfold Fq at h;unfold By;split at h
 ·cases h
 rename_i q;cases h;rw[if_pos q]
theorem YJ {t z:Tm}{ps:List Ci}{u:Unit}(h:Fq (Hv ps 0 t)= .ok (z,u)):By t ps=(z,0):=by
 unfold Fq at h;unfold By;split at h
 ·rename_i q;cases h;rw[if_neg (by simp[q])]
 cases h
def QW {α:Type}(a b:Out α):Prop:=a= .stuck∨a=b
section
variable {α β:Type}
theorem QW.refl (a:Out α):QW a a:= .inr rfl
theorem QW.bind {a b:Out α}{k k':α→Out β}(h:QW a b) (hk:∀x,QW (k x) (k' x)):QW (a.bind k) (b.bind k'):=by
 rcases h with rfl | rfl
 ·exact .inl O
 cases a with
 | stuck=>exact .inl rfl
 | fail=>exact .inr rfl
 | ok x=>exact hk x
theorem QW.ite {c:Prop} [Decidable c] {a a' b b':Out α}(h1:QW a a') (h2:QW b b'):QW (if c then a else b) (if c then a' else b'):=by
 split
 ·exact h1
 exact h2
theorem QW.chk {σ:Type}{a b:Out (Tm×σ)}{k k':Tm×σ→Out β}(h:QW a b) (hk:∀x,QW (k x) (k' x)):QW (a.chk k) (b.chk k'):=QW.bind h fun x=>QW.ite (hk x) (QW.refl _)
variable {σ:Type}{E:List CX}{S:Sys σ}
theorem QW.put {s:σ}{x:Tm×Int}{k k':Tm→σ→Out β}(hk:∀t s',QW (k t s') (k' t s')):QW (S.put s x k) (S.put s x k'):=by
 unfold Sys.put;refine QW.ite ?_ (QW.refl _);cases S.res s x.1 x.2 with
 | none=>exact QW.refl _
 | some s'=>exact hk _ _
variable {W W':σ→Tm→Out (Tm×σ)}(hW:∀s t,QW (W s t) (W' s t))
include hW
end
section
variable {σ:Type}{E:List CX}{S:Sys σ}
end
theorem ia {k i:Int}{n:ByteArray}{l:List Ci}{ts:List Tm}{x y:Tm}(h:k=6∧((ts.length:Nat):Int)=2) (hx:ts[0]?=some x) (hy:ts[1]?=some y):HL (.mk k i n l ts)=(x::(HL y).1,(HL y).2):=by
 obtain⟨rfl,h2⟩:=h;rw[eZ h2 hx hy,HL,if_pos rfl]
theorem iJ {k i:Int}{n:ByteArray}{l:List Ci}{ts:List Tm}(h:k≠6∨((ts.length:Nat):Int)≠2):HL (.mk k i n l ts)=([],.mk k i n l ts):=by
 unfold HL;split
 ·rename_i k' i' n' l' a b e;injection e with e1 e2 e3 e4 e5;subst e1 e2 e3 e4 e5;simp at h;rw[if_neg h]
 rfl
theorem T6 {k i:Int}{n:ByteArray}{ls:List Ci}{ts l:List Tm}{x y:Tm}{X:List Tm×Tm}(h:k=6∧((ts.length:Nat):Int)=2) (hx:ts[0]?=some x) (hy:ts[1]?=some y) (hX:(l++(HL (.mk k i n ls ts)).1,(HL (.mk k i n ls ts)).2)=X):((l++[x])++(HL y).1,(HL y).2)=X:=by
 rw[←hX,ia h hx hy];simp
theorem Wy {k i:Int}{n:ByteArray}{ls:List Ci}{ts l:List Tm}{X:List Tm×Tm}(h:k≠6∨((ts.length:Nat):Int)≠2) (hX:(l++(HL (.mk k i n ls ts)).1,(HL (.mk k i n ls ts)).2)=X):X=(l,.mk k i n ls ts):=by
 rw[←hX,iJ h];simp
theorem Is:∀(t:Tm),(HL t).1.length<size t
 | .mk k i n l [a,b]=>by
  unfold HL;split
  ·have:=Is b;have:=size_pos a;simp only[List.length_cons,size,Bl];omega
  ·simp[size,Bl];omega
 | .mk k i n l []=>by simp[HL,size,Bl]
 | .mk k i n l [_]=>by simp[HL,size,Bl];omega
 | .mk k i n l (_::_::_::_)=>by simp[HL,size,Bl];omega
mutual
def Fz:FY→Prop
 | .mk k b v l=>okB b=true∧RT l
def kO:GU→Prop
 | .mk c a t=>Fz t
def RT:List GU→Prop
 | []=>True
 | b::l=>kO b∧RT l
end
structure DG (d:CX):Prop where
 din:Ns d
 fx:0≤d.fixed∧d.fixed≤1000000
 vl:okB d.value=true
 ru:∀t∈d.recs.rules,okB t=true
 fu:∀f∈d.funs,1≤f.arity∧f.arity≤16∧Fz f.tree
structure KB (E:List CX):Prop where
 env:Hj E
 all:∀d∈E,DG d
theorem Q0 {nm:ByteArray}:∀{l:List (ByteArray×Gg)}{e:Gg},C6 nm l=some e→∃s,(s,e)∈l
 | (s,x)::l,e,h=>by
  simp only[C6] at h;split at h
  ·cases h;exact⟨s,by simp⟩
  obtain⟨s',h'⟩:=Q0 h;exact⟨s',List.mem_cons_of_mem _ h'⟩
theorem Vl {i p:Int}{s:ByteArray}{e:Gg}:∀{cs:List It}{k:Int},(s,e)∈Ik i p cs k→∃(j:Nat) (c:It),cs[j]?=some c∧e=⟨4,i,k+j,p,c.type⟩
 | c::cs,k,h=>by
  simp only[Ik,List.mem_cons] at h;rcases h with h | h
  ·cases h;exact⟨0,c,rfl,by simp⟩
  obtain⟨j,c',h1,h2⟩:=Vl h;exact⟨j+1,c',by simpa using h1,by rw[h2];congr 1;omega⟩
theorem ZR {i p:Int}{s:ByteArray}{e:Gg}:∀{cs:List Hi}{k:Int},(s,e)∈Ln i p cs k→∃(j:Nat) (c:Hi),cs[j]?=some c∧e=⟨6,i,k+j,p,c.type⟩
 | c::cs,k,h=>by
  simp only[Ln,List.mem_cons] at h;rcases h with h | h
  ·cases h;exact⟨0,c,rfl,by simp⟩
  obtain⟨j,c',h1,h2⟩:=ZR h;exact⟨j+1,c',by simpa using h1,by rw[h2];congr 1;omega⟩
structure ZV (d:CX) (i:Int) (e:Gg):Prop where
 decl:e.decl=i
 kind:0≤e.kind∧e.kind≤6
 ctor:e.kind=4→∃(j:Nat) (c:It),d.ctors[j]?=some c∧e.item=j
 func:e.kind=6→∃(j:Nat) (c:Hi),d.funs[j]?=some c∧e.item=j
theorem ld {d:CX}{i:Int}{s:ByteArray}{e:Gg}(h:(s,e)∈Fs d i):ZV d i e:=by
 unfold Fs at h;split at h
 ·rename_i hk;simp only[List.mem_singleton,Prod.mk.injEq] at h;obtain⟨_,rfl⟩:=h;exact⟨O,by simp only;omega,fun q=>by simp only at q;omega,fun q=>by simp only at q;omega⟩
 split at h
 ·simp only[List.mem_cons,List.mem_append,List.mem_singleton,Prod.mk.injEq,List.not_mem_nil,or_false] at h;rcases h with ⟨_,rfl⟩ | h | ⟨_,rfl⟩
  ·exact⟨O,by simp,fun q=>by simp at q,fun q=>by simp at q⟩
  ·obtain⟨j,c,h1,rfl⟩:=Vl h;exact⟨O,by simp,fun _=>⟨j,c,h1,by simp⟩,fun q=>by simp at q⟩
  exact⟨O,by simp,fun q=>by simp at q,fun q=>by simp at q⟩
 split at h
 ·obtain⟨j,c,h1,rfl⟩:=ZR h;exact⟨O,by simp,fun q=>by simp at q,fun _=>⟨j,c,h1,by simp⟩⟩
 cases h
theorem Vf {nm:ByteArray}:∀{ds:List CX}{k:Int}{e:Gg},findF nm ds k=some e→∃(i:Nat) (d:CX),ds[i]?=some d∧ZV d (k+i) e
 | d::ds,k,e,h=>by
  simp only[findF] at h;split at h
  ·rename_i x hx;cases h;obtain⟨s,hs⟩:=Q0 hx;exact⟨0,d,O,by simpa using ld hs⟩
  obtain⟨i,d',h1,h2⟩:=Vf h;refine⟨i+1,d',by simpa using h1,?_⟩;rw[show k+((i+1:Nat):Int)=k+1+i by omega];exact h2
theorem N4 {ds:List CX}{nm:ByteArray}(h:(Bw ds nm).2=0):∃(i:Nat) (d:CX),ds[i]?=some d∧ZV d i (Bw ds nm).1:=by
 unfold Bw at h ⊢;cases e:findF nm ds 0 with
 | none=>rw[e] at h;simp at h
 | some x =>
  obtain⟨i,d,h1,h2⟩:=Vf e;exact⟨i,d,h1,by simpa using h2⟩
def Wo:CX:=⟨0,⟨#[]⟩,0,Bp,Bp,0,[],⟨0,Bp,[]⟩,[]⟩
def Cr (E:List CX) (nm:ByteArray):CX×Int×Bool:=match Hh E nm with
 | some (d,j)=>(d,j,true)
 | none=>(Wo,0,false)
section
variable {E:List CX}{nm:ByteArray}{x:CX}
theorem Zm (h:(Bw E nm).2≠0):Cr E nm=(Wo,0,false):=by simp[Cr,Hh,h]
theorem O5 (hx:E[(Bw E nm).1.decl.toNat]?=some x):Cl E (Bw E nm).1.decl=x:=CI hx
theorem kU (h:(Bw E nm).2=0) (h3:(Bw E nm).1.kind=3) (hx:E[(Bw E nm).1.decl.toNat]?=some x):Cr E nm=(x,-1,true):=by
 simp[Cr,Hh,h,h3,O5 hx]
theorem kj (h:(Bw E nm).2=0) (h3:(Bw E nm).1.kind=4) (hx:E[(Bw E nm).1.decl.toNat]?=some x):Cr E nm=(x,(Bw E nm).1.item,true):=by
 simp[Cr,Hh,h,h3,O5 hx]
theorem fG (h:(Bw E nm).2=0) (h3:(Bw E nm).1.kind=5) (hx:E[(Bw E nm).1.decl.toNat]?=some x):Cr E nm=(x,-2,true):=by
 simp[Cr,Hh,h,h3,O5 hx]
theorem fX (h3:(Bw E nm).1.kind≠3) (h4:(Bw E nm).1.kind≠4) (h5:(Bw E nm).1.kind≠5):Cr E nm=(Wo,0,false):=by
 simp[Cr,Hh,h3,h4,h5]
end
theorem F4 {d:CX}(h:Ns d) (hf:0≤d.fixed∧d.fixed≤1000000):0≤ME d∧ME d≤1000000:=by
 have h1:=Is d.type;have h2:=h.ty.sz;unfold ME Yc;omega
def Tg (E:List CX) (h:Tm):Bool:=decide ((Bw E h.name).2=0)&&decide ((h.levels.length:Int)=(Bw E h.name).1.params)
theorem Cz (E:List CX) (h:Tm):LJ E h=if Tg E h=true then some (Bw E h.name).1 else none:=by
 unfold LJ Tg;simp only[Bool.and_eq_true,decide_eq_true_eq]
theorem Vx {l:List Tm}{m:Nat}{x:Tm}(h:l[m - 1]?=some x) (hm:0<m):(l.drop m).reverse++[x]=(l.drop (m - 1)).reverse:=by
 rw[Cu h,List.reverse_cons,show m - 1+1=m by omega]
theorem gF {E:List CX}{k i:Int}{n:ByteArray}{ls:List Ci}{ks:List Tm}(h:(Bw E n).2=0):(((ls.length:Nat):Int)==(Bw E n).1.params)=Tg E (.mk k i n ls ks):=by
 simp only[Tg,Tm.name,Tm.levels,h,decide_true,Bool.true_and];rw[Bool.eq_iff_iff,beq_iff_eq];exact⟨fun q=>decide_eq_true q,fun q=>of_decide_eq_true q⟩
theorem kX {E:List CX}{k i:Int}{n:ByteArray}{ls:List Ci}{ks:List Tm}(h:(Bw E n).2≠0):false=Tg E (.mk k i n ls ks):=by
 simp[Tg,Tm.name,h]
end Go.Eu
namespace Go.Proofs.YtboammbpdaoojaaGreat
open Go.Abs Go.Eu
theorem R3:∀(ds:List CX) (nm:ByteArray),(Hj ds)→Ep Tryz.prog 84 [.p (.lst (List.map Bu ds)),.p (.str nm)] (.tup [.agg ((Bu ((Cr ds nm).1)).map .p),.p (I ((Cr ds nm).2.1)),.p (.bool ((Cr ds nm).2.2))]):=by
 intro ds nm h1;have hl:=h1.len;refine BF Tryz.func84 O rZ (n:=44) O O (A6 (BO O (BG Iz O) fun b4=>A1 A7 2 [] O (A6 (A5 A7 2 [] O (A0 O (BL O O (Lv ds nm h1) O) (A5 A7 3 [] O (BO O (BG Hw O) fun b7=>A1 A7 2 [0,1] O (A2 (A3 A7 2 [] O (A4 O (fun c=>?_) (fun c=>?_)))))))))))
 ·(try simp only[sd,se] at c);refine A3 A7 4 [1,0] O (BQ (Bd (i:=1) O) (A9 (⟨O,_,_,⟨_,_,O,(BI (i:=1) Fg O O O),⟨_,_,O,O,⟨_,_,O,O,O⟩⟩⟩,(List.nil_sublist _),?_⟩)))
  all_goals exact⟨by show (.tup [.agg [.p (I 0),.p (.str ⟨#[]⟩),.p (I 0),.p (I 0),.p (I 0),.p (.str ⟨#[]⟩),.p (.lst []),.p (.lst []),.p (I 0),.p (I 0),.p (.str ⟨#[]⟩),.p (.lst []),.p (.lst []),.p (I 0),.p (.lst []),.p (I 0),.p (I 0),.p (I 0),.p (.str ⟨#[]⟩),.p (.lst []),.p (.lst []),.p (.lst []),.p (.lst [])],.p (I 0),.p (.bool false)]:AV)=_;rw[Zm Ax];rfl,rfl⟩
 (try simp only[sd,se] at c);obtain⟨fi,fd,hfi,hfo⟩:=N4 (ds:=ds) (nm:=nm) Ax;have hdl:=hfo.decl;have hfl:=(List.getElem?_eq_some_iff.1 hfi).1;refine BA (A2 (A6 (A0 O (A8 Fv O O) (A0 O (BB (i:=0) DO O O (DK _)) (Bq O (BJ (A3 A7 2 [] O (A4 O (fun c1=>?_) (fun c1=>?_)))))))))
 ·(try simp only[sd,se] at c1);refine A6 (A5 A7 2 [] O (A0 O (BB (i:=0) DO O O (DZ _)) ?_));obtain⟨x,hx⟩:=BE (l:=ds) (i:=(((Bw ds nm).1).decl:Int).toNat) Ax;refine A0 O (BD Hz O O Ax (EG hx) (Cx _)) (A1 A7 4 [1,1] O (A9 (⟨O,_,_,⟨_,_,O,(BI (i:=1) Fg O O Am),⟨_,_,O,O,⟨_,_,O,O,O⟩⟩⟩,(List.nil_sublist _),?_⟩)))
  all_goals exact⟨by show (.tup [.agg ((Bu x).map .p),.p (I (-1)),.p (.bool true)]:AV)=_;rw[kU Ax Ax hx],rfl⟩
 (try simp only[sd,se] at c1);refine A3 A7 2 [] O (A4 O (fun c2=>?_) (fun c2=>?_))
 ·(try simp only[sd,se] at c2);refine A2 (B0 (fun k=>false) Dt (BZ A7 2 [] O (CY (j:=0) O O O (fun H i hi=>BB (i:=i) DO O hi (DZ _)) AB Az ?_)));obtain⟨x,hx⟩:=BE (l:=ds) (i:=(((Bw ds nm).1).decl:Int).toNat) Ax;refine BP O (fun _=>BD Hz O O Ax (EG hx) (Cx _)) Az (BZ A7 2 [] O (CY (j:=0) O O O (fun H i hi=>BB (i:=i) DO O hi (E2 _)) AB Az (Bt A7 3 [1,1] O (A9 (⟨O,_,_,⟨_,_,O,(BI (i:=1) Fg O O Am),⟨_,_,O,O,⟨_,_,O,O,O⟩⟩⟩,(List.nil_sublist _),?_⟩)))))
  all_goals exact⟨by show (.tup [.agg ((Bu x).map .p),.p (I (((Bw ds nm).1).item)),.p (.bool true)]:AV)=_;rw[kj Ax Ax hx],rfl⟩
 (try simp only[sd,se] at c2);refine A3 A7 2 [] O (A4 O (fun c3=>?_) (fun c3=>?_))
 ·(try simp only[sd,se] at c3);refine A6 (A5 A7 2 [] O (A0 O (BB (i:=0) DO O O (DZ _)) ?_));obtain⟨x,hx⟩:=BE (l:=ds) (i:=(((Bw ds nm).1).decl:Int).toNat) Ax;refine A0 O (BD Hz O O Ax (EG hx) (Cx _)) (A1 A7 4 [1,1] O (A9 (⟨O,_,_,⟨_,_,O,(BI (i:=1) Fg O O Am),⟨_,_,O,O,⟨_,_,O,O,O⟩⟩⟩,(List.nil_sublist _),?_⟩)))
  all_goals exact⟨by show (.tup [.agg ((Bu x).map .p),.p (I (-2)),.p (.bool true)]:AV)=_;rw[fG Ax Ax hx],rfl⟩
 (try simp only[sd,se] at c3);refine BA (A3 A7 4 [1,0] O (BQ (Bd (i:=1) O) (A9 (⟨O,_,_,⟨_,_,O,(BI (i:=1) Fg O O O),⟨_,_,O,O,⟨_,_,O,O,O⟩⟩⟩,(List.nil_sublist _),?_⟩))))
 all_goals exact⟨by show (.tup [.agg [.p (I 0),.p (.str ⟨#[]⟩),.p (I 0),.p (I 0),.p (I 0),.p (.str ⟨#[]⟩),.p (.lst []),.p (.lst []),.p (I 0),.p (I 0),.p (.str ⟨#[]⟩),.p (.lst []),.p (.lst []),.p (I 0),.p (.lst []),.p (I 0),.p (I 0),.p (I 0),.p (.str ⟨#[]⟩),.p (.lst []),.p (.lst []),.p (.lst []),.p (.lst [])],.p (I 0),.p (.bool false)]:AV)=_;rw[fX Ax Ax Ax];rfl,rfl⟩
theorem _root_.Go.AJ {α:Prop}(h:α:=by first | rfl | (refine pB ?_;simp_all;done) | (refine pB ?_;simp_all<;>(intros;omega))):α:=h
theorem Oj:∀(l:Ci),(M6 l)→Ep Tryz.prog 148 [.agg ((B9 l).map .p)] (.p (.bool (CL l))):=by
 intro l h1;have hl:=h1.vars;simp only[Dq] at hl;refine BF Tryz.func148 O km (n:=67) O O (A6 (BO O (Ba O) fun b1=>A1 A7 1 [] O (A2 (A2 (Be [1] 12 (fun y=>y= .p (.bool ((decide ((l.const:Int)<(0:Int)))||(decide ((l.const:Int) > (100:Int)))))) ?_ ?_)))))
 ·refine BC (A5 A7 4 [0] O (BY 8 O (fun g=>?_) (fun g=>?_)))
  ·(try simp only[sd,se] at g);exact A1 A7 4 [] O (⟨O,O,AP,AJ,⟨O,Az⟩⟩)
  (try simp only[sd,se] at g);exact A1 A7 4 [0] O (⟨O,O,AP,AJ,⟨O,Az⟩⟩)
 rintro _ rfl;refine A4 O (fun c=>?_) (fun c=>?_)
 ·(try simp only[sd,se] at c);refine A3 A7 1 [] O (A9 (⟨O,_,_,⟨_,_,O,O,O⟩,(List.nil_sublist _),?_⟩))
  all_goals exact⟨pB (fo c),rfl⟩
 (try simp only[sd,se] at c);refine BA (A2 (A3 A7 1 [] O (BJ (Bn (α:=Nat) (fun i=>⟨67,mk [(1,.ptr b1 0),(3,.p (I (i:Int)))],[.box b1 [.p (I l.const),.p (.lst (List.map ED l.vars))]],[]⟩) (fun i=>l.vars.length - i) (fun i=>i≤l.vars.length∧(C4 l.const l.vars 0=C4 l.const l.vars i)) 0 (⟨by omega,rfl⟩) ?_ ?_))))
 ·exact Bh ⟨we O,we O,Az⟩ (leH (is:=[0]) O (wl (oe O) (DJ)))
 rintro i hC
 try simp only at hC
 obtain⟨hi,hC⟩:=hC;refine A2 (A6 (A5 A7 3 [0] O (A0 O (BT Ch O (List.length_map _)) (A1 A7 1 [] O (A4 O (fun c1=>?_) (fun c1=>?_))))))
 ·(try simp only[sd,se] at c1);refine BA (A2 (BJ (A6 (A5 A7 3 [0] O ?_))));obtain⟨x,hx⟩:=BE (l:=l.vars) (i:=i) Ax;refine A0 O (BD Ch O O Ax (Ct hx) (O)) (A0 O (BU My O (O)) (BO O (BG GF O) fun b4=>A1 A7 1 [0,1] O (A2 (A2 (Be [1,3,4] 42 (fun y=>y= .p (.bool ((((decide ((x.index:Int)<(-65536:Int)))||(decide ((x.index:Int)≥(8:Int))))||(decide ((x.plus:Int)<(0:Int))))||(decide ((x.plus:Int) > (100:Int)))))) ?_ ?_)))))
  ·refine BC (A5 A7 4 [0] O (BY 28 O (fun g=>?_) (fun g=>?_)))
   ·(try simp only[sd,se] at g);exact A1 A7 14 [] O (⟨O,O,AP,AJ,⟨O,O,O,Az⟩⟩)
   (try simp only[sd,se] at g);refine A5 A7 5 [0] O (BY 33 O (fun g1=>?_) (fun g1=>?_))
   ·(try simp only[sd,se] at g1);exact A1 A7 9 [] O (⟨O,O,AP,AJ,⟨O,O,O,Az⟩⟩)
   (try simp only[sd,se] at g1);refine A5 A7 5 [0] O (BY 38 O (fun g2=>?_) (fun g2=>?_))
   ·(try simp only[sd,se] at g2);exact A1 A7 4 [] O (⟨O,O,AP,AJ,⟨O,O,O,Az⟩⟩)
   (try simp only[sd,se] at g2);exact A1 A7 4 [0] O (⟨O,O,AP,AJ,⟨O,O,O,Az⟩⟩)
  rintro _ rfl;refine A4 O (fun c2=>?_) (fun c2=>?_)
  ·(try simp only[sd,se] at c2);refine A3 A7 1 [] O (A9 (⟨O,_,_,⟨_,_,O,O,O⟩,(List.nil_sublist _),?_⟩))
   all_goals exact⟨pB (VO hC (fp hx (gU c2))),rfl⟩
  (try simp only[sd,se] at c2);refine BA (A2 (A2 (Be [1,3,4] 56 (fun y=>y= .p (.bool (!(Jb (Jp l.vars i) x.index)))) ?_ ?_)))
  ·refine B0 (fun k=>false) Dt (BZ A7 3 [] O (D9 45 O (fun g=>?_) (fun g=>?_)))
   ·(try simp only[sd,se] at g);refine BZ A7 4 [1] O ?_;obtain⟨x1,hx1⟩:=BE (l:=l.vars) (i:=(((i:Int):Int) - (1:Int):Int).toNat) Ax;exact Cm O (fun _=>BD Ch O O Ax (Ct hx1) (O)) Az (Bt A7 6 [0] O (⟨O,O,AP,(by first | (refine pB ?_;exact(Nh Ax).symm) | (refine pB ?_;exact(PX hx1 Ax).symm)),⟨O,O,O,Az⟩⟩))
   (try simp only[sd,se] at g);exact Bt A7 11 [] O (⟨O,O,AP,(by first | (refine pB ?_;exact(Nh Ax).symm) | (refine pB ?_;exact(PX hx1 Ax).symm)),⟨O,O,O,Az⟩⟩)
  rintro _ rfl;refine A4 O (fun c3=>?_) (fun c3=>?_)
  ·(try simp only[sd,se] at c3);refine A3 A7 1 [] O (A9 (⟨O,_,_,⟨_,_,O,O,O⟩,(List.nil_sublist _),?_⟩))
   all_goals exact⟨pB (VO hC (by rw[ON hx];rw[c3];simp)),rfl⟩
  (try simp only[sd,se] at c3);refine BA (A2 (Be [1,3] 66 (fun y=>y= .p (.bool ((decide ((l.const:Int) > (0:Int)))&&(decide ((x.plus:Int)≥(l.const:Int)))))) ?_ ?_))
  ·refine BC (A5 A7 4 [1] O (BY 60 O (fun g=>?_) (fun g=>?_)))
   ·(try simp only[sd,se] at g);exact A1 A7 6 [0,1] O (⟨O,O,AP,AJ,⟨O,O,Az⟩⟩)
   (try simp only[sd,se] at g);exact A1 A7 6 [] O (⟨O,O,AP,AJ,⟨O,O,Az⟩⟩)
  rintro _ rfl;refine A4 O (fun c4=>?_) (fun c4=>?_)
  ·(try simp only[sd,se] at c4);refine A3 A7 1 [] O (A9 (⟨O,_,_,⟨_,_,O,O,O⟩,(List.nil_sublist _),?_⟩))
   all_goals exact⟨pB (VO hC (fp hx (iy c4.1 c4.2))),rfl⟩
  (try simp only[sd,se] at c4);refine BA (BC (A1 A7 3 [] O (⟨(i+1),Ac,⟨by omega,(hC.trans (iv hx (Ud Ax (by simpa using c4)) (by simpa using c3)))⟩,Bh ⟨we rfl,we rfl,trivial⟩ (leH (is:=[1]) rfl (wl (oe rfl) (DJ)))⟩)))
 (try simp only[sd,se] at c1);refine Bo (A3 A7 1 [] O (A9 (⟨O,_,_,⟨_,_,O,O,O⟩,(List.nil_sublist _),?_⟩)))
 all_goals exact⟨pB (kA Ax Ax hC Ax),rfl⟩
theorem aD:∀(n:Int),Ep Tryz.prog 187 [.p (I n)] (.agg ((B9 (⟨n,[]⟩:Ci)).map .p)):=by
 intro n;refine BF Tryz.func187 O m6 (n:=5) O O (A6 (BO O (BG Ed O) fun b2=>Bq O (A3 A7 3 [0,0] O (BQ (Bd (i:=0) O) (A9 (⟨O,_,_,⟨_,_,O,(BI (i:=0) Dp O O O),O⟩,(List.nil_sublist _),?_⟩))))))
 all_goals exact⟨rfl,rfl⟩
theorem Vy:∀(l:List Ci),(l.length<Dq)→(∀x∈l,M6 x)→Ep Tryz.prog 167 [.p (.lst (List.map B9 l))] (.p (.bool (l.all CL))):=by
 intro l h1 h2;simp only[Dq] at h1;refine BF Tryz.func167 O oD (n:=16) O O (A3 A7 1 [] O (A2 (A3 A7 1 [] O (BJ ?_))));refine Bn (α:=Nat) (fun i=>⟨16,mk [(0,.p (.lst (List.map B9 l))),(3,.p (I (i:Int)))],[],[]⟩) (fun i=>l.length - i) (fun i=>i≤l.length∧(∀j,j<i→∀y,l[j]?=some y→CL y=true)) 0 (⟨by omega,fun j h=>by omega⟩) ?_ ?_
 ·exact Bh ⟨we O,we O,Az⟩ (leH (is:=[]) O (DJ))
 rintro i hC
 try simp only at hC
 obtain⟨hi,hC⟩:=hC;refine A2 (A6 (A5 A7 2 [] O (A0 O (BT Em O (List.length_map _)) (A1 A7 1 [] O (A4 O (fun c=>?_) (fun c=>?_))))))
 ·(try simp only[sd,se] at c);refine BA (A2 (BJ (A6 (A5 A7 2 [] O ?_))));obtain⟨x,hx⟩:=BE (l:=l) (i:=i) Ax;refine A0 O (BD Em O O Ax (GD hx) (D1 _)) (A0 O (BU Dp O (D1 _)) (A0 O (BL O O (Oj x (h2 _ (List.mem_of_getElem? hx))) O) (A1 A7 1 [] O (A4 O (fun c1=>?_) (fun c1=>?_)))))
  ·(try simp only[sd,se] at c1);refine A3 A7 1 [] O (A9 (⟨O,_,_,⟨_,_,O,O,O⟩,(List.nil_sublist _),?_⟩))
   all_goals exact⟨pB (hG hx (by simpa using c1)),rfl⟩
  (try simp only[sd,se] at c1);refine BA (BC (A1 A7 3 [] O (⟨(i+1),Ac,⟨by omega,C9 (p:=fun _ (y:Ci)=>CL y=true) hC hx (by simpa using c1)⟩,Bh ⟨we rfl,we rfl,trivial⟩ (leH (is:=[]) rfl (DJ))⟩)))
 (try simp only[sd,se] at c);refine Bo (A3 A7 1 [] O (A9 (⟨O,_,_,⟨_,_,O,O,O⟩,(List.nil_sublist _),?_⟩)))
 all_goals exact⟨pB (fZ fun j hj=>hC j Ax),rfl⟩
theorem a8:∀(l:Ci),(M6 l)→Ep Tryz.prog 168 [.agg ((B9 l).map .p)] (.p (I (Gk l))):=by
 intro l h1;have hl:=h1.vars;simp only[Dq] at hl;refine BF Tryz.func168 O oA (n:=23) O O (A6 (BO O (Ba O) fun b1=>A1 A7 1 [] O (A2 (A2 (Be [1] 11 (fun y=>y= .p (.bool ((!(CL l))||(((l.vars.length:Nat):Int)==(0:Int))))) ?_ ?_)))))
 ·refine BC (A0 O (Bf (i:=0) Dp O O O) (A0 O (BL O O (Oj (Ci.mk l.const l.vars) h1) O) (A5 A7 2 [] O (BY 6 O (fun g=>?_) (fun g=>?_)))))
  ·(try simp only[sd,se] at g);exact A1 A7 5 [] O (⟨O,O,AP,AJ,⟨O,Az⟩⟩)
  (try simp only[sd,se] at g);exact A5 A7 2 [0] O (BK O (BT Ch O (List.length_map _)) (A1 A7 2 [] O (⟨O,O,AP,AJ,⟨O,Az⟩⟩)))
 rintro _ rfl;refine A4 O (fun c=>?_) (fun c=>?_)
 ·(try simp only[sd,se] at c);refine A3 A7 1 [] O (A9 (⟨O,_,_,⟨_,_,O,O,O⟩,(List.nil_sublist _),?_⟩))
  all_goals exact⟨pI (XJ (by simpa using c)),rfl⟩
 (try simp only[sd,se] at c);obtain⟨hv,hn⟩:CL l=true∧l.vars.length≠0:=by simpa using c
 refine BA (A6 (A5 A7 4 [0,0] O (A0 O (BT Ch O (List.length_map _)) (A0 O (K4 O O Ax Ax) ?_))));obtain⟨x,hx⟩:=BE (l:=l.vars) (i:=(((l.vars.length:Nat):Int) - (1:Int):Int).toNat) Ax;have hw:=LA hv hx;refine A0 O (BD Ch O O Ax (Ct hx) (O)) (A5 A7 3 [] O (A0 O (Fi O O) (A1 A7 1 [] O (A9 (⟨O,_,_,⟨_,_,O,O,O⟩,(List.nil_sublist _),?_⟩)))))
 all_goals exact⟨pI (Vk hv hx Ax),rfl⟩
theorem _root_.Go.AF {α:Prop}(h:α:=by simp only[List.length_map,List.length_append,List.length_take,List.length_cons,List.length_nil];omega):α:=h
theorem _root_.Go.Ao {α:Prop}(h:α:=by simp[D1]):α:=h
theorem jF:∀(l:Ci) (n:Int),(M6 l)→Ep Tryz.prog 188 [.agg ((B9 l).map .p),.p (I n)] (.tup [.agg ((B9 ((FV l n).1)).map .p),.p (I ((FV l n).2))]):=by
 intro l n h1;have hl:=h1.vars;simp only[Dq] at hl;refine BF Tryz.func188 O m8 (n:=75) O O (A6 (BO O (Ba O) fun b2=>BO O (BG Ed O) fun b4=>A1 A7 1 [] O (A2 (A6 (A0 O (Bf (i:=1) Dp O O Ao) (A0 O (BL O O (Oj l h1) O) (A1 A7 1 [] O (A4 O (fun c=>?_) (fun c=>?_)))))))))
 ·(try simp only[sd,se] at c);refine A3 A7 3 [0,0] O (BQ (Bd (i:=0) O) (A9 (⟨O,_,_,⟨_,_,O,(BI (i:=0) Dp O O O),⟨_,_,O,O,O⟩⟩,(List.nil_sublist _),?_⟩)))
  all_goals exact⟨by show (.tup [.agg [.p (I 0),.p (.lst [])],.p (I 3)]:AV)=_;rw[uN (by simpa using c)];rfl,rfl⟩
 (try simp only[sd,se] at c);have hv:CL l=true:=by simpa using c
 have hv0:=XU hv;refine BA (A2 (A3 A7 2 [] O (A4 O (fun c1=>?_) (fun c1=>?_))))
 ·(try simp only[sd,se] at c1);refine A3 A7 3 [0,0] O (BQ (Bd (i:=0) O) (A9 (⟨O,_,_,⟨_,_,O,(BI (i:=0) Dp O O O),⟨_,_,O,O,O⟩⟩,(List.nil_sublist _),?_⟩)))
  all_goals exact⟨by show (.tup [.agg [.p (I 0),.p (.lst [])],.p (I 2)]:AV)=_;rw[uL hv c1];rfl,rfl⟩
 (try simp only[sd,se] at c1);refine BA (A2 (A3 A7 2 [] O (A4 O (fun c2=>?_) (fun c2=>?_))))
 ·(try simp only[sd,se] at c2);refine A3 A7 3 [0,0] O (BQ (Bd (i:=0) O) (A9 (⟨O,_,_,⟨_,_,O,(BI (i:=0) Dp O O O),⟨_,_,O,O,O⟩⟩,(List.nil_sublist _),?_⟩)))
  all_goals exact⟨by show (.tup [.agg [.p (I 0),.p (.lst [])],.p (I 15)]:AV)=_;rw[tj hv Ax c2];rfl,rfl⟩
 (try simp only[sd,se] at c2);refine BA (A6 (A0 O (Ca S1 Ed O) (BO O (BG Ed O) fun b6=>A1 A7 1 [0,0] O (A2 (A2 (Be [1,2,4,6] 27 (fun y=>y= .p (.bool ((decide ((l.const:Int) > (0:Int)))||(((l.vars.length:Nat):Int)==(0:Int))))) ?_ ?_))))))
 ·refine BC (A5 A7 4 [2] O (BY 22 O (fun g=>?_) (fun g=>?_)))
  ·(try simp only[sd,se] at g);exact A1 A7 5 [] O (⟨O,O,AP,AJ,⟨O,O,O,O,Az⟩⟩)
  (try simp only[sd,se] at g);exact A5 A7 2 [2] O (BK O (BT Ch O (List.length_map _)) (A1 A7 2 [] O (⟨O,O,AP,AJ,⟨O,O,O,O,Az⟩⟩)))
 rintro _ rfl;refine A4 O (fun c3=>?_) (fun c3=>?_)
 ·(try simp only[sd,se] at c3);refine BC (A1 A7 6 [2,0,0] O (A2 (A3 A7 3 [0] O (A4 O (fun c4=>?_) (fun c4=>?_)))))
  ·(try simp only[sd,se] at c4);refine A3 A7 3 [1,0] O (BQ (Bd (i:=1) O) (A9 (⟨O,_,_,⟨_,_,O,(BI (i:=1) Dp O O O),⟨_,_,O,O,O⟩⟩,(List.nil_sublist _),?_⟩)))
   all_goals exact⟨by show (.tup [.agg [.p (I 0),.p (.lst [])],.p (I 15)]:AV)=_;rw[tm hv Ax Ax (by rw[MZ Ax];omega)];rfl,rfl⟩
  (try simp only[sd,se] at c4);refine BA (A2 (A6 (Bx (IH (i:=0) O (YR (aw (we O) (aw (JN) (FM))))) (Bx (IB (sz:=2)) (A1 A7 1 [] O (BJ ?_))))));refine Bn (α:=Nat×Option Nat×Nat) (fun(i,o,cp)=>⟨75,mk [(1,.p (I n)),(2,.ptr b2 0),(4,.ptr b4 0),(6,.ptr b6 0),(7,.p (I (i:Int)))],[.vec o 2 (List.map ED ((l.vars.take i).map (Nr n))) cp,.box b6 [.p (I ((l.const:Int)+(n:Int))),.vs o (List.map ED ((l.vars.take i).map (Nr n))).length cp],.box b4 [.p (I 0),.p (.nils)],.box b2 [.p (I l.const),.p (.lst (List.map ED l.vars))]],[]⟩) (fun(i,o,cp)=>l.vars.length - i) (fun(i,o,cp)=>i≤l.vars.length∧(∀j,j<i→∀y,l.vars[j]?=some y→¬100<y.plus+n)) ⟨0,none,0⟩ (⟨by omega,fun j h=>by omega⟩) ?_ ?_
  ·exact Bh ⟨we O,we O,we O,we O,we O,Az⟩ (leH (is:=[0,1,2,3]) O (wl (oe O) (wl (oe O) (wl (oe O) (wl (oe O) (DJ))))))
  rintro⟨i,o,cp⟩ hC
  try simp only at hC
  obtain⟨hi,hC⟩:=hC;refine A2 (A6 (A5 A7 3 [3] O (A0 O (BT Ch O (List.length_map _)) (A1 A7 1 [] O (A4 O (fun c5=>?_) (fun c5=>?_))))))
  ·(try simp only[sd,se] at c5);refine BA (A2 (BJ (A2 (A6 (A5 A7 3 [3] O ?_)))));obtain⟨x,hx⟩:=BE (l:=l.vars) (i:=i) Ax;have hw:=LA hv hx;refine A0 O (BD Ch O O Ax (Ct hx) (O)) (A1 A7 5 [] O (A4 O (fun c6=>?_) (fun c6=>?_)))
   ·(try simp only[sd,se] at c6);refine A3 A7 3 [2,0] O (BQ (Bd (i:=2) O) (A9 (⟨O,_,_,⟨_,_,O,(BI (i:=2) Dp O O O),⟨_,_,O,O,O⟩⟩,(List.nil_sublist _),?_⟩)))
    all_goals exact⟨by show (.tup [.agg [.p (I 0),.p (.lst [])],.p (I 15)]:AV)=_;rw[tU hv Ax Ax (by rw[MZ Ax];omega) hx c6];rfl,rfl⟩
   (try simp only[sd,se] at c6);refine BA (B0 (fun k=>Nat.beq k 18) Dt (BZ A7 5 [1,3] O (BP O (fun _=>BD Ch O O Ax (Ct hx) (O)) Az (BZ A7 5 [3] O (BP O (fun _=>BD Ch O O Ax (Ct hx) (O)) Az (BZ A7 5 [] O (BP O (fun _=>Br Ch GF O O O O O) Az (JZ [] O O (CE (i:=0) (rows':=List.map ED [(CS.mk x.index ((x.plus:Int)+(n:Int)))]) Ch Ch GF O O O O O O (Gb _) AF (FX (f:=ED) ((l.vars.take i).map (Nr n)) [(CS.mk x.index ((x.plus:Int)+(n:Int)))])) As fun o1 cp1=>⟨AB,Az,?_⟩))))))));refine Bt A7 2 [1,0] O (BC (A1 A7 3 [] O (⟨⟨i+1,o1,cp1⟩,Ac,⟨by omega,C9 (p:=fun _ (y:CS)=>¬100<y.plus+n) hC hx Ax⟩,Bh ⟨we rfl,we rfl,we rfl,we rfl,we rfl,trivial⟩ (leH (is:=[0,1,2,3]) rfl (wl (Ei (f:=ED) ((l.vars.take i).map (Nr n)++[(CS.mk x.index ((x.plus:Int)+(n:Int)))]) (by rw[List.take_add_one,hx];simp[Nr])) (wl (YR (aw (we rfl) (aw (we (FI (f:=ED) ((l.vars.take i).map (Nr n)++[(CS.mk x.index ((x.plus:Int)+(n:Int)))]) (by rw[List.take_add_one,hx];simp[Nr]))) (FM)))) (wl (oe rfl) (wl (oe rfl) (DJ))))))⟩)))
  (try simp only[sd,se] at c5);refine Bo (A6 (Bx (Db (i:=0) (j:=1) (q:=1) [] O O O (Ds Az)) (A1 A7 3 [0,1,0] O (A9 (⟨O,_,_,⟨_,_,O,(BI (i:=1) Dp O O O),⟨_,_,O,O,O⟩⟩,(List.nil_sublist _),?_⟩)))))
  all_goals exact⟨by show (.tup [.agg [.p (I ((l.const:Int)+(n:Int))),.p (.lst (List.map ED ((l.vars.take i).map (Nr n))))],.p (I 0)]:AV)=_;rw[tW hv Ax Ax (by rw[MZ Ax];omega) fun j hj=>hC j Ax,MZ Ax,List.take_of_length_le Ax];rfl,rfl⟩
 (try simp only[sd,se] at c3);refine BA (A2 (A3 A7 3 [0] O (A4 O (fun c4=>?_) (fun c4=>?_))))
 ·(try simp only[sd,se] at c4);refine A3 A7 3 [1,0] O (BQ (Bd (i:=1) O) (A9 (⟨O,_,_,⟨_,_,O,(BI (i:=1) Dp O O O),⟨_,_,O,O,O⟩⟩,(List.nil_sublist _),?_⟩)))
  all_goals exact⟨by show (.tup [.agg [.p (I 0),.p (.lst [])],.p (I 15)]:AV)=_;exfalso;simp at c4,rfl⟩
 (try simp only[sd,se] at c4);refine BA (A2 (A6 (Bx (IH (i:=0) O (YR (aw (we O) (aw (JN) (FM))))) (Bx (IB (sz:=2)) (A1 A7 1 [] O (BJ ?_))))));refine Bn (α:=Nat×Option Nat×Nat) (fun(i,o,cp)=>⟨75,mk [(1,.p (I n)),(2,.ptr b2 0),(4,.ptr b4 0),(6,.ptr b6 0),(7,.p (I (i:Int)))],[.vec o 2 (List.map ED ((l.vars.take i).map (Nr n))) cp,.box b6 [.p (I 0),.vs o (List.map ED ((l.vars.take i).map (Nr n))).length cp],.box b4 [.p (I 0),.p (.nils)],.box b2 [.p (I l.const),.p (.lst (List.map ED l.vars))]],[]⟩) (fun(i,o,cp)=>l.vars.length - i) (fun(i,o,cp)=>i≤l.vars.length∧(∀j,j<i→∀y,l.vars[j]?=some y→¬100<y.plus+n)) ⟨0,none,0⟩ (⟨by omega,fun j h=>by omega⟩) ?_ ?_
 ·exact Bh ⟨we O,we O,we O,we O,we O,Az⟩ (leH (is:=[0,1,2,3]) O (wl (oe O) (wl (oe O) (wl (oe O) (wl (oe O) (DJ))))))
 rintro⟨i,o,cp⟩ hC
 try simp only at hC
 obtain⟨hi,hC⟩:=hC;refine A2 (A6 (A5 A7 3 [3] O (A0 O (BT Ch O (List.length_map _)) (A1 A7 1 [] O (A4 O (fun c5=>?_) (fun c5=>?_))))))
 ·(try simp only[sd,se] at c5);refine BA (A2 (BJ (A2 (A6 (A5 A7 3 [3] O ?_)))));obtain⟨x,hx⟩:=BE (l:=l.vars) (i:=i) Ax;have hw:=LA hv hx;refine A0 O (BD Ch O O Ax (Ct hx) (O)) (A1 A7 5 [] O (A4 O (fun c6=>?_) (fun c6=>?_)))
  ·(try simp only[sd,se] at c6);refine A3 A7 3 [2,0] O (BQ (Bd (i:=2) O) (A9 (⟨O,_,_,⟨_,_,O,(BI (i:=2) Dp O O O),⟨_,_,O,O,O⟩⟩,(List.nil_sublist _),?_⟩)))
   all_goals exact⟨by show (.tup [.agg [.p (I 0),.p (.lst [])],.p (I 15)]:AV)=_;rw[tU hv Ax Ax (by rw[O9 Ax];omega) hx c6];rfl,rfl⟩
  (try simp only[sd,se] at c6);refine BA (B0 (fun k=>Nat.beq k 18) Dt (BZ A7 5 [1,3] O (BP O (fun _=>BD Ch O O Ax (Ct hx) (O)) Az (BZ A7 5 [3] O (BP O (fun _=>BD Ch O O Ax (Ct hx) (O)) Az (BZ A7 5 [] O (BP O (fun _=>Br Ch GF O O O O O) Az (JZ [] O O (CE (i:=0) (rows':=List.map ED [(CS.mk x.index ((x.plus:Int)+(n:Int)))]) Ch Ch GF O O O O O O (Gb _) AF (FX (f:=ED) ((l.vars.take i).map (Nr n)) [(CS.mk x.index ((x.plus:Int)+(n:Int)))])) As fun o1 cp1=>⟨AB,Az,?_⟩))))))));refine Bt A7 2 [1,0] O (BC (A1 A7 3 [] O (⟨⟨i+1,o1,cp1⟩,Ac,⟨by omega,C9 (p:=fun _ (y:CS)=>¬100<y.plus+n) hC hx Ax⟩,Bh ⟨we rfl,we rfl,we rfl,we rfl,we rfl,trivial⟩ (leH (is:=[0,1,2,3]) rfl (wl (Ei (f:=ED) ((l.vars.take i).map (Nr n)++[(CS.mk x.index ((x.plus:Int)+(n:Int)))]) (by rw[List.take_add_one,hx];simp[Nr])) (wl (YR (aw (we rfl) (aw (we (FI (f:=ED) ((l.vars.take i).map (Nr n)++[(CS.mk x.index ((x.plus:Int)+(n:Int)))]) (by rw[List.take_add_one,hx];simp[Nr]))) (FM)))) (wl (oe rfl) (wl (oe rfl) (DJ))))))⟩)))
 (try simp only[sd,se] at c5);refine Bo (A6 (Bx (Db (i:=0) (j:=1) (q:=1) [] O O O (Ds Az)) (A1 A7 3 [0,1,0] O (A9 (⟨O,_,_,⟨_,_,O,(BI (i:=1) Dp O O O),⟨_,_,O,O,O⟩⟩,(List.nil_sublist _),?_⟩)))))
 all_goals exact⟨by show (.tup [.agg [.p (I 0),.p (.lst (List.map ED ((l.vars.take i).map (Nr n))))],.p (I 0)]:AV)=_;rw[tW hv Ax Ax (by rw[O9 Ax];omega) fun j hj=>hC j Ax,O9 Ax,List.take_of_length_le Ax];rfl,rfl⟩
theorem lj:∀(b0:Nat) (l:Ci) (x:CS),B2 Tryz.prog 196 [.agg ((ED x).map .p),.ptr b0 0] [.box b0 ((B9 l).map .p)] (Gj (.p (.bool (decide (l.const≤x.plus)))) [.box b0 ((B9 l).map .p)]):=by
 intro b0 l x;refine BF Tryz.func196 O oP (n:=9) O O (A6 (BO O (Ba O) fun b2=>A1 A7 1 [] O (A3 A7 6 [0,1] O (A9 (⟨O,_,_,⟨_,_,O,O,O⟩,(CC (is:=[1]) O),?_⟩)))))
 all_goals exact⟨rfl,rfl⟩
theorem lA:∀(b0:Nat) (l:Ci) (vs:List CS),(vs.length<Dq)→B2 Tryz.prog 200 [.p (.lst (List.map ED vs)),.fn (.func 196) [] [.ptr b0 0]] [.box b0 ((B9 l).map .p)] (Gj (.p (I (ND (fun v=>decide (l.const≤v.plus)) vs 0))) [.box b0 ((B9 l).map .p)]):=by
 intro b0 l vs h1;simp only[Dq] at h1;refine BF Tryz.func200 O nu (n:=19) O O (A3 A7 1 [] O (A2 (A6 (B3 O (A0 O (BT Ch O (List.length_map _)) (A1 A7 1 [] O (BJ (Bn (α:=Nat) (fun i=>⟨19,mk [(0,.p (.lst (List.map ED vs))),(1,.fn (.func 196) [] [.ptr b0 0]),(7,.p (I (vs.length:Nat))),(8,.p (I (i:Int)))],[.box b0 ((B9 l).map .p)],[]⟩) (fun i=>vs.length - i) (fun i=>i≤vs.length∧(ND (fun v=>decide (l.const≤v.plus)) (vs.drop i) i=ND (fun v=>decide (l.const≤v.plus)) vs 0)) 0 (⟨by omega,rfl⟩) ?_ ?_))))))))
 ·exact Bh ⟨we O,we O,we O,we O,Az⟩ (leH (is:=[0]) O (wl (oe O) (DJ)))
 rintro i hC
 try simp only at hC
 obtain⟨hi,hC⟩:=hC;refine A3 A7 1 [] O (A2 (A4 O (fun c=>?_) (fun c=>?_)))
 ·(try simp only[sd,se] at c);refine BA (A2 (BJ (A3 A7 2 [] O (A6 (A5 A7 3 [] O ?_)))));obtain⟨x,hx⟩:=BE (l:=vs) (i:=i) Ax;refine A0 O (BD Ch O O Ax (Ct hx) (O)) (A0 O (BU My O (O)) (A0 O (CF [0] O (.inr O) (lj b0 l x) ⟨_,_,O,O,O⟩ Aw O (.inl O)) (Bq O (A4 O (fun c1=>?_) (fun c1=>?_)))))
  ·(try simp only[sd,se] at c1);refine A3 A7 2 [] O (A9 (⟨O,_,_,⟨_,_,O,O,O⟩,(CC (is:=[0]) O),?_⟩))
   all_goals exact⟨by show (.p (I (i:Int)):AV)=_;rw[←hC,UR hx,if_pos (by simpa using c1)],rfl⟩
  (try simp only[sd,se] at c1);refine BA (BC (A1 A7 2 [] O ?_));refine⟨(i+1),Ac,⟨by omega,by rw[←hC,UR hx,if_neg (by simpa using c1)];rfl⟩,Bh ⟨we rfl,we rfl,we rfl,we rfl,trivial⟩ (leH (is:=[0]) rfl (wl (oe rfl) (DJ)))⟩
 (try simp only[sd,se] at c);refine Bo (A3 A7 1 [] O (A9 (⟨O,_,_,⟨_,_,O,O,O⟩,(CC (is:=[0]) O),?_⟩)))
 all_goals exact⟨by show (.p (I (-1)):AV)=_;rw[←hC,List.drop_eq_nil_of_le Ax];rfl,rfl⟩
theorem lr:∀(b0:Nat) (l:Ci) (vs:List CS),(vs.length<Dq)→B2 Tryz.prog 195 [.p (.lst (List.map ED vs)),.fn (.func 196) [] [.ptr b0 0]] [.box b0 ((B9 l).map .p)] (Gj (.p (.bool (vs.any (fun v=>decide (l.const≤v.plus))))) [.box b0 ((B9 l).map .p)]):=by
 intro b0 l vs h1;refine BF Tryz.func195 O oT (n:=9) O O (A3 A7 1 [] O (A6 (A5 A7 2 [] O (A0 O (CF [0] O (.inl ⟨O,O,O⟩) (lA b0 l vs h1) ⟨_,_,O,O,O⟩ Aw O (.inl O)) (A1 A7 2 [] O (A9 (⟨O,_,_,⟨_,_,O,O,O⟩,(CC (is:=[0]) O),?_⟩)))))))
 all_goals exact⟨by show (.p (.bool (decide ((ND (fun v=>decide (l.const≤v.plus)) vs 0:Int)≥(0:Int)))):AV)=_;rw[←U5 vs 0 Ax],rfl⟩
theorem SB:∀(l:Ci),(l.vars.length<Dq)→Ep Tryz.prog 190 [.agg ((B9 l).map .p)] (.p (.bool (QU l))):=by
 intro l h1;refine BF Tryz.func190 O oH (n:=7) O O (A6 (BO O (Ba O) fun b1=>A1 A7 1 [] O (A6 (A5 A7 3 [0] O (A0 O (CF [0] O (.inl ⟨O,O,O⟩) (lr b1 l l.vars h1) ⟨_,_,O,O,O⟩ Aw O (.inl O)) (A1 A7 1 [] O (A9 (⟨O,_,_,⟨_,_,O,O,O⟩,(List.nil_sublist _),?_⟩))))))))
 all_goals exact⟨rfl,rfl⟩
theorem Rj:∀(l:Ci),(M6 l)→Ep Tryz.prog 180 [.agg ((B9 l).map .p)] (.p (.bool (CL l))):=by
 intro l h1;have hl:=h1.vars;simp only[Dq] at hl;refine BF Tryz.func180 O qF (n:=65) O O (A6 (BO O (Ba O) fun b1=>A1 A7 1 [] O (A2 (A2 (Be [1] 21 (fun y=>y= .p (.bool (((decide ((l.const:Int)<(0:Int)))||(decide ((l.const:Int) > (100:Int))))||((decide ((l.const:Int) > (0:Int)))&&(QU (Ci.mk l.const l.vars)))))) ?_ ?_)))))
 ·refine BC (A5 A7 4 [0] O (BY 8 O (fun g=>?_) (fun g=>?_)))
  ·(try simp only[sd,se] at g);exact A1 A7 13 [] O (⟨O,O,AP,AJ,⟨O,Az⟩⟩)
  (try simp only[sd,se] at g);refine A5 A7 5 [0] O (BY 13 O (fun g1=>?_) (fun g1=>?_))
  ·(try simp only[sd,se] at g1);exact A1 A7 8 [] O (⟨O,O,AP,AJ,⟨O,Az⟩⟩)
  (try simp only[sd,se] at g1);refine A5 A7 4 [0] O (BY 17 O (fun g2=>?_) (fun g2=>?_))
  ·(try simp only[sd,se] at g2);exact BK O (Bf (i:=0) Dp O O O) (BK O (BL O O (SB (Ci.mk l.const l.vars) h1.vars) O) (A1 A7 2 [] O (⟨O,O,AP,AJ,⟨O,Az⟩⟩)))
  (try simp only[sd,se] at g2);exact A1 A7 4 [] O (⟨O,O,AP,AJ,⟨O,Az⟩⟩)
 rintro _ rfl;refine A4 O (fun c=>?_) (fun c=>?_)
 ·(try simp only[sd,se] at c);refine A3 A7 1 [] O (A9 (⟨O,_,_,⟨_,_,O,O,O⟩,(List.nil_sublist _),?_⟩))
  all_goals exact⟨pB (lG c),rfl⟩
 (try simp only[sd,se] at c);refine BA (A2 (A6 (A5 A7 2 [0] O (A0 O (BT Ch O (List.length_map _)) (A1 A7 1 [] O (BJ (Bn (α:=Nat) (fun i=>⟨65,mk [(1,.ptr b1 0),(23,.p (.lst (List.map ED l.vars))),(24,.p (I (l.vars.length:Nat))),(25,.p (I (i:Int)))],[.box b1 [.p (I l.const),.p (.lst (List.map ED l.vars))]],[]⟩) (fun i=>l.vars.length - i) (fun i=>i≤l.vars.length∧(C4 0 l.vars 0=C4 0 l.vars i)) 0 (⟨by omega,rfl⟩) ?_ ?_)))))))
 ·exact Bh ⟨we O,we O,we O,we O,Az⟩ (leH (is:=[0]) O (wl (oe O) (DJ)))
 rintro i hC
 try simp only at hC
 obtain⟨hi,hC⟩:=hC;refine A3 A7 1 [] O (A2 (A4 O (fun c1=>?_) (fun c1=>?_)))
 ·(try simp only[sd,se] at c1);refine BA (A2 (BJ (A6 (B3 O ?_))));obtain⟨x,hx⟩:=BE (l:=l.vars) (i:=i) Ax;refine A0 O (BD Ch O O Ax (Ct hx) (O)) (A0 O (BU My O (O)) (BO O (BG GF O) fun b4=>A1 A7 2 [0,1] O (A2 (Be [1,23,24,25] 63 (fun y=>y= .p (.bool (!(US 0 x&&Jb (Jp l.vars i) x.index)))) ?_ ?_))))
  ·refine B0 (fun k=>false) Dt (BZ A7 4 [0] O (D9 33 O (fun g=>?_) (fun g=>?_)))
   ·(try simp only[sd,se] at g);exact Bt A7 30 [] O (⟨O,O,AP,(by first | exact pB (PH Ax) | exact pB (Mr Ax Ax) | exact pB (TO hx1 Ax Ax)),⟨O,O,O,O,Az⟩⟩)
   (try simp only[sd,se] at g);refine BZ A7 5 [0] O (D9 38 O (fun g1=>?_) (fun g1=>?_))
   ·(try simp only[sd,se] at g1);exact Bt A7 25 [] O (⟨O,O,AP,(by first | exact pB (PH Ax) | exact pB (Mr Ax Ax) | exact pB (TO hx1 Ax Ax)),⟨O,O,O,O,Az⟩⟩)
   (try simp only[sd,se] at g1);refine BZ A7 5 [0] O (D9 43 O (fun g2=>?_) (fun g2=>?_))
   ·(try simp only[sd,se] at g2);exact Bt A7 20 [] O (⟨O,O,AP,(by first | exact pB (PH Ax) | exact pB (Mr Ax Ax) | exact pB (TO hx1 Ax Ax)),⟨O,O,O,O,Az⟩⟩)
   (try simp only[sd,se] at g2);refine BZ A7 5 [0] O (D9 48 O (fun g3=>?_) (fun g3=>?_))
   ·(try simp only[sd,se] at g3);exact Bt A7 15 [] O (⟨O,O,AP,(by first | exact pB (PH Ax) | exact pB (Mr Ax Ax) | exact pB (TO hx1 Ax Ax)),⟨O,O,O,O,Az⟩⟩)
   (try simp only[sd,se] at g3);refine BZ A7 3 [] O (D9 51 O (fun g4=>?_) (fun g4=>?_))
   ·(try simp only[sd,se] at g4);refine BZ A7 4 [1] O ?_;obtain⟨x1,hx1⟩:=BE (l:=l.vars) (i:=(((i:Int):Int) - (1:Int):Int).toNat) Ax;exact Cm O (fun _=>BD Ch O O Ax (Ct hx1) (O)) Az (Bt A7 7 [0] O (⟨O,O,AP,(by first | exact pB (PH Ax) | exact pB (Mr Ax Ax) | exact pB (TO hx1 Ax Ax)),⟨O,O,O,O,Az⟩⟩))
   (try simp only[sd,se] at g4);exact Bt A7 12 [] O (⟨O,O,AP,(by first | exact pB (PH Ax) | exact pB (Mr Ax Ax) | exact pB (TO hx1 Ax Ax)),⟨O,O,O,O,Az⟩⟩)
  rintro _ rfl;refine A4 O (fun c2=>?_) (fun c2=>?_)
  ·(try simp only[sd,se] at c2);refine A3 A7 1 [] O (A9 (⟨O,_,_,⟨_,_,O,O,O⟩,(List.nil_sublist _),?_⟩))
   all_goals exact⟨pB (ie hC (by rw[ON hx];simp at c2 ⊢;intro q1 q2;simp[c2 q1] at q2)),rfl⟩
  (try simp only[sd,se] at c2);refine BA (BC (A1 A7 2 [] O (⟨(i+1),Ac,⟨by omega,(hC.trans (by rw[ON hx,c2.1,c2.2];rfl))⟩,Bh ⟨we rfl,we rfl,we rfl,we rfl,trivial⟩ (leH (is:=[1]) rfl (wl (oe rfl) (DJ)))⟩)))
 (try simp only[sd,se] at c1);refine Bo (A3 A7 1 [] O (A9 (⟨O,_,_,⟨_,_,O,O,O⟩,(List.nil_sublist _),?_⟩)))
 all_goals exact⟨pB (il (pT c) hC Ax),rfl⟩
theorem jJ:∀(x:Ci),(M6 x)→Ep Tryz.prog 191 [.agg ((B9 x).map .p)] (.p (.bool (!CL x))):=by
 intro x h1;refine BF Tryz.func191 O m0 (n:=6) O O (A6 (BO O (Ba O) fun b1=>A1 A7 1 [] O (A6 (A0 O (Bf (i:=0) Dp O O Ao) (A0 O (BL O O (Rj x h1) O) (A1 A7 2 [] O (A9 (⟨O,_,_,⟨_,_,O,O,O⟩,(List.nil_sublist _),?_⟩))))))))
 all_goals exact⟨rfl,rfl⟩
theorem iV:∀(l:List Ci),(l.length<Dq)→(∀x∈l,M6 x)→Ep Tryz.prog 130 [.p (.lst (List.map B9 l)),.p (.fn 191)] (.p (I (ND (fun x=> !CL x) l 0))):=by
 intro l h1 h2;simp only[Dq] at h1;refine BF Tryz.func130 O kL (n:=19) O O (A3 A7 1 [] O (A2 (A6 (B3 O (A0 O (BT Em O (List.length_map _)) (A1 A7 1 [] O (BJ (Bn (α:=Nat) (fun i=>⟨19,mk [(0,.p (.lst (List.map B9 l))),(1,.p (.fn 191)),(7,.p (I (l.length:Nat))),(8,.p (I (i:Int)))],[],[]⟩) (fun i=>l.length - i) (fun i=>i≤l.length∧(ND (fun x=> !CL x) (l.drop i) i=ND (fun x=> !CL x) l 0)) 0 (⟨by omega,rfl⟩) ?_ ?_))))))))
 ·exact Bh ⟨we O,we O,we O,we O,Az⟩ (leH (is:=[]) O (DJ))
 rintro i hC
 try simp only at hC
 obtain⟨hi,hC⟩:=hC;refine A3 A7 1 [] O (A2 (A4 O (fun c=>?_) (fun c=>?_)))
 ·(try simp only[sd,se] at c);refine BA (A2 (BJ (A3 A7 2 [] O (A6 (A5 A7 3 [] O ?_)))));obtain⟨x,hx⟩:=BE (l:=l) (i:=i) Ax;refine A0 O (BD Em O O Ax (GD hx) (D1 _)) (A0 O (BU Dp O (D1 _)) (A0 O (BL O O (jJ x (h2 x (List.mem_of_getElem? hx))) O) (Bq O (A4 O (fun c1=>?_) (fun c1=>?_)))))
  ·(try simp only[sd,se] at c1);refine A3 A7 2 [] O (A9 (⟨O,_,_,⟨_,_,O,O,O⟩,(List.nil_sublist _),?_⟩))
   all_goals exact⟨by show (.p (I (i:Int)):AV)=_;rw[←hC,UR hx,if_pos (by simpa using c1)],rfl⟩
  (try simp only[sd,se] at c1);refine BA (BC (A1 A7 2 [] O ?_));refine⟨(i+1),Ac,⟨by omega,by rw[←hC,UR hx,if_neg (by simpa using c1)];rfl⟩,Bh ⟨we rfl,we rfl,we rfl,we rfl,trivial⟩ (leH (is:=[]) rfl (DJ))⟩
 (try simp only[sd,se] at c);refine Bo (A3 A7 1 [] O (A9 (⟨O,_,_,⟨_,_,O,O,O⟩,(List.nil_sublist _),?_⟩)))
 all_goals exact⟨by show (.p (I (-1)):AV)=_;rw[←hC,List.drop_eq_nil_of_le Ax];rfl,rfl⟩
theorem iu:∀(l:List Ci),(l.length<Dq)→(∀x∈l,M6 x)→Ep Tryz.prog 99 [.p (.lst (List.map B9 l)),.p (.fn 191)] (.p (.bool (l.any (fun x=> !CL x)))):=by
 intro l h1 h2;refine BF Tryz.func99 O oG (n:=9) O O (A3 A7 1 [] O (A6 (A5 A7 2 [] O (A0 O (BL O O (iV l h1 h2) O) (A1 A7 2 [] O (A9 (⟨O,_,_,⟨_,_,O,O,O⟩,(List.nil_sublist _),?_⟩)))))))
 all_goals exact⟨by show (.p (.bool (decide ((ND (fun x=> !CL x) l 0:Int)≥(0:Int)))):AV)=_;rw[←U5 l 0 Ax],rfl⟩
theorem Wx:∀(l:List Ci),(l.length<Dq)→(∀x∈l,M6 x)→Ep Tryz.prog 181 [.p (.lst (List.map B9 l))] (.p (.bool (l.all CL))):=by
 intro l h1 h2;refine BF Tryz.func181 O pO (n:=6) O O (A3 A7 1 [] O (A6 (B3 O (A0 O (BL O O (iu l h1 h2) O) (A1 A7 2 [] O (A9 (⟨O,_,_,⟨_,_,O,O,O⟩,(List.nil_sublist _),?_⟩)))))))
 all_goals exact⟨pB (by rw[List.all_eq_not_any_not]),rfl⟩
theorem bQ:∀(l:Ci),(M6 l)→Ep Tryz.prog 182 [.agg ((B9 l).map .p)] (.p (I (Gk l))):=by
 intro l h1;have hl:=h1.vars;simp only[Dq] at hl;refine BF Tryz.func182 O oz (n:=22) O O (A6 (BO O (Ba O) fun b1=>A1 A7 1 [] O (A2 (A6 (A5 A7 2 [0] O (A0 O (BT Ch O (List.length_map _)) (A1 A7 1 [] O (A2 (Be [1,3] 12 (fun y=>y= .p (.bool ((CL (Ci.mk l.const l.vars))&&(decide (((l.vars.length:Nat):Int) > (0:Int)))))) ?_ ?_)))))))))
 ·refine BC (A0 O (Bf (i:=0) Dp O O O) (A0 O (BL O O (Rj (Ci.mk l.const l.vars) h1) O) (B3 O (BY 9 O (fun g=>?_) (fun g=>?_)))))
  ·(try simp only[sd,se] at g);exact A1 A7 3 [] O (⟨O,O,AP,AJ,⟨O,O,Az⟩⟩)
  (try simp only[sd,se] at g);exact A1 A7 3 [] O (⟨O,O,AP,AJ,⟨O,O,Az⟩⟩)
 rintro _ rfl;refine A4 O (fun c=>?_) (fun c=>?_)
 ·(try simp only[sd,se] at c);obtain⟨hv,hn⟩:CL l=true∧0<l.vars.length:=by simpa using c
  refine A6 (A5 A7 4 [0] O ?_);obtain⟨x,hx⟩:=BE (l:=l.vars) (i:=(((l.vars.length:Nat):Int) - (1:Int):Int).toNat) Ax;have hw:=LA hv hx;refine A0 O (BD Ch O O Ax (Ct hx) (O)) (A5 A7 3 [] O (A0 O (Fi O O) (A1 A7 1 [] O (A9 (⟨O,_,_,⟨_,_,O,O,O⟩,(List.nil_sublist _),?_⟩)))))
  all_goals exact⟨pI (Vk hv hx Ax),rfl⟩
 (try simp only[sd,se] at c);refine BA (A3 A7 1 [] O (A9 (⟨O,_,_,⟨_,_,O,O,O⟩,(List.nil_sublist _),?_⟩)))
 all_goals exact⟨pI (XJ (mb c)),rfl⟩
theorem dU:B2 Tryz.prog 183 [] [] (gx (fun b:Nat×Nat=> .ptr b.1 0) (fun b=>[.box b.1 [.map b.2,.p (I 0)],.map b.2 (Ea (G5 []))])):=by
 refine BF Tryz.func183 O od (n:=4) O O (A3 A7 1 [] O (A6 (mQ O O Vm fun m1=>A0 O (Ca oE pZ O) (BO O (Ba O) fun b3=>A1 A7 1 [] O (A9 (⟨O,_,_,⟨_,_,O,O,O⟩,(CC (is:=[0,1]) O),?_⟩))))));exact⟨(_,_),O,O⟩
theorem Vi:∀(m:Nat) (M:List (Int×Int)) (i p:Int),B2 Tryz.prog 184 [.map m,.p (I i),.p (I p)] [.map m (Ea (G5 M))] (Gj (.tup []) [.map m (Ea (G5 (Gc M i p)))]):=by
 intro m M i p;refine BF Tryz.func184 O mf (n:=24) O O (A6 (A5 A7 2 [] O ?_));refine A0 O (Sc (i:=0) cY cH (fun _ _=>by simp[CW,Cb]) rfl rfl rfl (Vv _ _) (gD _ _)) ?_;refine A1 A7 5 [] O (A2 (Be [0,1,2] 20 (fun y=>y= .p (.bool ((!((mg i M).isSome))||(decide ((p:Int) > ((mg i M).getD 0:Int)))))) ?_ ?_))
 ·refine BC (A5 A7 3 [] O (BY 16 O (fun g=>?_) (fun g=>?_)))
  ·(try simp only[sd,se] at g);exact A1 A7 4 [] O (⟨O,O,AP,AJ,⟨O,O,O,Az⟩⟩)
  (try simp only[sd,se] at g);exact A1 A7 4 [] O (⟨O,O,AP,AJ,⟨O,O,O,Az⟩⟩)
 rintro _ rfl;refine A4 O (fun c=>?_) (fun c=>?_)
 ·(try simp only[sd,se] at c);refine BC (A5 A7 3 [] O (A0 O (Sq (i:=0) cY O O O O) (Bq O ⟨O,_,_,O,(CC (is:=[0]) O),?_⟩)));refine⟨O,?_⟩;show ([.map m (Ea (Nf i (.p (I p)) (G5 M)))]:List BR)=_;rw[aC c,←Yw]
 (try simp only[sd,se] at c);refine BA ⟨O,_,_,O,(CC (is:=[0]) O),?_⟩;refine⟨O,?_⟩;show ([.map m (Ea (G5 M))]:List BR)=_;rw[Xt c]
theorem Xf:∀(l:Ci),(l.vars.length<Dq)→Ep Tryz.prog 194 [.agg ((B9 l).map .p)] (.tup [.agg ((B9 ((Je l).1)).map .p),.p (I ((Je l).2))]):=by
 intro l h1;have hl:=h1;simp only[Dq] at hl;refine BF Tryz.func194 O pX (n:=26) O O (A6 (BO O (Ba O) fun b1=>BO O (BG Ed O) fun b2=>A1 A7 1 [] O (A2 (A6 (A5 A7 2 [1] O (A0 O (BT Ch O (List.length_map _)) (A1 A7 1 [] O (BJ ?_))))))));refine Bn (α:=Nat) (fun i=>⟨26,mk [(1,.ptr b1 0),(2,.ptr b2 0),(7,.p (.lst (List.map ED l.vars))),(8,.p (I (l.vars.length:Nat))),(9,.p (I (i:Int)))],[.box b2 [.p (I 0),.p (.nils)],.box b1 [.p (I l.const),.p (.lst (List.map ED l.vars))]],[]⟩) (fun i=>l.vars.length - i) (fun i=>i≤l.vars.length∧(∀j,j<i→∀y,l.vars[j]?=some y→¬100<y.plus)) 0 (⟨by omega,fun j h=>by omega⟩) ?_ ?_
 ·exact Bh ⟨we O,we O,we O,we O,we O,Az⟩ (leH (is:=[0,1]) O (wl (oe O) (wl (oe O) (DJ))))
 rintro i hC
 try simp only at hC
 obtain⟨hi,hC⟩:=hC;refine A3 A7 1 [] O (A2 (A4 O (fun c=>?_) (fun c=>?_)))
 ·(try simp only[sd,se] at c);refine BA (A2 (BJ (A6 ?_)));obtain⟨x,hx⟩:=BE (l:=l.vars) (i:=i) Ax;refine A0 O (BD Ch O O Ax (Ct hx) (O)) (A0 O (BU My O (O)) (BO O (BG GF O) fun b5=>A1 A7 1 [0,1] O (A3 A7 3 [0] O (A4 O (fun c1=>?_) (fun c1=>?_)))))
  ·(try simp only[sd,se] at c1);refine A3 A7 3 [1,0] O (BQ (Bd (i:=1) O) (A9 (⟨O,_,_,⟨_,_,O,(BI (i:=1) Dp O O O),⟨_,_,O,O,O⟩⟩,(List.nil_sublist _),?_⟩)))
   all_goals exact⟨by show (.tup [.agg [.p (I 0),.p (.lst [])],.p (I 15)]:AV)=_;rw[rD hx c1];rfl,rfl⟩
  (try simp only[sd,se] at c1);refine BA (BC (A1 A7 2 [] O (⟨(i+1),Ac,⟨by omega,C9 (p:=fun _ (y:CS)=>¬100<y.plus) hC hx Ax⟩,Bh ⟨we rfl,we rfl,we rfl,we rfl,we rfl,trivial⟩ (leH (is:=[1,2]) rfl (wl (oe rfl) (wl (oe rfl) (DJ))))⟩)))
 (try simp only[sd,se] at c);refine Bo (A2 (A3 A7 3 [1] O (A4 O (fun c1=>?_) (fun c1=>?_))))
 ·(try simp only[sd,se] at c1);refine A3 A7 3 [0,0] O (BQ (Bd (i:=0) O) (A9 (⟨O,_,_,⟨_,_,O,(BI (i:=0) Dp O O O),⟨_,_,O,O,O⟩⟩,(List.nil_sublist _),?_⟩)))
  all_goals exact⟨by show (.tup [.agg [.p (I 0),.p (.lst [])],.p (I 15)]:AV)=_;rw[ql c1];rfl,rfl⟩
 (try simp only[sd,se] at c1);refine BA (A2 (A6 (A0 O (Bf (i:=1) Dp O O O) (A0 O (BL O O (SB (Ci.mk l.const l.vars) h1) O) (Bq O (A4 O (fun c2=>?_) (fun c2=>?_)))))))
 ·(try simp only[sd,se] at c2);refine BC (A1 A7 2 [1,0] O (A3 A7 3 [1,0,0] O (A9 (⟨O,_,_,⟨_,_,O,(BI (i:=0) Dp O O O),⟨_,_,O,O,O⟩⟩,(List.nil_sublist _),?_⟩))))
  all_goals exact⟨by show (.tup [.agg [.p (I 0),.p (.lst (List.map ED l.vars))],.p (I 0)]:AV)=_;rw[sS (fun j hj=>hC j Ax) Ax c2];rfl,rfl⟩
 (try simp only[sd,se] at c2);refine BA (A3 A7 3 [1,0,0] O (A9 (⟨O,_,_,⟨_,_,O,(BI (i:=0) Dp O O O),⟨_,_,O,O,O⟩⟩,(List.nil_sublist _),?_⟩)))
 all_goals exact⟨by show (.tup [.agg [.p (I l.const),.p (.lst (List.map ED l.vars))],.p (I 0)]:AV)=_;rw[sV (fun j hj=>hC j Ax) Ax (by simpa using c2)];rfl,rfl⟩
theorem ji:∀(s m:Nat) (M:List (Int×Int)) (C:Int) (l:Ci) (n:Int),(JO l)→(0≤n)→(n≤100)→B2 Tryz.prog 185 [.ptr s 0,.agg ((B9 l).map .p),.p (I n)] [.box s [.map m,.p (I C)],.map m (Ea (G5 M))] (Gj (.tup []) [.box s [.map m,.p (I ((Rq (M,C) l n).2))],.map m (Ea (G5 (Rq (M,C) l n).1))]):=by
 intro s m M C l n h1 h2 h3;have hl:=h1.len;have hc:=h1.c;refine BF Tryz.func185 O qI (n:=39) O O (A6 (BO O (Ba O) fun b4=>Bq O (A2 (B0 (fun k=>false) Dt (BZ A7 9 [1,0] O (BP O (fun _=>Fi O O) Az (Bt A7 3 [1,0] O (A6 (A5 A7 2 [0] O (A0 O (BT Ch O (List.length_map _)) (A1 A7 1 [] O (BJ (Bn (α:=Nat) (fun i=>⟨39,mk [(0,.ptr s 0),(2,.p (I n)),(21,.p (.lst (List.map ED l.vars))),(22,.p (I (l.vars.length:Nat))),(23,.p (I (i:Int)))],[.box s [.map m,.p (I (max (C:Int) ((l.const:Int)+(n:Int):Int)))],.map m (Ea (G5 ((l.vars.take i).foldl (IE n) M)))],[]⟩) (fun i=>l.vars.length - i) (fun i=>i≤l.vars.length) 0 AW ?_ ?_)))))))))))))
 ·exact Bh ⟨we O,we O,we O,we O,we O,Az⟩ (leH (is:=[1,2]) O (wl (oe O) (wl (oe O) (DJ))))
 rintro i hC
 try simp only at hC
 have hi:=hC;refine A3 A7 1 [] O (A2 (A4 O (fun c=>?_) (fun c=>?_)))
 ·(try simp only[sd,se] at c);refine BA (A2 (BJ (A6 ?_)));obtain⟨x,hx⟩:=BE (l:=l.vars) (i:=i) Ax;have hv:=h1.rg x (List.mem_of_getElem? hx);refine A0 O (BD Ch O O Ax (Ct hx) (O)) (A0 O (BU My O (O)) (BO O (BG GF O) fun b7=>A1 A7 1 [0,1] O (B0 (fun k=>false) Dt (BZ A7 10 [1,0,0] O (FH O O (CF [2] O (.inl ⟨O,O,O⟩) (Vi m ((l.vars.take i).foldl (IE n) M) x.index ((x.plus:Int)+(n:Int))) ⟨_,_,O,O,O⟩ Aw O (.inl O)) AB Az (Hg O As (BC (Bx (IH (i:=2) O (om (congrArg Ea (congrArg G5 (cG hx))))) (A1 A7 2 [] O ?_)))))))));refine⟨(i+1),Ac,by omega,Bh ⟨we rfl,we rfl,we rfl,we rfl,we rfl,trivial⟩ (leH (is:=[1,2]) rfl (wl (oe rfl) (wl (oe rfl) (DJ))))⟩
 (try simp only[sd,se] at c);refine Bo ⟨O,_,_,O,(CC (is:=[0,1]) O),?_⟩;refine⟨O,?_⟩;show ([.box s [.map m,.p (I (max (C:Int) ((l.const:Int)+(n:Int):Int)))],.map m (Ea (G5 ((l.vars.take i).foldl (IE n) M)))]:List BR)=_;rw[show l.vars.take i=l.vars from List.take_of_length_le Ax];rfl
end Go.Proofs.YtboammbpdaoojaaGreat
