/- Part of the proofs: an abstract program logic, plain models and contracts of functions. -/
import Derived.Test.YtboammbpdaoojaaGreatPb
import Derived.Shelf.Sort.Plain
import Derived.Shelf.Slices.In.SortNone
import Derived.Test.YtboammbpdaoojaaGreatPc
import Derived.Test.YtboammbpdaoojaaGreatPd
set_option linter.unusedVariables false
set_option linter.unusedSimpArgs false
set_option maxRecDepth 100000
namespace Go.Eu
open Go.Abs Go.Sort
def FB (zs:List Int):List Int:=zs.mergeSort fun x y=>decide (x≤y)
theorem Tv (zs:List Int):(FB zs).length=zs.length:=List.length_mergeSort _
end Go.Eu
namespace Go.Eu
open Go.Abs
def T5 (c:Int) (v:CC):Bool:=decide (-65536≤v.index)&&decide (v.index<8)&&decide (0≤v.plus)&&decide (v.plus≤100)&&(decide (c≤0)||decide (v.plus<c))
def JG (p:Option Int) (i:Int):Bool:=match p with
 | none=>true
 | some j=>decide (j<i)
def Fc (c:Int):Option Int→List CC→Bool
 | _,[]=>true
 | p,v::vs=>T5 c v&&JG p v.index&&Fc c (some v.index) vs
def B6 (l:CV):Bool:=decide (0≤l.const)&&decide (l.const≤100)&&Fc l.const none l.vars
def FV:CV:=⟨0,[]⟩
def QO (l:CV):Bool:=l.vars.any fun v=>decide (l.const≤v.plus)
def RO (vs:List CC):Int:=(vs.getD (vs.length - 1) default).index
def GS (l:CV):Int:=if B6 l=true∧l.vars≠[] then max 0 (RO l.vars+1) else 0
def Ff (x:CC) (rec:List CC→List CC):List CC→List CC
 | []=>x::rec []
 | y::b=>if x.index<y.index then x::rec (y::b) else if y.index<x.index then y::Ff x rec b else ⟨x.index,max x.plus y.plus⟩::rec b
def DS:List CC→List CC→List CC
 | [],b=>b
 | x::a,b=>Ff x (DS a) b
def M6 (vs:List CC):Int:=vs.foldl (fun m v=>max m v.plus) 0
def Rp (c:Int) (vs:List CC):CV:=⟨if vs≠[]∧c≤M6 vs then 0 else c,vs⟩
def Io (a b:CV):CV:=Rp (max a.const b.const) (DS a.vars b.vars)
def Nr (n:Int) (v:CC):CC:=⟨v.index,v.plus+n⟩
def JK (l:CV) (n:Int):Int:=if l.const > 0∨l.vars=[] then l.const+n else 0
def E0 (l:CV) (n:Int):CV×Int :=
 if B6 l=false then (FV,3) else if n<0 then (FV,2) else if n > 100 then (FV,15)
 else if JK l n > 100 then (FV,15)
 else if (l.vars.any fun v=>decide (v.plus+n > 100))=true then (FV,15)
 else (⟨JK l n,l.vars.map (Nr n)⟩,0)
def GA (ps:List CV):CV→List CC→CV×Int
 | out,[]=>(out,0)
 | out,v::vs =>
  if 0≤v.index∧v.index<ps.length then
   (if (E0 (ps.getD v.index.toNat default) v.plus).2≠0 then (FV,(E0 (ps.getD v.index.toNat default) v.plus).2)
    else GA ps (Io out (E0 (ps.getD v.index.toNat default) v.plus).1) vs)
  else GA ps (Io out ⟨0,[v]⟩) vs
def Ct (l:CV) (ps:List CV):CV×Int :=
 if B6 l=false∨ps.all B6=false then (FV,3)
 else if GS l > ps.length then (FV,24)
 else GA ps ⟨l.const,[]⟩ l.vars
-- the program's way
def mg (k:Int):List (Int×Int)→Option Int
 | []=>none
 | (j,x)::r=>if j=k then some x else mg k r
def ms (k v:Int):List (Int×Int)→List (Int×Int)
 | []=>[(k,v)]
 | (j,x)::r=>if j=k then (j,v)::r else (j,x)::ms k v r
def GG (m:List (Int×Int)) (i p:Int):List (Int×Int):=match mg i m with
 | some old=>if p > old then ms i p m else m
 | none=>ms i p m
def Hl (n:Int) (m:List (Int×Int)) (v:CC):List (Int×Int):=GG m v.index (v.plus+n)
def Rb (s:List (Int×Int)×Int) (l:CV) (n:Int):List (Int×Int)×Int:=(l.vars.foldl (Hl n) s.1,max s.2 (l.const+n))
def D6 (ps:List CV) (s:List (Int×Int)×Int) (v:CC):List (Int×Int)×Int :=
 if v.index<0 then (GG s.1 v.index v.plus,s.2) else Rb s (ps.getD v.index.toNat default) v.plus
def G4 (m:List (Int×Int)):List CC:=(FB (m.map Prod.fst)).map fun i=>⟨i,(mg i m).getD 0⟩
def JR (l:CV):CV×Int :=
 if (l.vars.any fun v=>decide (v.plus > 100))=true then (FV,15)
 else if l.const > 100 then (FV,15)
 else if QO l=true then (⟨0,l.vars⟩,0) else (l,0)
def Ib (l:CV) (ps:List CV):CV×Int :=
 if B6 l=false∨ps.all B6=false then (FV,3)
 else if GS l > ps.length then (FV,24)
 else JR ⟨(l.vars.foldl (D6 ps) ([],l.const)).2,G4 (l.vars.foldl (D6 ps) ([],l.const)).1⟩
-- offsets
def D9:List CC→Int→Int
 | [],_=> -1
 | v::vs,i=>if v.index=i then max v.plus (D9 vs i) else D9 vs i
abbrev Lg (l:List CC):Prop:=l.Pairwise fun a b=>a.index<b.index
theorem N1:∀(vs:List CC) (i:Int),-1≤D9 vs i
 | [],i=>by simp[D9]
 | v::vs,i=>by have:=N1 vs i;simp only[D9];split<;>omega
theorem KR:∀{vs:List CC}{i:Int},(∀v∈vs,v.index≠i)→D9 vs i= -1
 | [],i,_=>rfl
 | v::vs,i,h=>by simp only[D9,if_neg (h v Ao)];exact KR fun w hw=>h w (by simp[hw])
theorem L7:∀{vs:List CC}{v:CC},v∈vs→v.plus≤D9 vs v.index
 | w::vs,v,h=>by
  rcases List.mem_cons.1 h with rfl | h
  ·simp only[D9,if_true];omega
  have:=L7 h;simp only[D9];split<;>omega
theorem ZA:∀{a b:List CC},Lg a→Lg b→(∀v∈a,0≤v.plus)→(∀v∈b,0≤v.plus)→(∀i,D9 a i=D9 b i)→a=b
 | [],[],_,_,_,_,_=>rfl
 | [],y::b,_,_,_,hb,h=>by
  have:=h y.index;have:=hb y Ao;have:=L7 (vs:=y::b) (v:=y) Ao;simp only[D9] at *;omega
 | x::a,[],_,_,ha,_,h=>by
  have:=h x.index;have:=ha x Ao;have:=L7 (vs:=x::a) (v:=x) Ao;simp only[D9] at *;omega
 | x::a,y::b,h1,h2,ha,hb,h=>by
  have hx:=ha x Ao;have hy:=hb y Ao;rw[Lg,List.pairwise_cons] at h1 h2;have na:D9 a x.index= -1:=KR fun v hv=>by have:=h1.1 v hv;omega
  have nb:D9 b y.index= -1:=KR fun v hv=>by have:=h2.1 v hv;omega
  have e:x.index=y.index:=by
   rcases Int.lt_trichotomy x.index y.index with q | q | q
   ·have:=h x.index;have nb':D9 b x.index= -1:=KR fun v hv=>by have:=h2.1 v hv;omega
    simp only[D9,if_true,if_neg (show ¬y.index=x.index by omega),nb'] at this;omega
   ·exact q
   have:=h y.index;have na':D9 a y.index= -1:=KR fun v hv=>by have:=h1.1 v hv;omega
   simp only[D9,if_true,if_neg (show ¬x.index=y.index by omega),na'] at this;omega
  have e2:x.plus=y.plus:=by
   have:=h x.index;simp only[D9,if_true,if_pos e.symm] at this;rw[←e] at nb;omega
  have exy:x=y:=by cases x;cases y;simp_all
  subst exy;congr 1;refine ZA h1.2 h2.2 (fun v hv=>ha v (by simp[hv])) (fun v hv=>hb v (by simp[hv])) fun i=>?_;by_cases q:x.index=i
  ·subst q;rw[na,nb]
  have:=h i;simpa only[D9,if_neg q] using this
-- merging
theorem OP {x:CC}{rec:List CC→List CC}{g:Int→Int}(hg:∀i,-1≤g i) (hr:∀b i,D9 (rec b) i=max (g i) (D9 b i)):∀(b:List CC) (i:Int),D9 (Ff x rec b) i=max (D9 [x] i) (max (g i) (D9 b i))
 | [],i=>by have:=hg i;simp only[Ff,D9,hr];split<;>omega
 | y::b,i=>by
  have:=hg i;have h0:=N1 b i;have ih:=OP (x:=x) hg hr b i;simp only[D9] at ih;simp only[Ff];split
  ·simp only[D9,hr]
   repeat' split
   all_goals omega
  split
  ·simp only[D9,ih]
   repeat' split
   all_goals omega
  have e:x.index=y.index:=by omega
  simp only[D9,hr,e]
  repeat' split
  all_goals omega
theorem NH:∀(a b:List CC) (i:Int),D9 (DS a b) i=max (D9 a i) (D9 b i)
 | [],b,i=>by have:=N1 b i;simp only[DS,D9];omega
 | x::a,b,i=>by
  have h:=OP (x:=x) (rec:=DS a) (g:=D9 a) (N1 a) (fun b i=>NH a b i) b i;have h1:=N1 a i;rw[DS,h];simp only[D9];split<;>omega
theorem MM {Q:CC→Prop}{x:CC}{rec:List CC→List CC}(hx:Q x) (hm:∀u v:CC,Q u→Q v→u.index=v.index→Q ⟨u.index,max u.plus v.plus⟩) (hr:∀b,(∀v∈b,Q v)→∀v∈rec b,Q v):∀(b:List CC),(∀v∈b,Q v)→∀v∈Ff x rec b,Q v
 | [],hb,v,hv=>by
  simp only[Ff,List.mem_cons] at hv;rcases hv with rfl | hv
  ·exact hx
  ·exact hr [] Ao v hv
 | y::b,hb,v,hv=>by
  simp only[Ff] at hv;have hy:=hb y Ao;have hb':∀v∈b,Q v:=fun v hv=>hb v (by simp[hv]);split at hv
  ·rcases List.mem_cons.1 hv with rfl | hv
   ·exact hx
   exact hr _ hb v hv
  split at hv
  ·rcases List.mem_cons.1 hv with rfl | hv
   ·exact hy
   exact MM hx hm hr b hb' v hv
  rcases List.mem_cons.1 hv with rfl | hv
  ·exact hm x y hx hy An
  exact hr _ hb' v hv
theorem Hk {Q:CC→Prop}(hm:∀u v:CC,Q u→Q v→u.index=v.index→Q ⟨u.index,max u.plus v.plus⟩):∀(a b:List CC),(∀v∈a,Q v)→(∀v∈b,Q v)→∀v∈DS a b,Q v
 | [],b,_,hb=>by simpa [DS] using hb
 | x::a,b,ha,hb=>by
  rw[DS];exact MM (ha x Ao) hm (fun b hb=>Hk hm a b (fun v hv=>ha v (by simp[hv])) hb) b hb
theorem P3 {x:CC}{a:List CC}(hr:∀b,Lg b→Lg (DS a b)) (hx:∀v∈a,x.index<v.index):∀(b:List CC),Lg b→Lg (Ff x (DS a) b)
 | [],_=>by
  rw[Ff,Lg,List.pairwise_cons];exact⟨Hk (Q:=fun v=>x.index<v.index) (fun u v h _ _=>h) a [] hx Ao,hr [] (by simp[Lg])⟩
 | y::b,hb=>by
  have hb':=hb;rw[Lg,List.pairwise_cons] at hb';simp only[Ff];split
  ·rename_i q;rw[Lg,List.pairwise_cons];refine⟨Hk (Q:=fun v=>x.index<v.index) (fun u v h _ _=>h) a _ hx fun v hv=>?_,hr _ hb⟩;rcases List.mem_cons.1 hv with rfl | hv
   ·exact q
   have:=hb'.1 v hv;omega
  split
  ·rename_i q;rw[Lg,List.pairwise_cons];refine⟨MM (Q:=fun v=>y.index<v.index) q (fun u v h _ _=>h) (fun c hc=>Hk (Q:=fun v=>y.index<v.index) (fun u v h _ _=>h) a c (fun v hv=>by have:=hx v hv;omega) hc) b hb'.1,P3 hr hx b hb'.2⟩
  have e:x.index=y.index:=by omega
  rw[Lg,List.pairwise_cons];refine⟨Hk (Q:=fun v=>x.index<v.index) (fun u v h _ _=>h) a b hx (fun v hv=>by have:=hb'.1 v hv;omega),hr _ hb'.2⟩
theorem PB:∀{a b:List CC},Lg a→Lg b→Lg (DS a b)
 | [],b,_,hb=>by simpa [DS] using hb
 | x::a,b,ha,hb=>by
  rw[Lg,List.pairwise_cons] at ha;rw[DS];exact P3 (fun b hb=>PB ha.2 hb) ha.1 b hb
-- the greatest offset
theorem Vj:∀(vs:List CC) (m:Int),m≤vs.foldl (fun m v=>max m v.plus) m
 | [],m=>by simp
 | v::vs,m=>by have:=Vj vs (max m v.plus);simp only[List.foldl_cons];omega
theorem TF:∀{vs:List CC}{m:Int}{v:CC},v∈vs→v.plus≤vs.foldl (fun m v=>max m v.plus) m
 | w::vs,m,v,h=>by
  rcases List.mem_cons.1 h with rfl | h
  ·have:=Vj vs (max m v.plus);simp only[List.foldl_cons];omega
  rw[List.foldl_cons];exact TF (vs:=vs) h
theorem WK:∀{vs:List CC}{m c:Int},m<c→(∀v∈vs,v.plus<c)→vs.foldl (fun m v=>max m v.plus) m<c
 | [],m,c,h,_=>by simpa using h
 | v::vs,m,c,h,hv=>by
  have:=hv v Ao;simp only[List.foldl_cons];exact WK An fun w hw=>hv w (by simp[hw])
def Il (c:Int) (vs:List CC):Int:=if (vs.any fun v=>decide (c≤v.plus))=true then 0 else c
theorem VP {c:Int}{vs:List CC}(hc:0≤c) (hv:∀v∈vs,0≤v.plus):(Rp c vs).const=Il c vs:=by
 simp only[Rp,Il];by_cases h:(vs.any fun v=>decide (c≤v.plus))=true
 ·rw[if_pos h];simp only[List.any_eq_true,decide_eq_true_eq] at h;obtain⟨v,hm,hp⟩:=h;have h1:=TF (m:=0) hm;rw[if_pos ⟨List.ne_nil_of_mem hm,by unfold M6;omega⟩]
 rw[if_neg h];simp only[List.any_eq_true,decide_eq_true_eq,not_exists,not_and] at h;split
 ·rename_i q;by_cases hc0:c=0
  ·exact hc0.symm
  have:=WK (vs:=vs) (m:=0) (c:=c) An fun v hv=>by have:=h v hv;omega
  have:=q.2;unfold M6 at this;omega
 rfl
-- the offsets of the program
def KE (m:List (Int×Int)) (i:Int):Int:=(mg i m).getD (-1)
theorem eF (k v:Int):∀(m:List (Int×Int)) (j:Int),mg j (ms k v m)=if k=j then some v else mg j m
 | [],j=>by simp[ms,mg]
 | (i,x)::m,j=>by
  have ih:=eF k v m j;simp only[ms];split
  ·rename_i q;subst q;simp only[mg];split<;>rfl
  rename_i q;simp only[mg,ih];by_cases h1:i=j
  ·subst h1;rw[if_pos rfl,if_neg (Ne.symm q),if_pos rfl]
  simp[h1]
theorem Uw (k v:Int):∀(m:List (Int×Int)),(ms k v m).map Prod.fst=if k∈m.map Prod.fst then m.map Prod.fst else m.map Prod.fst++[k]
 | []=>by simp[ms]
 | (i,x)::m=>by
  have ih:=Uw k v m;simp only[ms];split
  ·rename_i q;subst q;simp
  rename_i q;simp only[List.map_cons,ih,List.mem_cons,(show (k=i)=False by simp;exact fun h=>q h.symm),false_or];split<;>simp
theorem UB:∀{m:List (Int×Int)}{k:Int},mg k m=none↔k ∉ m.map Prod.fst
 | [],k=>by simp[mg]
 | (i,x)::m,k=>by
  simp only[mg,List.map_cons,List.mem_cons,not_or];split
  ·rename_i q;subst q;simp
  rename_i q;rw[UB];exact⟨fun h=>⟨fun e=>q e.symm,h⟩,fun h=>h.2⟩
structure QL (m:List (Int×Int)):Prop where
 nd:(m.map Prod.fst).Nodup
 pos:∀k v,mg k m=some v→0≤v
theorem QL.nil:QL []:=⟨by simp,fun k v h=>by simp[mg] at h⟩
theorem eO {m:List (Int×Int)}(k v:Int) (h:(m.map Prod.fst).Nodup):((ms k v m).map Prod.fst).Nodup:=by
 rw[Uw];split
 ·exact h
 rename_i q;rw[List.nodup_append];refine⟨h,by simp,fun a ha b hb=>?_⟩;simp only[List.mem_singleton] at hb;subst hb;exact fun e=>q (e▸ha)
theorem RN {m:List (Int×Int)}{i p:Int}(h:QL m) (hp:0≤p):QL (GG m i p):=by
 have hs:QL (ms i p m):=⟨eO i p h.nd,fun k v hk=>by
  rw[eF] at hk;split at hk
  ·cases hk;exact hp
  exact h.pos k v hk⟩
 unfold GG;split
 ·split
  ·exact hs
  exact h
 exact hs
theorem T9 {m:List (Int×Int)}(h:QL m) (i:Int): -1≤KE m i:=by
 unfold KE;cases e:mg i m with
 | none=>simp
 | some v=>have:=h.pos i v e;simp;omega
theorem NC {m:List (Int×Int)}{i p:Int}(h:QL m) (hp:0≤p) (j:Int):KE (GG m i p) j=max (D9 [⟨i,p⟩] j) (KE m j):=by
 have h1:KE (ms i p m) j=if i=j then p else KE m j:=by unfold KE;rw[eF];split<;>rfl
 have h2:=T9 h j;unfold GG;simp only[D9];cases e:mg i m with
 | none =>
  simp only[h1];split
  ·rename_i q;subst q;simp only[KE,e,Option.getD_none];omega
  ·omega
 | some old =>
  simp only;split
  ·rw[h1];split
   ·rename_i q;subst q;simp only[KE,e,Option.getD_some];omega
   omega
  split
  ·rename_i q;subst q;simp only[KE,e,Option.getD_some];omega
  omega
theorem Nb {n:Int}:∀(vs:List CC) (m:List (Int×Int)),QL m→(∀v∈vs,0≤v.plus+n)→QL (vs.foldl (Hl n) m)∧∀i,KE (vs.foldl (Hl n) m) i=max (D9 (vs.map (Nr n)) i) (KE m i)
 | [],m,h,_=>⟨h,fun i=>by have:=T9 h i;simp only[List.foldl_nil,List.map_nil,D9];omega⟩
 | v::vs,m,h,hv=>by
  have hp:=hv v Ao;have h1:QL (Hl n m v):=RN h hp;obtain⟨h2,h3⟩:=Nb vs (Hl n m v) h1 fun w hw=>hv w (by simp[hw]);refine⟨h2,fun i=>?_⟩;rw[List.foldl_cons,h3 i,show KE (Hl n m v) i=max (D9 [⟨v.index,v.plus+n⟩] i) (KE m i) from NC h hp i];have:=T9 h i;simp only[List.map_cons,D9,Nr];split<;>omega
theorem NS (zs:List Int):(FB zs).Perm zs:=List.mergeSort_perm _ _
theorem Ua (zs:List Int):(FB zs).Pairwise fun a b=>a≤b:=by
 have:=List.pairwise_mergeSort (le:=fun(x y:Int)=>decide (x≤y)) (fun a b c h1 h2=>by simp at *;omega) (fun a b=>by simp;omega) zs;exact this.imp fun h=>by simpa using h
theorem Sm {m:List (Int×Int)}(h:QL m):Lg (G4 m):=by
 have hn:(FB (m.map Prod.fst)).Nodup:=(NS _).nodup_iff.2 h.nd;have hs:=Ua (m.map Prod.fst);rw[Lg,G4,List.pairwise_map];exact(hs.and hn).imp fun⟨h1,h2⟩=>by simp only;omega
theorem V1 {f:Int→Int}:∀(ks:List Int) (i:Int),(∀k∈ks,0≤f k)→D9 (ks.map fun k=>(⟨k,f k⟩:CC)) i=if i∈ks then f i else -1
 | [],i,_=>by simp[D9]
 | k::ks,i,h=>by
  have ih:=V1 ks i fun k hk=>h k (by simp[hk]);simp only[List.map_cons,D9,ih,List.mem_cons];by_cases q:k=i
  ·subst q;have:=h k Ao;simp only[if_true,true_or];split<;>omega
  simp[q,Ne.symm q]
theorem SI {m:List (Int×Int)}(h:QL m) (i:Int):D9 (G4 m) i=KE m i:=by
 rw[G4,V1 (f:=fun i=>(mg i m).getD 0)]
 ·simp only[(NS _).mem_iff,KE];split
  ·rename_i q;cases e:mg i m with
   | none=>exact absurd q (UB.1 e)
   | some v=>simp
  rename_i q;rw[UB.2 q];rfl
 intro k hk;cases e:mg k m with
 | none=>simp
 | some v=>simpa using h.pos k v e
theorem bI {m:List (Int×Int)}(h:QL m):∀v∈G4 m,0≤v.plus:=by
 intro v hv;simp only[G4,List.mem_map] at hv;obtain⟨k,_,rfl⟩:=hv;simp only;cases e:mg k m with
 | none=>simp
 | some v=>simpa using h.pos k v e
-- valid levels
theorem I8:∀{c:Int}{vs:List CC}{p:Option Int},Fc c p vs=true→∀v∈vs,T5 c v=true
 | c,w::vs,p,h,v,hv=>by
  simp only[Fc,Bool.and_eq_true] at h;rcases List.mem_cons.1 hv with rfl | hv
  ·exact h.1.1
  exact I8 h.2 v hv
theorem QY {c:Int}{v:CC}(h:T5 c v=true):0≤v.plus∧v.plus≤100:=by
 simp only[T5,Bool.and_eq_true,decide_eq_true_eq] at h;exact⟨h.1.1.2,h.1.2⟩
theorem Mr:∀{c:Int}{vs:List CC}{p:Option Int},Fc c p vs=true→Lg vs∧∀v∈vs,JG p v.index=true
 | c,[],p,_=>⟨by simp[Lg],by simp⟩
 | c,w::vs,p,h=>by
  simp only[Fc,Bool.and_eq_true] at h;obtain⟨h1,h2⟩:=Mr h.2;simp only[JG,decide_eq_true_eq] at h2;refine⟨?_,fun v hv=>?_⟩
  ·rw[Lg,List.pairwise_cons];exact⟨h2,h1⟩
  rcases List.mem_cons.1 hv with rfl | hv
  ·exact h.1.2
  have a:=h.1.2;have b:=h2 v hv;unfold JG at a ⊢;cases p with
  | none=>rfl
  | some j=>simp only[decide_eq_true_eq] at a ⊢;omega
theorem ed {n:Int}{vs:List CC}(h:Lg vs):Lg (vs.map (Nr n)):=by
 rw[Lg,List.pairwise_map];exact h.imp fun h=>h
structure jW (m:List (Int×Int)) (c:Int) (out:CV):Prop where
 ok:QL m
 asc:Lg out.vars
 pos:∀v∈out.vars,0≤v.plus∧v.plus≤100
 off:∀i,D9 out.vars i=KE m i
 c0:0≤c
 c1:c≤100
 con:out.const=Il c out.vars
theorem Vy {m m' : List (Int × Int)} {c cx : Int} {out x : CV} (h : jW m c out) (hm : QL m') (hx : Lg x.vars) (hp : ∀ v ∈ x.vars, 0 ≤ v.plus ∧ v.plus ≤ 100) (ho : ∀ i, KE m' i = max (D9 x.vars i) (KE m i)) (h0 : 0 ≤ cx) (h1 : cx ≤ 100) (hc : x.const = cx ∨ x.const = 0 ∧ ∃ v ∈ x.vars, cx ≤ v.plus) : jW m' (max c cx) (Io out x) := by
 have hv : ∀ v ∈ DS out.vars x.vars, 0 ≤ v.plus ∧ v.plus ≤ 100 := Hk (Q := fun v => 0 ≤ v.plus ∧ v.plus ≤ 100) (fun u v h1 h2 _ => by simp only; omega) _ _ h.pos hp
 have hx0 : 0 ≤ x.const := by rcases hc with h | h <;> omega
 have ho0 : 0 ≤ out.const := by rw [h.con]; unfold Il; split; · omega
                                exact h.c0
 refine ⟨hm, PB h.asc hx, hv, fun i => ?_, by have := h.c0; omega, by have := h.c1; omega, ?_⟩
 ·simp only [Io, Rp, NH, h.off i, ho i]; omega
 have hmem : ∀ v, (v ∈ out.vars ∨ v ∈ x.vars) → ∃ u ∈ DS out.vars x.vars, v.plus ≤ u.plus := by
  intro v hv'
  have h1 : v.plus ≤ D9 (DS out.vars x.vars) v.index := by
   rw [NH]
   rcases hv' with h | h <;> have := L7 h <;> omega
  have h2 : 0 ≤ v.plus := by
   rcases hv' with q | q
   ·exact (h.pos v q).1
   exact (hp v q).1
  revert h1
  generalize DS out.vars x.vars = l
  intro h1
  induction l with
  | nil => simp only [D9] at h1; omega
  | cons y l ih =>
   simp only [D9] at h1
   by_cases q : v.plus ≤ y.plus
   ·exact ⟨y, by simp, q⟩
   obtain ⟨u, hu, hl⟩ := ih (by split at h1 <;> omega)
   exact ⟨u, by simp [hu], hl⟩
 rw [Io, VP An fun v hv' => (hv v hv').1]
 show Il (max out.const x.const) (DS out.vars x.vars) = Il (max c cx) (DS out.vars x.vars)
 generalize hl : DS out.vars x.vars = l
 rw [hl] at hmem hv
 have e1 : out.const = c ∨ out.const = 0 ∧ ∃ v ∈ l, c ≤ v.plus := by
  rw [h.con]
  unfold Il
  split
  ·rename_i q
   simp only [List.any_eq_true, decide_eq_true_eq] at q
   obtain ⟨v, q1, q2⟩ := q
   obtain ⟨u, hu, hle⟩ := hmem v (.inl q1)
   exact .inr ⟨O, u, hu, by omega⟩
  exact .inl O
 have e2 : x.const = cx ∨ x.const = 0 ∧ ∃ v ∈ l, cx ≤ v.plus := by
  rcases hc with q | ⟨q, v, q1, q2⟩
  ·exact .inl q
  obtain ⟨u, hu, hle⟩ := hmem v (.inr q1)
  exact .inr ⟨q, u, hu, by omega⟩
 have hc0 := h.c0
 have key : ∀ a b : Int, (∀ v ∈ l, a ≤ v.plus ↔ b ≤ v.plus) → (a = b ∨ ∃ v ∈ l, a ≤ v.plus) → Il a l = Il b l := by
  intro a b h1 h2
  unfold Il
  have : (l.any fun v => decide (a ≤ v.plus)) = (l.any fun v => decide (b ≤ v.plus)) := by
   rw [Bool.eq_iff_iff]
   simp only [List.any_eq_true, decide_eq_true_eq]
   exact ⟨fun ⟨v, q1, q2⟩ => ⟨v, q1, (h1 v q1).1 q2⟩, fun ⟨v, q1, q2⟩ => ⟨v, q1, (h1 v q1).2 q2⟩⟩
  rw [this]
  rcases h2 with rfl | ⟨v, q1, q2⟩
  ·rfl
  have : (l.any fun v => decide (b ≤ v.plus)) = true := by
   simp only [List.any_eq_true, decide_eq_true_eq]; exact ⟨v, q1, (h1 v q1).1 q2⟩
  rw [if_pos this, if_pos this]
 by_cases hM : ∃ v ∈ l, max c cx ≤ v.plus
 ·obtain ⟨v, q1, q2⟩ := hM
  have a1 : Il (max c cx) l = 0 := by
   unfold Il; rw [if_pos]; simp only [List.any_eq_true, decide_eq_true_eq]; exact ⟨v, q1, q2⟩
  have a2 : Il (max out.const x.const) l = 0 := by
   unfold Il; rw [if_pos]; simp only [List.any_eq_true, decide_eq_true_eq]
   exact ⟨v, q1, by rcases e1 with q | q <;> rcases e2 with q' | q' <;> omega⟩
  rw [a1, a2]
 have hM' : ∀ v ∈ l, v.plus < max c cx := fun v hv' => by
  exact Int.not_le.1 fun q => hM ⟨v, hv', q⟩
 have : max out.const x.const = max c cx := by
  rcases e1 with q | ⟨q, v, v1, v2⟩
  ·rcases e2 with q' | ⟨q', u, u1, u2⟩
   ·omega
   have := hM' u u1; omega
  have := hM' v v1
  rcases e2 with q' | ⟨q', u, u1, u2⟩
  ·omega
  have := hM' u u1; omega
 rw [this]
-- errors stay
def aI (s:List (Int×Int)×Int):Prop:=(∃i,100<KE s.1 i)∨100<s.2
theorem WA {ps:List CV}(hps:∀l∈ps,B6 l=true) {s:List (Int×Int)×Int}{v:CC}(hm:QL s.1) (hv:0≤v.plus) (hi:v.index<ps.length):QL (D6 ps s v).1∧(aI s→aI (D6 ps s v)):=by
 unfold D6;split
 ·refine⟨RN hm hv,fun h=>?_⟩;rcases h with ⟨i,h⟩ | h
  ·exact .inl ⟨i,by rw[NC hm hv];omega⟩
  exact .inr h
 rename_i q;have hmem:ps.getD v.index.toNat default∈ps:=by
  have hlt:v.index.toNat<ps.length:=by omega
  rw[List.getD_eq_getElem?_getD,List.getElem?_eq_getElem hlt];exact List.getElem_mem hlt
 have hl:=hps _ hmem;simp only[B6,Bool.and_eq_true,decide_eq_true_eq] at hl;obtain⟨h1,h2⟩:=Nb (n:=v.plus) (ps.getD v.index.toNat default).vars s.1 hm fun w hw=>by have:=(QY (I8 hl.2 w hw)).1;omega
 refine⟨h1,fun h=>?_⟩;rcases h with ⟨i,h⟩ | h
 ·exact .inl ⟨i,by simp only[Rb,h2];omega⟩
 exact .inr (by simp only[Rb];omega)
theorem Wi {ps:List CV}(hps:∀l∈ps,B6 l=true):∀(vs:List CC) (s:List (Int×Int)×Int),(∀v∈vs,0≤v.plus∧v.index<ps.length)→QL s.1→QL (vs.foldl (D6 ps) s).1∧(aI s→aI (vs.foldl (D6 ps) s))
 | [],s,_,h=>⟨h,id⟩
 | v::vs,s,hv,h=>by
  have hv0:=hv v Ao;obtain⟨h1,h2⟩:=WA hps (s:=s) h hv0.1 hv0.2;obtain⟨h3,h4⟩:=Wi hps vs (D6 ps s v) (fun w hw=>hv w (by simp[hw])) h1;exact⟨h3,fun b=>h4 (h2 b)⟩
theorem gy {s:List (Int×Int)×Int}(hm:QL s.1) (h:aI s):JR ⟨s.2,G4 s.1⟩=(FV,15):=by
 unfold JR;rcases h with ⟨i,h⟩ | h
 ·rw[if_pos];simp only[List.any_eq_true,decide_eq_true_eq];rw[←SI hm] at h;have:∀l:List CC,100<D9 l i→∃v∈l,100<v.plus:=by
   intro l h
   induction l with
   | nil=>simp only[D9] at h;omega
   | cons y l ih =>
    simp only[D9] at h;by_cases q:100<y.plus
    ·exact⟨y,by simp,q⟩
    obtain⟨u,hu,hl⟩:=ih (by split at h<;>omega);exact⟨u,by simp[hu],hl⟩
  obtain⟨v,hv,hl⟩:=this _ h;exact⟨v,hv,by omega⟩
 split
 ·rfl
 first | rfl | (split<;>first | rfl | (rename_i q;exact absurd h q)) | simp[h]
theorem fm {m:List (Int×Int)}{c:Int}{out:CV}(h:jW m c out):JR ⟨c,G4 m⟩=(out,0):=by
 have e:G4 m=out.vars:=ZA (Sm h.ok) h.asc (bI h.ok) (fun v hv=>(h.pos v hv).1) fun i=>by rw[SI h.ok,h.off i]
 unfold JR;simp only[e];rw[if_neg,if_neg (by have:=h.c1;omega)]
 ·have hc:=h.con;unfold QO Il at *;simp only;split
  ·rename_i q;rw[if_pos q] at hc;rw[←hc]
  rename_i q;rw[if_neg q] at hc;rw[←hc]
 simp only[List.any_eq_true,decide_eq_true_eq,not_exists,not_and];intro v hv;have:=(h.pos v hv).2;omega
theorem Pw {l:CV}{n:Int}(hl:B6 l=true) (h0:0≤n) (h1:n≤100) :
  (E0 l n=(FV,15)∧(100<l.const+n∨∃v∈l.vars,100<v.plus+n)) ∨
  (E0 l n=(⟨JK l n,l.vars.map (Nr n)⟩,0)∧l.const+n≤100∧∀v∈l.vars,v.plus+n≤100):=by
 have hl':=hl;simp only[B6,Bool.and_eq_true,decide_eq_true_eq] at hl';unfold E0;rw[if_neg (by simp[hl]),if_neg An,if_neg An];split
 ·rename_i q;refine .inl ⟨O,.inl ?_⟩;unfold JK at q;split at q<;>omega
 rename_i q;split
 ·rename_i q';simp only[List.any_eq_true,decide_eq_true_eq] at q';obtain⟨v,h1,h2⟩:=q';exact .inl ⟨O,.inr ⟨v,h1,by omega⟩⟩
 rename_i q';simp only[List.any_eq_true,decide_eq_true_eq,not_exists,not_and] at q';refine .inr ⟨O,?_,fun v hv=>by have:=q' v hv;omega⟩;unfold JK at q;split at q<;>omega
theorem fold_eq {ps:List CV}(hps:∀l∈ps,B6 l=true):∀(vs:List CC) (s:List (Int×Int)×Int) (out:CV),(∀v∈vs,0≤v.plus∧v.plus≤100∧v.index<ps.length)→jW s.1 s.2 out →
  JR ⟨(vs.foldl (D6 ps) s).2,G4 (vs.foldl (D6 ps) s).1⟩=GA ps out vs
 | [],s,out,_,h=>fm h
 | v::vs,s,out,hv,h=>by
  obtain⟨p0,p1,pi⟩:=hv v Ao;have hv':∀w∈vs,0≤w.plus∧w.plus≤100∧w.index<ps.length:=fun w hw=>hv w (by simp[hw]);have hb:∀w∈vs,0≤w.plus∧w.index<ps.length:=fun w hw=>⟨(hv' w hw).1,(hv' w hw).2.2⟩;rw[List.foldl_cons,GA];by_cases hi:0≤v.index
  ·rw[if_pos ⟨hi,pi⟩];have hst:D6 ps s v=Rb s (ps.getD v.index.toNat default) v.plus:=by unfold D6;rw[if_neg An]
   have hmem:ps.getD v.index.toNat default∈ps:=by
    have hlt:v.index.toNat<ps.length:=by omega
    rw[List.getD_eq_getElem?_getD,List.getElem?_eq_getElem hlt];exact List.getElem_mem hlt
   rw[hst];generalize ps.getD v.index.toNat default=l at hmem ⊢;have hl:=hps l hmem;have hl':=hl;simp only[B6,Bool.and_eq_true,decide_eq_true_eq] at hl';have hpos:∀w∈l.vars,0≤w.plus+v.plus:=fun w hw=>by have:=(QY (I8 hl'.2 w hw)).1;omega
   obtain⟨hm,ho⟩:=Nb (n:=v.plus) l.vars s.1 h.ok hpos;rcases Pw hl p0 p1 with ⟨e,q⟩ | ⟨e,q1,q2⟩
   ·rw[e,if_pos Ao];have hB:aI (Rb s l v.plus):=by
     rcases q with q | ⟨w,q1,q2⟩
     ·exact .inr (by simp only[Rb];omega)
     refine .inl ⟨w.index,?_⟩;simp only[Rb,ho];have:=L7 (vs:=l.vars.map (Nr v.plus)) (v:=Nr v.plus w) (List.mem_map_of_mem q1);simp only[Nr] at this;omega
    obtain⟨g1,g2⟩:=Wi hps vs (Rb s l v.plus) hb hm;exact gy g1 (g2 hB)
   rw[e,if_neg Ao];refine fold_eq hps vs _ _ hv' (Vy h hm (ed (Mr hl'.2).1) (fun w hw=>?_) ho An q1 ?_)
   ·simp only[List.mem_map] at hw;obtain⟨u,hu,rfl⟩:=hw;exact⟨by have:=hpos u hu;simp only[Nr];omega,by have:=q2 u hu;simp only[Nr];omega⟩
   simp only[JK];split
   ·exact .inl O
   rename_i q;simp only[not_or] at q;refine .inr ⟨O,?_⟩;obtain⟨w,hw⟩:=List.exists_mem_of_ne_nil _ q.2;exact⟨Nr v.plus w,List.mem_map_of_mem hw,by have:=(QY (I8 hl'.2 w hw)).1;simp only[Nr];omega⟩
  rw[if_neg An];have hst:D6 ps s v=(GG s.1 v.index v.plus,s.2):=by unfold D6;rw[if_pos An]
  rw[hst];refine fold_eq hps vs _ _ hv' ?_;have:=Vy (m':=GG s.1 v.index v.plus) (cx:=0) (x:=⟨0,[v]⟩) h (RN h.ok p0) (by simp[Lg]) (by simp;exact⟨p0,p1⟩) (fun i=>NC h.ok p0 i) An An (.inl rfl)
  rwa [show max s.2 0=s.2 by have:=h.c0;omega] at this
theorem OU:∀{vs:List CC},Lg vs→∀v∈vs,v.index≤RO vs
 | [w],_,v,hv=>by simp only[List.mem_singleton] at hv;subst hv;simp[RO]
 | w::u::vs,h,v,hv=>by
  rw[Lg,List.pairwise_cons] at h;have e:RO (w::u::vs)=RO (u::vs):=by simp[RO]
  rw[e];rcases List.mem_cons.1 hv with rfl | hv
  ·have:=h.1 u Ao;have:=OU h.2 u Ao;omega
  exact OU h.2 v hv
theorem Zw (l:CV) (ps:List CV):Ib l ps=Ct l ps:=by
 unfold Ib Ct;by_cases h1:B6 l=false∨ps.all B6=false
 ·rw[if_pos h1,if_pos h1]
 rw[if_neg h1,if_neg h1];by_cases h2:GS l > ps.length
 ·rw[if_pos h2,if_pos h2]
 rw[if_neg h2,if_neg h2];simp only[not_or,Bool.not_eq_false] at h1;have hl:=h1.1;simp only[B6,Bool.and_eq_true,decide_eq_true_eq] at hl;have hps:∀l∈ps,B6 l=true:=by simpa [List.all_eq_true] using h1.2
 have ha:=(Mr hl.2).1;refine fold_eq hps l.vars _ _ (fun v hv=>?_) ⟨QL.nil,by simp[Lg],by simp,fun i=>by simp[D9,KE,mg],hl.1.1,hl.1.2,by simp[Il]⟩;have a:=QY (I8 hl.2 v hv);refine⟨a.1,a.2,?_⟩;have:=OU ha v hv;unfold GS at h2;rw[if_pos ⟨h1.1,List.ne_nil_of_mem hv⟩] at h2;omega
def FD (ps:List CV):Int→List CV→List CV×Int
 | er,[]=>([],er)
 | er,l::ls=>((Ct l ps).1::(FD ps (Gf er (Ct l ps).2) ls).1,(FD ps (Gf er (Ct l ps).2) ls).2)
mutual
def He (ps:List CV):Int→Tm→Tm×Int
 | er,.mk k i n ls ks=>(.mk k i n (FD ps er ls).1 (Gd ps (FD ps er ls).2 ks).1,(Gd ps (FD ps er ls).2 ks).2)
def Gd (ps:List CV):Int→List Tm→List Tm×Int
 | er,[]=>([],er)
 | er,t::ts=>((He ps er t).1::(Gd ps (He ps er t).2 ts).1,(Gd ps (He ps er t).2 ts).2)
end
def Bn (t:Tm) (ps:List CV):Tm×Int:=if (He ps 0 t).2≠0 then (Bc,(He ps 0 t).2) else ((He ps 0 t).1,0)
inductive Out (α:Type) where
 | stuck
 | fail
 | ok (a:α)
def Out.bind {α β:Type}:Out α→(α→Out β)→Out β
 | .stuck,_=> .stuck
 | .fail,_=> .fail
 | .ok a,k=>k a
def SA (n:Int):Bool:=decide (-9223372036854775808≤n)&&decide (n≤9223372036854775807)
def Xc (l:CV):Bool:=decide (l.vars.length<Dc)&&SA l.const&&l.vars.all fun v=>SA v.index&&SA v.plus
mutual
def Sj:Tm→Bool
 | .mk k i n ls ks=>decide (n.size<Dc)&&decide (ls.length<Dc)&&ls.all Xc&&decide (ks.length<Dc)&&SA k&&SA i&&decide ((ks.length:Int)=arity k)&&(decide (k≠12)||decide (0≤i))&&(decide (k≠0)||decide (0≤i)&&decide (i<1099511627776))&&Lc ks
def Lc:List Tm→Bool
 | []=>true
 | t::ts=>Sj t&&Lc ts
end
def okB (t:Tm):Bool:=Sj t&&decide (size t<549755813888)
def Out.chk {σ β:Type}(o:Out (Tm×σ)) (k:Tm×σ→Out β):Out β:=o.bind fun r=>if okB r.1=true then k r else .stuck
structure Sys (σ:Type) where
 over:σ→Bool
 res:σ→Tm→Int→Option σ
 many:Nat→Bool
def Sys.put {σ α:Type}(S:Sys σ) (s:σ) (x:Tm×Int) (k:Tm→σ→Out α):Out α :=
 if okB x.1=true then (match S.res s x.1 x.2 with
  | none=> .fail
  | some s'=>k x.1 s')
 else .stuck
def EP.result (c:EP) (t:Tm) (e:Int):EP:=({ c with steps:=wr (c.steps+1),nodes:=wr (c.nodes+Ek t) }).form t e
def DU:Sys EP:=⟨EP.over,fun c t e=>some (c.result t e),fun _=>false⟩
def B1:Sys Int:=⟨fun _=>false,fun n t e=>if n - 1<0∨e≠0 then none else some (n - 1),fun k=>decide (40960<k)⟩
def G8:Tm→List Tm×Tm
 | .mk k i n l [a,b]=>if k=6 then (a::(G8 b).1,(G8 b).2) else ([],.mk k i n l [a,b])
 | t=>([],t)
section
variable (E:List CH)
def Cb (i:Int):CH:=E.getD i.toNat default
def En (d:CH) (j:Int):IX:=d.ctors.getD j.toNat default
def Gc (d:CH) (j:Int):G7:=d.funs.getD j.toNat default
def X2 (t:Tm):Int:=((G8 t).1.length:Int)
def FH (d:CH) (j:Int):Int:=max 0 (X2 (En d j).type - d.fixed)
def Ha (nm:ByteArray):Option (CH×Int) :=
 if (Bp E nm).2≠0 then none
 else if (Bp E nm).1.kind=3 then some (Cb E (Bp E nm).1.decl,-1)
 else if (Bp E nm).1.kind=4 then some (Cb E (Bp E nm).1.decl,(Bp E nm).1.item)
 else if (Bp E nm).1.kind=5 then some (Cb E (Bp E nm).1.decl,-2)
 else none
def DD (t:Tm):Option (CH×Int×List Tm) :=
 if (BA t).1.kind≠3 then none
 else match Ha E (BA t).1.name with
  | none=>none
  | some (d,j)=>if j<0 then none else if ((BA t).2.length:Int)≠d.fixed+FH d j then none else some (d,j,(BA t).2.drop d.fixed.toNat)
def Lq (d:CH):Int:=max 0 (X2 d.type - d.fixed)
def CT (d:CH):Int:=d.fixed+1+d.ctors.length+Lq d
def Cp (nm:ByteArray):List GQ→Option Es
 | []=>none
 | b::l=>if b.ctor=nm then (if b.absurd=true then none else some b.tree) else Cp nm l
def K0 (h:Tm):Option GR:=if (Bp E h.name).2=0∧(h.levels.length:Int)=(Bp E h.name).1.params then some (Bp E h.name).1 else none
variable {σ:Type}(S:Sys σ)
def Dp (W:σ→Tm→Out (Tm×σ)):Nat→Es→List Tm→Tm→σ→Out ((Option (Tm×List Tm)×Tm)×σ)
 | 0,_,_,_,_=> .stuck
 | n+1,t,vars,last,s =>
  if t.kind=1 then
   if t.var<0∨t.var≥(vars.length:Int)∨S.over s=true then .ok ((none,last),s)
   else (W s (vars.getD t.var.toNat default)).chk fun r=>match DD E r.1 with
    | none=> .ok ((none,r.1),r.2)
    | some (d,j,fields)=>match Cp (En d j).name t.branches with
     | none=> .ok ((none,r.1),r.2)
     | some t'=>Dp W n t' (vars++fields) r.1 r.2
  else .ok ((some (t.body,vars),Bc),s)
def Ep (d:CH) (h:Tm) (a:List Tm) (s:σ):Out (Option Tm×σ) :=
 if (Bn d.value h.levels).2≠0 then .ok (none,s)
 else S.put s ((Bn d.value h.levels).1,0) fun t s'=> .ok (some (apply t a),s')
def Uk (d:CH) (j:Int):Tm:=d.recs.rules.getD j.toNat default
def Ew (d:CH) (h:Tm) (a:List Tm) (m:Tm) (s:σ):Out (Option Tm×σ):=match DD E m with
 | none=> .ok (none,s)
 | some (e,j,fields) =>
  if e.name≠d.name∨j≥(d.recs.rules.length:Int) then .ok (none,s)
  else if (Bn (Uk d j) h.levels).2≠0 then .ok (none,s)
  else S.put s (apply (apply (Bn (Uk d j) h.levels).1 (a.take (d.fixed+1+d.ctors.length).toNat)) fields,0) fun t s'=> .ok (some (apply t (a.drop (CT d+1).toNat)),s')
def HM (h:Tm) (b:Tm) (vars:List Tm) (rest:List Tm) (s:σ):Out (Option Tm×σ) :=
 if (Bn b h.levels).2≠0 then .ok (none,s)
 else if okB (Bn b h.levels).1=false∨vars.all okB=false∨1125899906842624≤Ba vars then .stuck
 else S.put s (CJ (Bn b h.levels).1 vars.reverse 0) fun t s'=> .ok (some (apply t rest),s')
def JW (W:σ→Tm→Out (Tm×σ)) (n:Nat) (f:G7) (h:Tm) (a:List Tm) (s:σ):Out (Option Tm×σ) :=
 if (a.length:Int)<f.arity then .ok (none,s)
 else (Dp E S W n f.tree (a.take f.arity.toNat) Bc s).bind fun q=>match q.1.1 with
  | none=> .ok (none,q.2)
  | some (b,vars)=>if S.over q.2=true then .ok (none,q.2) else HM S h b vars (a.drop f.arity.toNat) q.2
def R0 (W:σ→Tm→Out (Tm×σ)) (d:CH) (h:Tm) (a:List Tm) (s:σ):Out (Option Tm×σ) :=
 if (a.length:Int)≤CT d then .ok (none,s)
 else (W s (a.getD (CT d).toNat default)).chk fun r=>Ew E S d h a r.1 r.2
def EU (W:σ→Tm→Out (Tm×σ)) (n:Nat) (h:Tm) (a:List Tm) (s:σ):Out (Option Tm×σ):=match K0 E h with
 | none=> .ok (none,s)
 | some x =>
  if x.kind=1 then Ep S (Cb E x.decl) h a s
  else if x.kind=5 then R0 E S W (Cb E x.decl) h a s
  else if x.kind=6 then JW E S W n (Gc (Cb E x.decl) x.item) h a s
  else .ok (none,s)
def Ip (k:Int) (p:Tm):Tm:= .mk k 0 ⟨#[]⟩ [] [p]
def N0 (h:Tm) (a:List Tm) (s:σ) {α:Type}(k:Tm→σ→Out α):Out α:=match h.kids[1]? with
 | none=> .stuck
 | some b=>S.put s (CJ b (a.take 1) 0) fun x s'=>k (apply x (a.drop 1)) s'
def U2 (h:Tm) (a:List Tm) (s:σ) {α:Type}(k:Tm→σ→Out α):Out α:=match h.kids[1]?,h.kids[2]? with
 | some v,some b=>S.put s (CJ b [v] 0) fun x s'=>k (apply x a) s'
 | _,_=> .stuck
def My (h p:Tm) (a:List Tm) (s:σ) {α:Type}(k:Tm→σ→Out α):Out α:=match p.kids[(1+h.kind - 9).toNat]? with
 | none=> .stuck
 | some q=>S.put s (q,0) fun x s'=>k (apply x a) s'
def EA:Nat→σ→Tm→Out (Tm×σ)
 | 0,_,_=> .stuck
 | n+1,s,t =>
  if okB t=false then .stuck
  else if S.over s=true then .ok (t,s)
  else if S.many (BA t).2.length=true then .fail
  else if (BA t).1.kind=5 then
   (if (BA t).2.length=0 then .ok (t,s) else N0 S (BA t).1 (BA t).2 s fun x s'=>EA n s' x)
  else if (BA t).1.kind=11 then U2 S (BA t).1 (BA t).2 s fun x s'=>EA n s' x
  else if (BA t).1.kind=9∨(BA t).1.kind=10 then match (BA t).1.kids[0]? with
   | none=> .stuck
   | some p=>(EA n s p).chk fun r =>
    if r.1.kind≠8 then .ok (apply (Ip (BA t).1.kind r.1) (BA t).2,r.2)
    else My S (BA t).1 r.1 (BA t).2 r.2 fun x s'=>EA n s' x
  else if (BA t).1.kind=3 then (EU E S (EA n) n (BA t).1 (BA t).2 s).bind fun r=>match r.1 with
   | none=> .ok (t,r.2)
   | some x=>EA n r.2 x
  else .ok (t,s)
noncomputable def IU:Nat→σ→Tm→Out (Option Int×σ)
 | 0,_,_=> .stuck
 | n+1,s,t=>(EA E S n s t).chk fun r =>
  if (BA r.1).1.kind=12 then .ok (some (BA r.1).1.index,r.2)
  else if (BA r.1).1.kind=9∨(BA r.1).1.kind=10 then match (BA r.1).1.kids[0]? with
   | none=> .stuck
   | some p=>IU n r.2 p
  else if (BA r.1).1.kind=3 then match K0 E (BA r.1).1 with
   | none=> .ok (none,r.2)
   | some x =>
    if S.over r.2=true then .ok (none,r.2)
    else if x.kind=5∧((BA r.1).2.length:Int) > CT (Cb E x.decl) then IU n r.2 ((BA r.1).2.getD (CT (Cb E x.decl)).toNat default)
    else if x.kind=6∧((BA r.1).2.length:Int)≥(Gc (Cb E x.decl) x.item).arity then
     (Dp E S (EA E S n) n (Gc (Cb E x.decl) x.item).tree ((BA r.1).2.take (Gc (Cb E x.decl) x.item).arity.toNat) Bc r.2).bind fun q=>match q.1.1 with
      | some _=> .ok (none,q.2)
      | none=>if S.over q.2=false∧NV q.1.2 Bc=false then IU n q.2 q.1.2 else .ok (none,q.2)
    else .ok (none,r.2)
  else .ok (none,r.2)
def Ju:Tm→List Int→Tm→Option Tm
 | _,[],x=>some x
 | t,p::ps,x=>match (BA t).2[p.toNat]? with
  | none=>none
  | some y=>(Ju y ps x).map fun z=>apply (BA t).1 ((BA t).2.set p.toNat z)
def Ea (a:Int×List Int) (fx:Int) (n:Nat):List (Int×List Int):=(List.range n).map fun i:Nat=>(a.1,a.2++[fx+(i:Int)])
def J9 (T:σ→Tm→Out (Option Tm×σ)) (h:Tm) (ar:Int) (a:List Tm):Nat→Es→List Tm→List (Int×List Int)→σ→Out (Option Tm×σ)
 | 0,_,_,_,_=> .stuck
 | n+1,t,vars,pl,s =>
  if t.kind=1 then
   if t.var<0∨t.var≥(vars.length:Int) then .ok (none,s)
   else match DD E (vars.getD t.var.toNat default) with
    | none=>(T s (vars.getD t.var.toNat default)).bind fun r=>match r.1 with
     | none=> .ok (none,r.2)
     | some x=>match Ju (a.getD (pl.getD t.var.toNat default).1.toNat default) (pl.getD t.var.toNat default).2 x with
      | none=> .stuck
      | some y=> .ok (some (apply h (a.set (pl.getD t.var.toNat default).1.toNat y)),r.2)
    | some (d,j,fields)=>match Cp (En d j).name t.branches with
     | none=> .ok (none,s)
     | some t'=>J9 T h ar a n t' (vars++fields) (pl++Ea (pl.getD t.var.toNat default) d.fixed fields.length) s
  else HM S h t.body vars (a.drop ar.toNat) s
def E9:Nat→σ→Tm→Out (Option Tm×σ)
 | 0,_,_=> .stuck
 | n+1,s,t =>
  if okB t=false then .stuck
  else if (BA t).1.kind=5 then
   (if (BA t).2.length=0 then .ok (none,s) else N0 S (BA t).1 (BA t).2 s fun x s'=> .ok (some x,s'))
  else if (BA t).1.kind=11 then U2 S (BA t).1 (BA t).2 s fun x s'=> .ok (some x,s')
  else if (BA t).1.kind=9∨(BA t).1.kind=10 then match (BA t).1.kids[0]? with
   | none=> .stuck
   | some p =>
    if p.kind=8 then My S (BA t).1 p (BA t).2 s fun x s'=> .ok (some x,s')
    else (E9 n s p).bind fun r=>match r.1 with
     | none=> .ok (none,r.2)
     | some x=> .ok (some (apply (Ip (BA t).1.kind x) (BA t).2),r.2)
  else if (BA t).1.kind=3 then match K0 E (BA t).1 with
   | none=> .ok (none,s)
   | some x =>
    if x.kind=1 then Ep S (Cb E x.decl) (BA t).1 (BA t).2 s
    else if x.kind=5∧((BA t).2.length:Int) > CT (Cb E x.decl) then match DD E ((BA t).2.getD (CT (Cb E x.decl)).toNat default) with
     | some _=>Ew E S (Cb E x.decl) (BA t).1 (BA t).2 ((BA t).2.getD (CT (Cb E x.decl)).toNat default) s
     | none=>(E9 n s ((BA t).2.getD (CT (Cb E x.decl)).toNat default)).bind fun r=>match r.1 with
      | none=> .ok (none,r.2)
      | some y=> .ok (some (apply (BA t).1 ((BA t).2.set (CT (Cb E x.decl)).toNat y)),r.2)
    else if x.kind=6∧((BA t).2.length:Int)≥(Gc (Cb E x.decl) x.item).arity then
     J9 E S (E9 n) (BA t).1 (Gc (Cb E x.decl) x.item).arity (BA t).2 n (Gc (Cb E x.decl) x.item).tree ((BA t).2.take (Gc (Cb E x.decl) x.item).arity.toNat) ((List.range (Gc (Cb E x.decl) x.item).arity.toNat).map fun i:Nat=>((i:Int),[])) s
    else .ok (none,s)
  else .ok (none,s)
def Gn (n:Nat) (t:Es) (a:List Tm) (s:σ):Out (Option Tm×σ) :=
 (Dp E S (EA E S n) n t a Bc s).bind fun q=>match q.1.1 with
  | none=> .ok (none,q.2)
  | some (b,vars)=>if okB b=false∨vars.all okB=false∨1125899906842624≤Ba vars then .stuck else S.put q.2 (CJ b vars.reverse 0) fun x s'=> .ok (some x,s')
end
def mQ (k i:Int) (n:ByteArray) (ls:List CV) (ks:Nat):Bool:=decide (n.size<Dc)&&decide (ls.length<Dc)&&ls.all Xc&&decide (ks<Dc)&&SA k&&SA i&&decide ((ks:Int)=arity k)&&(decide (k≠12)||decide (0≤i))&&(decide (k≠0)||decide (0≤i)&&decide (i<1099511627776))
theorem Kz (k i:Int) (n:ByteArray) (ls:List CV) (ks:List Tm):Sj (.mk k i n ls ks)=(mQ k i n ls ks.length&&Lc ks):=by rw[Sj,mQ]
theorem JL:∀{ts:List Tm},Lc ts=true↔∀t∈ts,Sj t=true
 | []=>by simp[Lc]
 | t::ts=>by simp only[Lc,Bool.and_eq_true,JL (ts:=ts),List.mem_cons,forall_eq_or_imp]
theorem gV {l:CV}(h:Xc l=true):Mw l:=by
 simp only[Xc,SA,Bool.and_eq_true,decide_eq_true_eq,List.all_eq_true] at h;exact⟨h.1.1,h.1.2,fun v hv=>h.2 v hv⟩
theorem ZE {l:CV}(h:Mw l):Xc l=true:=by
 simp only[Xc,SA,Bool.and_eq_true,decide_eq_true_eq,List.all_eq_true];exact⟨⟨h.vars,h.c⟩,fun v hv=>h.v v hv⟩
mutual
theorem Tf:∀(t:Tm),Sj t=true→Nd t∧Wt t∧Vp t
 | .mk k i n ls ks,h=>by
  rw[Kz,Bool.and_eq_true] at h;obtain⟨h1,h2⟩:=h;simp only[mQ,SA,Bool.and_eq_true,Bool.or_eq_true,decide_eq_true_eq,List.all_eq_true] at h1;obtain⟨a,b,c⟩:=Nc ks h2;obtain⟨⟨⟨⟨⟨⟨⟨⟨g1,g2⟩,g3⟩,g4⟩,g5⟩,g6⟩,g7⟩,g8⟩,g9⟩:=h1;refine⟨⟨g1,g2,fun l hl=>gV (g3 l hl),g4,a,g5,g6⟩,⟨g7,fun e=>?_,b⟩,fun e=>?_,c⟩
  ·rcases g8 with g | g
   ·exact absurd e g
   exact g
  rcases g9 with g | g
  ·exact absurd e g
  exact g
theorem Nc:∀(ts:List Tm),Lc ts=true→MJ ts∧Nt ts∧Sy ts
 | [],_=>⟨trivial,trivial,trivial⟩
 | t::ts,h=>by
  simp only[Lc,Bool.and_eq_true] at h;obtain⟨a,b,c⟩:=Tf t h.1;obtain⟨a',b',c'⟩:=Nc ts h.2;exact⟨⟨a,a'⟩,⟨b,b'⟩,⟨c,c'⟩⟩
end
mutual
theorem Tn:∀(t:Tm),Nd t→Wt t→Vp t→Sj t=true
 | .mk k i n ls ks,h1,h2,h3=>by
  rw[Kz,Bool.and_eq_true];simp only[Nd] at h1;simp only[Wt] at h2;simp only[Vp] at h3;obtain⟨a1,a2,a3,a4,a5,a6,a7⟩:=h1;refine⟨?_,RA ks a5 h2.2.2 h3.2⟩;simp only[mQ,SA,Bool.and_eq_true,Bool.or_eq_true,decide_eq_true_eq,List.all_eq_true];refine⟨⟨⟨⟨⟨⟨⟨⟨a1,a2⟩,fun l hl=>ZE (a3 l hl)⟩,a4⟩,a6⟩,a7⟩,h2.1⟩,?_⟩,?_⟩
  ·by_cases e:k=12
   ·exact .inr (h2.2.1 e)
   exact .inl e
  by_cases e:k=0
  ·exact .inr (h3.1 e)
  exact .inl e
theorem RA:∀(ts:List Tm),MJ ts→Nt ts→Sy ts→Lc ts=true
 | [],_,_,_=>rfl
 | t::ts,h1,h2,h3=>by
  simp only[Lc,Bool.and_eq_true];exact⟨Tn t h1.1 h2.1 h3.1,RA ts h1.2 h2.2 h3.2⟩
end
structure tU (t:Tm):Prop where
 nd:Nd t
 wt:Wt t
 vp:Vp t
 sz:size t<549755813888
theorem CM {t:Tm}:okB t=true↔tU t:=by
 simp only[okB,Bool.and_eq_true,decide_eq_true_eq];exact⟨fun h=>by obtain⟨a,b,c⟩:=Tf t h.1;exact⟨a,b,c,h.2⟩,fun h=>⟨Tn t h.nd h.wt h.vp,h.sz⟩⟩
theorem Lr {t:Tm}(h:Sj t=true) (hs:size t<549755813888):okB t=true:=by simp[okB,h,hs]
theorem JF {t:Tm}(h:okB t=true):Sj t=true:=by simp only[okB,Bool.and_eq_true] at h;exact h.1
theorem Fk {t:Tm}(h:okB t=true):size t<549755813888:=by simp only[okB,Bool.and_eq_true,decide_eq_true_eq] at h;exact h.2
theorem F6 {t x:Tm}{i:Nat}(h:okB t=true) (hx:t.kids[i]?=some x):okB x=true:=by
 have h1:=JF h;have h2:=Fk h;obtain⟨k,j,n,ls,ks⟩:=t;rw[Kz,Bool.and_eq_true] at h1;simp only[size] at h2;simp only[Tm.kids] at hx;have:=Cc hx;exact Lr (JL.1 h1.2 x (List.mem_of_getElem? hx)) An
theorem TL:∀(t:Tm),Sj t=true→Sj (BA t).1=true∧Lc (BA t).2=true
 | .mk k i n l [f,a],h=>by
  unfold BA;split
  ·rw[Kz,Bool.and_eq_true] at h;simp only[Lc,Bool.and_eq_true] at h;obtain⟨h1,h2⟩:=TL f h.2.1;refine⟨h1,JL.2 fun x hx=>?_⟩;rcases List.mem_append.1 hx with hx | hx
   ·exact JL.1 h2 x hx
   rw[List.mem_singleton.1 hx];exact h.2.2.1
  ·exact⟨h,O⟩
 | .mk k i n l [],h=>⟨h,rfl⟩
 | .mk k i n l [_],h=>⟨h,rfl⟩
 | .mk k i n l (_::_::_::_),h=>⟨h,rfl⟩
theorem Hj {t:Tm}(h:okB t=true):okB (BA t).1=true∧∀x∈(BA t).2,okB x=true:=by
 simp only[okB,Bool.and_eq_true,decide_eq_true_eq] at h ⊢;obtain⟨h1,h2⟩:=TL t h.1;have hs:=Ia t;refine⟨⟨h1,by omega⟩,fun x hx=>⟨JL.1 h2 x hx,?_⟩⟩;obtain⟨i,hi⟩:=List.mem_iff_getElem?.1 hx;have:=Cc hi;omega
theorem iJ {f a:Tm}(h1:Sj f=true) (h2:Sj a=true):Sj (bF f a)=true:=by
 rw[bF,Kz,Bool.and_eq_true];exact⟨O,by simp[Lc,h1,h2]⟩
theorem I9:∀{xs:List Tm}{f:Tm},Sj f=true→(∀x∈xs,Sj x=true)→Sj (apply f xs)=true
 | [],f,h,_=>h
 | x::xs,f,h,hx=>by
  rw[apply,List.foldl_cons];exact I9 (iJ h (hx x Ao)) fun y hy=>hx y (by simp[hy])
theorem C8:∀(xs:List Tm) (f:Tm),size (apply f xs)=size f+Ba xs+xs.length
 | [],f=>by simp[apply,Ba]
 | x::xs,f=>by
  have:=C8 xs (bF f x);rw[apply] at this ⊢;rw[List.foldl_cons,this];simp only[bF,size,Ba,List.length_cons];omega
theorem iB (m:CV):((Bz m).map AV.p).all one=true:=rfl
def Jn (l:List CC) (i:Nat):Option Int:=if i=0 then none else (l[i - 1]?).map CC.index
def Cq (c:Int) (l:List CC) (i:Nat):Bool:=Fc c (Jn l i) (l.drop i)
theorem Og {c:Int}{l:List CC}{i:Nat}{v:CC}(h:l[i]?=some v):Cq c l i=(T5 c v&&JG (Jn l i) v.index&&Cq c l (i+1)):=by
 have e:Jn l (i+1)=some v.index:=by simp[Jn,h]
 rw[Cq,Cj h,Fc,Cq,e]
theorem cU {c:Int}{l:List CC}{i:Nat}(h:l.length≤i):Cq c l i=true:=by
 rw[Cq,List.drop_eq_nil_of_le h];rfl
theorem T4 (l:CV):B6 l=(decide (0≤l.const)&&decide (l.const≤100)&&Cq l.const l.vars 0):=rfl
theorem cE {c:Int}{l:List CC}{i:Nat}{v:CC}(h:l[i]?=some v) (hb:T5 c v=false):Cq c l i=false:=by rw[Og h,hb];rfl
theorem jV {c:Int}{l:List CC}{i:Nat}{v:CC}(h:l[i]?=some v) (h1:T5 c v=true) (h2:JG (Jn l i) v.index=true):Cq c l i=Cq c l (i+1):=by rw[Og h,h1,h2];simp
theorem eQ {l:CV}(h:l.const<0∨100<l.const):false=B6 l:=by
 rw[T4];rcases h with h | h
 ·rw[decide_eq_false An];rfl
 rw[decide_eq_false (p:=l.const≤100) An];simp
theorem Ur {l:CV}{i:Nat}(h:Cq l.const l.vars 0=Cq l.const l.vars i) (hb:Cq l.const l.vars i=false):false=B6 l:=by
 rw[T4,h,hb];simp
theorem gP {l:CV}{i:Nat}(h0:0≤l.const) (h1:l.const≤100) (h:Cq l.const l.vars 0=Cq l.const l.vars i) (hb:l.vars.length≤i):true=B6 l:=by
 rw[T4,h,cU hb,decide_eq_true h0,decide_eq_true h1];rfl
theorem cY {c:Int}{v:CC}(h:((v.index < -65536∨8≤v.index)∨v.plus<0)∨100<v.plus):T5 c v=false:=by
 simp only[T5,Bool.and_eq_false_iff,decide_eq_false_iff_not];omega
theorem jv {c:Int}{v:CC}(h1:0<c) (h:c≤v.plus):T5 c v=false:=by
 simp only[T5,Bool.and_eq_false_iff,Bool.or_eq_false_iff,decide_eq_false_iff_not];omega
theorem UH {c:Int}{v:CC}(h: -65536≤v.index∧v.index<8∧0≤v.plus∧v.plus≤100) (h1:0<c→v.plus<c):T5 c v=true:=by
 simp only[T5,Bool.and_eq_true,Bool.or_eq_true,decide_eq_true_eq];refine⟨⟨⟨⟨h.1,h.2.1⟩,h.2.2.1⟩,h.2.2.2⟩,?_⟩;by_cases q:c≤0
 ·exact .inl q
 exact .inr (h1 An)
theorem gu {l:List CV}{i:Nat}{x:CV}(hx:l[i]?=some x) (h:B6 x=false):false=l.all B6:=by
 symm;rw[List.all_eq_false];exact⟨x,List.mem_of_getElem? hx,by simp[h]⟩
theorem eU {l:List CV}(h:∀j,j<l.length→∀y,l[j]?=some y→B6 y=true):true=l.all B6:=by
 symm;rw[List.all_eq_true];intro x hx;obtain⟨j,hj⟩:=List.mem_iff_getElem?.1 hx;exact h j (List.getElem?_eq_some_iff.1 hj).1 x hj
theorem Wf {l:CV}(h:B6 l=true):0≤l.const∧l.const≤100:=by
 simp only[B6,Bool.and_eq_true,decide_eq_true_eq] at h;exact h.1
theorem Kv {l:CV}{i:Nat}{x:CC}(h:B6 l=true) (hx:l.vars[i]?=some x):(0≤x.plus∧x.plus≤100)∧ -65536≤x.index∧x.index<8:=by
 simp only[B6,Bool.and_eq_true,decide_eq_true_eq] at h;have:=I8 h.2 x (List.mem_of_getElem? hx);simp only[T5,Bool.and_eq_true,decide_eq_true_eq] at this;exact⟨⟨this.1.1.2,this.1.2⟩,this.1.1.1⟩
theorem Vn {l:CV}(h:B6 l=false∨l.vars.length=0):(0:Int)=GS l:=by
 unfold GS;rw[if_neg];rintro⟨h1,h2⟩;rcases h with h | h
 ·rw[h] at h1;cases h1
 exact h2 (List.length_eq_zero_iff.1 h)
theorem Vc {l:CV}{x:CC}{i:Nat}(h:B6 l=true) (hx:l.vars[i]?=some x) (hi:i=l.vars.length - 1):max 0 (x.index+1)=GS l:=by
 unfold GS;have hne:l.vars≠[]:=by intro e;simp[e] at hx
 rw[if_pos ⟨h,hne⟩,RO,←hi,List.getD_eq_getElem?_getD,hx];rfl
theorem tZ {l:CV}{n:Int}(h:B6 l=false):E0 l n=(FV,3):=by rw[E0,if_pos h]
theorem tg {l:CV}{n:Int}(h:B6 l=true) (h1:n<0):E0 l n=(FV,2):=by rw[E0,if_neg (by simp[h]),if_pos h1]
theorem te {l:CV}{n:Int}(h:B6 l=true) (h0:0≤n) (h1:100<n):E0 l n=(FV,15):=by rw[E0,if_neg (by simp[h]),if_neg An,if_pos h1]
theorem tW {l:CV}{n:Int}(h:B6 l=true) (h0:0≤n) (h1:n≤100) (h2:100<JK l n):E0 l n=(FV,15):=by rw[E0,if_neg (by simp[h]),if_neg An,if_neg An,if_pos h2]
theorem sw {l:CV}{n:Int}{i:Nat}{x:CC}(h:B6 l=true) (h0:0≤n) (h1:n≤100) (h2:JK l n≤100) (hx:l.vars[i]?=some x) (h3:100<x.plus+n):E0 l n=(FV,15):=by
 rw[E0,if_neg (by simp[h]),if_neg An,if_neg An,if_neg An,if_pos];rw[List.any_eq_true];exact⟨x,List.mem_of_getElem? hx,by simpa using h3⟩
theorem tH {l:CV}{n:Int}(h:B6 l=true) (h0:0≤n) (h1:n≤100) (h2:JK l n≤100) (h3:∀j,j<l.vars.length→∀y,l.vars[j]?=some y→¬100<y.plus+n):E0 l n=(⟨JK l n,l.vars.map (Nr n)⟩,0):=by
 rw[E0,if_neg (by simp[h]),if_neg An,if_neg An,if_neg An,if_neg];rw[List.any_eq_true];rintro⟨x,hx,hq⟩;obtain⟨j,hj⟩:=List.mem_iff_getElem?.1 hx;exact h3 j (List.getElem?_eq_some_iff.1 hj).1 x hj (by simpa using hq)
theorem Ms {l:CV}{n:Int}(h:0<l.const∨l.vars.length=0):JK l n=l.const+n:=by
 unfold JK;rw[if_pos];rcases h with h | h
 ·exact .inl h
 exact .inr (List.length_eq_zero_iff.1 h)
theorem Pe {l:CV}{n:Int}(h:¬(0<l.const∨l.vars.length=0)):JK l n=0:=by
 unfold JK;rw[if_neg];rintro(q | q)
 ·exact h (.inl q)
 exact h (.inr (by simp[q]))
theorem O9 {l:List CC}{i j:Nat}{u:CC}{x:Int}(hj:l[j]?=some u) (he:i=j+1):(!JG (Jn l i) x)=decide (u.index≥x):=by
 subst he;have e:Jn l (j+1)=some u.index:=by simp[Jn,hj]
 rw[e];simp only[JG];rw[←decide_not,decide_eq_decide];omega
theorem NQ {l:List CC}{i:Nat}{x:Int}(h:¬(i:Int) > 0):(!JG (Jn l i) x)=false:=by
 have:i=0:=by omega
 subst this;rfl
theorem cw {x y:CC}{a b:List CC}(h:y.index<x.index):DS (x::a) (y::b)=y::DS (x::a) b:=by
 rw[DS,Ff,if_neg An,if_pos h];rfl
def QN (a b:List CC) (i k:Nat):Bool:=(k==b.length)||(match a[i]?,b[k]? with
 | some x,some y=>decide (x.index<y.index)
 | _,_=>false)
def Wl (a b:List CC) (i k:Nat):Bool:=(i==a.length)||(match a[i]?,b[k]? with
 | some x,some y=>decide (y.index<x.index)
 | _,_=>false)
section
variable {a b:List CC}{i k:Nat}{vs:List CC}{m:Int}{x y:CC}
theorem Om (h:k=b.length):true=QN a b i k:=by simp[QN,h]
theorem Qm (h:a.length≤i) (hk:k≠b.length):false=QN a b i k:=by simp[QN,hk,List.getElem?_eq_none h]
theorem OK (hx:a[i]?=some x) (hy:b[k]?=some y):decide (x.index<y.index)=QN a b i k:=by
 have:=(List.getElem?_eq_some_iff.1 hy).1;simp only[QN,hx,hy];rw[show (k==b.length)=false by simp;omega,Bool.false_or]
theorem RT (h:i=a.length):true=Wl a b i k:=by simp[Wl,h]
theorem MZ (hx:a[i]?=some x) (hy:b[k]?=some y):decide (y.index<x.index)=Wl a b i k:=by
 have:=(List.getElem?_eq_some_iff.1 hx).1;simp only[Wl,hx,hy];rw[show (i==a.length)=false by simp;omega,Bool.false_or]
theorem jL (h:QN a b i k=true) (hc:i<a.length∨k<b.length):i<a.length:=by
 by_cases q:k=b.length
 ·omega
 by_cases q':a.length≤i
 ·rw[←Qm q' q] at h;cases h
 omega
theorem jg (h:QN a b i k=false) (hk:k≤b.length):k<b.length:=by
 by_cases q:k=b.length
 ·rw[←Om q] at h;cases h
 omega
theorem iN (h:Wl a b i k=false) (hi:i≤a.length):i<a.length:=by
 by_cases q:i=a.length
 ·rw[←RT q] at h;cases h
 omega
structure NY (a b:List CC) (i k:Nat) (vs:List CC) (m:Int):Prop where
 hi:i≤a.length
 hk:k≤b.length
 eq:vs++DS (a.drop i) (b.drop k)=DS a b
 mo:m=M6 vs
 ln:vs.length≤i+k
theorem PU (vs:List CC) (v:CC):M6 (vs++[v])=max (M6 vs) v.plus:=by simp[M6]
theorem NY.zero:NY a b 0 0 [] 0:=⟨by omega,by omega,by simp,rfl,by simp⟩
theorem NY.left (h:NY a b i k vs m) (hx:a[i]?=some x) (hs:QN a b i k=true):NY a b (i+1) k (vs++[x]) (max m x.plus):=by
 have hl:=(List.getElem?_eq_some_iff.1 hx).1;have:=h.ln;refine⟨hl,h.hk,?_,by rw[PU,←h.mo],by simp;omega⟩;rw[←h.eq,Cj hx,List.append_assoc];congr 1;by_cases q:k<b.length
 ·obtain⟨y,hy⟩:∃y,b[k]?=some y:=⟨_,List.getElem?_eq_getElem q⟩;rw[←OK hx hy,decide_eq_true_eq] at hs;rw[Cj hy,DS,Ff,if_pos hs];rfl
 rw[List.drop_eq_nil_of_le (show b.length≤k by omega),DS,Ff];rfl
theorem NY.right (h:NY a b i k vs m) (hy:b[k]?=some y) (hs:QN a b i k=false) (h2:Wl a b i k=true):NY a b i (k+1) (vs++[y]) (max m y.plus):=by
 have hl:=(List.getElem?_eq_some_iff.1 hy).1;have:=h.ln;refine⟨h.hi,hl,?_,by rw[PU,←h.mo],by simp;omega⟩;rw[←h.eq,Cj hy,List.append_assoc];congr 1;by_cases q:i<a.length
 ·obtain⟨x,hx⟩:∃x,a[i]?=some x:=⟨_,List.getElem?_eq_getElem q⟩;rw[←MZ hx hy,decide_eq_true_eq] at h2;rw[Cj hx,cw h2];rfl
 rw[List.drop_eq_nil_of_le (show a.length≤i by omega),DS,DS];rfl
theorem NY.both (h:NY a b i k vs m) (hx:a[i]?=some x) (hy:b[k]?=some y) (hs:QN a b i k=false) (h2:Wl a b i k=false):NY a b (i+1) (k+1) (vs++[⟨x.index,max x.plus y.plus⟩]) (max m (max x.plus y.plus)):=by
 have hl:=(List.getElem?_eq_some_iff.1 hx).1;have hl':=(List.getElem?_eq_some_iff.1 hy).1;have:=h.ln;rw[←OK hx hy,decide_eq_false_iff_not] at hs;rw[←MZ hx hy,decide_eq_false_iff_not] at h2;refine⟨hl,hl',?_,by rw[PU,←h.mo],by simp;omega⟩;rw[←h.eq,Cj hx,Cj hy,List.append_assoc,DS,Ff,if_neg hs,if_neg h2];rfl
theorem NY.fin (h:NY a b i k vs m) (hc:¬(i<a.length∨k<b.length)):vs=DS a b∧m=M6 vs:=by
 refine⟨?_,h.mo⟩;rw[←h.eq,List.drop_eq_nil_of_le An,List.drop_eq_nil_of_le An];simp[DS]
end
theorem tQ {p q:CV}{vs:List CC}{m:Int}(h:vs=DS p.vars q.vars∧m=M6 vs) (h1:0<vs.length) (h2:max p.const q.const≤m):Io p q=⟨0,vs⟩:=by
 rw[Io,Rp,←h.1,if_pos ⟨List.ne_nil_of_length_pos h1,by rw[←h.2];exact h2⟩]
theorem tp {p q:CV}{vs:List CC}{m:Int}(h:vs=DS p.vars q.vars∧m=M6 vs) (h1:¬(0<vs.length∧max p.const q.const≤m)):Io p q=⟨max p.const q.const,vs⟩:=by
 rw[Io,Rp,←h.1,if_neg];rintro⟨a,b⟩;exact h1 ⟨List.length_pos_iff.2 a,by rw[h.2];exact b⟩
theorem U3:∀{vs:List CC}{lo:Int},Lg vs→(∀v∈vs,lo≤v.index∧v.index<8)→lo≤8→(vs.length:Int)≤8 - lo
 | [],lo,_,_,h=>by simp;omega
 | x::vs,lo,ha,hv,h=>by
  rw[Lg,List.pairwise_cons] at ha;have hx:=hv x Ao;have:=U3 (vs:=vs) (lo:=x.index+1) ha.2 (fun v hv'=>⟨by have:=ha.1 v hv';omega,(hv v (by simp[hv'])).2⟩) An;simp only[List.length_cons];omega
structure JA (l:CV):Prop where
 c:0≤l.const∧l.const≤100
 asc:Lg l.vars
 rg:∀v∈l.vars,(0≤v.plus∧v.plus≤100)∧ -65536≤v.index∧v.index<8
theorem JA.len {l:CV}(h:JA l):l.vars.length≤65544:=by
 have:=U3 (lo:= -65536) h.asc (fun v hv=>(h.rg v hv).2) An;omega
theorem JA.nd {l:CV}(h:JA l):Mw l :=
 ⟨by have:=h.len;simp only[Dc];omega,by have:=h.c;unfold Iz;omega,fun v hv=>by have:=h.rg v hv;unfold Iz;omega⟩
theorem JA.of {l:CV}(h:B6 l=true):JA l:=by
 have h0:=Wf h;have h':=h;simp only[B6,Bool.and_eq_true,decide_eq_true_eq] at h';exact⟨h0,(Mr h'.2).1,fun v hv=>by obtain⟨i,hi⟩:=List.mem_iff_getElem?.1 hv;exact Kv h hi⟩
theorem JA.join {a b:CV}(h1:JA a) (h2:JA b):JA (Io a b):=by
 have hc1:=h1.c;have hc2:=h2.c;refine⟨?_,PB h1.asc h2.asc,Hk (Q:=fun v=>(0≤v.plus∧v.plus≤100)∧ -65536≤v.index∧v.index<8) (fun u v g1 g2 _=>by simp only;omega) _ _ h1.rg h2.rg⟩;simp only[Io,Rp];split<;>omega
theorem JA.one {v:CC}(h:(0≤v.plus∧v.plus≤100)∧ -65536≤v.index∧v.index<8):JA ⟨0,[v]⟩:=⟨by simp,by simp[Lg],by simpa using h⟩
theorem JA.num {n:Int}(h:0≤n∧n≤100):JA ⟨n,[]⟩:=⟨h,by simp[Lg],by simp⟩
theorem JA.plus {l:CV}{n:Int}(hl:B6 l=true) (h0:0≤n) (h1:n≤100) (he:(E0 l n).2=0):JA (E0 l n).1:=by
 rcases Pw hl h0 h1 with ⟨e,_⟩ | ⟨e,q1,q2⟩
 ·rw[e] at he;simp at he
 have h:=JA.of hl;have hc:=h.c;rw[e];refine⟨?_,ed h.asc,fun w hw=>?_⟩
 ·simp only[JK];split<;>omega
 simp only[List.mem_map] at hw;obtain⟨u,hu,rfl⟩:=hw;have:=h.rg u hu;have:=q2 u hu;simp only[Nr];omega
section
variable {ps:List CV}{q p:CV}{vs:List CC}{v:CC}{i:Nat}
theorem CW {α:Type} [Inhabited α] {l:List α}{i:Nat}{x:α}(h:l[i]?=some x):l.getD i default=x:=by rw[List.getD_eq_getElem?_getD,h];rfl
theorem tc (hv:vs[i]?=some v) (h0:0≤v.index) (h1:v.index<ps.length) (hp:ps[v.index.toNat]?=some p) (he:(E0 p v.plus).2≠0):GA ps q (vs.drop i)=(FV,(E0 p v.plus).2):=by
 rw[Cj hv,GA,if_pos ⟨h0,h1⟩,CW hp,if_pos he]
theorem s7 (hv:vs[i]?=some v) (h0:0≤v.index) (h1:v.index<ps.length) (hp:ps[v.index.toNat]?=some p) (he:(E0 p v.plus).2=0):GA ps q (vs.drop i)=GA ps (Io q (E0 p v.plus).1) (vs.drop (i+1)):=by
 rw[Cj hv,GA,if_pos ⟨h0,h1⟩,CW hp,if_neg (by simp[he])]
theorem qR (hv:vs[i]?=some v) (h:¬(0≤v.index∧v.index<ps.length)):GA ps q (vs.drop i)=GA ps (Io q ⟨0,[v]⟩) (vs.drop (i+1)):=by
 rw[Cj hv,GA,if_neg h]
end
theorem YW {ps:List CV}{k i:Int}{n:ByteArray}{ls ys:List CV}{ks zs:List Tm}{er e e2:Int}(h1:FD ps er ls=(ys,e)) (h2:Gd ps e ks=(zs,e2)):He ps er (.mk k i n ls ks)=(.mk k i n ys zs,e2):=by rw[He,h1,h2]
theorem dE {ps:List CV}{tl ys:List CV}{e:Int}{i:Nat}{X:List CV×Int}(h:(ys++(FD ps e (tl.drop i)).1,(FD ps e (tl.drop i)).2)=X) (hi:tl.length≤i):X=(ys,e):=by
 rw[←h,List.drop_eq_nil_of_le hi];simp[FD]
theorem de {ps:List CV}{ts zs:List Tm}{e:Int}{i:Nat}{X:List Tm×Int}(h:(zs++(Gd ps e (ts.drop i)).1,(Gd ps e (ts.drop i)).2)=X) (hi:ts.length≤i):X=(zs,e):=by
 rw[←h,List.drop_eq_nil_of_le hi];simp[Gd]
theorem XV (e:Int):Gf e 0=e:=by unfold Gf;split<;>simp_all
def NT {α:Type}(p:α→Bool):List α→Int→Int
 | [],_=> -1
 | x::l,i=>if p x=true then i else NT p l (i+1)
theorem UU {α:Type}{p:α→Bool}{l:List α}{i:Nat}{x:α}{k:Int}(h:l[i]?=some x):NT p (l.drop i) k=if p x=true then k else NT p (l.drop (i+1)) (k+1):=by rw[Cj h,NT]
theorem Uz {α:Type}{p:α→Bool}:∀(l:List α) (i:Int),0≤i→decide (NT p l i≥0)=l.any p
 | [],i,_=>by simp[NT]
 | x::l,i,h=>by
  simp only[NT,List.any_cons];split
  ·rename_i q;simp[q,h]
  rename_i q;rw[Uz l (i+1) An];simp[q]
theorem Jj (c:Int):∀(p:Option Int) (vs:List CC),Fc c p vs=(Fc 0 p vs&&(decide (c≤0)|| !(vs.any fun v=>decide (c≤v.plus))))
 | p,[]=>by simp[Fc]
 | p,v::vs=>by
  simp only[Fc,Jj c _ vs,List.any_cons,T5];by_cases h:c≤0
  ·simp[h]
  simp only[h,decide_false,Bool.false_or,Int.le_refl,decide_true,Bool.true_or,Bool.and_true,Bool.not_or];have:decide (v.plus<c)= !decide (c≤v.plus):=by rw[←decide_not,decide_eq_decide];omega
  rw[this];cases (!decide (c≤v.plus))<;>cases JG p v.index<;>cases Fc 0 (some v.index) vs<;>simp
theorem lD {l:CV}(h:(l.const<0∨100<l.const)∨0<l.const∧QO l=true):false=B6 l:=by
 rcases h with h | ⟨h1,h2⟩
 ·exact eQ h
 unfold QO at h2;rw[B6,Jj,h2,decide_eq_false (p:=l.const≤0) An];simp
theorem iy {l:CV}{i:Nat}(h:Cq 0 l.vars 0=Cq 0 l.vars i) (hb:Cq 0 l.vars i=false):false=B6 l:=by
 rw[B6,Jj,show Fc 0 none l.vars=Cq 0 l.vars 0 from rfl,h,hb];simp
theorem hY {l:CV}{i:Nat}(h1:¬((l.const<0∨100<l.const)∨0<l.const∧QO l=true)) (h:Cq 0 l.vars 0=Cq 0 l.vars i) (hb:l.vars.length≤i):true=B6 l:=by
 rw[B6,Jj,show Fc 0 none l.vars=Cq 0 l.vars 0 from rfl,h,cU hb];simp only[not_or,not_and] at h1;rw[decide_eq_true An,decide_eq_true An];by_cases q:l.const≤0
 ·simp[q]
 have:=h1.2 An;simp only[QO,Bool.not_eq_true] at this;simp[this,q]
section
variable {l:List CC}{i j:Nat}{x u:CC}
theorem O6 (h:((x.index < -65536∨7<x.index)∨x.plus<0)∨100<x.plus):true= !(T5 0 x&&JG (Jn l i) x.index):=by
 rw[cY An];rfl
theorem Mh (h:¬(((x.index < -65536∨7<x.index)∨x.plus<0)∨100<x.plus)) (hi:(i:Int)≤0):false= !(T5 0 x&&JG (Jn l i) x.index):=by
 rw[UH An An,Bool.true_and,NQ An]
theorem TI (hj:l[j]?=some u) (he:i=j+1) (h:¬(((x.index < -65536∨7<x.index)∨x.plus<0)∨100<x.plus)):decide (u.index≥x.index)= !(T5 0 x&&JG (Jn l i) x.index):=by
 rw[UH An An,Bool.true_and,O9 hj he]
end
theorem me {l:CV}(h:(0≤l.const∧l.const≤100)∧(0<l.const→QO l=false)):¬((l.const<0∨100<l.const)∨0<l.const∧QO l=true):=by
 rintro((q | q) | ⟨q1,q2⟩)
 ·omega
 ·omega
 rw[h.2 q1] at q2;cases q2
theorem mc {l:CV}(h:B6 l=true→(l.vars.length:Int)≤0):B6 l=false∨l.vars.length=0:=by
 by_cases q:B6 l=true
 ·exact .inr (by have:=h q;omega)
 exact .inl (by simpa using q)
def G0 (m:List (Int×Int)):List (Int×AV):=m.map fun p=>(p.1,.p (I p.2))
theorem Uc (k:Int):∀m:List (Int×Int),J4 k (G0 m)=(mg k m).map fun v=> .p (I v)
 | []=>rfl
 | (j,x)::m=>by
  have ih:=Uc k m;simp only[G0] at ih;simp only[G0,List.map_cons,J4,mg];split
  ·rfl
  exact ih
theorem Y1 (k v:Int):∀m:List (Int×Int),Nn k (.p (I v)) (G0 m)=G0 (ms k v m)
 | []=>rfl
 | (j,x)::m=>by
  have ih:=Y1 k v m;simp only[G0] at ih;simp only[G0,List.map_cons,Nn,ms];split
  ·rfl
  rw[ih];rfl
theorem V4 (m:List (Int×Int)) (k:Int):(J4 k (G0 m)).getD (.p (I 0))= .p (I ((mg k m).getD 0)):=by rw[Uc];cases mg k m<;>rfl
theorem dO (m:List (Int×Int)) (k:Int):(J4 k (G0 m)).isSome=(mg k m).isSome:=by rw[Uc];cases mg k m<;>rfl
theorem bK {m:List (Int×Int)}{i p:Int}(h:(mg i m).isSome=false∨(mg i m).getD 0<p):GG m i p=ms i p m:=by
 unfold GG;cases e:mg i m with
 | none=>rfl
 | some old =>
  rw[e] at h;simp at h;simp only;rw[if_pos An]
theorem Xd {m:List (Int×Int)}{i p:Int}(h:(mg i m).isSome=true∧p≤(mg i m).getD 0):GG m i p=m:=by
 unfold GG;cases e:mg i m with
 | none=>rw[e] at h;simp at h
 | some old =>
  rw[e] at h;simp at h;simp only;rw[if_neg An]
theorem qm {l:CV}{i:Nat}{x:CC}(hx:l.vars[i]?=some x) (h:100<x.plus):JR l=(FV,15):=by
 unfold JR;rw[if_pos];rw[List.any_eq_true];exact⟨x,List.mem_of_getElem? hx,by simpa using h⟩
theorem rG {l:CV}(h:100<l.const):JR l=(FV,15):=by
 unfold JR;split
 ·rfl
 first | rfl | rw[if_pos An]
theorem ZJ {l:CV}(h:∀j,j<l.vars.length→∀y,l.vars[j]?=some y→¬100<y.plus):¬(l.vars.any fun v=>decide (v.plus > 100))=true:=by
 rw[List.any_eq_true];rintro⟨x,hx,hq⟩;obtain⟨j,hj⟩:=List.mem_iff_getElem?.1 hx;exact h j (List.getElem?_eq_some_iff.1 hj).1 x hj (by simpa using hq)
theorem sM {l:CV}(h:∀j,j<l.vars.length→∀y,l.vars[j]?=some y→¬100<y.plus) (h1:l.const≤100) (h2:QO l=true):JR l=(⟨0,l.vars⟩,0):=by
 unfold JR;rw[if_neg (ZJ h),if_neg An,if_pos h2]
theorem rN {l:CV}(h:∀j,j<l.vars.length→∀y,l.vars[j]?=some y→¬100<y.plus) (h1:l.const≤100) (h2:QO l=false):JR l=(l,0):=by
 unfold JR;rw[if_neg (ZJ h),if_neg An,if_neg (by simp[h2])]
theorem Zs {n:Int}{vs:List CC}{i:Nat}{x:CC}{M:List (Int×Int)}(hx:vs[i]?=some x):GG ((vs.take i).foldl (Hl n) M) x.index (x.plus+n)=(vs.take (i+1)).foldl (Hl n) M:=by
 rw[List.take_add_one,hx,List.foldl_append];rfl
theorem step_take {ps:List CV}{vs:List CC}{i:Nat}{x:CC}{S:List (Int×Int)×Int}(hx:vs[i]?=some x):(vs.take (i+1)).foldl (D6 ps) S=D6 ps ((vs.take i).foldl (D6 ps) S) x:=by
 rw[List.take_add_one,hx,List.foldl_append];rfl
theorem Zd (M:List (Int×Int)):(G4 M).length=M.length:=by simp[G4,Tv]
def QH (M:List (Int×Int)) (k:Int):CC:=⟨k,(mg k M).getD 0⟩
theorem X1 {M:List (Int×Int)}{i:Nat}(h:(FB (M.map Prod.fst)).length≤i):((FB (M.map Prod.fst)).take i).map (QH M)=G4 M:=by
 rw[List.take_of_length_le h];rfl
theorem Um {ps:List CV}{S:List (Int×Int)×Int}{x:CC}(h:x.index<0):D6 ps S x=(GG S.1 x.index x.plus,S.2):=by unfold D6;rw[if_pos h]
theorem T7 {ps:List CV}{S:List (Int×Int)×Int}{x:CC}{p:CV}(h:0≤x.index) (hp:ps[x.index.toNat]?=some p):D6 ps S x=Rb (S.1,S.2) p x.plus:=by unfold D6;rw[if_neg An,CW hp]
theorem QL.len {m:List (Int×Int)}(h:QL m) (hr:∀k∈m.map Prod.fst,-65536≤k∧k<8):m.length≤65544:=by
 have ha:=Sm h;have:=U3 (lo:= -65536) ha (fun v hv=>by
  simp only[G4,List.mem_map] at hv;obtain⟨k,hk,rfl⟩:=hv;exact hr k ((NS _).mem_iff.1 hk)) An
 rw[Zd] at this;omega
structure XB (S:List (Int×Int)×Int):Prop where
 m:QL S.1
 r:∀k∈S.1.map Prod.fst,-65536≤k∧k<8
theorem XB.len {S:List (Int×Int)×Int}(h:XB S):S.1.length≤65544:=h.m.len h.r
theorem RB {m:List (Int×Int)}{i p:Int}{Q:Int→Prop}(h:∀k∈m.map Prod.fst,Q k) (hi:Q i):∀k∈(GG m i p).map Prod.fst,Q k:=by
 have hs:∀k∈(ms i p m).map Prod.fst,Q k:=by
  rw[Uw];split
  ·exact h
  intro k hk;rcases List.mem_append.1 hk with hk | hk
  ·exact h k hk
  rw[List.mem_singleton.1 hk];exact hi
 unfold GG;split
 ·split
  ·exact hs
  exact h
 exact hs
theorem Sk {n:Int}{Q:Int→Prop}:∀(vs:List CC) (m:List (Int×Int)),(∀k∈m.map Prod.fst,Q k)→(∀v∈vs,Q v.index)→∀k∈(vs.foldl (Hl n) m).map Prod.fst,Q k
 | [],m,h,_=>h
 | v::vs,m,h,hv=>Sk vs (Hl n m v) (RB h (hv v Ao)) fun w hw=>hv w (by simp[hw])
theorem XB.step {ps:List CV}{S:List (Int×Int)×Int}{x:CC}(hps:∀l∈ps,B6 l=true) (h:XB S) (hx:(0≤x.plus∧x.plus≤100)∧ -65536≤x.index∧x.index<8) (hi:x.index<ps.length):XB (D6 ps S x):=by
 refine⟨(WA hps h.m hx.1.1 hi).1,?_⟩;unfold D6;split
 ·exact RB h.r hx.2
 rename_i q;refine Sk _ _ h.r fun v hv=>?_;have hlt:x.index.toNat<ps.length:=by omega
 rw[List.getD_eq_getElem?_getD,List.getElem?_eq_getElem hlt] at hv;exact((JA.of (hps _ (List.getElem_mem hlt))).rg v hv).2
theorem XB.fold {ps:List CV}(hps:∀l∈ps,B6 l=true):∀(vs:List CC) (S:List (Int×Int)×Int),XB S→(∀x∈vs,((0≤x.plus∧x.plus≤100)∧ -65536≤x.index∧x.index<8)∧x.index<ps.length)→XB (vs.foldl (D6 ps) S)
 | [],S,h,_=>h
 | v::vs,S,h,hv=>XB.fold hps vs _ (h.step hps (hv v Ao).1 (hv v Ao).2) fun w hw=>hv w (by simp[hw])
theorem XB.zero (c:Int):XB ([],c):=⟨QL.nil,by simp⟩
theorem eA {l:CV}{ps:List CV}{i:Nat}{x:CC}(h:B6 l=true) (hp:¬(GS l > ps.length)) (hx:l.vars[i]?=some x):x.index<ps.length:=by
 have hm:=List.mem_of_getElem? hx;have:=OU (JA.of h).asc x hm;unfold GS at hp;rw[if_pos ⟨h,List.ne_nil_of_mem hm⟩] at hp;omega
def Im (ps:List CV):List CV→Except Int (List CV)
 | []=> .ok []
 | l::ls=>if (Ct l ps).2≠0 then .error (Ct l ps).2 else match Im ps ls with
  | .ok zs=> .ok ((Ct l ps).1::zs)
  | .error e=> .error e
def OA (ys:List CV):Except Int (List CV)→Except Int (List CV)
 | .ok zs=> .ok (ys++zs)
 | .error e=> .error e
def UL (ps:List CV) (_:Unit) (t:Tm) (_:Int):Except Int ((Tm×Bool)×Unit):=match Im ps t.levels with
 | .ok ls=> .ok ((.mk t.kind t.index t.name ls [],false),())
 | .error e=> .error e
section
variable {ps:List CV}
theorem lf {ls ys:List CV}{i:Nat}{l:CV}(h:ls[i]?=some l) (h0:(Ct l ps).2=0):OA ys (Im ps (ls.drop i))=OA (ys++[(Ct l ps).1]) (Im ps (ls.drop (i+1))):=by
 rw[Cj h,Im,if_neg (by simp[h0])];cases Im ps (ls.drop (i+1))<;>simp[OA]
theorem lF {ls ys:List CV}{i:Nat}{l:CV}(h:ls[i]?=some l) (h0:(Ct l ps).2≠0):OA ys (Im ps (ls.drop i))= .error (Ct l ps).2:=by
 rw[Cj h,Im,if_pos h0];rfl
theorem RM:∀(ls:List CV) (er:Int),er≠0→(FD ps er ls).2=er
 | [],er,_=>rfl
 | l::ls,er,h=>by
  rw[FD];simp only;rw[show Gf er (Ct l ps).2=er by unfold Gf;rw[if_neg h]];exact RM ls er h
mutual
theorem iF:∀(t:Tm) (er:Int),er≠0→(He ps er t).2=er
 | .mk k i n ls ks,er,h=>by
  rw[He];simp only;rw[RM ls er h];exact OT ks er h
theorem OT:∀(ts:List Tm) (er:Int),er≠0→(Gd ps er ts).2=er
 | [],er,_=>rfl
 | t::ts,er,h=>by
  rw[Gd];simp only;rw[iF t er h];exact OT ts er h
end
theorem Vr:∀(ls:List CV),Im ps ls=if (FD ps 0 ls).2=0 then .ok (FD ps 0 ls).1 else .error (FD ps 0 ls).2
 | []=>rfl
 | l::ls=>by
  have ih:=Vr ls;rw[Im,FD];simp only;by_cases h:(Ct l ps).2=0
  ·rw[if_neg (by simp[h]),h,XV,ih];by_cases q:(FD ps 0 ls).2=0
   ·rw[if_pos q,if_pos q]
   rw[if_neg q,if_neg q]
  rw[if_pos h,show Gf 0 (Ct l ps).2=(Ct l ps).2 from rfl,RM ls _ h,if_neg h]
mutual
theorem PX:∀(t:Tm) (d:Int),D1 (UL ps) t d ()=FR (He ps 0 t)
 | .mk k i n ls ks,d=>by
  rw[D1,He];simp only[UL,Tm.levels,Tm.kind,Tm.index,Tm.name,Vr];by_cases h:(FD ps 0 ls).2=0
  ·rw[if_pos h,h];simp only[Dm];rw[if_neg Ao,Qy k 0 ks d];unfold FR G6;simp only;by_cases q:(Gd ps 0 ks).2=0
   ·rw[if_pos q,if_pos q];rfl
   rw[if_neg q,if_neg q]
  rw[if_neg h];simp only[Dm,FR];rw[OT ks _ h,if_neg h]
theorem Qy (k:Int):∀(j:Nat) (ts:List Tm) (d:Int),Dw (UL ps) k j ts d ()=G6 (Gd ps 0 ts)
 | _,[],_=>rfl
 | j,t::ts,d=>by
  rw[Dw,PX t,Gd];unfold FR G6;simp only;by_cases h:(He ps 0 t).2=0
  ·rw[if_pos h,h];simp only[Dm];rw[Qy k (j+1) ts d];unfold G6;by_cases q:(Gd ps 0 ts).2=0
   ·rw[if_pos q,if_pos q]
   rw[if_neg q,if_neg q]
  rw[if_neg h,OT ts _ h,if_neg h];rfl
end
end
theorem Zo (x:Except Int (List CV)):x=OA [] x:=by cases x<;>simp[OA]
theorem jI {ps:List CV}{s:Unit}{k i d e:Int}{n:ByteArray}{ls:List CV}{ks:List Tm}(h:Im ps ls= .error e):UL ps s (.mk k i n ls ks) d= .error e:=by
 simp only[UL,Tm.levels,h]
theorem lg {ps:List CV}{s:Unit}{k i d:Int}{n:ByteArray}{ls ys:List CV}{ks:List Tm}(h:Im ps ls= .ok ys):UL ps s (.mk k i n ls ks) d= .ok ((.mk k i n ys [],false),()):=by
 simp only[UL,Tm.levels,Tm.kind,Tm.index,Tm.name,h]
theorem set_drop {ys tl:List CV}{i:Nat}{x m:CV}(h:ys.length=i) (hx:tl[i]?=some x):(ys++tl.drop i).set i m=(ys++[m])++tl.drop (i+1):=by
 subst h;rw[Cj hx];simp
theorem ky {ps:List CV}{tl ys:List CV}{i:Nat}{X:Except Int (List CV)}(h:X=OA ys (Im ps (tl.drop i))) (hi:tl.length≤i):X= .ok ys:=by
 rw[h,List.drop_eq_nil_of_le hi];simp[Im,OA]
theorem ao (m:CV):Gb (((Bz m).map AV.p).map dn)=some (Bz m):=by obtain⟨c,v⟩:=m;rfl
theorem Wp {t:Tm}{ps:List CV}{e:Int}(h:FR (He ps 0 t)= .error e):Bn t ps=(Bc,e):=by
 unfold FR at h;unfold Bn;split at h
 ·cases h
 rename_i q;cases h;rw[if_pos q]
theorem YB {t z:Tm}{ps:List CV}{u:Unit}(h:FR (He ps 0 t)= .ok (z,u)):Bn t ps=(z,0):=by
 unfold FR at h;unfold Bn;split at h
 ·rename_i q;cases h;rw[if_neg (by simp[q])]
 cases h
def Qo {α:Type}(a b:Out α):Prop:=a= .stuck∨a=b
section
variable {α β:Type}
theorem Qo.refl (a:Out α):Qo a a:= .inr rfl
theorem Qo.bind {a b:Out α}{k k':α→Out β}(h:Qo a b) (hk:∀x,Qo (k x) (k' x)):Qo (a.bind k) (b.bind k'):=by
 rcases h with rfl | rfl
 ·exact .inl O
 cases a with
 | stuck=>exact .inl rfl
 | fail=>exact .inr rfl
 | ok x=>exact hk x
theorem Qo.ite {c:Prop} [Decidable c] {a a' b b':Out α}(h1:Qo a a') (h2:Qo b b'):Qo (if c then a else b) (if c then a' else b'):=by
 split
 ·exact h1
 exact h2
theorem Qo.chk {σ:Type}{a b:Out (Tm×σ)}{k k':Tm×σ→Out β}(h:Qo a b) (hk:∀x,Qo (k x) (k' x)):Qo (a.chk k) (b.chk k'):=Qo.bind h fun x=>Qo.ite (hk x) (Qo.refl _)
variable {σ:Type}{E:List CH}{S:Sys σ}
theorem Qo.put {s:σ}{x:Tm×Int}{k k':Tm→σ→Out β}(hk:∀t s',Qo (k t s') (k' t s')):Qo (S.put s x k) (S.put s x k'):=by
 unfold Sys.put;refine Qo.ite ?_ (Qo.refl _);cases S.res s x.1 x.2 with
 | none=>exact Qo.refl _
 | some s'=>exact hk _ _
variable {W W':σ→Tm→Out (Tm×σ)}(hW:∀s t,Qo (W s t) (W' s t))
include hW
end
section
variable {σ:Type}{E:List CH}{S:Sys σ}
end
theorem ir {k i:Int}{n:ByteArray}{l:List CV}{ts:List Tm}{x y:Tm}(h:k=6∧((ts.length:Nat):Int)=2) (hx:ts[0]?=some x) (hy:ts[1]?=some y):G8 (.mk k i n l ts)=(x::(G8 y).1,(G8 y).2):=by
 obtain⟨rfl,h2⟩:=h;rw[fE h2 hx hy,G8,if_pos rfl]
theorem jR {k i:Int}{n:ByteArray}{l:List CV}{ts:List Tm}(h:k≠6∨((ts.length:Nat):Int)≠2):G8 (.mk k i n l ts)=([],.mk k i n l ts):=by
 unfold G8;split
 ·rename_i k' i' n' l' a b e;injection e with e1 e2 e3 e4 e5;subst e1 e2 e3 e4 e5;simp at h;rw[if_neg h]
 rfl
theorem Sr {k i:Int}{n:ByteArray}{ls:List CV}{ts l:List Tm}{x y:Tm}{X:List Tm×Tm}(h:k=6∧((ts.length:Nat):Int)=2) (hx:ts[0]?=some x) (hy:ts[1]?=some y) (hX:(l++(G8 (.mk k i n ls ts)).1,(G8 (.mk k i n ls ts)).2)=X):((l++[x])++(G8 y).1,(G8 y).2)=X:=by
 rw[←hX,ir h hx hy];simp
theorem WO {k i:Int}{n:ByteArray}{ls:List CV}{ts l:List Tm}{X:List Tm×Tm}(h:k≠6∨((ts.length:Nat):Int)≠2) (hX:(l++(G8 (.mk k i n ls ts)).1,(G8 (.mk k i n ls ts)).2)=X):X=(l,.mk k i n ls ts):=by
 rw[←hX,jR h];simp
theorem IT:∀(t:Tm),(G8 t).1.length<size t
 | .mk k i n l [a,b]=>by
  unfold G8;split
  ·have:=IT b;have:=size_pos a;simp only[List.length_cons,size,Ba];omega
  ·simp[size,Ba];omega
 | .mk k i n l []=>by simp[G8,size,Ba]
 | .mk k i n l [_]=>by simp[G8,size,Ba];omega
 | .mk k i n l (_::_::_::_)=>by simp[G8,size,Ba];omega
mutual
def FC:Es→Prop
 | .mk k b v l=>okB b=true∧Ru l
def kF:GQ→Prop
 | .mk c a t=>FC t
def Ru:List GQ→Prop
 | []=>True
 | b::l=>kF b∧Ru l
end
structure DG (d:CH):Prop where
 din:Ns d
 fx:0≤d.fixed∧d.fixed≤1000000
 vl:okB d.value=true
 ru:∀t∈d.recs.rules,okB t=true
 fu:∀f∈d.funs,1≤f.arity∧f.arity≤16∧FC f.tree
structure Je (E:List CH):Prop where
 env:G1 E
 all:∀d∈E,DG d
theorem SK {nm:ByteArray}:∀{l:List (ByteArray×GR)}{e:GR},Cr nm l=some e→∃s,(s,e)∈l
 | (s,x)::l,e,h=>by
  simp only[Cr] at h;split at h
  ·cases h;exact⟨s,by simp⟩
  obtain⟨s',h'⟩:=SK h;exact⟨s',List.mem_cons_of_mem _ h'⟩
theorem V3 {i p:Int}{s:ByteArray}{e:GR}:∀{cs:List IX}{k:Int},(s,e)∈IQ i p cs k→∃(j:Nat) (c:IX),cs[j]?=some c∧e=⟨4,i,k+j,p,c.type⟩
 | c::cs,k,h=>by
  simp only[IQ,List.mem_cons] at h;rcases h with h | h
  ·cases h;exact⟨0,c,rfl,by simp⟩
  obtain⟨j,c',h1,h2⟩:=V3 h;exact⟨j+1,c',by simpa using h1,by rw[h2];congr 1;omega⟩
theorem ZK {i p:Int}{s:ByteArray}{e:GR}:∀{cs:List G7}{k:Int},(s,e)∈MB i p cs k→∃(j:Nat) (c:G7),cs[j]?=some c∧e=⟨6,i,k+j,p,c.type⟩
 | c::cs,k,h=>by
  simp only[MB,List.mem_cons] at h;rcases h with h | h
  ·cases h;exact⟨0,c,rfl,by simp⟩
  obtain⟨j,c',h1,h2⟩:=ZK h;exact⟨j+1,c',by simpa using h1,by rw[h2];congr 1;omega⟩
structure Yp (d:CH) (i:Int) (e:GR):Prop where
 decl:e.decl=i
 kind:0≤e.kind∧e.kind≤6
 ctor:e.kind=4→∃(j:Nat) (c:IX),d.ctors[j]?=some c∧e.item=j
 func:e.kind=6→∃(j:Nat) (c:G7),d.funs[j]?=some c∧e.item=j
theorem lN {d:CH}{i:Int}{s:ByteArray}{e:GR}(h:(s,e)∈FU d i):Yp d i e:=by
 unfold FU at h;split at h
 ·rename_i hk;simp only[List.mem_singleton,Prod.mk.injEq] at h;obtain⟨_,rfl⟩:=h;exact⟨O,by simp only;omega,fun q=>by simp only at q;omega,fun q=>by simp only at q;omega⟩
 split at h
 ·simp only[List.mem_cons,List.mem_append,List.mem_singleton,Prod.mk.injEq,List.not_mem_nil,or_false] at h;rcases h with ⟨_,rfl⟩ | h | ⟨_,rfl⟩
  ·exact⟨O,by simp,fun q=>by simp at q,fun q=>by simp at q⟩
  ·obtain⟨j,c,h1,rfl⟩:=V3 h;exact⟨O,by simp,fun _=>⟨j,c,h1,by simp⟩,fun q=>by simp at q⟩
  exact⟨O,by simp,fun q=>by simp at q,fun q=>by simp at q⟩
 split at h
 ·obtain⟨j,c,h1,rfl⟩:=ZK h;exact⟨O,by simp,fun q=>by simp at q,fun _=>⟨j,c,h1,by simp⟩⟩
 cases h
theorem WR {nm:ByteArray}:∀{ds:List CH}{k:Int}{e:GR},findF nm ds k=some e→∃(i:Nat) (d:CH),ds[i]?=some d∧Yp d (k+i) e
 | d::ds,k,e,h=>by
  simp only[findF] at h;split at h
  ·rename_i x hx;cases h;obtain⟨s,hs⟩:=SK hx;exact⟨0,d,O,by simpa using lN hs⟩
  obtain⟨i,d',h1,h2⟩:=WR h;refine⟨i+1,d',by simpa using h1,?_⟩;rw[show k+((i+1:Nat):Int)=k+1+i by omega];exact h2
theorem Oy {ds:List CH}{nm:ByteArray}(h:(Bp ds nm).2=0):∃(i:Nat) (d:CH),ds[i]?=some d∧Yp d i (Bp ds nm).1:=by
 unfold Bp at h ⊢;cases e:findF nm ds 0 with
 | none=>rw[e] at h;simp at h
 | some x =>
  obtain⟨i,d,h1,h2⟩:=WR e;exact⟨i,d,h1,by simpa using h2⟩
def VO:CH:=⟨0,⟨#[]⟩,0,Bc,Bc,0,[],⟨0,Bc,[]⟩,[]⟩
def Cf (E:List CH) (nm:ByteArray):CH×Int×Bool:=match Ha E nm with
 | some (d,j)=>(d,j,true)
 | none=>(VO,0,false)
section
variable {E:List CH}{nm:ByteArray}{x:CH}
theorem Yi (h:(Bp E nm).2≠0):Cf E nm=(VO,0,false):=by simp[Cf,Ha,h]
theorem PJ (hx:E[(Bp E nm).1.decl.toNat]?=some x):Cb E (Bp E nm).1.decl=x:=CW hx
theorem j8 (h:(Bp E nm).2=0) (h3:(Bp E nm).1.kind=3) (hx:E[(Bp E nm).1.decl.toNat]?=some x):Cf E nm=(x,-1,true):=by
 simp[Cf,Ha,h,h3,PJ hx]
theorem kW (h:(Bp E nm).2=0) (h3:(Bp E nm).1.kind=4) (hx:E[(Bp E nm).1.decl.toNat]?=some x):Cf E nm=(x,(Bp E nm).1.item,true):=by
 simp[Cf,Ha,h,h3,PJ hx]
theorem fh (h:(Bp E nm).2=0) (h3:(Bp E nm).1.kind=5) (hx:E[(Bp E nm).1.decl.toNat]?=some x):Cf E nm=(x,-2,true):=by
 simp[Cf,Ha,h,h3,PJ hx]
theorem dA (h3:(Bp E nm).1.kind≠3) (h4:(Bp E nm).1.kind≠4) (h5:(Bp E nm).1.kind≠5):Cf E nm=(VO,0,false):=by
 simp[Cf,Ha,h3,h4,h5]
end
theorem GK {d:CH}(h:Ns d) (hf:0≤d.fixed∧d.fixed≤1000000):0≤Lq d∧Lq d≤1000000:=by
 have h1:=IT d.type;have h2:=h.ty.sz;unfold Lq X2;omega
def Tj (E:List CH) (h:Tm):Bool:=decide ((Bp E h.name).2=0)&&decide ((h.levels.length:Int)=(Bp E h.name).1.params)
theorem C7 (E:List CH) (h:Tm):K0 E h=if Tj E h=true then some (Bp E h.name).1 else none:=by
 unfold K0 Tj;simp only[Bool.and_eq_true,decide_eq_true_eq]
theorem Vo {l:List Tm}{m:Nat}{x:Tm}(h:l[m - 1]?=some x) (hm:0<m):(l.drop m).reverse++[x]=(l.drop (m - 1)).reverse:=by
 rw[Cj h,List.reverse_cons,show m - 1+1=m by omega]
theorem fX {E:List CH}{k i:Int}{n:ByteArray}{ls:List CV}{ks:List Tm}(h:(Bp E n).2=0):(((ls.length:Nat):Int)==(Bp E n).1.params)=Tj E (.mk k i n ls ks):=by
 simp only[Tj,Tm.name,Tm.levels,h,decide_true,Bool.true_and];rw[Bool.eq_iff_iff,beq_iff_eq];exact⟨fun q=>decide_eq_true q,fun q=>of_decide_eq_true q⟩
theorem kM {E:List CH}{k i:Int}{n:ByteArray}{ls:List CV}{ks:List Tm}(h:(Bp E n).2≠0):false=Tj E (.mk k i n ls ks):=by
 simp[Tj,Tm.name,h]
end Go.Eu
namespace Go.Proofs.YtboammbpdaoojaaGreat
open Go.Abs Go.Eu
theorem RF:∀(ds:List CH) (nm:ByteArray),(G1 ds)→EZ Tryz.prog 84 [.p (.lst (List.map Bh ds)),.p (.str nm)] (.tup [.agg ((Bh ((Cf ds nm).1)).map .p),.p (I ((Cf ds nm).2.1)),.p (.bool ((Cf ds nm).2.2))]):=by
 intro ds nm h1;have hl:=h1.len;refine A5 Tryz.func84 O ql (n:=44) O O (Aw (BF O (A7 JP O) fun b4=>Ar Ay 2 [] O (Aw (Ax Ay 2 [] O (Aq O (BC O O (MH ds nm h1) O) (Ax Ay 3 [] O (BF O (A7 Hw O) fun b7=>Ar Ay 2 [0,1] O (As (Au Ay 2 [] O (Av O (fun c=>?_) (fun c=>?_)))))))))))
 ·(try simp only[sd,se] at c);refine Au Ay 4 [1,0] O (BH (BR (i:=1) O) (Az (⟨O,_,_,⟨_,_,O,(A9 (i:=1) FW O O O),⟨_,_,O,O,⟨_,_,O,O,O⟩⟩⟩,(List.nil_sublist _),?_⟩)))
  all_goals exact⟨by show (.tup [.agg [.p (I 0),.p (.str ⟨#[]⟩),.p (I 0),.p (I 0),.p (I 0),.p (.str ⟨#[]⟩),.p (.lst []),.p (.lst []),.p (I 0),.p (I 0),.p (.str ⟨#[]⟩),.p (.lst []),.p (.lst []),.p (I 0),.p (.lst []),.p (I 0),.p (I 0),.p (I 0),.p (.str ⟨#[]⟩),.p (.lst []),.p (.lst []),.p (.lst []),.p (.lst [])],.p (I 0),.p (.bool false)]:AV)=_;rw[Yi An];rfl,rfl⟩
 (try simp only[sd,se] at c);obtain⟨fi,fd,hfi,hfo⟩:=Oy (ds:=ds) (nm:=nm) An;have hdl:=hfo.decl;have hfl:=(List.getElem?_eq_some_iff.1 hfi).1;refine A1 (As (Aw (Aq O (A0 GH O O) (Aq O (A3 (i:=0) DN O O (Da _)) (Bg O (A8 (Au Ay 2 [] O (Av O (fun c1=>?_) (fun c1=>?_)))))))))
 ·(try simp only[sd,se] at c1);refine Aw (Ax Ay 2 [] O (Aq O (A3 (i:=0) DN O O (DZ _)) ?_));obtain⟨x,hx⟩:=A6 (l:=ds) (i:=(((Bp ds nm).1).decl:Int).toNat) An;refine Aq O (A4 HT O O An (D3 hx) (Cm _)) (Ar Ay 4 [1,1] O (Az (⟨O,_,_,⟨_,_,O,(A9 (i:=1) FW O O Ad),⟨_,_,O,O,⟨_,_,O,O,O⟩⟩⟩,(List.nil_sublist _),?_⟩)))
  all_goals exact⟨by show (.tup [.agg ((Bh x).map .p),.p (I (-1)),.p (.bool true)]:AV)=_;rw[j8 An An hx],rfl⟩
 (try simp only[sd,se] at c1);refine Au Ay 2 [] O (Av O (fun c2=>?_) (fun c2=>?_))
 ·(try simp only[sd,se] at c2);refine As (Bt (fun k=>false) Dn (BP Ay 2 [] O (CU (j:=0) O O O (fun H i hi=>A3 (i:=i) DN O hi (DZ _)) AB Ap ?_)));obtain⟨x,hx⟩:=A6 (l:=ds) (i:=(((Bp ds nm).1).decl:Int).toNat) An;refine BG O (fun _=>A4 HT O O An (D3 hx) (Cm _)) Ap (BP Ay 2 [] O (CU (j:=0) O O O (fun H i hi=>A3 (i:=i) DN O hi (Fh _)) AB Ap (Bj Ay 3 [1,1] O (Az (⟨O,_,_,⟨_,_,O,(A9 (i:=1) FW O O Ad),⟨_,_,O,O,⟨_,_,O,O,O⟩⟩⟩,(List.nil_sublist _),?_⟩)))))
  all_goals exact⟨by show (.tup [.agg ((Bh x).map .p),.p (I (((Bp ds nm).1).item)),.p (.bool true)]:AV)=_;rw[kW An An hx],rfl⟩
 (try simp only[sd,se] at c2);refine Au Ay 2 [] O (Av O (fun c3=>?_) (fun c3=>?_))
 ·(try simp only[sd,se] at c3);refine Aw (Ax Ay 2 [] O (Aq O (A3 (i:=0) DN O O (DZ _)) ?_));obtain⟨x,hx⟩:=A6 (l:=ds) (i:=(((Bp ds nm).1).decl:Int).toNat) An;refine Aq O (A4 HT O O An (D3 hx) (Cm _)) (Ar Ay 4 [1,1] O (Az (⟨O,_,_,⟨_,_,O,(A9 (i:=1) FW O O Ad),⟨_,_,O,O,⟨_,_,O,O,O⟩⟩⟩,(List.nil_sublist _),?_⟩)))
  all_goals exact⟨by show (.tup [.agg ((Bh x).map .p),.p (I (-2)),.p (.bool true)]:AV)=_;rw[fh An An hx],rfl⟩
 (try simp only[sd,se] at c3);refine A1 (Au Ay 4 [1,0] O (BH (BR (i:=1) O) (Az (⟨O,_,_,⟨_,_,O,(A9 (i:=1) FW O O O),⟨_,_,O,O,⟨_,_,O,O,O⟩⟩⟩,(List.nil_sublist _),?_⟩))))
 all_goals exact⟨by show (.tup [.agg [.p (I 0),.p (.str ⟨#[]⟩),.p (I 0),.p (I 0),.p (I 0),.p (.str ⟨#[]⟩),.p (.lst []),.p (.lst []),.p (I 0),.p (I 0),.p (.str ⟨#[]⟩),.p (.lst []),.p (.lst []),.p (I 0),.p (.lst []),.p (I 0),.p (I 0),.p (I 0),.p (.str ⟨#[]⟩),.p (.lst []),.p (.lst []),.p (.lst []),.p (.lst [])],.p (I 0),.p (.bool false)]:AV)=_;rw[dA An An An];rfl,rfl⟩
theorem _root_.Go.AI {α:Prop}(h:α:=by first | rfl | (refine pB ?_;simp_all;done) | (refine pB ?_;simp_all<;>(intros;omega))):α:=h
theorem OG:∀(l:CV),(Mw l)→EZ Tryz.prog 148 [.agg ((Bz l).map .p)] (.p (.bool (B6 l))):=by
 intro l h1;have hl:=h1.vars;simp only[Dc] at hl;refine A5 Tryz.func148 O kL (n:=67) O O (Aw (BF O (BN O) fun b1=>Ar Ay 1 [] O (As (As (BS [1] 12 (fun y=>y= .p (.bool ((decide ((l.const:Int)<(0:Int)))||(decide ((l.const:Int) > (100:Int)))))) ?_ ?_)))))
 ·refine A2 (Ax Ay 4 [0] O (BL 8 O (fun g=>?_) (fun g=>?_)))
  ·(try simp only[sd,se] at g);exact Ar Ay 4 [] O (⟨O,O,AK,AI,⟨O,Ap⟩⟩)
  (try simp only[sd,se] at g);exact Ar Ay 4 [0] O (⟨O,O,AK,AI,⟨O,Ap⟩⟩)
 rintro _ rfl;refine Av O (fun c=>?_) (fun c=>?_)
 ·(try simp only[sd,se] at c);refine Au Ay 1 [] O (Az (⟨O,_,_,⟨_,_,O,O,O⟩,(List.nil_sublist _),?_⟩))
  all_goals exact⟨pB (eQ c),rfl⟩
 (try simp only[sd,se] at c);refine A1 (As (Au Ay 1 [] O (A8 (Bb (α:=Nat) (fun i=>⟨67,mk [(1,.ptr b1 0),(3,.p (I (i:Int)))],[.box b1 [.p (I l.const),.p (.lst (List.map Dy l.vars))]],[]⟩) (fun i=>l.vars.length - i) (fun i=>i≤l.vars.length∧(Cq l.const l.vars 0=Cq l.const l.vars i)) 0 (⟨by omega,rfl⟩) ?_ ?_))))
 ·exact BU ⟨we O,we O,Ap⟩ (leH (is:=[0]) O (wl (oe O) (C3)))
 rintro i hC
 try simp only at hC
 obtain⟨hi,hC⟩:=hC;refine As (Aw (Ax Ay 3 [0] O (Aq O (BK CS O (List.length_map _)) (Ar Ay 1 [] O (Av O (fun c1=>?_) (fun c1=>?_))))))
 ·(try simp only[sd,se] at c1);refine A1 (As (A8 (Aw (Ax Ay 3 [0] O ?_))));obtain⟨x,hx⟩:=A6 (l:=l.vars) (i:=i) An;refine Aq O (A4 CS O O An (Ci hx) (O)) (Aq O (BM NA O (O)) (BF O (A7 Fp O) fun b4=>Ar Ay 1 [0,1] O (As (As (BS [1,3,4] 42 (fun y=>y= .p (.bool ((((decide ((x.index:Int)<(-65536:Int)))||(decide ((x.index:Int)≥(8:Int))))||(decide ((x.plus:Int)<(0:Int))))||(decide ((x.plus:Int) > (100:Int)))))) ?_ ?_)))))
  ·refine A2 (Ax Ay 4 [0] O (BL 28 O (fun g=>?_) (fun g=>?_)))
   ·(try simp only[sd,se] at g);exact Ar Ay 14 [] O (⟨O,O,AK,AI,⟨O,O,O,Ap⟩⟩)
   (try simp only[sd,se] at g);refine Ax Ay 5 [0] O (BL 33 O (fun g1=>?_) (fun g1=>?_))
   ·(try simp only[sd,se] at g1);exact Ar Ay 9 [] O (⟨O,O,AK,AI,⟨O,O,O,Ap⟩⟩)
   (try simp only[sd,se] at g1);refine Ax Ay 5 [0] O (BL 38 O (fun g2=>?_) (fun g2=>?_))
   ·(try simp only[sd,se] at g2);exact Ar Ay 4 [] O (⟨O,O,AK,AI,⟨O,O,O,Ap⟩⟩)
   (try simp only[sd,se] at g2);exact Ar Ay 4 [0] O (⟨O,O,AK,AI,⟨O,O,O,Ap⟩⟩)
  rintro _ rfl;refine Av O (fun c2=>?_) (fun c2=>?_)
  ·(try simp only[sd,se] at c2);refine Au Ay 1 [] O (Az (⟨O,_,_,⟨_,_,O,O,O⟩,(List.nil_sublist _),?_⟩))
   all_goals exact⟨pB (Ur hC (cE hx (cY c2))),rfl⟩
  (try simp only[sd,se] at c2);refine A1 (As (As (BS [1,3,4] 56 (fun y=>y= .p (.bool (!(JG (Jn l.vars i) x.index)))) ?_ ?_)))
  ·refine Bt (fun k=>false) Dn (BP Ay 3 [] O (Du 45 O (fun g=>?_) (fun g=>?_)))
   ·(try simp only[sd,se] at g);refine BP Ay 4 [1] O ?_;obtain⟨x1,hx1⟩:=A6 (l:=l.vars) (i:=(((i:Int):Int) - (1:Int):Int).toNat) An;exact CZ O (fun _=>A4 CS O O An (Ci hx1) (O)) Ap (Bj Ay 6 [0] O (⟨O,O,AK,(by first | (refine pB ?_;exact(NQ An).symm) | (refine pB ?_;exact(O9 hx1 An).symm)),⟨O,O,O,Ap⟩⟩))
   (try simp only[sd,se] at g);exact Bj Ay 11 [] O (⟨O,O,AK,(by first | (refine pB ?_;exact(NQ An).symm) | (refine pB ?_;exact(O9 hx1 An).symm)),⟨O,O,O,Ap⟩⟩)
  rintro _ rfl;refine Av O (fun c3=>?_) (fun c3=>?_)
  ·(try simp only[sd,se] at c3);refine Au Ay 1 [] O (Az (⟨O,_,_,⟨_,_,O,O,O⟩,(List.nil_sublist _),?_⟩))
   all_goals exact⟨pB (Ur hC (by rw[Og hx];rw[c3];simp)),rfl⟩
  (try simp only[sd,se] at c3);refine A1 (As (BS [1,3] 66 (fun y=>y= .p (.bool ((decide ((l.const:Int) > (0:Int)))&&(decide ((x.plus:Int)≥(l.const:Int)))))) ?_ ?_))
  ·refine A2 (Ax Ay 4 [1] O (BL 60 O (fun g=>?_) (fun g=>?_)))
   ·(try simp only[sd,se] at g);exact Ar Ay 6 [0,1] O (⟨O,O,AK,AI,⟨O,O,Ap⟩⟩)
   (try simp only[sd,se] at g);exact Ar Ay 6 [] O (⟨O,O,AK,AI,⟨O,O,Ap⟩⟩)
  rintro _ rfl;refine Av O (fun c4=>?_) (fun c4=>?_)
  ·(try simp only[sd,se] at c4);refine Au Ay 1 [] O (Az (⟨O,_,_,⟨_,_,O,O,O⟩,(List.nil_sublist _),?_⟩))
   all_goals exact⟨pB (Ur hC (cE hx (jv c4.1 c4.2))),rfl⟩
  (try simp only[sd,se] at c4);refine A1 (A2 (Ar Ay 3 [] O (⟨(i+1),AT,⟨by omega,(hC.trans (jV hx (UH An (by simpa using c4)) (by simpa using c3)))⟩,BU ⟨we rfl,we rfl,trivial⟩ (leH (is:=[1]) rfl (wl (oe rfl) (C3)))⟩)))
 (try simp only[sd,se] at c1);refine Bf (Au Ay 1 [] O (Az (⟨O,_,_,⟨_,_,O,O,O⟩,(List.nil_sublist _),?_⟩)))
 all_goals exact⟨pB (gP An An hC An),rfl⟩
theorem Zu:∀(n:Int),EZ Tryz.prog 187 [.p (I n)] (.agg ((Bz (⟨n,[]⟩:CV)).map .p)):=by
 intro n;refine A5 Tryz.func187 O nP (n:=5) O O (Aw (BF O (A7 EK O) fun b2=>Bg O (Au Ay 3 [0,0] O (BH (BR (i:=0) O) (Az (⟨O,_,_,⟨_,_,O,(A9 (i:=0) DY O O O),O⟩,(List.nil_sublist _),?_⟩))))))
 all_goals exact⟨rfl,rfl⟩
theorem WC:∀(l:List CV),(l.length<Dc)→(∀x∈l,Mw x)→EZ Tryz.prog 167 [.p (.lst (List.map Bz l))] (.p (.bool (l.all B6))):=by
 intro l h1 h2;simp only[Dc] at h1;refine A5 Tryz.func167 O qA (n:=16) O O (Au Ay 1 [] O (As (Au Ay 1 [] O (A8 ?_))));refine Bb (α:=Nat) (fun i=>⟨16,mk [(0,.p (.lst (List.map Bz l))),(3,.p (I (i:Int)))],[],[]⟩) (fun i=>l.length - i) (fun i=>i≤l.length∧(∀j,j<i→∀y,l[j]?=some y→B6 y=true)) 0 (⟨by omega,fun j h=>by omega⟩) ?_ ?_
 ·exact BU ⟨we O,we O,Ap⟩ (leH (is:=[]) O (C3))
 rintro i hC
 try simp only at hC
 obtain⟨hi,hC⟩:=hC;refine As (Aw (Ax Ay 2 [] O (Aq O (BK EX O (List.length_map _)) (Ar Ay 1 [] O (Av O (fun c=>?_) (fun c=>?_))))))
 ·(try simp only[sd,se] at c);refine A1 (As (A8 (Aw (Ax Ay 2 [] O ?_))));obtain⟨x,hx⟩:=A6 (l:=l) (i:=i) An;refine Aq O (A4 EX O O An (Fs hx) (Dg _)) (Aq O (BM DY O (Dg _)) (Aq O (BC O O (OG x (h2 _ (List.mem_of_getElem? hx))) O) (Ar Ay 1 [] O (Av O (fun c1=>?_) (fun c1=>?_)))))
  ·(try simp only[sd,se] at c1);refine Au Ay 1 [] O (Az (⟨O,_,_,⟨_,_,O,O,O⟩,(List.nil_sublist _),?_⟩))
   all_goals exact⟨pB (gu hx (by simpa using c1)),rfl⟩
  (try simp only[sd,se] at c1);refine A1 (A2 (Ar Ay 3 [] O (⟨(i+1),AT,⟨by omega,Cu (p:=fun _ (y:CV)=>B6 y=true) hC hx (by simpa using c1)⟩,BU ⟨we rfl,we rfl,trivial⟩ (leH (is:=[]) rfl (C3))⟩)))
 (try simp only[sd,se] at c);refine Bf (Au Ay 1 [] O (Az (⟨O,_,_,⟨_,_,O,O,O⟩,(List.nil_sublist _),?_⟩)))
 all_goals exact⟨pB (eU fun j hj=>hC j An),rfl⟩
theorem Zl:∀(l:CV),(Mw l)→EZ Tryz.prog 168 [.agg ((Bz l).map .p)] (.p (I (GS l))):=by
 intro l h1;have hl:=h1.vars;simp only[Dc] at hl;refine A5 Tryz.func168 O nK (n:=23) O O (Aw (BF O (BN O) fun b1=>Ar Ay 1 [] O (As (As (BS [1] 11 (fun y=>y= .p (.bool ((!(B6 l))||(((l.vars.length:Nat):Int)==(0:Int))))) ?_ ?_)))))
 ·refine A2 (Aq O (BT (i:=0) DY O O O) (Aq O (BC O O (OG (CV.mk l.const l.vars) h1) O) (Ax Ay 2 [] O (BL 6 O (fun g=>?_) (fun g=>?_)))))
  ·(try simp only[sd,se] at g);exact Ar Ay 5 [] O (⟨O,O,AK,AI,⟨O,Ap⟩⟩)
  (try simp only[sd,se] at g);exact Ax Ay 2 [0] O (BB O (BK CS O (List.length_map _)) (Ar Ay 2 [] O (⟨O,O,AK,AI,⟨O,Ap⟩⟩)))
 rintro _ rfl;refine Av O (fun c=>?_) (fun c=>?_)
 ·(try simp only[sd,se] at c);refine Au Ay 1 [] O (Az (⟨O,_,_,⟨_,_,O,O,O⟩,(List.nil_sublist _),?_⟩))
  all_goals exact⟨pI (Vn (by simpa using c)),rfl⟩
 (try simp only[sd,se] at c);obtain⟨hv,hn⟩:B6 l=true∧l.vars.length≠0:=by simpa using c
 refine A1 (Aw (Ax Ay 4 [0,0] O (Aq O (BK CS O (List.length_map _)) (Aq O (Kw O O An An) ?_))));obtain⟨x,hx⟩:=A6 (l:=l.vars) (i:=(((l.vars.length:Nat):Int) - (1:Int):Int).toNat) An;have hw:=Kv hv hx;refine Aq O (A4 CS O O An (Ci hx) (O)) (Ax Ay 3 [] O (Aq O (FI O O) (Ar Ay 1 [] O (Az (⟨O,_,_,⟨_,_,O,O,O⟩,(List.nil_sublist _),?_⟩)))))
 all_goals exact⟨pI (Vc hv hx An),rfl⟩
theorem _root_.Go.AF {α:Prop}(h:α:=by simp only[List.length_map,List.length_append,List.length_take,List.length_cons,List.length_nil];omega):α:=h
theorem _root_.Go.Af {α:Prop}(h:α:=by simp[Dg]):α:=h
theorem iI:∀(l:CV) (n:Int),(Mw l)→EZ Tryz.prog 188 [.agg ((Bz l).map .p),.p (I n)] (.tup [.agg ((Bz ((E0 l n).1)).map .p),.p (I ((E0 l n).2))]):=by
 intro l n h1;have hl:=h1.vars;simp only[Dc] at hl;refine A5 Tryz.func188 O mi (n:=75) O O (Aw (BF O (BN O) fun b2=>BF O (A7 EK O) fun b4=>Ar Ay 1 [] O (As (Aw (Aq O (BT (i:=1) DY O O Af) (Aq O (BC O O (OG l h1) O) (Ar Ay 1 [] O (Av O (fun c=>?_) (fun c=>?_)))))))))
 ·(try simp only[sd,se] at c);refine Au Ay 3 [0,0] O (BH (BR (i:=0) O) (Az (⟨O,_,_,⟨_,_,O,(A9 (i:=0) DY O O O),⟨_,_,O,O,O⟩⟩,(List.nil_sublist _),?_⟩)))
  all_goals exact⟨by show (.tup [.agg [.p (I 0),.p (.lst [])],.p (I 3)]:AV)=_;rw[tZ (by simpa using c)];rfl,rfl⟩
 (try simp only[sd,se] at c);have hv:B6 l=true:=by simpa using c
 have hv0:=Wf hv;refine A1 (As (Au Ay 2 [] O (Av O (fun c1=>?_) (fun c1=>?_))))
 ·(try simp only[sd,se] at c1);refine Au Ay 3 [0,0] O (BH (BR (i:=0) O) (Az (⟨O,_,_,⟨_,_,O,(A9 (i:=0) DY O O O),⟨_,_,O,O,O⟩⟩,(List.nil_sublist _),?_⟩)))
  all_goals exact⟨by show (.tup [.agg [.p (I 0),.p (.lst [])],.p (I 2)]:AV)=_;rw[tg hv c1];rfl,rfl⟩
 (try simp only[sd,se] at c1);refine A1 (As (Au Ay 2 [] O (Av O (fun c2=>?_) (fun c2=>?_))))
 ·(try simp only[sd,se] at c2);refine Au Ay 3 [0,0] O (BH (BR (i:=0) O) (Az (⟨O,_,_,⟨_,_,O,(A9 (i:=0) DY O O O),⟨_,_,O,O,O⟩⟩,(List.nil_sublist _),?_⟩)))
  all_goals exact⟨by show (.tup [.agg [.p (I 0),.p (.lst [])],.p (I 15)]:AV)=_;rw[te hv An c2];rfl,rfl⟩
 (try simp only[sd,se] at c2);refine A1 (Aw (Aq O (CP TO EK O) (BF O (A7 EK O) fun b6=>Ar Ay 1 [0,0] O (As (As (BS [1,2,4,6] 27 (fun y=>y= .p (.bool ((decide ((l.const:Int) > (0:Int)))||(((l.vars.length:Nat):Int)==(0:Int))))) ?_ ?_))))))
 ·refine A2 (Ax Ay 4 [2] O (BL 22 O (fun g=>?_) (fun g=>?_)))
  ·(try simp only[sd,se] at g);exact Ar Ay 5 [] O (⟨O,O,AK,AI,⟨O,O,O,O,Ap⟩⟩)
  (try simp only[sd,se] at g);exact Ax Ay 2 [2] O (BB O (BK CS O (List.length_map _)) (Ar Ay 2 [] O (⟨O,O,AK,AI,⟨O,O,O,O,Ap⟩⟩)))
 rintro _ rfl;refine Av O (fun c3=>?_) (fun c3=>?_)
 ·(try simp only[sd,se] at c3);refine A2 (Ar Ay 6 [2,0,0] O (As (Au Ay 3 [0] O (Av O (fun c4=>?_) (fun c4=>?_)))))
  ·(try simp only[sd,se] at c4);refine Au Ay 3 [1,0] O (BH (BR (i:=1) O) (Az (⟨O,_,_,⟨_,_,O,(A9 (i:=1) DY O O O),⟨_,_,O,O,O⟩⟩,(List.nil_sublist _),?_⟩)))
   all_goals exact⟨by show (.tup [.agg [.p (I 0),.p (.lst [])],.p (I 15)]:AV)=_;rw[tW hv An An (by rw[Ms An];omega)];rfl,rfl⟩
  (try simp only[sd,se] at c4);refine A1 (As (Aw (B2 (Hr (i:=0) O (YA (aw (we O) (aw (I2) (Eo))))) (B2 (Hq (sz:=2)) (Ar Ay 1 [] O (A8 ?_))))));refine Bb (α:=Nat×Option Nat×Nat) (fun(i,o,cp)=>⟨75,mk [(1,.p (I n)),(2,.ptr b2 0),(4,.ptr b4 0),(6,.ptr b6 0),(7,.p (I (i:Int)))],[.vec o 2 (List.map Dy ((l.vars.take i).map (Nr n))) cp,.box b6 [.p (I ((l.const:Int)+(n:Int))),.vs o (List.map Dy ((l.vars.take i).map (Nr n))).length cp],.box b4 [.p (I 0),.p (.nils)],.box b2 [.p (I l.const),.p (.lst (List.map Dy l.vars))]],[]⟩) (fun(i,o,cp)=>l.vars.length - i) (fun(i,o,cp)=>i≤l.vars.length∧(∀j,j<i→∀y,l.vars[j]?=some y→¬100<y.plus+n)) ⟨0,none,0⟩ (⟨by omega,fun j h=>by omega⟩) ?_ ?_
  ·exact BU ⟨we O,we O,we O,we O,we O,Ap⟩ (leH (is:=[0,1,2,3]) O (wl (oe O) (wl (oe O) (wl (oe O) (wl (oe O) (C3))))))
  rintro⟨i,o,cp⟩ hC
  try simp only at hC
  obtain⟨hi,hC⟩:=hC;refine As (Aw (Ax Ay 3 [3] O (Aq O (BK CS O (List.length_map _)) (Ar Ay 1 [] O (Av O (fun c5=>?_) (fun c5=>?_))))))
  ·(try simp only[sd,se] at c5);refine A1 (As (A8 (As (Aw (Ax Ay 3 [3] O ?_)))));obtain⟨x,hx⟩:=A6 (l:=l.vars) (i:=i) An;have hw:=Kv hv hx;refine Aq O (A4 CS O O An (Ci hx) (O)) (Ar Ay 5 [] O (Av O (fun c6=>?_) (fun c6=>?_)))
   ·(try simp only[sd,se] at c6);refine Au Ay 3 [2,0] O (BH (BR (i:=2) O) (Az (⟨O,_,_,⟨_,_,O,(A9 (i:=2) DY O O O),⟨_,_,O,O,O⟩⟩,(List.nil_sublist _),?_⟩)))
    all_goals exact⟨by show (.tup [.agg [.p (I 0),.p (.lst [])],.p (I 15)]:AV)=_;rw[sw hv An An (by rw[Ms An];omega) hx c6];rfl,rfl⟩
   (try simp only[sd,se] at c6);refine A1 (Bt (fun k=>Nat.beq k 18) Dn (BP Ay 5 [1,3] O (BG O (fun _=>A4 CS O O An (Ci hx) (O)) Ap (BP Ay 5 [3] O (BG O (fun _=>A4 CS O O An (Ci hx) (O)) Ap (BP Ay 5 [] O (BG O (fun _=>Bl CS Fp O O O O O) Ap (Kn [] O O (CK (i:=0) (rows':=List.map Dy [(CC.mk x.index ((x.plus:Int)+(n:Int)))]) CS CS Fp O O O O O O (GD _) AF (F3 (f:=Dy) ((l.vars.take i).map (Nr n)) [(CC.mk x.index ((x.plus:Int)+(n:Int)))])) Aj fun o1 cp1=>⟨AB,Ap,?_⟩))))))));refine Bj Ay 2 [1,0] O (A2 (Ar Ay 3 [] O (⟨⟨i+1,o1,cp1⟩,AT,⟨by omega,Cu (p:=fun _ (y:CC)=>¬100<y.plus+n) hC hx An⟩,BU ⟨we rfl,we rfl,we rfl,we rfl,we rfl,trivial⟩ (leH (is:=[0,1,2,3]) rfl (wl (FJ (f:=Dy) ((l.vars.take i).map (Nr n)++[(CC.mk x.index ((x.plus:Int)+(n:Int)))]) (by rw[List.take_add_one,hx];simp[Nr])) (wl (YA (aw (we rfl) (aw (we (F5 (f:=Dy) ((l.vars.take i).map (Nr n)++[(CC.mk x.index ((x.plus:Int)+(n:Int)))]) (by rw[List.take_add_one,hx];simp[Nr]))) (Eo)))) (wl (oe rfl) (wl (oe rfl) (C3))))))⟩)))
  (try simp only[sd,se] at c5);refine Bf (Aw (B2 (DM (i:=0) (j:=1) (q:=1) [] O O O (Dx Ap)) (Ar Ay 3 [0,1,0] O (Az (⟨O,_,_,⟨_,_,O,(A9 (i:=1) DY O O O),⟨_,_,O,O,O⟩⟩,(List.nil_sublist _),?_⟩)))))
  all_goals exact⟨by show (.tup [.agg [.p (I ((l.const:Int)+(n:Int))),.p (.lst (List.map Dy ((l.vars.take i).map (Nr n))))],.p (I 0)]:AV)=_;rw[tH hv An An (by rw[Ms An];omega) fun j hj=>hC j An,Ms An,List.take_of_length_le An];rfl,rfl⟩
 (try simp only[sd,se] at c3);refine A1 (As (Au Ay 3 [0] O (Av O (fun c4=>?_) (fun c4=>?_))))
 ·(try simp only[sd,se] at c4);refine Au Ay 3 [1,0] O (BH (BR (i:=1) O) (Az (⟨O,_,_,⟨_,_,O,(A9 (i:=1) DY O O O),⟨_,_,O,O,O⟩⟩,(List.nil_sublist _),?_⟩)))
  all_goals exact⟨by show (.tup [.agg [.p (I 0),.p (.lst [])],.p (I 15)]:AV)=_;exfalso;simp at c4,rfl⟩
 (try simp only[sd,se] at c4);refine A1 (As (Aw (B2 (Hr (i:=0) O (YA (aw (we O) (aw (I2) (Eo))))) (B2 (Hq (sz:=2)) (Ar Ay 1 [] O (A8 ?_))))));refine Bb (α:=Nat×Option Nat×Nat) (fun(i,o,cp)=>⟨75,mk [(1,.p (I n)),(2,.ptr b2 0),(4,.ptr b4 0),(6,.ptr b6 0),(7,.p (I (i:Int)))],[.vec o 2 (List.map Dy ((l.vars.take i).map (Nr n))) cp,.box b6 [.p (I 0),.vs o (List.map Dy ((l.vars.take i).map (Nr n))).length cp],.box b4 [.p (I 0),.p (.nils)],.box b2 [.p (I l.const),.p (.lst (List.map Dy l.vars))]],[]⟩) (fun(i,o,cp)=>l.vars.length - i) (fun(i,o,cp)=>i≤l.vars.length∧(∀j,j<i→∀y,l.vars[j]?=some y→¬100<y.plus+n)) ⟨0,none,0⟩ (⟨by omega,fun j h=>by omega⟩) ?_ ?_
 ·exact BU ⟨we O,we O,we O,we O,we O,Ap⟩ (leH (is:=[0,1,2,3]) O (wl (oe O) (wl (oe O) (wl (oe O) (wl (oe O) (C3))))))
 rintro⟨i,o,cp⟩ hC
 try simp only at hC
 obtain⟨hi,hC⟩:=hC;refine As (Aw (Ax Ay 3 [3] O (Aq O (BK CS O (List.length_map _)) (Ar Ay 1 [] O (Av O (fun c5=>?_) (fun c5=>?_))))))
 ·(try simp only[sd,se] at c5);refine A1 (As (A8 (As (Aw (Ax Ay 3 [3] O ?_)))));obtain⟨x,hx⟩:=A6 (l:=l.vars) (i:=i) An;have hw:=Kv hv hx;refine Aq O (A4 CS O O An (Ci hx) (O)) (Ar Ay 5 [] O (Av O (fun c6=>?_) (fun c6=>?_)))
  ·(try simp only[sd,se] at c6);refine Au Ay 3 [2,0] O (BH (BR (i:=2) O) (Az (⟨O,_,_,⟨_,_,O,(A9 (i:=2) DY O O O),⟨_,_,O,O,O⟩⟩,(List.nil_sublist _),?_⟩)))
   all_goals exact⟨by show (.tup [.agg [.p (I 0),.p (.lst [])],.p (I 15)]:AV)=_;rw[sw hv An An (by rw[Pe An];omega) hx c6];rfl,rfl⟩
  (try simp only[sd,se] at c6);refine A1 (Bt (fun k=>Nat.beq k 18) Dn (BP Ay 5 [1,3] O (BG O (fun _=>A4 CS O O An (Ci hx) (O)) Ap (BP Ay 5 [3] O (BG O (fun _=>A4 CS O O An (Ci hx) (O)) Ap (BP Ay 5 [] O (BG O (fun _=>Bl CS Fp O O O O O) Ap (Kn [] O O (CK (i:=0) (rows':=List.map Dy [(CC.mk x.index ((x.plus:Int)+(n:Int)))]) CS CS Fp O O O O O O (GD _) AF (F3 (f:=Dy) ((l.vars.take i).map (Nr n)) [(CC.mk x.index ((x.plus:Int)+(n:Int)))])) Aj fun o1 cp1=>⟨AB,Ap,?_⟩))))))));refine Bj Ay 2 [1,0] O (A2 (Ar Ay 3 [] O (⟨⟨i+1,o1,cp1⟩,AT,⟨by omega,Cu (p:=fun _ (y:CC)=>¬100<y.plus+n) hC hx An⟩,BU ⟨we rfl,we rfl,we rfl,we rfl,we rfl,trivial⟩ (leH (is:=[0,1,2,3]) rfl (wl (FJ (f:=Dy) ((l.vars.take i).map (Nr n)++[(CC.mk x.index ((x.plus:Int)+(n:Int)))]) (by rw[List.take_add_one,hx];simp[Nr])) (wl (YA (aw (we rfl) (aw (we (F5 (f:=Dy) ((l.vars.take i).map (Nr n)++[(CC.mk x.index ((x.plus:Int)+(n:Int)))]) (by rw[List.take_add_one,hx];simp[Nr]))) (Eo)))) (wl (oe rfl) (wl (oe rfl) (C3))))))⟩)))
 (try simp only[sd,se] at c5);refine Bf (Aw (B2 (DM (i:=0) (j:=1) (q:=1) [] O O O (Dx Ap)) (Ar Ay 3 [0,1,0] O (Az (⟨O,_,_,⟨_,_,O,(A9 (i:=1) DY O O O),⟨_,_,O,O,O⟩⟩,(List.nil_sublist _),?_⟩)))))
 all_goals exact⟨by show (.tup [.agg [.p (I 0),.p (.lst (List.map Dy ((l.vars.take i).map (Nr n))))],.p (I 0)]:AV)=_;rw[tH hv An An (by rw[Pe An];omega) fun j hj=>hC j An,Pe An,List.take_of_length_le An];rfl,rfl⟩
theorem lY:∀(b0:Nat) (l:CV) (x:CC),Bo Tryz.prog 196 [.agg ((Dy x).map .p),.ptr b0 0] [.box b0 ((Bz l).map .p)] (GU (.p (.bool (decide (l.const≤x.plus)))) [.box b0 ((Bz l).map .p)]):=by
 intro b0 l x;refine A5 Tryz.func196 O oX (n:=9) O O (Aw (BF O (BN O) fun b2=>Ar Ay 1 [] O (Au Ay 6 [0,1] O (Az (⟨O,_,_,⟨_,_,O,O,O⟩,(B4 (is:=[1]) O),?_⟩)))))
 all_goals exact⟨rfl,rfl⟩
theorem lh:∀(b0:Nat) (l:CV) (vs:List CC),(vs.length<Dc)→Bo Tryz.prog 200 [.p (.lst (List.map Dy vs)),.fn (.func 196) [] [.ptr b0 0]] [.box b0 ((Bz l).map .p)] (GU (.p (I (NT (fun v=>decide (l.const≤v.plus)) vs 0))) [.box b0 ((Bz l).map .p)]):=by
 intro b0 l vs h1;simp only[Dc] at h1;refine A5 Tryz.func200 O oS (n:=19) O O (Au Ay 1 [] O (As (Aw (Bq O (Aq O (BK CS O (List.length_map _)) (Ar Ay 1 [] O (A8 (Bb (α:=Nat) (fun i=>⟨19,mk [(0,.p (.lst (List.map Dy vs))),(1,.fn (.func 196) [] [.ptr b0 0]),(7,.p (I (vs.length:Nat))),(8,.p (I (i:Int)))],[.box b0 ((Bz l).map .p)],[]⟩) (fun i=>vs.length - i) (fun i=>i≤vs.length∧(NT (fun v=>decide (l.const≤v.plus)) (vs.drop i) i=NT (fun v=>decide (l.const≤v.plus)) vs 0)) 0 (⟨by omega,rfl⟩) ?_ ?_))))))))
 ·exact BU ⟨we O,we O,we O,we O,Ap⟩ (leH (is:=[0]) O (wl (oe O) (C3)))
 rintro i hC
 try simp only at hC
 obtain⟨hi,hC⟩:=hC;refine Au Ay 1 [] O (As (Av O (fun c=>?_) (fun c=>?_)))
 ·(try simp only[sd,se] at c);refine A1 (As (A8 (Au Ay 2 [] O (Aw (Ax Ay 3 [] O ?_)))));obtain⟨x,hx⟩:=A6 (l:=vs) (i:=i) An;refine Aq O (A4 CS O O An (Ci hx) (O)) (Aq O (BM NA O (O)) (Aq O (B9 [0] O (.inr O) (lY b0 l x) ⟨_,_,O,O,O⟩ Am O (.inl O)) (Bg O (Av O (fun c1=>?_) (fun c1=>?_)))))
  ·(try simp only[sd,se] at c1);refine Au Ay 2 [] O (Az (⟨O,_,_,⟨_,_,O,O,O⟩,(B4 (is:=[0]) O),?_⟩))
   all_goals exact⟨by show (.p (I (i:Int)):AV)=_;rw[←hC,UU hx,if_pos (by simpa using c1)],rfl⟩
  (try simp only[sd,se] at c1);refine A1 (A2 (Ar Ay 2 [] O ?_));refine⟨(i+1),AT,⟨by omega,by rw[←hC,UU hx,if_neg (by simpa using c1)];rfl⟩,BU ⟨we rfl,we rfl,we rfl,we rfl,trivial⟩ (leH (is:=[0]) rfl (wl (oe rfl) (C3)))⟩
 (try simp only[sd,se] at c);refine Bf (Au Ay 1 [] O (Az (⟨O,_,_,⟨_,_,O,O,O⟩,(B4 (is:=[0]) O),?_⟩)))
 all_goals exact⟨by show (.p (I (-1)):AV)=_;rw[←hC,List.drop_eq_nil_of_le An];rfl,rfl⟩
theorem lZ:∀(b0:Nat) (l:CV) (vs:List CC),(vs.length<Dc)→Bo Tryz.prog 195 [.p (.lst (List.map Dy vs)),.fn (.func 196) [] [.ptr b0 0]] [.box b0 ((Bz l).map .p)] (GU (.p (.bool (vs.any (fun v=>decide (l.const≤v.plus))))) [.box b0 ((Bz l).map .p)]):=by
 intro b0 l vs h1;refine A5 Tryz.func195 O mW (n:=9) O O (Au Ay 1 [] O (Aw (Ax Ay 2 [] O (Aq O (B9 [0] O (.inl ⟨O,O,O⟩) (lh b0 l vs h1) ⟨_,_,O,O,O⟩ Am O (.inl O)) (Ar Ay 2 [] O (Az (⟨O,_,_,⟨_,_,O,O,O⟩,(B4 (is:=[0]) O),?_⟩)))))))
 all_goals exact⟨by show (.p (.bool (decide ((NT (fun v=>decide (l.const≤v.plus)) vs 0:Int)≥(0:Int)))):AV)=_;rw[←Uz vs 0 An],rfl⟩
theorem RR:∀(l:CV),(l.vars.length<Dc)→EZ Tryz.prog 190 [.agg ((Bz l).map .p)] (.p (.bool (QO l))):=by
 intro l h1;refine A5 Tryz.func190 O nv (n:=7) O O (Aw (BF O (BN O) fun b1=>Ar Ay 1 [] O (Aw (Ax Ay 3 [0] O (Aq O (B9 [0] O (.inl ⟨O,O,O⟩) (lZ b1 l l.vars h1) ⟨_,_,O,O,O⟩ Am O (.inl O)) (Ar Ay 1 [] O (Az (⟨O,_,_,⟨_,_,O,O,O⟩,(List.nil_sublist _),?_⟩))))))))
 all_goals exact⟨rfl,rfl⟩
theorem Rt:∀(l:CV),(Mw l)→EZ Tryz.prog 180 [.agg ((Bz l).map .p)] (.p (.bool (B6 l))):=by
 intro l h1;have hl:=h1.vars;simp only[Dc] at hl;refine A5 Tryz.func180 O ox (n:=65) O O (Aw (BF O (BN O) fun b1=>Ar Ay 1 [] O (As (As (BS [1] 21 (fun y=>y= .p (.bool (((decide ((l.const:Int)<(0:Int)))||(decide ((l.const:Int) > (100:Int))))||((decide ((l.const:Int) > (0:Int)))&&(QO (CV.mk l.const l.vars)))))) ?_ ?_)))))
 ·refine A2 (Ax Ay 4 [0] O (BL 8 O (fun g=>?_) (fun g=>?_)))
  ·(try simp only[sd,se] at g);exact Ar Ay 13 [] O (⟨O,O,AK,AI,⟨O,Ap⟩⟩)
  (try simp only[sd,se] at g);refine Ax Ay 5 [0] O (BL 13 O (fun g1=>?_) (fun g1=>?_))
  ·(try simp only[sd,se] at g1);exact Ar Ay 8 [] O (⟨O,O,AK,AI,⟨O,Ap⟩⟩)
  (try simp only[sd,se] at g1);refine Ax Ay 4 [0] O (BL 17 O (fun g2=>?_) (fun g2=>?_))
  ·(try simp only[sd,se] at g2);exact BB O (BT (i:=0) DY O O O) (BB O (BC O O (RR (CV.mk l.const l.vars) h1.vars) O) (Ar Ay 2 [] O (⟨O,O,AK,AI,⟨O,Ap⟩⟩)))
  (try simp only[sd,se] at g2);exact Ar Ay 4 [] O (⟨O,O,AK,AI,⟨O,Ap⟩⟩)
 rintro _ rfl;refine Av O (fun c=>?_) (fun c=>?_)
 ·(try simp only[sd,se] at c);refine Au Ay 1 [] O (Az (⟨O,_,_,⟨_,_,O,O,O⟩,(List.nil_sublist _),?_⟩))
  all_goals exact⟨pB (lD c),rfl⟩
 (try simp only[sd,se] at c);refine A1 (As (Aw (Ax Ay 2 [0] O (Aq O (BK CS O (List.length_map _)) (Ar Ay 1 [] O (A8 (Bb (α:=Nat) (fun i=>⟨65,mk [(1,.ptr b1 0),(23,.p (.lst (List.map Dy l.vars))),(24,.p (I (l.vars.length:Nat))),(25,.p (I (i:Int)))],[.box b1 [.p (I l.const),.p (.lst (List.map Dy l.vars))]],[]⟩) (fun i=>l.vars.length - i) (fun i=>i≤l.vars.length∧(Cq 0 l.vars 0=Cq 0 l.vars i)) 0 (⟨by omega,rfl⟩) ?_ ?_)))))))
 ·exact BU ⟨we O,we O,we O,we O,Ap⟩ (leH (is:=[0]) O (wl (oe O) (C3)))
 rintro i hC
 try simp only at hC
 obtain⟨hi,hC⟩:=hC;refine Au Ay 1 [] O (As (Av O (fun c1=>?_) (fun c1=>?_)))
 ·(try simp only[sd,se] at c1);refine A1 (As (A8 (Aw (Bq O ?_))));obtain⟨x,hx⟩:=A6 (l:=l.vars) (i:=i) An;refine Aq O (A4 CS O O An (Ci hx) (O)) (Aq O (BM NA O (O)) (BF O (A7 Fp O) fun b4=>Ar Ay 2 [0,1] O (As (BS [1,23,24,25] 63 (fun y=>y= .p (.bool (!(T5 0 x&&JG (Jn l.vars i) x.index)))) ?_ ?_))))
  ·refine Bt (fun k=>false) Dn (BP Ay 4 [0] O (Du 33 O (fun g=>?_) (fun g=>?_)))
   ·(try simp only[sd,se] at g);exact Bj Ay 30 [] O (⟨O,O,AK,(by first | exact pB (O6 An) | exact pB (Mh An An) | exact pB (TI hx1 An An)),⟨O,O,O,O,Ap⟩⟩)
   (try simp only[sd,se] at g);refine BP Ay 5 [0] O (Du 38 O (fun g1=>?_) (fun g1=>?_))
   ·(try simp only[sd,se] at g1);exact Bj Ay 25 [] O (⟨O,O,AK,(by first | exact pB (O6 An) | exact pB (Mh An An) | exact pB (TI hx1 An An)),⟨O,O,O,O,Ap⟩⟩)
   (try simp only[sd,se] at g1);refine BP Ay 5 [0] O (Du 43 O (fun g2=>?_) (fun g2=>?_))
   ·(try simp only[sd,se] at g2);exact Bj Ay 20 [] O (⟨O,O,AK,(by first | exact pB (O6 An) | exact pB (Mh An An) | exact pB (TI hx1 An An)),⟨O,O,O,O,Ap⟩⟩)
   (try simp only[sd,se] at g2);refine BP Ay 5 [0] O (Du 48 O (fun g3=>?_) (fun g3=>?_))
   ·(try simp only[sd,se] at g3);exact Bj Ay 15 [] O (⟨O,O,AK,(by first | exact pB (O6 An) | exact pB (Mh An An) | exact pB (TI hx1 An An)),⟨O,O,O,O,Ap⟩⟩)
   (try simp only[sd,se] at g3);refine BP Ay 3 [] O (Du 51 O (fun g4=>?_) (fun g4=>?_))
   ·(try simp only[sd,se] at g4);refine BP Ay 4 [1] O ?_;obtain⟨x1,hx1⟩:=A6 (l:=l.vars) (i:=(((i:Int):Int) - (1:Int):Int).toNat) An;exact CZ O (fun _=>A4 CS O O An (Ci hx1) (O)) Ap (Bj Ay 7 [0] O (⟨O,O,AK,(by first | exact pB (O6 An) | exact pB (Mh An An) | exact pB (TI hx1 An An)),⟨O,O,O,O,Ap⟩⟩))
   (try simp only[sd,se] at g4);exact Bj Ay 12 [] O (⟨O,O,AK,(by first | exact pB (O6 An) | exact pB (Mh An An) | exact pB (TI hx1 An An)),⟨O,O,O,O,Ap⟩⟩)
  rintro _ rfl;refine Av O (fun c2=>?_) (fun c2=>?_)
  ·(try simp only[sd,se] at c2);refine Au Ay 1 [] O (Az (⟨O,_,_,⟨_,_,O,O,O⟩,(List.nil_sublist _),?_⟩))
   all_goals exact⟨pB (iy hC (by rw[Og hx];simp at c2 ⊢;intro q1 q2;simp[c2 q1] at q2)),rfl⟩
  (try simp only[sd,se] at c2);refine A1 (A2 (Ar Ay 2 [] O (⟨(i+1),AT,⟨by omega,(hC.trans (by rw[Og hx,c2.1,c2.2];rfl))⟩,BU ⟨we rfl,we rfl,we rfl,we rfl,trivial⟩ (leH (is:=[1]) rfl (wl (oe rfl) (C3)))⟩)))
 (try simp only[sd,se] at c1);refine Bf (Au Ay 1 [] O (Az (⟨O,_,_,⟨_,_,O,O,O⟩,(List.nil_sublist _),?_⟩)))
 all_goals exact⟨pB (hY (me c) hC An),rfl⟩
theorem jS:∀(x:CV),(Mw x)→EZ Tryz.prog 191 [.agg ((Bz x).map .p)] (.p (.bool (!B6 x))):=by
 intro x h1;refine A5 Tryz.func191 O nz (n:=6) O O (Aw (BF O (BN O) fun b1=>Ar Ay 1 [] O (Aw (Aq O (BT (i:=0) DY O O Af) (Aq O (BC O O (Rt x h1) O) (Ar Ay 2 [] O (Az (⟨O,_,_,⟨_,_,O,O,O⟩,(List.nil_sublist _),?_⟩))))))))
 all_goals exact⟨rfl,rfl⟩
theorem iS:∀(l:List CV),(l.length<Dc)→(∀x∈l,Mw x)→EZ Tryz.prog 130 [.p (.lst (List.map Bz l)),.p (.fn 191)] (.p (I (NT (fun x=> !B6 x) l 0))):=by
 intro l h1 h2;simp only[Dc] at h1;refine A5 Tryz.func130 O j3 (n:=19) O O (Au Ay 1 [] O (As (Aw (Bq O (Aq O (BK EX O (List.length_map _)) (Ar Ay 1 [] O (A8 (Bb (α:=Nat) (fun i=>⟨19,mk [(0,.p (.lst (List.map Bz l))),(1,.p (.fn 191)),(7,.p (I (l.length:Nat))),(8,.p (I (i:Int)))],[],[]⟩) (fun i=>l.length - i) (fun i=>i≤l.length∧(NT (fun x=> !B6 x) (l.drop i) i=NT (fun x=> !B6 x) l 0)) 0 (⟨by omega,rfl⟩) ?_ ?_))))))))
 ·exact BU ⟨we O,we O,we O,we O,Ap⟩ (leH (is:=[]) O (C3))
 rintro i hC
 try simp only at hC
 obtain⟨hi,hC⟩:=hC;refine Au Ay 1 [] O (As (Av O (fun c=>?_) (fun c=>?_)))
 ·(try simp only[sd,se] at c);refine A1 (As (A8 (Au Ay 2 [] O (Aw (Ax Ay 3 [] O ?_)))));obtain⟨x,hx⟩:=A6 (l:=l) (i:=i) An;refine Aq O (A4 EX O O An (Fs hx) (Dg _)) (Aq O (BM DY O (Dg _)) (Aq O (BC O O (jS x (h2 x (List.mem_of_getElem? hx))) O) (Bg O (Av O (fun c1=>?_) (fun c1=>?_)))))
  ·(try simp only[sd,se] at c1);refine Au Ay 2 [] O (Az (⟨O,_,_,⟨_,_,O,O,O⟩,(List.nil_sublist _),?_⟩))
   all_goals exact⟨by show (.p (I (i:Int)):AV)=_;rw[←hC,UU hx,if_pos (by simpa using c1)],rfl⟩
  (try simp only[sd,se] at c1);refine A1 (A2 (Ar Ay 2 [] O ?_));refine⟨(i+1),AT,⟨by omega,by rw[←hC,UU hx,if_neg (by simpa using c1)];rfl⟩,BU ⟨we rfl,we rfl,we rfl,we rfl,trivial⟩ (leH (is:=[]) rfl (C3))⟩
 (try simp only[sd,se] at c);refine Bf (Au Ay 1 [] O (Az (⟨O,_,_,⟨_,_,O,O,O⟩,(List.nil_sublist _),?_⟩)))
 all_goals exact⟨by show (.p (I (-1)):AV)=_;rw[←hC,List.drop_eq_nil_of_le An];rfl,rfl⟩
theorem jB:∀(l:List CV),(l.length<Dc)→(∀x∈l,Mw x)→EZ Tryz.prog 99 [.p (.lst (List.map Bz l)),.p (.fn 191)] (.p (.bool (l.any (fun x=> !B6 x)))):=by
 intro l h1 h2;refine A5 Tryz.func99 O pW (n:=9) O O (Au Ay 1 [] O (Aw (Ax Ay 2 [] O (Aq O (BC O O (iS l h1 h2) O) (Ar Ay 2 [] O (Az (⟨O,_,_,⟨_,_,O,O,O⟩,(List.nil_sublist _),?_⟩)))))))
 all_goals exact⟨by show (.p (.bool (decide ((NT (fun x=> !B6 x) l 0:Int)≥(0:Int)))):AV)=_;rw[←Uz l 0 An],rfl⟩
theorem WU:∀(l:List CV),(l.length<Dc)→(∀x∈l,Mw x)→EZ Tryz.prog 181 [.p (.lst (List.map Bz l))] (.p (.bool (l.all B6))):=by
 intro l h1 h2;refine A5 Tryz.func181 O pX (n:=6) O O (Au Ay 1 [] O (Aw (Bq O (Aq O (BC O O (jB l h1 h2) O) (Ar Ay 2 [] O (Az (⟨O,_,_,⟨_,_,O,O,O⟩,(List.nil_sublist _),?_⟩)))))))
 all_goals exact⟨pB (by rw[List.all_eq_not_any_not]),rfl⟩
theorem ad:∀(l:CV),(Mw l)→EZ Tryz.prog 182 [.agg ((Bz l).map .p)] (.p (I (GS l))):=by
 intro l h1;have hl:=h1.vars;simp only[Dc] at hl;refine A5 Tryz.func182 O mb (n:=22) O O (Aw (BF O (BN O) fun b1=>Ar Ay 1 [] O (As (Aw (Ax Ay 2 [0] O (Aq O (BK CS O (List.length_map _)) (Ar Ay 1 [] O (As (BS [1,3] 12 (fun y=>y= .p (.bool ((B6 (CV.mk l.const l.vars))&&(decide (((l.vars.length:Nat):Int) > (0:Int)))))) ?_ ?_)))))))))
 ·refine A2 (Aq O (BT (i:=0) DY O O O) (Aq O (BC O O (Rt (CV.mk l.const l.vars) h1) O) (Bq O (BL 9 O (fun g=>?_) (fun g=>?_)))))
  ·(try simp only[sd,se] at g);exact Ar Ay 3 [] O (⟨O,O,AK,AI,⟨O,O,Ap⟩⟩)
  (try simp only[sd,se] at g);exact Ar Ay 3 [] O (⟨O,O,AK,AI,⟨O,O,Ap⟩⟩)
 rintro _ rfl;refine Av O (fun c=>?_) (fun c=>?_)
 ·(try simp only[sd,se] at c);obtain⟨hv,hn⟩:B6 l=true∧0<l.vars.length:=by simpa using c
  refine Aw (Ax Ay 4 [0] O ?_);obtain⟨x,hx⟩:=A6 (l:=l.vars) (i:=(((l.vars.length:Nat):Int) - (1:Int):Int).toNat) An;have hw:=Kv hv hx;refine Aq O (A4 CS O O An (Ci hx) (O)) (Ax Ay 3 [] O (Aq O (FI O O) (Ar Ay 1 [] O (Az (⟨O,_,_,⟨_,_,O,O,O⟩,(List.nil_sublist _),?_⟩)))))
  all_goals exact⟨pI (Vc hv hx An),rfl⟩
 (try simp only[sd,se] at c);refine A1 (Au Ay 1 [] O (Az (⟨O,_,_,⟨_,_,O,O,O⟩,(List.nil_sublist _),?_⟩)))
 all_goals exact⟨pI (Vn (mc c)),rfl⟩
theorem dD:Bo Tryz.prog 183 [] [] (iU (fun b:Nat×Nat=> .ptr b.1 0) (fun b=>[.box b.1 [.map b.2,.p (I 0)],.map b.2 (EI (G0 []))])):=by
 refine A5 Tryz.func183 O ma (n:=4) O O (Au Ay 1 [] O (Aw (l8 O O Ve fun m1=>Aq O (CP oO nA O) (BF O (BN O) fun b3=>Ar Ay 1 [] O (Az (⟨O,_,_,⟨_,_,O,O,O⟩,(B4 (is:=[0,1]) O),?_⟩))))));exact⟨(_,_),O,O⟩
theorem VU:∀(m:Nat) (M:List (Int×Int)) (i p:Int),Bo Tryz.prog 184 [.map m,.p (I i),.p (I p)] [.map m (EI (G0 M))] (GU (.tup []) [.map m (EI (G0 (GG M i p)))]):=by
 intro m M i p;refine A5 Tryz.func184 O mx (n:=24) O O (Aw (Ax Ay 2 [] O ?_));refine Aq O (Sd (i:=0) eI jJ (fun _ _=>by simp[CE,CI]) rfl rfl rfl (V4 _ _) (dO _ _)) ?_;refine Ar Ay 5 [] O (As (BS [0,1,2] 20 (fun y=>y= .p (.bool ((!((mg i M).isSome))||(decide ((p:Int) > ((mg i M).getD 0:Int)))))) ?_ ?_))
 ·refine A2 (Ax Ay 3 [] O (BL 16 O (fun g=>?_) (fun g=>?_)))
  ·(try simp only[sd,se] at g);exact Ar Ay 4 [] O (⟨O,O,AK,AI,⟨O,O,O,Ap⟩⟩)
  (try simp only[sd,se] at g);exact Ar Ay 4 [] O (⟨O,O,AK,AI,⟨O,O,O,Ap⟩⟩)
 rintro _ rfl;refine Av O (fun c=>?_) (fun c=>?_)
 ·(try simp only[sd,se] at c);refine A2 (Ax Ay 3 [] O (Aq O (Se (i:=0) eI O O O O) (Bg O ⟨O,_,_,O,(B4 (is:=[0]) O),?_⟩)));refine⟨O,?_⟩;show ([.map m (EI (Nn i (.p (I p)) (G0 M)))]:List BI)=_;rw[bK c,←Y1]
 (try simp only[sd,se] at c);refine A1 ⟨O,_,_,O,(B4 (is:=[0]) O),?_⟩;refine⟨O,?_⟩;show ([.map m (EI (G0 M))]:List BI)=_;rw[Xd c]
theorem W6:∀(l:CV),(l.vars.length<Dc)→EZ Tryz.prog 194 [.agg ((Bz l).map .p)] (.tup [.agg ((Bz ((JR l).1)).map .p),.p (I ((JR l).2))]):=by
 intro l h1;have hl:=h1;simp only[Dc] at hl;refine A5 Tryz.func194 O qF (n:=26) O O (Aw (BF O (BN O) fun b1=>BF O (A7 EK O) fun b2=>Ar Ay 1 [] O (As (Aw (Ax Ay 2 [1] O (Aq O (BK CS O (List.length_map _)) (Ar Ay 1 [] O (A8 ?_))))))));refine Bb (α:=Nat) (fun i=>⟨26,mk [(1,.ptr b1 0),(2,.ptr b2 0),(7,.p (.lst (List.map Dy l.vars))),(8,.p (I (l.vars.length:Nat))),(9,.p (I (i:Int)))],[.box b2 [.p (I 0),.p (.nils)],.box b1 [.p (I l.const),.p (.lst (List.map Dy l.vars))]],[]⟩) (fun i=>l.vars.length - i) (fun i=>i≤l.vars.length∧(∀j,j<i→∀y,l.vars[j]?=some y→¬100<y.plus)) 0 (⟨by omega,fun j h=>by omega⟩) ?_ ?_
 ·exact BU ⟨we O,we O,we O,we O,we O,Ap⟩ (leH (is:=[0,1]) O (wl (oe O) (wl (oe O) (C3))))
 rintro i hC
 try simp only at hC
 obtain⟨hi,hC⟩:=hC;refine Au Ay 1 [] O (As (Av O (fun c=>?_) (fun c=>?_)))
 ·(try simp only[sd,se] at c);refine A1 (As (A8 (Aw ?_)));obtain⟨x,hx⟩:=A6 (l:=l.vars) (i:=i) An;refine Aq O (A4 CS O O An (Ci hx) (O)) (Aq O (BM NA O (O)) (BF O (A7 Fp O) fun b5=>Ar Ay 1 [0,1] O (Au Ay 3 [0] O (Av O (fun c1=>?_) (fun c1=>?_)))))
  ·(try simp only[sd,se] at c1);refine Au Ay 3 [1,0] O (BH (BR (i:=1) O) (Az (⟨O,_,_,⟨_,_,O,(A9 (i:=1) DY O O O),⟨_,_,O,O,O⟩⟩,(List.nil_sublist _),?_⟩)))
   all_goals exact⟨by show (.tup [.agg [.p (I 0),.p (.lst [])],.p (I 15)]:AV)=_;rw[qm hx c1];rfl,rfl⟩
  (try simp only[sd,se] at c1);refine A1 (A2 (Ar Ay 2 [] O (⟨(i+1),AT,⟨by omega,Cu (p:=fun _ (y:CC)=>¬100<y.plus) hC hx An⟩,BU ⟨we rfl,we rfl,we rfl,we rfl,we rfl,trivial⟩ (leH (is:=[1,2]) rfl (wl (oe rfl) (wl (oe rfl) (C3))))⟩)))
 (try simp only[sd,se] at c);refine Bf (As (Au Ay 3 [1] O (Av O (fun c1=>?_) (fun c1=>?_))))
 ·(try simp only[sd,se] at c1);refine Au Ay 3 [0,0] O (BH (BR (i:=0) O) (Az (⟨O,_,_,⟨_,_,O,(A9 (i:=0) DY O O O),⟨_,_,O,O,O⟩⟩,(List.nil_sublist _),?_⟩)))
  all_goals exact⟨by show (.tup [.agg [.p (I 0),.p (.lst [])],.p (I 15)]:AV)=_;rw[rG c1];rfl,rfl⟩
 (try simp only[sd,se] at c1);refine A1 (As (Aw (Aq O (BT (i:=1) DY O O O) (Aq O (BC O O (RR (CV.mk l.const l.vars) h1) O) (Bg O (Av O (fun c2=>?_) (fun c2=>?_)))))))
 ·(try simp only[sd,se] at c2);refine A2 (Ar Ay 2 [1,0] O (Au Ay 3 [1,0,0] O (Az (⟨O,_,_,⟨_,_,O,(A9 (i:=0) DY O O O),⟨_,_,O,O,O⟩⟩,(List.nil_sublist _),?_⟩))))
  all_goals exact⟨by show (.tup [.agg [.p (I 0),.p (.lst (List.map Dy l.vars))],.p (I 0)]:AV)=_;rw[sM (fun j hj=>hC j An) An c2];rfl,rfl⟩
 (try simp only[sd,se] at c2);refine A1 (Au Ay 3 [1,0,0] O (Az (⟨O,_,_,⟨_,_,O,(A9 (i:=0) DY O O O),⟨_,_,O,O,O⟩⟩,(List.nil_sublist _),?_⟩)))
 all_goals exact⟨by show (.tup [.agg [.p (I l.const),.p (.lst (List.map Dy l.vars))],.p (I 0)]:AV)=_;rw[rN (fun j hj=>hC j An) An (by simpa using c2)];rfl,rfl⟩
theorem gh:∀(s m:Nat) (M:List (Int×Int)) (C:Int) (l:CV) (n:Int),(JA l)→(0≤n)→(n≤100)→Bo Tryz.prog 185 [.ptr s 0,.agg ((Bz l).map .p),.p (I n)] [.box s [.map m,.p (I C)],.map m (EI (G0 M))] (GU (.tup []) [.box s [.map m,.p (I ((Rb (M,C) l n).2))],.map m (EI (G0 (Rb (M,C) l n).1))]):=by
 intro s m M C l n h1 h2 h3;have hl:=h1.len;have hc:=h1.c;refine A5 Tryz.func185 O oT (n:=39) O O (Aw (BF O (BN O) fun b4=>Bg O (As (Bt (fun k=>false) Dn (BP Ay 9 [1,0] O (BG O (fun _=>FI O O) Ap (Bj Ay 3 [1,0] O (Aw (Ax Ay 2 [0] O (Aq O (BK CS O (List.length_map _)) (Ar Ay 1 [] O (A8 (Bb (α:=Nat) (fun i=>⟨39,mk [(0,.ptr s 0),(2,.p (I n)),(21,.p (.lst (List.map Dy l.vars))),(22,.p (I (l.vars.length:Nat))),(23,.p (I (i:Int)))],[.box s [.map m,.p (I (max (C:Int) ((l.const:Int)+(n:Int):Int)))],.map m (EI (G0 ((l.vars.take i).foldl (Hl n) M)))],[]⟩) (fun i=>l.vars.length - i) (fun i=>i≤l.vars.length) 0 AP ?_ ?_)))))))))))))
 ·exact BU ⟨we O,we O,we O,we O,we O,Ap⟩ (leH (is:=[1,2]) O (wl (oe O) (wl (oe O) (C3))))
 rintro i hC
 try simp only at hC
 have hi:=hC;refine Au Ay 1 [] O (As (Av O (fun c=>?_) (fun c=>?_)))
 ·(try simp only[sd,se] at c);refine A1 (As (A8 (Aw ?_)));obtain⟨x,hx⟩:=A6 (l:=l.vars) (i:=i) An;have hv:=h1.rg x (List.mem_of_getElem? hx);refine Aq O (A4 CS O O An (Ci hx) (O)) (Aq O (BM NA O (O)) (BF O (A7 Fp O) fun b7=>Ar Ay 1 [0,1] O (Bt (fun k=>false) Dn (BP Ay 10 [1,0,0] O (F9 O O (B9 [2] O (.inl ⟨O,O,O⟩) (VU m ((l.vars.take i).foldl (Hl n) M) x.index ((x.plus:Int)+(n:Int))) ⟨_,_,O,O,O⟩ Am O (.inl O)) AB Ap (JJ O Aj (A2 (B2 (Hr (i:=2) O (om (congrArg EI (congrArg G0 (Zs hx))))) (Ar Ay 2 [] O ?_)))))))));refine⟨(i+1),AT,by omega,BU ⟨we rfl,we rfl,we rfl,we rfl,we rfl,trivial⟩ (leH (is:=[1,2]) rfl (wl (oe rfl) (wl (oe rfl) (C3))))⟩
 (try simp only[sd,se] at c);refine Bf ⟨O,_,_,O,(B4 (is:=[0,1]) O),?_⟩;refine⟨O,?_⟩;show ([.box s [.map m,.p (I (max (C:Int) ((l.const:Int)+(n:Int):Int)))],.map m (EI (G0 ((l.vars.take i).foldl (Hl n) M)))]:List BI)=_;rw[show l.vars.take i=l.vars from List.take_of_length_le An];rfl
end Go.Proofs.YtboammbpdaoojaaGreat
