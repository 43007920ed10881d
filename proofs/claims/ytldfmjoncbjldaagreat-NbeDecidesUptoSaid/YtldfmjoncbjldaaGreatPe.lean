/- Part of the proofs: an abstract program logic, plain models and contracts of functions. -/
import Derived.Test.YtldfmjoncbjldaaGreatPb
import Derived.Shelf.Sort.Plain
import Derived.Shelf.Slices.In.SortNone
import Derived.Test.YtldfmjoncbjldaaGreatPc
import Derived.Test.YtldfmjoncbjldaaGreatPd
set_option linter.unusedVariables false
set_option linter.unusedSimpArgs false
set_option maxRecDepth 100000
namespace Go.Eu
open Go.Abs Go.Sort
def Gz (zs:List Int):List Int:=zs.mergeSort fun x y=>decide (x≤y)
theorem Vs (zs:List Int):(Gz zs).length=zs.length:=List.length_mergeSort _
end Go.Eu
namespace Go.Eu
open Go.Abs
def Wp (c:Int) (v:B6):Bool:=decide (-65536≤v.index)&&decide (v.index<8)&&decide (0≤v.plus)&&decide (v.plus≤100)&&(decide (c≤0)||decide (v.plus<c))
def KH (p:Option Int) (i:Int):Bool:=match p with
 | none=>true
 | some j=>decide (j<i)
def GX (c:Int):Option Int→List B6→Bool
 | _,[]=>true
 | p,v::vs=>Wp c v&&KH p v.index&&GX c (some v.index) vs
def B0 (l:CX):Bool:=decide (0≤l.const)&&decide (l.const≤100)&&GX l.const none l.vars
def GB:CX:=⟨0,[]⟩
def Rh (l:CX):Bool:=l.vars.any fun v=>decide (l.const≤v.plus)
def Te (vs:List B6):Int:=(vs.getD (vs.length - 1) default).index
def HV (l:CX):Int:=if B0 l=true∧l.vars≠[] then max 0 (Te l.vars+1) else 0
def GV (x:B6) (rec:List B6→List B6):List B6→List B6
 | []=>x::rec []
 | y::b=>if x.index<y.index then x::rec (y::b) else if y.index<x.index then y::GV x rec b else ⟨x.index,max x.plus y.plus⟩::rec b
def Dg:List B6→List B6→List B6
 | [],b=>b
 | x::a,b=>GV x (Dg a) b
def OD (vs:List B6):Int:=vs.foldl (fun m v=>max m v.plus) 0
def S0 (c:Int) (vs:List B6):CX:=⟨if vs≠[]∧c≤OD vs then 0 else c,vs⟩
def Ja (a b:CX):CX:=S0 (max a.const b.const) (Dg a.vars b.vars)
def P1 (n:Int) (v:B6):B6:=⟨v.index,v.plus+n⟩
def J3 (l:CX) (n:Int):Int:=if l.const > 0∨l.vars=[] then l.const+n else 0
def F5 (l:CX) (n:Int):CX×Int :=
 if B0 l=false then (GB,3) else if n<0 then (GB,2) else if n > 100 then (GB,15)
 else if J3 l n > 100 then (GB,15)
 else if (l.vars.any fun v=>decide (v.plus+n > 100))=true then (GB,15)
 else (⟨J3 l n,l.vars.map (P1 n)⟩,0)
def Hr (ps:List CX):CX→List B6→CX×Int
 | out,[]=>(out,0)
 | out,v::vs =>
  if 0≤v.index∧v.index<ps.length then
   (if (F5 (ps.getD v.index.toNat default) v.plus).2≠0 then (GB,(F5 (ps.getD v.index.toNat default) v.plus).2)
    else Hr ps (Ja out (F5 (ps.getD v.index.toNat default) v.plus).1) vs)
  else Hr ps (Ja out ⟨0,[v]⟩) vs
def C4 (l:CX) (ps:List CX):CX×Int :=
 if B0 l=false∨ps.all B0=false then (GB,3)
 else if HV l > ps.length then (GB,24)
 else Hr ps ⟨l.const,[]⟩ l.vars
-- the program's way
def mg (k:Int):List (Int×Int)→Option Int
 | []=>none
 | (j,x)::r=>if j=k then some x else mg k r
def ms (k v:Int):List (Int×Int)→List (Int×Int)
 | []=>[(k,v)]
 | (j,x)::r=>if j=k then (j,v)::r else (j,x)::ms k v r
def HM (m:List (Int×Int)) (i p:Int):List (Int×Int):=match mg i m with
 | some old=>if p > old then ms i p m else m
 | none=>ms i p m
def Iz (n:Int) (m:List (Int×Int)) (v:B6):List (Int×Int):=HM m v.index (v.plus+n)
def Tu (s:List (Int×Int)×Int) (l:CX) (n:Int):List (Int×Int)×Int:=(l.vars.foldl (Iz n) s.1,max s.2 (l.const+n))
def Es (ps:List CX) (s:List (Int×Int)×Int) (v:B6):List (Int×Int)×Int :=
 if v.index<0 then (HM s.1 v.index v.plus,s.2) else Tu s (ps.getD v.index.toNat default) v.plus
def IX (m:List (Int×Int)):List B6:=(Gz (m.map Prod.fst)).map fun i=>⟨i,(mg i m).getD 0⟩
def L1 (l:CX):CX×Int :=
 if (l.vars.any fun v=>decide (v.plus > 100))=true then (GB,15)
 else if l.const > 100 then (GB,15)
 else if Rh l=true then (⟨0,l.vars⟩,0) else (l,0)
def Kr (l:CX) (ps:List CX):CX×Int :=
 if B0 l=false∨ps.all B0=false then (GB,3)
 else if HV l > ps.length then (GB,24)
 else L1 ⟨(l.vars.foldl (Es ps) ([],l.const)).2,IX (l.vars.foldl (Es ps) ([],l.const)).1⟩
-- offsets
def Eb:List B6→Int→Int
 | [],_=> -1
 | v::vs,i=>if v.index=i then max v.plus (Eb vs i) else Eb vs i
abbrev Mg (l:List B6):Prop:=l.Pairwise fun a b=>a.index<b.index
theorem Pf:∀(vs:List B6) (i:Int),-1≤Eb vs i
 | [],i=>by simp[Eb]
 | v::vs,i=>by have:=Pf vs i;simp only[Eb];split<;>omega
theorem LF:∀{vs:List B6}{i:Int},(∀v∈vs,v.index≠i)→Eb vs i= -1
 | [],i,_=>rfl
 | v::vs,i,h=>by simp only[Eb,if_neg (h v Av)];exact LF fun w hw=>h w (by simp[hw])
theorem Mr:∀{vs:List B6}{v:B6},v∈vs→v.plus≤Eb vs v.index
 | w::vs,v,h=>by
  rcases List.mem_cons.1 h with rfl | h
  ·simp only[Eb,if_true];omega
  have:=Mr h;simp only[Eb];split<;>omega
theorem fO:∀{a b:List B6},Mg a→Mg b→(∀v∈a,0≤v.plus)→(∀v∈b,0≤v.plus)→(∀i,Eb a i=Eb b i)→a=b
 | [],[],_,_,_,_,_=>rfl
 | [],y::b,_,_,_,hb,h=>by
  have:=h y.index;have:=hb y Av;have:=Mr (vs:=y::b) (v:=y) Av;simp only[Eb] at *;omega
 | x::a,[],_,_,ha,_,h=>by
  have:=h x.index;have:=ha x Av;have:=Mr (vs:=x::a) (v:=x) Av;simp only[Eb] at *;omega
 | x::a,y::b,h1,h2,ha,hb,h=>by
  have hx:=ha x Av;have hy:=hb y Av;rw[Mg,List.pairwise_cons] at h1 h2;have na:Eb a x.index= -1:=LF fun v hv=>by have:=h1.1 v hv;omega
  have nb:Eb b y.index= -1:=LF fun v hv=>by have:=h2.1 v hv;omega
  have e:x.index=y.index:=by
   rcases Int.lt_trichotomy x.index y.index with q | q | q
   ·have:=h x.index;have nb':Eb b x.index= -1:=LF fun v hv=>by have:=h2.1 v hv;omega
    simp only[Eb,if_true,if_neg (show ¬y.index=x.index by omega),nb'] at this;omega
   ·exact q
   have:=h y.index;have na':Eb a y.index= -1:=LF fun v hv=>by have:=h1.1 v hv;omega
   simp only[Eb,if_true,if_neg (show ¬x.index=y.index by omega),na'] at this;omega
  have e2:x.plus=y.plus:=by
   have:=h x.index;simp only[Eb,if_true,if_pos e.symm] at this;rw[←e] at nb;omega
  have exy:x=y:=by cases x;cases y;simp_all
  subst exy;congr 1;refine fO h1.2 h2.2 (fun v hv=>ha v (by simp[hv])) (fun v hv=>hb v (by simp[hv])) fun i=>?_;by_cases q:x.index=i
  ·subst q;rw[na,nb]
  have:=h i;simpa only[Eb,if_neg q] using this
-- merging
theorem PO {x:B6}{rec:List B6→List B6}{g:Int→Int}(hg:∀i,-1≤g i) (hr:∀b i,Eb (rec b) i=max (g i) (Eb b i)):∀(b:List B6) (i:Int),Eb (GV x rec b) i=max (Eb [x] i) (max (g i) (Eb b i))
 | [],i=>by have:=hg i;simp only[GV,Eb,hr];split<;>omega
 | y::b,i=>by
  have:=hg i;have h0:=Pf b i;have ih:=PO (x:=x) hg hr b i;simp only[Eb] at ih;simp only[GV];split
  ·simp only[Eb,hr]
   repeat' split
   all_goals omega
  split
  ·simp only[Eb,ih]
   repeat' split
   all_goals omega
  have e:x.index=y.index:=by omega
  simp only[Eb,hr,e]
  repeat' split
  all_goals omega
theorem Oj:∀(a b:List B6) (i:Int),Eb (Dg a b) i=max (Eb a i) (Eb b i)
 | [],b,i=>by have:=Pf b i;simp only[Dg,Eb];omega
 | x::a,b,i=>by
  have h:=PO (x:=x) (rec:=Dg a) (g:=Eb a) (Pf a) (fun b i=>Oj a b i) b i;have h1:=Pf a i;rw[Dg,h];simp only[Eb];split<;>omega
theorem NK {Q:B6→Prop}{x:B6}{rec:List B6→List B6}(hx:Q x) (hm:∀u v:B6,Q u→Q v→u.index=v.index→Q ⟨u.index,max u.plus v.plus⟩) (hr:∀b,(∀v∈b,Q v)→∀v∈rec b,Q v):∀(b:List B6),(∀v∈b,Q v)→∀v∈GV x rec b,Q v
 | [],hb,v,hv=>by
  simp only[GV,List.mem_cons] at hv;rcases hv with rfl | hv
  ·exact hx
  ·exact hr [] Av v hv
 | y::b,hb,v,hv=>by
  simp only[GV] at hv;have hy:=hb y Av;have hb':∀v∈b,Q v:=fun v hv=>hb v (by simp[hv]);split at hv
  ·rcases List.mem_cons.1 hv with rfl | hv
   ·exact hx
   exact hr _ hb v hv
  split at hv
  ·rcases List.mem_cons.1 hv with rfl | hv
   ·exact hy
   exact NK hx hm hr b hb' v hv
  rcases List.mem_cons.1 hv with rfl | hv
  ·exact hm x y hx hy Au
  exact hr _ hb' v hv
theorem Ir {Q:B6→Prop}(hm:∀u v:B6,Q u→Q v→u.index=v.index→Q ⟨u.index,max u.plus v.plus⟩):∀(a b:List B6),(∀v∈a,Q v)→(∀v∈b,Q v)→∀v∈Dg a b,Q v
 | [],b,_,hb=>by simpa [Dg] using hb
 | x::a,b,ha,hb=>by
  rw[Dg];exact NK (ha x Av) hm (fun b hb=>Ir hm a b (fun v hv=>ha v (by simp[hv])) hb) b hb
theorem RE {x:B6}{a:List B6}(hr:∀b,Mg b→Mg (Dg a b)) (hx:∀v∈a,x.index<v.index):∀(b:List B6),Mg b→Mg (GV x (Dg a) b)
 | [],_=>by
  rw[GV,Mg,List.pairwise_cons];exact⟨Ir (Q:=fun v=>x.index<v.index) (fun u v h _ _=>h) a [] hx Av,hr [] (by simp[Mg])⟩
 | y::b,hb=>by
  have hb':=hb;rw[Mg,List.pairwise_cons] at hb';simp only[GV];split
  ·rename_i q;rw[Mg,List.pairwise_cons];refine⟨Ir (Q:=fun v=>x.index<v.index) (fun u v h _ _=>h) a _ hx fun v hv=>?_,hr _ hb⟩;rcases List.mem_cons.1 hv with rfl | hv
   ·exact q
   have:=hb'.1 v hv;omega
  split
  ·rename_i q;rw[Mg,List.pairwise_cons];refine⟨NK (Q:=fun v=>y.index<v.index) q (fun u v h _ _=>h) (fun c hc=>Ir (Q:=fun v=>y.index<v.index) (fun u v h _ _=>h) a c (fun v hv=>by have:=hx v hv;omega) hc) b hb'.1,RE hr hx b hb'.2⟩
  have e:x.index=y.index:=by omega
  rw[Mg,List.pairwise_cons];refine⟨Ir (Q:=fun v=>x.index<v.index) (fun u v h _ _=>h) a b hx (fun v hv=>by have:=hb'.1 v hv;omega),hr _ hb'.2⟩
theorem Qm:∀{a b:List B6},Mg a→Mg b→Mg (Dg a b)
 | [],b,_,hb=>by simpa [Dg] using hb
 | x::a,b,ha,hb=>by
  rw[Mg,List.pairwise_cons] at ha;rw[Dg];exact RE (fun b hb=>Qm ha.2 hb) ha.1 b hb
-- the greatest offset
theorem Zv:∀(vs:List B6) (m:Int),m≤vs.foldl (fun m v=>max m v.plus) m
 | [],m=>by simp
 | v::vs,m=>by have:=Zv vs (max m v.plus);simp only[List.foldl_cons];omega
theorem Vd:∀{vs:List B6}{m:Int}{v:B6},v∈vs→v.plus≤vs.foldl (fun m v=>max m v.plus) m
 | w::vs,m,v,h=>by
  rcases List.mem_cons.1 h with rfl | h
  ·have:=Zv vs (max m v.plus);simp only[List.foldl_cons];omega
  rw[List.foldl_cons];exact Vd (vs:=vs) h
theorem Yc:∀{vs:List B6}{m c:Int},m<c→(∀v∈vs,v.plus<c)→vs.foldl (fun m v=>max m v.plus) m<c
 | [],m,c,h,_=>by simpa using h
 | v::vs,m,c,h,hv=>by
  have:=hv v Av;simp only[List.foldl_cons];exact Yc Au fun w hw=>hv w (by simp[hw])
def Jd (c:Int) (vs:List B6):Int:=if (vs.any fun v=>decide (c≤v.plus))=true then 0 else c
theorem X9 {c:Int}{vs:List B6}(hc:0≤c) (hv:∀v∈vs,0≤v.plus):(S0 c vs).const=Jd c vs:=by
 simp only[S0,Jd];by_cases h:(vs.any fun v=>decide (c≤v.plus))=true
 ·rw[if_pos h];simp only[List.any_eq_true,decide_eq_true_eq] at h;obtain⟨v,hm,hp⟩:=h;have h1:=Vd (m:=0) hm;rw[if_pos ⟨List.ne_nil_of_mem hm,by unfold OD;omega⟩]
 rw[if_neg h];simp only[List.any_eq_true,decide_eq_true_eq,not_exists,not_and] at h;split
 ·rename_i q;by_cases hc0:c=0
  ·exact hc0.symm
  have:=Yc (vs:=vs) (m:=0) (c:=c) Au fun v hv=>by have:=h v hv;omega
  have:=q.2;unfold OD at this;omega
 rfl
-- the offsets of the program
def K0 (m:List (Int×Int)) (i:Int):Int:=(mg i m).getD (-1)
theorem mX (k v:Int):∀(m:List (Int×Int)) (j:Int),mg j (ms k v m)=if k=j then some v else mg j m
 | [],j=>by simp[ms,mg]
 | (i,x)::m,j=>by
  have ih:=mX k v m j;simp only[ms];split
  ·rename_i q;subst q;simp only[mg];split<;>rfl
  rename_i q;simp only[mg,ih];by_cases h1:i=j
  ·subst h1;rw[if_pos rfl,if_neg (Ne.symm q),if_pos rfl]
  simp[h1]
theorem Wi (k v:Int):∀(m:List (Int×Int)),(ms k v m).map Prod.fst=if k∈m.map Prod.fst then m.map Prod.fst else m.map Prod.fst++[k]
 | []=>by simp[ms]
 | (i,x)::m=>by
  have ih:=Wi k v m;simp only[ms];split
  ·rename_i q;subst q;simp
  rename_i q;simp only[List.map_cons,ih,List.mem_cons,(show (k=i)=False by simp;exact fun h=>q h.symm),false_or];split<;>simp
theorem Xd:∀{m:List (Int×Int)}{k:Int},mg k m=none↔k ∉ m.map Prod.fst
 | [],k=>by simp[mg]
 | (i,x)::m,k=>by
  simp only[mg,List.map_cons,List.mem_cons,not_or];split
  ·rename_i q;subst q;simp
  rename_i q;rw[Xd];exact⟨fun h=>⟨fun e=>q e.symm,h⟩,fun h=>h.2⟩
structure Ro (m:List (Int×Int)):Prop where
 nd:(m.map Prod.fst).Nodup
 pos:∀k v,mg k m=some v→0≤v
theorem Ro.nil:Ro []:=⟨by simp,fun k v h=>by simp[mg] at h⟩
theorem ji {m:List (Int×Int)}(k v:Int) (h:(m.map Prod.fst).Nodup):((ms k v m).map Prod.fst).Nodup:=by
 rw[Wi];split
 ·exact h
 rename_i q;rw[List.nodup_append];refine⟨h,by simp,fun a ha b hb=>?_⟩;simp only[List.mem_singleton] at hb;subst hb;exact fun e=>q (e▸ha)
theorem UK {m:List (Int×Int)}{i p:Int}(h:Ro m) (hp:0≤p):Ro (HM m i p):=by
 have hs:Ro (ms i p m):=⟨ji i p h.nd,fun k v hk=>by
  rw[mX] at hk;split at hk
  ·cases hk;exact hp
  exact h.pos k v hk⟩
 unfold HM;split
 ·split
  ·exact hs
  exact h
 exact hs
theorem Wg {m:List (Int×Int)}(h:Ro m) (i:Int): -1≤K0 m i:=by
 unfold K0;cases e:mg i m with
 | none=>simp
 | some v=>have:=h.pos i v e;simp;omega
theorem OZ {m:List (Int×Int)}{i p:Int}(h:Ro m) (hp:0≤p) (j:Int):K0 (HM m i p) j=max (Eb [⟨i,p⟩] j) (K0 m j):=by
 have h1:K0 (ms i p m) j=if i=j then p else K0 m j:=by unfold K0;rw[mX];split<;>rfl
 have h2:=Wg h j;unfold HM;simp only[Eb];cases e:mg i m with
 | none =>
  simp only[h1];split
  ·rename_i q;subst q;simp only[K0,e,Option.getD_none];omega
  ·omega
 | some old =>
  simp only;split
  ·rw[h1];split
   ·rename_i q;subst q;simp only[K0,e,Option.getD_some];omega
   omega
  split
  ·rename_i q;subst q;simp only[K0,e,Option.getD_some];omega
  omega
theorem Om {n:Int}:∀(vs:List B6) (m:List (Int×Int)),Ro m→(∀v∈vs,0≤v.plus+n)→Ro (vs.foldl (Iz n) m)∧∀i,K0 (vs.foldl (Iz n) m) i=max (Eb (vs.map (P1 n)) i) (K0 m i)
 | [],m,h,_=>⟨h,fun i=>by have:=Wg h i;simp only[List.foldl_nil,List.map_nil,Eb];omega⟩
 | v::vs,m,h,hv=>by
  have hp:=hv v Av;have h1:Ro (Iz n m v):=UK h hp;obtain⟨h2,h3⟩:=Om vs (Iz n m v) h1 fun w hw=>hv w (by simp[hw]);refine⟨h2,fun i=>?_⟩;rw[List.foldl_cons,h3 i,show K0 (Iz n m v) i=max (Eb [⟨v.index,v.plus+n⟩] i) (K0 m i) from OZ h hp i];have:=Wg h i;simp only[List.map_cons,Eb,P1];split<;>omega
theorem Od (zs:List Int):(Gz zs).Perm zs:=List.mergeSort_perm _ _
theorem W9 (zs:List Int):(Gz zs).Pairwise fun a b=>a≤b:=by
 have:=List.pairwise_mergeSort (le:=fun(x y:Int)=>decide (x≤y)) (fun a b c h1 h2=>by simp at *;omega) (fun a b=>by simp;omega) zs;exact this.imp fun h=>by simpa using h
theorem VL {m:List (Int×Int)}(h:Ro m):Mg (IX m):=by
 have hn:(Gz (m.map Prod.fst)).Nodup:=(Od _).nodup_iff.2 h.nd;have hs:=W9 (m.map Prod.fst);rw[Mg,IX,List.pairwise_map];exact(hs.and hn).imp fun⟨h1,h2⟩=>by simp only;omega
theorem Zb {f:Int→Int}:∀(ks:List Int) (i:Int),(∀k∈ks,0≤f k)→Eb (ks.map fun k=>(⟨k,f k⟩:B6)) i=if i∈ks then f i else -1
 | [],i,_=>by simp[Eb]
 | k::ks,i,h=>by
  have ih:=Zb ks i fun k hk=>h k (by simp[hk]);simp only[List.map_cons,Eb,ih,List.mem_cons];by_cases q:k=i
  ·subst q;have:=h k Av;simp only[if_true,true_or];split<;>omega
  simp[q,Ne.symm q]
theorem TO {m:List (Int×Int)}(h:Ro m) (i:Int):Eb (IX m) i=K0 m i:=by
 rw[IX,Zb (f:=fun i=>(mg i m).getD 0)]
 ·simp only[(Od _).mem_iff,K0];split
  ·rename_i q;cases e:mg i m with
   | none=>exact absurd q (Xd.1 e)
   | some v=>simp
  rename_i q;rw[Xd.2 q];rfl
 intro k hk;cases e:mg k m with
 | none=>simp
 | some v=>simpa using h.pos k v e
theorem gA {m:List (Int×Int)}(h:Ro m):∀v∈IX m,0≤v.plus:=by
 intro v hv;simp only[IX,List.mem_map] at hv;obtain⟨k,_,rfl⟩:=hv;simp only;cases e:mg k m with
 | none=>simp
 | some v=>simpa using h.pos k v e
-- valid levels
theorem Jy:∀{c:Int}{vs:List B6}{p:Option Int},GX c p vs=true→∀v∈vs,Wp c v=true
 | c,w::vs,p,h,v,hv=>by
  simp only[GX,Bool.and_eq_true] at h;rcases List.mem_cons.1 hv with rfl | hv
  ·exact h.1.1
  exact Jy h.2 v hv
theorem R1 {c:Int}{v:B6}(h:Wp c v=true):0≤v.plus∧v.plus≤100:=by
 simp only[Wp,Bool.and_eq_true,decide_eq_true_eq] at h;exact⟨h.1.1.2,h.1.2⟩
theorem Nq:∀{c:Int}{vs:List B6}{p:Option Int},GX c p vs=true→Mg vs∧∀v∈vs,KH p v.index=true
 | c,[],p,_=>⟨by simp[Mg],by simp⟩
 | c,w::vs,p,h=>by
  simp only[GX,Bool.and_eq_true] at h;obtain⟨h1,h2⟩:=Nq h.2;simp only[KH,decide_eq_true_eq] at h2;refine⟨?_,fun v hv=>?_⟩
  ·rw[Mg,List.pairwise_cons];exact⟨h2,h1⟩
  rcases List.mem_cons.1 hv with rfl | hv
  ·exact h.1.2
  have a:=h.1.2;have b:=h2 v hv;unfold KH at a ⊢;cases p with
  | none=>rfl
  | some j=>simp only[decide_eq_true_eq] at a ⊢;omega
theorem lN {n:Int}{vs:List B6}(h:Mg vs):Mg (vs.map (P1 n)):=by
 rw[Mg,List.pairwise_map];exact h.imp fun h=>h
structure oM (m:List (Int×Int)) (c:Int) (out:CX):Prop where
 ok:Ro m
 asc:Mg out.vars
 pos:∀v∈out.vars,0≤v.plus∧v.plus≤100
 off:∀i,Eb out.vars i=K0 m i
 c0:0≤c
 c1:c≤100
 con:out.const=Jd c out.vars
theorem Z8 {m m' : List (Int × Int)} {c cx : Int} {out x : CX} (h : oM m c out) (hm : Ro m') (hx : Mg x.vars) (hp : ∀ v ∈ x.vars, 0 ≤ v.plus ∧ v.plus ≤ 100) (ho : ∀ i, K0 m' i = max (Eb x.vars i) (K0 m i)) (h0 : 0 ≤ cx) (h1 : cx ≤ 100) (hc : x.const = cx ∨ x.const = 0 ∧ ∃ v ∈ x.vars, cx ≤ v.plus) : oM m' (max c cx) (Ja out x) := by
 have hv : ∀ v ∈ Dg out.vars x.vars, 0 ≤ v.plus ∧ v.plus ≤ 100 := Ir (Q := fun v => 0 ≤ v.plus ∧ v.plus ≤ 100) (fun u v h1 h2 _ => by simp only; omega) _ _ h.pos hp
 have hx0 : 0 ≤ x.const := by rcases hc with h | h <;> omega
 have ho0 : 0 ≤ out.const := by rw [h.con]; unfold Jd; split; · omega
                                exact h.c0
 refine ⟨hm, Qm h.asc hx, hv, fun i => ?_, by have := h.c0; omega, by have := h.c1; omega, ?_⟩
 ·simp only [Ja, S0, Oj, h.off i, ho i]; omega
 have hmem : ∀ v, (v ∈ out.vars ∨ v ∈ x.vars) → ∃ u ∈ Dg out.vars x.vars, v.plus ≤ u.plus := by
  intro v hv'
  have h1 : v.plus ≤ Eb (Dg out.vars x.vars) v.index := by
   rw [Oj]
   rcases hv' with h | h <;> have := Mr h <;> omega
  have h2 : 0 ≤ v.plus := by
   rcases hv' with q | q
   ·exact (h.pos v q).1
   exact (hp v q).1
  revert h1
  generalize Dg out.vars x.vars = l
  intro h1
  induction l with
  | nil => simp only [Eb] at h1; omega
  | cons y l ih =>
   simp only [Eb] at h1
   by_cases q : v.plus ≤ y.plus
   ·exact ⟨y, by simp, q⟩
   obtain ⟨u, hu, hl⟩ := ih (by split at h1 <;> omega)
   exact ⟨u, by simp [hu], hl⟩
 rw [Ja, X9 Au fun v hv' => (hv v hv').1]
 show Jd (max out.const x.const) (Dg out.vars x.vars) = Jd (max c cx) (Dg out.vars x.vars)
 generalize hl : Dg out.vars x.vars = l
 rw [hl] at hmem hv
 have e1 : out.const = c ∨ out.const = 0 ∧ ∃ v ∈ l, c ≤ v.plus := by
  rw [h.con]
  unfold Jd
  split
  ·rename_i q
   simp only [List.any_eq_true, decide_eq_true_eq] at q
   obtain ⟨v, q1, q2⟩ := q
   obtain ⟨u, hu, hle⟩ := hmem v (.inl q1)
   exact .inr ⟨O, u, hu, by omega⟩
  exact .inl O
 have e2 : x.const = cx ∨ x.const = 0 ∧ ∃ v ∈ l, cx ≤ v.plus := by
  rcases hc with q | ⟨q, v, q1, q2⟩
  ·exact .inl q
  obtain ⟨u, hu, hle⟩ := hmem v (.inr q1)
  exact .inr ⟨q, u, hu, by omega⟩
 have hc0 := h.c0
 have key : ∀ a b : Int, (∀ v ∈ l, a ≤ v.plus ↔ b ≤ v.plus) → (a = b ∨ ∃ v ∈ l, a ≤ v.plus) → Jd a l = Jd b l := by
  intro a b h1 h2
  unfold Jd
  have : (l.any fun v => decide (a ≤ v.plus)) = (l.any fun v => decide (b ≤ v.plus)) := by
   rw [Bool.eq_iff_iff]
   simp only [List.any_eq_true, decide_eq_true_eq]
   exact ⟨fun ⟨v, q1, q2⟩ => ⟨v, q1, (h1 v q1).1 q2⟩, fun ⟨v, q1, q2⟩ => ⟨v, q1, (h1 v q1).2 q2⟩⟩
  rw [this]
  rcases h2 with rfl | ⟨v, q1, q2⟩
  ·rfl
  have : (l.any fun v => decide (b ≤ v.plus)) = true := by
   simp only [List.any_eq_true, decide_eq_true_eq]; exact ⟨v, q1, (h1 v q1).1 q2⟩
  rw [if_pos this, if_pos this]
 by_cases hM : ∃ v ∈ l, max c cx ≤ v.plus
 ·obtain ⟨v, q1, q2⟩ := hM
  have a1 : Jd (max c cx) l = 0 := by
   unfold Jd; rw [if_pos]; simp only [List.any_eq_true, decide_eq_true_eq]; exact ⟨v, q1, q2⟩
  have a2 : Jd (max out.const x.const) l = 0 := by
   unfold Jd; rw [if_pos]; simp only [List.any_eq_true, decide_eq_true_eq]
   exact ⟨v, q1, by rcases e1 with q | q <;> rcases e2 with q' | q' <;> omega⟩
  rw [a1, a2]
 have hM' : ∀ v ∈ l, v.plus < max c cx := fun v hv' => by
  exact Int.not_le.1 fun q => hM ⟨v, hv', q⟩
 have : max out.const x.const = max c cx := by
  rcases e1 with q | ⟨q, v, v1, v2⟩
  ·rcases e2 with q' | ⟨q', u, u1, u2⟩
   ·omega
   have := hM' u u1; omega
  have := hM' v v1
  rcases e2 with q' | ⟨q', u, u1, u2⟩
  ·omega
  have := hM' u u1; omega
 rw [this]
-- errors stay
def iB (s:List (Int×Int)×Int):Prop:=(∃i,100<K0 s.1 i)∨100<s.2
theorem Yt {ps:List CX}(hps:∀l∈ps,B0 l=true) {s:List (Int×Int)×Int}{v:B6}(hm:Ro s.1) (hv:0≤v.plus) (hi:v.index<ps.length):Ro (Es ps s v).1∧(iB s→iB (Es ps s v)):=by
 unfold Es;split
 ·refine⟨UK hm hv,fun h=>?_⟩;rcases h with ⟨i,h⟩ | h
  ·exact .inl ⟨i,by rw[OZ hm hv];omega⟩
  exact .inr h
 rename_i q;have hmem:ps.getD v.index.toNat default∈ps:=by
  have hlt:v.index.toNat<ps.length:=by omega
  rw[List.getD_eq_getElem?_getD,List.getElem?_eq_getElem hlt];exact List.getElem_mem hlt
 have hl:=hps _ hmem;simp only[B0,Bool.and_eq_true,decide_eq_true_eq] at hl;obtain⟨h1,h2⟩:=Om (n:=v.plus) (ps.getD v.index.toNat default).vars s.1 hm fun w hw=>by have:=(R1 (Jy hl.2 w hw)).1;omega
 refine⟨h1,fun h=>?_⟩;rcases h with ⟨i,h⟩ | h
 ·exact .inl ⟨i,by simp only[Tu,h2];omega⟩
 exact .inr (by simp only[Tu];omega)
theorem Yq {ps:List CX}(hps:∀l∈ps,B0 l=true):∀(vs:List B6) (s:List (Int×Int)×Int),(∀v∈vs,0≤v.plus∧v.index<ps.length)→Ro s.1→Ro (vs.foldl (Es ps) s).1∧(iB s→iB (vs.foldl (Es ps) s))
 | [],s,_,h=>⟨h,id⟩
 | v::vs,s,hv,h=>by
  have hv0:=hv v Av;obtain⟨h1,h2⟩:=Yt hps (s:=s) h hv0.1 hv0.2;obtain⟨h3,h4⟩:=Yq hps vs (Es ps s v) (fun w hw=>hv w (by simp[hw])) h1;exact⟨h3,fun b=>h4 (h2 b)⟩
theorem pZ {s:List (Int×Int)×Int}(hm:Ro s.1) (h:iB s):L1 ⟨s.2,IX s.1⟩=(GB,15):=by
 unfold L1;rcases h with ⟨i,h⟩ | h
 ·rw[if_pos];simp only[List.any_eq_true,decide_eq_true_eq];rw[←TO hm] at h;have:∀l:List B6,100<Eb l i→∃v∈l,100<v.plus:=by
   intro l h
   induction l with
   | nil=>simp only[Eb] at h;omega
   | cons y l ih =>
    simp only[Eb] at h;by_cases q:100<y.plus
    ·exact⟨y,by simp,q⟩
    obtain⟨u,hu,hl⟩:=ih (by split at h<;>omega);exact⟨u,by simp[hu],hl⟩
  obtain⟨v,hv,hl⟩:=this _ h;exact⟨v,hv,by omega⟩
 split
 ·rfl
 first | rfl | (split<;>first | rfl | (rename_i q;exact absurd h q)) | simp[h]
theorem kH {m:List (Int×Int)}{c:Int}{out:CX}(h:oM m c out):L1 ⟨c,IX m⟩=(out,0):=by
 have e:IX m=out.vars:=fO (VL h.ok) h.asc (gA h.ok) (fun v hv=>(h.pos v hv).1) fun i=>by rw[TO h.ok,h.off i]
 unfold L1;simp only[e];rw[if_neg,if_neg (by have:=h.c1;omega)]
 ·have hc:=h.con;unfold Rh Jd at *;simp only;split
  ·rename_i q;rw[if_pos q] at hc;rw[←hc]
  rename_i q;rw[if_neg q] at hc;rw[←hc]
 simp only[List.any_eq_true,decide_eq_true_eq,not_exists,not_and];intro v hv;have:=(h.pos v hv).2;omega
theorem RF {l:CX}{n:Int}(hl:B0 l=true) (h0:0≤n) (h1:n≤100) :
  (F5 l n=(GB,15)∧(100<l.const+n∨∃v∈l.vars,100<v.plus+n)) ∨
  (F5 l n=(⟨J3 l n,l.vars.map (P1 n)⟩,0)∧l.const+n≤100∧∀v∈l.vars,v.plus+n≤100):=by
 have hl':=hl;simp only[B0,Bool.and_eq_true,decide_eq_true_eq] at hl';unfold F5;rw[if_neg (by simp[hl]),if_neg Au,if_neg Au];split
 ·rename_i q;refine .inl ⟨O,.inl ?_⟩;unfold J3 at q;split at q<;>omega
 rename_i q;split
 ·rename_i q';simp only[List.any_eq_true,decide_eq_true_eq] at q';obtain⟨v,h1,h2⟩:=q';exact .inl ⟨O,.inr ⟨v,h1,by omega⟩⟩
 rename_i q';simp only[List.any_eq_true,decide_eq_true_eq,not_exists,not_and] at q';refine .inr ⟨O,?_,fun v hv=>by have:=q' v hv;omega⟩;unfold J3 at q;split at q<;>omega
theorem fold_eq {ps:List CX}(hps:∀l∈ps,B0 l=true):∀(vs:List B6) (s:List (Int×Int)×Int) (out:CX),(∀v∈vs,0≤v.plus∧v.plus≤100∧v.index<ps.length)→oM s.1 s.2 out →
  L1 ⟨(vs.foldl (Es ps) s).2,IX (vs.foldl (Es ps) s).1⟩=Hr ps out vs
 | [],s,out,_,h=>kH h
 | v::vs,s,out,hv,h=>by
  obtain⟨p0,p1,pi⟩:=hv v Av;have hv':∀w∈vs,0≤w.plus∧w.plus≤100∧w.index<ps.length:=fun w hw=>hv w (by simp[hw]);have hb:∀w∈vs,0≤w.plus∧w.index<ps.length:=fun w hw=>⟨(hv' w hw).1,(hv' w hw).2.2⟩;rw[List.foldl_cons,Hr];by_cases hi:0≤v.index
  ·rw[if_pos ⟨hi,pi⟩];have hst:Es ps s v=Tu s (ps.getD v.index.toNat default) v.plus:=by unfold Es;rw[if_neg Au]
   have hmem:ps.getD v.index.toNat default∈ps:=by
    have hlt:v.index.toNat<ps.length:=by omega
    rw[List.getD_eq_getElem?_getD,List.getElem?_eq_getElem hlt];exact List.getElem_mem hlt
   rw[hst];generalize ps.getD v.index.toNat default=l at hmem ⊢;have hl:=hps l hmem;have hl':=hl;simp only[B0,Bool.and_eq_true,decide_eq_true_eq] at hl';have hpos:∀w∈l.vars,0≤w.plus+v.plus:=fun w hw=>by have:=(R1 (Jy hl'.2 w hw)).1;omega
   obtain⟨hm,ho⟩:=Om (n:=v.plus) l.vars s.1 h.ok hpos;rcases RF hl p0 p1 with ⟨e,q⟩ | ⟨e,q1,q2⟩
   ·rw[e,if_pos Av];have hB:iB (Tu s l v.plus):=by
     rcases q with q | ⟨w,q1,q2⟩
     ·exact .inr (by simp only[Tu];omega)
     refine .inl ⟨w.index,?_⟩;simp only[Tu,ho];have:=Mr (vs:=l.vars.map (P1 v.plus)) (v:=P1 v.plus w) (List.mem_map_of_mem q1);simp only[P1] at this;omega
    obtain⟨g1,g2⟩:=Yq hps vs (Tu s l v.plus) hb hm;exact pZ g1 (g2 hB)
   rw[e,if_neg Av];refine fold_eq hps vs _ _ hv' (Z8 h hm (lN (Nq hl'.2).1) (fun w hw=>?_) ho Au q1 ?_)
   ·simp only[List.mem_map] at hw;obtain⟨u,hu,rfl⟩:=hw;exact⟨by have:=hpos u hu;simp only[P1];omega,by have:=q2 u hu;simp only[P1];omega⟩
   simp only[J3];split
   ·exact .inl O
   rename_i q;simp only[not_or] at q;refine .inr ⟨O,?_⟩;obtain⟨w,hw⟩:=List.exists_mem_of_ne_nil _ q.2;exact⟨P1 v.plus w,List.mem_map_of_mem hw,by have:=(R1 (Jy hl'.2 w hw)).1;simp only[P1];omega⟩
  rw[if_neg Au];have hst:Es ps s v=(HM s.1 v.index v.plus,s.2):=by unfold Es;rw[if_pos Au]
  rw[hst];refine fold_eq hps vs _ _ hv' ?_;have:=Z8 (m':=HM s.1 v.index v.plus) (cx:=0) (x:=⟨0,[v]⟩) h (UK h.ok p0) (by simp[Mg]) (by simp;exact⟨p0,p1⟩) (fun i=>OZ h.ok p0 i) Au Au (.inl rfl)
  rwa [show max s.2 0=s.2 by have:=h.c0;omega] at this
theorem Pu:∀{vs:List B6},Mg vs→∀v∈vs,v.index≤Te vs
 | [w],_,v,hv=>by simp only[List.mem_singleton] at hv;subst hv;simp[Te]
 | w::u::vs,h,v,hv=>by
  rw[Mg,List.pairwise_cons] at h;have e:Te (w::u::vs)=Te (u::vs):=by simp[Te]
  rw[e];rcases List.mem_cons.1 hv with rfl | hv
  ·have:=h.1 u Av;have:=Pu h.2 u Av;omega
  exact Pu h.2 v hv
theorem iO (l:CX) (ps:List CX):Kr l ps=C4 l ps:=by
 unfold Kr C4;by_cases h1:B0 l=false∨ps.all B0=false
 ·rw[if_pos h1,if_pos h1]
 rw[if_neg h1,if_neg h1];by_cases h2:HV l > ps.length
 ·rw[if_pos h2,if_pos h2]
 rw[if_neg h2,if_neg h2];simp only[not_or,Bool.not_eq_false] at h1;have hl:=h1.1;simp only[B0,Bool.and_eq_true,decide_eq_true_eq] at hl;have hps:∀l∈ps,B0 l=true:=by simpa [List.all_eq_true] using h1.2
 have ha:=(Nq hl.2).1;refine fold_eq hps l.vars _ _ (fun v hv=>?_) ⟨Ro.nil,by simp[Mg],by simp,fun i=>by simp[Eb,K0,mg],hl.1.1,hl.1.2,by simp[Jd]⟩;have a:=R1 (Jy hl.2 v hv);refine⟨a.1,a.2,?_⟩;have:=Pu ha v hv;unfold HV at h2;rw[if_pos ⟨h1.1,List.ne_nil_of_mem hv⟩] at h2;omega
def F4 (ps:List CX):Int→List CX→List CX×Int
 | er,[]=>([],er)
 | er,l::ls=>((C4 l ps).1::(F4 ps (Gi er (C4 l ps).2) ls).1,(F4 ps (Gi er (C4 l ps).2) ls).2)
mutual
def JA (ps:List CX):Int→Tm→Tm×Int
 | er,.mk k i n ls ks=>(.mk k i n (F4 ps er ls).1 (HZ ps (F4 ps er ls).2 ks).1,(HZ ps (F4 ps er ls).2 ks).2)
def HZ (ps:List CX):Int→List Tm→List Tm×Int
 | er,[]=>([],er)
 | er,t::ts=>((JA ps er t).1::(HZ ps (JA ps er t).2 ts).1,(HZ ps (JA ps er t).2 ts).2)
end
def BU (t:Tm) (ps:List CX):Tm×Int:=if (JA ps 0 t).2≠0 then (BN,(JA ps 0 t).2) else ((JA ps 0 t).1,0)
inductive Out (α:Type) where
 | stuck
 | fail
 | ok (a:α)
def Out.bind {α β:Type}:Out α→(α→Out β)→Out β
 | .stuck,_=> .stuck
 | .fail,_=> .fail
 | .ok a,k=>k a
def TT (n:Int):Bool:=decide (-9223372036854775808≤n)&&decide (n≤9223372036854775807)
def cm (l:CX):Bool:=decide (l.vars.length<Db)&&TT l.const&&l.vars.all fun v=>TT v.index&&TT v.plus
def uc (k i:Int) (n:ByteArray) (ls:Nat):Bool:=(decide (i=0)||decide (k=0)||decide (k=12))&&(decide (n.size=0)||decide (k=3))&&(decide (ls=0)||decide (k=2)||decide (k=3))
mutual
def Uk:Tm→Bool
 | .mk k i n ls ks=>decide (n.size<Db)&&decide (ls.length<Db)&&ls.all cm&&decide (ks.length<Db)&&TT k&&TT i&&decide ((ks.length:Int)=arity k)&&(decide (k≠12)||decide (0≤i))&&(decide (k≠0)||decide (0≤i)&&decide (i<1099511627776))&&uc k i n ls.length&&Ma ks
def Ma:List Tm→Bool
 | []=>true
 | t::ts=>Uk t&&Ma ts
end
def okB (t:Tm):Bool:=Uk t&&decide (size t<549755813888)
def Out.chk {σ β:Type}(o:Out (Tm×σ)) (k:Tm×σ→Out β):Out β:=o.bind fun r=>if okB r.1=true then k r else .stuck
structure Sys (σ:Type) where
 over:σ→Bool
 res:σ→Tm→Int→Option σ
 many:Nat→Bool
def Sys.put {σ α:Type}(S:Sys σ) (s:σ) (x:Tm×Int) (k:Tm→σ→Out α):Out α :=
 if okB x.1=true then (match S.res s x.1 x.2 with
  | none=> .fail
  | some s'=>k x.1 s')
 else .stuck
def Dn.result (c:Dn) (t:Tm) (e:Int):Dn:=({ c with steps:=wr (c.steps+1),nodes:=wr (c.nodes+FG t) }).form t e
def DK:Sys Dn:=⟨Dn.over,fun c t e=>some (c.result t e),fun _=>false⟩
def CE:Sys Int:=⟨fun _=>false,fun n t e=>if n - 1<0∨e≠0 then none else some (n - 1),fun k=>decide (40960<k)⟩
def Hz:Tm→List Tm×Tm
 | .mk k i n l [a,b]=>if k=6 then (a::(Hz b).1,(Hz b).2) else ([],.mk k i n l [a,b])
 | t=>([],t)
section
variable (E:List B8)
def CR (i:Int):B8:=E.getD i.toNat default
def EM (d:B8) (j:Int):LQ:=d.ctors.getD j.toNat default
def Gh (d:B8) (j:Int):I9:=d.funs.getD j.toNat default
def aZ (t:Tm):Int:=((Hz t).1.length:Int)
def Ed (d:B8) (j:Int):Int:=max 0 (aZ (EM d j).type - d.fixed)
def GU (nm:ByteArray):Option (B8×Int) :=
 if (BY E nm).2≠0 then none
 else if (BY E nm).1.kind=3 then some (CR E (BY E nm).1.decl,-1)
 else if (BY E nm).1.kind=4 then some (CR E (BY E nm).1.decl,(BY E nm).1.item)
 else if (BY E nm).1.kind=5 then some (CR E (BY E nm).1.decl,-2)
 else none
def Ce (t:Tm):Option (B8×Int×List Tm) :=
 if (Ay t).1.kind≠3 then none
 else match GU E (Ay t).1.name with
  | none=>none
  | some (d,j)=>if j<0 then none else if ((Ay t).2.length:Int)≠d.fixed+Ed d j then none else some (d,j,(Ay t).2.drop d.fixed.toNat)
def Mw (d:B8):Int:=max 0 (aZ d.type - d.fixed)
def Bv (d:B8):Int:=d.fixed+1+d.ctors.length+Mw d
def Cl (nm:ByteArray):List G3→Option FY
 | []=>none
 | b::l=>if b.ctor=nm then (if b.absurd=true then none else some b.tree) else Cl nm l
def Gx (h:Tm):Option IJ:=if (BY E h.name).2=0∧(h.levels.length:Int)=(BY E h.name).1.params then some (BY E h.name).1 else none
variable {σ:Type}(S:Sys σ)
def EA (W:σ→Tm→Out (Tm×σ)):Nat→FY→List Tm→Tm→σ→Out ((Option (Tm×List Tm)×Tm)×σ)
 | 0,_,_,_,_=> .stuck
 | n+1,t,vars,last,s =>
  if t.kind=1 then
   if t.var<0∨t.var≥(vars.length:Int)∨S.over s=true then .ok ((none,last),s)
   else (W s (vars.getD t.var.toNat default)).chk fun r=>match Ce E r.1 with
    | none=> .ok ((none,r.1),r.2)
    | some (d,j,fields)=>match Cl (EM d j).name t.branches with
     | none=> .ok ((none,r.1),r.2)
     | some t'=>EA W n t' (vars++fields) r.1 r.2
  else .ok ((some (t.body,vars),BN),s)
def EP (d:B8) (h:Tm) (a:List Tm) (s:σ):Out (Option Tm×σ) :=
 if (BU d.value h.levels).2≠0 then .ok (none,s)
 else S.put s ((BU d.value h.levels).1,0) fun t s'=> .ok (some (apply t a),s')
def XK (d:B8) (j:Int):Tm:=d.recs.rules.getD j.toNat default
def ER (d:B8) (h:Tm) (a:List Tm) (m:Tm) (s:σ):Out (Option Tm×σ):=match Ce E m with
 | none=> .ok (none,s)
 | some (e,j,fields) =>
  if e.name≠d.name∨j≥(d.recs.rules.length:Int) then .ok (none,s)
  else if (BU (XK d j) h.levels).2≠0 then .ok (none,s)
  else S.put s (apply (apply (BU (XK d j) h.levels).1 (a.take (d.fixed+1+d.ctors.length).toNat)) fields,0) fun t s'=> .ok (some (apply t (a.drop (Bv d+1).toNat)),s')
def FE (h:Tm) (b:Tm) (vars:List Tm) (rest:List Tm) (s:σ):Out (Option Tm×σ) :=
 if (BU b h.levels).2≠0 then .ok (none,s)
 else if okB (BU b h.levels).1=false∨vars.all okB=false∨1125899906842624≤BB vars then .stuck
 else S.put s (B9 (BU b h.levels).1 vars.reverse 0) fun t s'=> .ok (some (apply t rest),s')
def Iw (W:σ→Tm→Out (Tm×σ)) (n:Nat) (f:I9) (h:Tm) (a:List Tm) (s:σ):Out (Option Tm×σ) :=
 if (a.length:Int)<f.arity then .ok (none,s)
 else (EA E S W n f.tree (a.take f.arity.toNat) BN s).bind fun q=>match q.1.1 with
  | none=> .ok (none,q.2)
  | some (b,vars)=>if S.over q.2=true then .ok (none,q.2) else FE S h b vars (a.drop f.arity.toNat) q.2
def QE (W:σ→Tm→Out (Tm×σ)) (d:B8) (h:Tm) (a:List Tm) (s:σ):Out (Option Tm×σ) :=
 if (a.length:Int)≤Bv d then .ok (none,s)
 else (W s (a.getD (Bv d).toNat default)).chk fun r=>ER E S d h a r.1 r.2
def Dc (W:σ→Tm→Out (Tm×σ)) (n:Nat) (h:Tm) (a:List Tm) (s:σ):Out (Option Tm×σ):=match Gx E h with
 | none=> .ok (none,s)
 | some x =>
  if x.kind=1 then EP S (CR E x.decl) h a s
  else if x.kind=5 then QE E S W (CR E x.decl) h a s
  else if x.kind=6 then Iw E S W n (Gh (CR E x.decl) x.item) h a s
  else .ok (none,s)
def Ha (k:Int) (p:Tm):Tm:= .mk k 0 ⟨#[]⟩ [] [p]
def KC (h:Tm) (a:List Tm) (s:σ) {α:Type}(k:Tm→σ→Out α):Out α:=match h.kids[1]? with
 | none=> .stuck
 | some b=>S.put s (B9 b (a.take 1) 0) fun x s'=>k (apply x (a.drop 1)) s'
def OV (h:Tm) (a:List Tm) (s:σ) {α:Type}(k:Tm→σ→Out α):Out α:=match h.kids[1]?,h.kids[2]? with
 | some v,some b=>S.put s (B9 b [v] 0) fun x s'=>k (apply x a) s'
 | _,_=> .stuck
def Jf (h p:Tm) (a:List Tm) (s:σ) {α:Type}(k:Tm→σ→Out α):Out α:=match p.kids[(1+h.kind - 9).toNat]? with
 | none=> .stuck
 | some q=>S.put s (q,0) fun x s'=>k (apply x a) s'
def FM:Nat→σ→Tm→Out (Tm×σ)
 | 0,_,_=> .stuck
 | n+1,s,t =>
  if okB t=false then .stuck
  else if S.over s=true then .ok (t,s)
  else if S.many (Ay t).2.length=true then .fail
  else if (Ay t).1.kind=5 then
   (if (Ay t).2.length=0 then .ok (t,s) else KC S (Ay t).1 (Ay t).2 s fun x s'=>FM n s' x)
  else if (Ay t).1.kind=11 then OV S (Ay t).1 (Ay t).2 s fun x s'=>FM n s' x
  else if (Ay t).1.kind=9∨(Ay t).1.kind=10 then match (Ay t).1.kids[0]? with
   | none=> .stuck
   | some p=>(FM n s p).chk fun r =>
    if r.1.kind≠8 then .ok (apply (Ha (Ay t).1.kind r.1) (Ay t).2,r.2)
    else Jf S (Ay t).1 r.1 (Ay t).2 r.2 fun x s'=>FM n s' x
  else if (Ay t).1.kind=3 then (Dc E S (FM n) n (Ay t).1 (Ay t).2 s).bind fun r=>match r.1 with
   | none=> .ok (t,r.2)
   | some x=>FM n r.2 x
  else .ok (t,s)
def Ic:Tm→List Int→Tm→Option Tm
 | _,[],x=>some x
 | t,p::ps,x=>match (Ay t).2[p.toNat]? with
  | none=>none
  | some y=>(Ic y ps x).map fun z=>apply (Ay t).1 ((Ay t).2.set p.toNat z)
def De (a:Int×List Int) (fx:Int) (n:Nat):List (Int×List Int):=(List.range n).map fun i:Nat=>(a.1,a.2++[fx+(i:Int)])
def Fs (T:σ→Tm→Out (Option Tm×σ)) (h:Tm) (ar:Int) (a:List Tm):Nat→FY→List Tm→List (Int×List Int)→σ→Out (Option Tm×σ)
 | 0,_,_,_,_=> .stuck
 | n+1,t,vars,pl,s =>
  if t.kind=1 then
   if t.var<0∨t.var≥(vars.length:Int) then .ok (none,s)
   else match Ce E (vars.getD t.var.toNat default) with
    | none=>(T s (vars.getD t.var.toNat default)).bind fun r=>match r.1 with
     | none=> .ok (none,r.2)
     | some x=>match Ic (a.getD (pl.getD t.var.toNat default).1.toNat default) (pl.getD t.var.toNat default).2 x with
      | none=> .stuck
      | some y=> .ok (some (apply h (a.set (pl.getD t.var.toNat default).1.toNat y)),r.2)
    | some (d,j,fields)=>match Cl (EM d j).name t.branches with
     | none=> .ok (none,s)
     | some t'=>Fs T h ar a n t' (vars++fields) (pl++De (pl.getD t.var.toNat default) d.fixed fields.length) s
  else FE S h t.body vars (a.drop ar.toNat) s
def Di:Nat→σ→Tm→Out (Option Tm×σ)
 | 0,_,_=> .stuck
 | n+1,s,t =>
  if okB t=false then .stuck
  else if (Ay t).1.kind=5 then
   (if (Ay t).2.length=0 then .ok (none,s) else KC S (Ay t).1 (Ay t).2 s fun x s'=> .ok (some x,s'))
  else if (Ay t).1.kind=11 then OV S (Ay t).1 (Ay t).2 s fun x s'=> .ok (some x,s')
  else if (Ay t).1.kind=9∨(Ay t).1.kind=10 then match (Ay t).1.kids[0]? with
   | none=> .stuck
   | some p =>
    if p.kind=8 then Jf S (Ay t).1 p (Ay t).2 s fun x s'=> .ok (some x,s')
    else (Di n s p).bind fun r=>match r.1 with
     | none=> .ok (none,r.2)
     | some x=> .ok (some (apply (Ha (Ay t).1.kind x) (Ay t).2),r.2)
  else if (Ay t).1.kind=3 then match Gx E (Ay t).1 with
   | none=> .ok (none,s)
   | some x =>
    if x.kind=1 then EP S (CR E x.decl) (Ay t).1 (Ay t).2 s
    else if x.kind=5∧((Ay t).2.length:Int) > Bv (CR E x.decl) then match Ce E ((Ay t).2.getD (Bv (CR E x.decl)).toNat default) with
     | some _=>ER E S (CR E x.decl) (Ay t).1 (Ay t).2 ((Ay t).2.getD (Bv (CR E x.decl)).toNat default) s
     | none=>(Di n s ((Ay t).2.getD (Bv (CR E x.decl)).toNat default)).bind fun r=>match r.1 with
      | none=> .ok (none,r.2)
      | some y=> .ok (some (apply (Ay t).1 ((Ay t).2.set (Bv (CR E x.decl)).toNat y)),r.2)
    else if x.kind=6∧((Ay t).2.length:Int)≥(Gh (CR E x.decl) x.item).arity then
     Fs E S (Di n) (Ay t).1 (Gh (CR E x.decl) x.item).arity (Ay t).2 n (Gh (CR E x.decl) x.item).tree ((Ay t).2.take (Gh (CR E x.decl) x.item).arity.toNat) ((List.range (Gh (CR E x.decl) x.item).arity.toNat).map fun i:Nat=>((i:Int),[])) s
    else .ok (none,s)
  else .ok (none,s)
end
def v8 (k i:Int) (n:ByteArray) (ls:List CX) (ks:Nat):Bool:=decide (n.size<Db)&&decide (ls.length<Db)&&ls.all cm&&decide (ks<Db)&&TT k&&TT i&&decide ((ks:Int)=arity k)&&(decide (k≠12)||decide (0≤i))&&(decide (k≠0)||decide (0≤i)&&decide (i<1099511627776))&&uc k i n ls.length
theorem Lg (k i:Int) (n:ByteArray) (ls:List CX) (ks:List Tm):Uk (.mk k i n ls ks)=(v8 k i n ls ks.length&&Ma ks):=by rw[Uk,v8]
theorem J5:∀{ts:List Tm},Ma ts=true↔∀t∈ts,Uk t=true
 | []=>by simp[Ma]
 | t::ts=>by simp only[Ma,Bool.and_eq_true,J5 (ts:=ts),List.mem_cons,forall_eq_or_imp]
theorem qS {l:CX}(h:cm l=true):OA l:=by
 simp only[cm,TT,Bool.and_eq_true,decide_eq_true_eq,List.all_eq_true] at h;exact⟨h.1.1,h.1.2,fun v hv=>h.2 v hv⟩
theorem eP {l:CX}(h:OA l):cm l=true:=by
 simp only[cm,TT,Bool.and_eq_true,decide_eq_true_eq,List.all_eq_true];exact⟨⟨h.vars,h.c⟩,fun v hv=>h.v v hv⟩
mutual
def Ci:Tm→Prop
 | .mk k i n ls ks=>uc k i n ls.length=true∧eM ks
def eM:List Tm→Prop
 | []=>True
 | t::ts=>Ci t∧eM ts
end
theorem aG:∀{ts:List Tm},eM ts→∀i,Ci (ts.getD i BN)
 | [],_,i=>⟨by decide,trivial⟩
 | t::ts,h,0=>h.1
 | t::ts,h,i+1=>aG (ts:=ts) h.2 i
mutual
theorem Nx:∀(t:Tm),Uk t=true→Nd t∧Wt t∧Vp t∧Ci t
 | .mk k i n ls ks,h=>by
  rw[Lg,Bool.and_eq_true] at h;obtain⟨h1,h2⟩:=h;simp only[v8,TT,Bool.and_eq_true,Bool.or_eq_true,decide_eq_true_eq,List.all_eq_true] at h1;obtain⟨a,b,c,d⟩:=OY ks h2;obtain⟨⟨⟨⟨⟨⟨⟨⟨⟨g1,g2⟩,g3⟩,g4⟩,g5⟩,g6⟩,g7⟩,g8⟩,g9⟩,gc⟩:=h1;refine⟨⟨g1,g2,fun l hl=>qS (g3 l hl),g4,a,g5,g6⟩,⟨g7,fun e=>?_,b⟩,⟨fun e=>?_,c⟩,gc,d⟩
  ·rcases g8 with g | g
   ·exact absurd e g
   exact g
  rcases g9 with g | g
  ·exact absurd e g
  exact g
theorem OY:∀(ts:List Tm),Ma ts=true→M6 ts∧MY ts∧Uh ts∧eM ts
 | [],_=>⟨trivial,trivial,trivial,trivial⟩
 | t::ts,h=>by
  simp only[Ma,Bool.and_eq_true] at h;obtain⟨a,b,c,d⟩:=Nx t h.1;obtain⟨a',b',c',d'⟩:=OY ts h.2;exact⟨⟨a,a'⟩,⟨b,b'⟩,⟨c,c'⟩,d,d'⟩
end
mutual
theorem Vc:∀(t:Tm),Nd t→Wt t→Vp t→Ci t→Uk t=true
 | .mk k i n ls ks,h1,h2,h3,h4=>by
  rw[Lg,Bool.and_eq_true];simp only[Nd] at h1;simp only[Wt] at h2;simp only[Vp] at h3;obtain⟨a1,a2,a3,a4,a5,a6,a7⟩:=h1;refine⟨?_,S7 ks a5 h2.2.2 h3.2 h4.2⟩;simp only[v8,TT,Bool.and_eq_true,Bool.or_eq_true,decide_eq_true_eq,List.all_eq_true];refine⟨⟨⟨⟨⟨⟨⟨⟨⟨a1,a2⟩,fun l hl=>eP (a3 l hl)⟩,a4⟩,a6⟩,a7⟩,h2.1⟩,?_⟩,?_⟩,h4.1⟩
  ·by_cases e:k=12
   ·exact .inr (h2.2.1 e)
   exact .inl e
  by_cases e:k=0
  ·exact .inr (h3.1 e)
  exact .inl e
theorem S7:∀(ts:List Tm),M6 ts→MY ts→Uh ts→eM ts→Ma ts=true
 | [],_,_,_,_=>rfl
 | t::ts,h1,h2,h3,h4=>by
  simp only[Ma,Bool.and_eq_true];exact⟨Vc t h1.1 h2.1 h3.1 h4.1,S7 ts h1.2 h2.2 h3.2 h4.2⟩
end
structure yY (t:Tm):Prop where
 nd:Nd t
 wt:Wt t
 vp:Vp t
 ci:Ci t
 sz:size t<549755813888
theorem Bu {t:Tm}:okB t=true↔yY t:=by
 simp only[okB,Bool.and_eq_true,decide_eq_true_eq];exact⟨fun h=>by obtain⟨a,b,c,d⟩:=Nx t h.1;exact⟨a,b,c,d,h.2⟩,fun h=>⟨Vc t h.nd h.wt h.vp h.ci,h.sz⟩⟩
theorem OO {t:Tm}(h:Uk t=true) (hs:size t<549755813888):okB t=true:=by simp[okB,h,hs]
theorem KQ {t:Tm}(h:okB t=true):Uk t=true:=by simp only[okB,Bool.and_eq_true] at h;exact h.1
theorem Ft {t:Tm}(h:okB t=true):size t<549755813888:=by simp only[okB,Bool.and_eq_true,decide_eq_true_eq] at h;exact h.2
theorem Fh {t x:Tm}{i:Nat}(h:okB t=true) (hx:t.kids[i]?=some x):okB x=true:=by
 have h1:=KQ h;have h2:=Ft h;obtain⟨k,j,n,ls,ks⟩:=t;rw[Lg,Bool.and_eq_true] at h1;simp only[size] at h2;simp only[Tm.kids] at hx;have:=CU hx;exact OO (J5.1 h1.2 x (List.mem_of_getElem? hx)) Au
theorem WR:∀(t:Tm),Uk t=true→Uk (Ay t).1=true∧Ma (Ay t).2=true
 | .mk k i n l [f,a],h=>by
  unfold Ay;split
  ·rw[Lg,Bool.and_eq_true] at h;simp only[Ma,Bool.and_eq_true] at h;obtain⟨h1,h2⟩:=WR f h.2.1;refine⟨h1,J5.2 fun x hx=>?_⟩;rcases List.mem_append.1 hx with hx | hx
   ·exact J5.1 h2 x hx
   rw[List.mem_singleton.1 hx];exact h.2.2.1
  ·exact⟨h,O⟩
 | .mk k i n l [],h=>⟨h,rfl⟩
 | .mk k i n l [_],h=>⟨h,rfl⟩
 | .mk k i n l (_::_::_::_),h=>⟨h,rfl⟩
theorem DB {t:Tm}(h:okB t=true):okB (Ay t).1=true∧∀x∈(Ay t).2,okB x=true:=by
 simp only[okB,Bool.and_eq_true,decide_eq_true_eq] at h ⊢;obtain⟨h1,h2⟩:=WR t h.1;have hs:=JU t;refine⟨⟨h1,by omega⟩,fun x hx=>⟨J5.1 h2 x hx,?_⟩⟩;obtain⟨i,hi⟩:=List.mem_iff_getElem?.1 hx;have:=CU hi;omega
theorem oW {f a:Tm}(h1:Uk f=true) (h2:Uk a=true):Uk (GJ f a)=true:=by
 rw[GJ,Lg,Bool.and_eq_true];exact⟨O,by simp[Ma,h1,h2]⟩
theorem Jt:∀{xs:List Tm}{f:Tm},Uk f=true→(∀x∈xs,Uk x=true)→Uk (apply f xs)=true
 | [],f,h,_=>h
 | x::xs,f,h,hx=>by
  rw[apply,List.foldl_cons];exact Jt (oW h (hx x Av)) fun y hy=>hx y (by simp[hy])
theorem Cm:∀(xs:List Tm) (f:Tm),size (apply f xs)=size f+BB xs+xs.length
 | [],f=>by simp[apply,BB]
 | x::xs,f=>by
  have:=Cm xs (GJ f x);rw[apply] at this ⊢;rw[List.foldl_cons,this];simp only[GJ,size,BB,List.length_cons];omega
theorem qt (m:CX):((B4 m).map AV.p).all one=true:=rfl
def Kn (l:List B6) (i:Nat):Option Int:=if i=0 then none else (l[i - 1]?).map B6.index
def Cz (c:Int) (l:List B6) (i:Nat):Bool:=GX c (Kn l i) (l.drop i)
theorem Pp {c:Int}{l:List B6}{i:Nat}{v:B6}(h:l[i]?=some v):Cz c l i=(Wp c v&&KH (Kn l i) v.index&&Cz c l (i+1)):=by
 have e:Kn l (i+1)=some v.index:=by simp[Kn,h]
 rw[Cz,Cd h,GX,Cz,e]
theorem kf {c:Int}{l:List B6}{i:Nat}(h:l.length≤i):Cz c l i=true:=by
 rw[Cz,List.drop_eq_nil_of_le h];rfl
theorem XX (l:CX):B0 l=(decide (0≤l.const)&&decide (l.const≤100)&&Cz l.const l.vars 0):=rfl
theorem jq {c:Int}{l:List B6}{i:Nat}{v:B6}(h:l[i]?=some v) (hb:Wp c v=false):Cz c l i=false:=by rw[Pp h,hb];rfl
theorem qE {c:Int}{l:List B6}{i:Nat}{v:B6}(h:l[i]?=some v) (h1:Wp c v=true) (h2:KH (Kn l i) v.index=true):Cz c l i=Cz c l (i+1):=by rw[Pp h,h1,h2];simp
theorem jO {l:CX}(h:l.const<0∨100<l.const):false=B0 l:=by
 rw[XX];rcases h with h | h
 ·rw[decide_eq_false Au];rfl
 rw[decide_eq_false (p:=l.const≤100) Au];simp
theorem Xx {l:CX}{i:Nat}(h:Cz l.const l.vars 0=Cz l.const l.vars i) (hb:Cz l.const l.vars i=false):false=B0 l:=by
 rw[XX,h,hb];simp
theorem qW {l:CX}{i:Nat}(h0:0≤l.const) (h1:l.const≤100) (h:Cz l.const l.vars 0=Cz l.const l.vars i) (hb:l.vars.length≤i):true=B0 l:=by
 rw[XX,h,kf hb,decide_eq_true h0,decide_eq_true h1];rfl
theorem kn {c:Int}{v:B6}(h:((v.index < -65536∨8≤v.index)∨v.plus<0)∨100<v.plus):Wp c v=false:=by
 simp only[Wp,Bool.and_eq_false_iff,decide_eq_false_iff_not];omega
theorem oo {c:Int}{v:B6}(h1:0<c) (h:c≤v.plus):Wp c v=false:=by
 simp only[Wp,Bool.and_eq_false_iff,Bool.or_eq_false_iff,decide_eq_false_iff_not];omega
theorem W6 {c:Int}{v:B6}(h: -65536≤v.index∧v.index<8∧0≤v.plus∧v.plus≤100) (h1:0<c→v.plus<c):Wp c v=true:=by
 simp only[Wp,Bool.and_eq_true,Bool.or_eq_true,decide_eq_true_eq];refine⟨⟨⟨⟨h.1,h.2.1⟩,h.2.2.1⟩,h.2.2.2⟩,?_⟩;by_cases q:c≤0
 ·exact .inl q
 exact .inr (h1 Au)
theorem qI {l:List CX}{i:Nat}{x:CX}(hx:l[i]?=some x) (h:B0 x=false):false=l.all B0:=by
 symm;rw[List.all_eq_false];exact⟨x,List.mem_of_getElem? hx,by simp[h]⟩
theorem mF {l:List CX}(h:∀j,j<l.length→∀y,l[j]?=some y→B0 y=true):true=l.all B0:=by
 symm;rw[List.all_eq_true];intro x hx;obtain⟨j,hj⟩:=List.mem_iff_getElem?.1 hx;exact h j (List.getElem?_eq_some_iff.1 hj).1 x hj
theorem aD {l:CX}(h:B0 l=true):0≤l.const∧l.const≤100:=by
 simp only[B0,Bool.and_eq_true,decide_eq_true_eq] at h;exact h.1
theorem L8 {l:CX}{i:Nat}{x:B6}(h:B0 l=true) (hx:l.vars[i]?=some x):(0≤x.plus∧x.plus≤100)∧ -65536≤x.index∧x.index<8:=by
 simp only[B0,Bool.and_eq_true,decide_eq_true_eq] at h;have:=Jy h.2 x (List.mem_of_getElem? hx);simp only[Wp,Bool.and_eq_true,decide_eq_true_eq] at this;exact⟨⟨this.1.1.2,this.1.2⟩,this.1.1.1⟩
theorem Yp {l:CX}(h:B0 l=false∨l.vars.length=0):(0:Int)=HV l:=by
 unfold HV;rw[if_neg];rintro⟨h1,h2⟩;rcases h with h | h
 ·rw[h] at h1;cases h1
 exact h2 (List.length_eq_zero_iff.1 h)
theorem YL {l:CX}{x:B6}{i:Nat}(h:B0 l=true) (hx:l.vars[i]?=some x) (hi:i=l.vars.length - 1):max 0 (x.index+1)=HV l:=by
 unfold HV;have hne:l.vars≠[]:=by intro e;simp[e] at hx
 rw[if_pos ⟨h,hne⟩,Te,←hi,List.getD_eq_getElem?_getD,hx];rfl
theorem yd {l:CX}{n:Int}(h:B0 l=false):F5 l n=(GB,3):=by rw[F5,if_pos h]
theorem yP {l:CX}{n:Int}(h:B0 l=true) (h1:n<0):F5 l n=(GB,2):=by rw[F5,if_neg (by simp[h]),if_pos h1]
theorem yT {l:CX}{n:Int}(h:B0 l=true) (h0:0≤n) (h1:100<n):F5 l n=(GB,15):=by rw[F5,if_neg (by simp[h]),if_neg Au,if_pos h1]
theorem yX {l:CX}{n:Int}(h:B0 l=true) (h0:0≤n) (h1:n≤100) (h2:100<J3 l n):F5 l n=(GB,15):=by rw[F5,if_neg (by simp[h]),if_neg Au,if_neg Au,if_pos h2]
theorem yC {l:CX}{n:Int}{i:Nat}{x:B6}(h:B0 l=true) (h0:0≤n) (h1:n≤100) (h2:J3 l n≤100) (hx:l.vars[i]?=some x) (h3:100<x.plus+n):F5 l n=(GB,15):=by
 rw[F5,if_neg (by simp[h]),if_neg Au,if_neg Au,if_neg Au,if_pos];rw[List.any_eq_true];exact⟨x,List.mem_of_getElem? hx,by simpa using h3⟩
theorem yH {l:CX}{n:Int}(h:B0 l=true) (h0:0≤n) (h1:n≤100) (h2:J3 l n≤100) (h3:∀j,j<l.vars.length→∀y,l.vars[j]?=some y→¬100<y.plus+n):F5 l n=(⟨J3 l n,l.vars.map (P1 n)⟩,0):=by
 rw[F5,if_neg (by simp[h]),if_neg Au,if_neg Au,if_neg Au,if_neg];rw[List.any_eq_true];rintro⟨x,hx,hq⟩;obtain⟨j,hj⟩:=List.mem_iff_getElem?.1 hx;exact h3 j (List.getElem?_eq_some_iff.1 hj).1 x hj (by simpa using hq)
theorem Nh {l:CX}{n:Int}(h:0<l.const∨l.vars.length=0):J3 l n=l.const+n:=by
 unfold J3;rw[if_pos];rcases h with h | h
 ·exact .inl h
 exact .inr (List.length_eq_zero_iff.1 h)
theorem Qn {l:CX}{n:Int}(h:¬(0<l.const∨l.vars.length=0)):J3 l n=0:=by
 unfold J3;rw[if_neg];rintro(q | q)
 ·exact h (.inl q)
 exact h (.inr (by simp[q]))
theorem Q2 {l:List B6}{i j:Nat}{u:B6}{x:Int}(hj:l[j]?=some u) (he:i=j+1):(!KH (Kn l i) x)=decide (u.index≥x):=by
 subst he;have e:Kn l (j+1)=some u.index:=by simp[Kn,hj]
 rw[e];simp only[KH];rw[←decide_not,decide_eq_decide];omega
theorem Oo {l:List B6}{i:Nat}{x:Int}(h:¬(i:Int) > 0):(!KH (Kn l i) x)=false:=by
 have:i=0:=by omega
 subst this;rfl
theorem jV {x y:B6}{a b:List B6}(h:y.index<x.index):Dg (x::a) (y::b)=y::Dg (x::a) b:=by
 rw[Dg,GV,if_neg Au,if_pos h];rfl
def Rm (a b:List B6) (i k:Nat):Bool:=(k==b.length)||(match a[i]?,b[k]? with
 | some x,some y=>decide (x.index<y.index)
 | _,_=>false)
def ZK (a b:List B6) (i k:Nat):Bool:=(i==a.length)||(match a[i]?,b[k]? with
 | some x,some y=>decide (y.index<x.index)
 | _,_=>false)
section
variable {a b:List B6}{i k:Nat}{vs:List B6}{m:Int}{x y:B6}
theorem Pk (h:k=b.length):true=Rm a b i k:=by simp[Rm,h]
theorem SG (h:a.length≤i) (hk:k≠b.length):false=Rm a b i k:=by simp[Rm,hk,List.getElem?_eq_none h]
theorem PI (hx:a[i]?=some x) (hy:b[k]?=some y):decide (x.index<y.index)=Rm a b i k:=by
 have:=(List.getElem?_eq_some_iff.1 hy).1;simp only[Rm,hx,hy];rw[show (k==b.length)=false by simp;omega,Bool.false_or]
theorem UY (h:i=a.length):true=ZK a b i k:=by simp[ZK,h]
theorem No (hx:a[i]?=some x) (hy:b[k]?=some y):decide (y.index<x.index)=ZK a b i k:=by
 have:=(List.getElem?_eq_some_iff.1 hx).1;simp only[ZK,hx,hy];rw[show (i==a.length)=false by simp;omega,Bool.false_or]
theorem pw (h:Rm a b i k=true) (hc:i<a.length∨k<b.length):i<a.length:=by
 by_cases q:k=b.length
 ·omega
 by_cases q':a.length≤i
 ·rw[←SG q' q] at h;cases h
 omega
theorem qh (h:Rm a b i k=false) (hk:k≤b.length):k<b.length:=by
 by_cases q:k=b.length
 ·rw[←Pk q] at h;cases h
 omega
theorem ou (h:ZK a b i k=false) (hi:i≤a.length):i<a.length:=by
 by_cases q:i=a.length
 ·rw[←UY q] at h;cases h
 omega
structure Of (a b:List B6) (i k:Nat) (vs:List B6) (m:Int):Prop where
 hi:i≤a.length
 hk:k≤b.length
 eq:vs++Dg (a.drop i) (b.drop k)=Dg a b
 mo:m=OD vs
 ln:vs.length≤i+k
theorem QG (vs:List B6) (v:B6):OD (vs++[v])=max (OD vs) v.plus:=by simp[OD]
theorem Of.zero:Of a b 0 0 [] 0:=⟨by omega,by omega,by simp,rfl,by simp⟩
theorem Of.left (h:Of a b i k vs m) (hx:a[i]?=some x) (hs:Rm a b i k=true):Of a b (i+1) k (vs++[x]) (max m x.plus):=by
 have hl:=(List.getElem?_eq_some_iff.1 hx).1;have:=h.ln;refine⟨hl,h.hk,?_,by rw[QG,←h.mo],by simp;omega⟩;rw[←h.eq,Cd hx,List.append_assoc];congr 1;by_cases q:k<b.length
 ·obtain⟨y,hy⟩:∃y,b[k]?=some y:=⟨_,List.getElem?_eq_getElem q⟩;rw[←PI hx hy,decide_eq_true_eq] at hs;rw[Cd hy,Dg,GV,if_pos hs];rfl
 rw[List.drop_eq_nil_of_le (show b.length≤k by omega),Dg,GV];rfl
theorem Of.right (h:Of a b i k vs m) (hy:b[k]?=some y) (hs:Rm a b i k=false) (h2:ZK a b i k=true):Of a b i (k+1) (vs++[y]) (max m y.plus):=by
 have hl:=(List.getElem?_eq_some_iff.1 hy).1;have:=h.ln;refine⟨h.hi,hl,?_,by rw[QG,←h.mo],by simp;omega⟩;rw[←h.eq,Cd hy,List.append_assoc];congr 1;by_cases q:i<a.length
 ·obtain⟨x,hx⟩:∃x,a[i]?=some x:=⟨_,List.getElem?_eq_getElem q⟩;rw[←No hx hy,decide_eq_true_eq] at h2;rw[Cd hx,jV h2];rfl
 rw[List.drop_eq_nil_of_le (show a.length≤i by omega),Dg,Dg];rfl
theorem Of.both (h:Of a b i k vs m) (hx:a[i]?=some x) (hy:b[k]?=some y) (hs:Rm a b i k=false) (h2:ZK a b i k=false):Of a b (i+1) (k+1) (vs++[⟨x.index,max x.plus y.plus⟩]) (max m (max x.plus y.plus)):=by
 have hl:=(List.getElem?_eq_some_iff.1 hx).1;have hl':=(List.getElem?_eq_some_iff.1 hy).1;have:=h.ln;rw[←PI hx hy,decide_eq_false_iff_not] at hs;rw[←No hx hy,decide_eq_false_iff_not] at h2;refine⟨hl,hl',?_,by rw[QG,←h.mo],by simp;omega⟩;rw[←h.eq,Cd hx,Cd hy,List.append_assoc,Dg,GV,if_neg hs,if_neg h2];rfl
theorem Of.fin (h:Of a b i k vs m) (hc:¬(i<a.length∨k<b.length)):vs=Dg a b∧m=OD vs:=by
 refine⟨?_,h.mo⟩;rw[←h.eq,List.drop_eq_nil_of_le Au,List.drop_eq_nil_of_le Au];simp[Dg]
end
theorem yg {p q:CX}{vs:List B6}{m:Int}(h:vs=Dg p.vars q.vars∧m=OD vs) (h1:0<vs.length) (h2:max p.const q.const≤m):Ja p q=⟨0,vs⟩:=by
 rw[Ja,S0,←h.1,if_pos ⟨List.ne_nil_of_length_pos h1,by rw[←h.2];exact h2⟩]
theorem yf {p q:CX}{vs:List B6}{m:Int}(h:vs=Dg p.vars q.vars∧m=OD vs) (h1:¬(0<vs.length∧max p.const q.const≤m)):Ja p q=⟨max p.const q.const,vs⟩:=by
 rw[Ja,S0,←h.1,if_neg];rintro⟨a,b⟩;exact h1 ⟨List.length_pos_iff.2 a,by rw[h.2];exact b⟩
theorem XV:∀{vs:List B6}{lo:Int},Mg vs→(∀v∈vs,lo≤v.index∧v.index<8)→lo≤8→(vs.length:Int)≤8 - lo
 | [],lo,_,_,h=>by simp;omega
 | x::vs,lo,ha,hv,h=>by
  rw[Mg,List.pairwise_cons] at ha;have hx:=hv x Av;have:=XV (vs:=vs) (lo:=x.index+1) ha.2 (fun v hv'=>⟨by have:=ha.1 v hv';omega,(hv v (by simp[hv'])).2⟩) Au;simp only[List.length_cons];omega
structure Jx (l:CX):Prop where
 c:0≤l.const∧l.const≤100
 asc:Mg l.vars
 rg:∀v∈l.vars,(0≤v.plus∧v.plus≤100)∧ -65536≤v.index∧v.index<8
theorem Jx.len {l:CX}(h:Jx l):l.vars.length≤65544:=by
 have:=XV (lo:= -65536) h.asc (fun v hv=>(h.rg v hv).2) Au;omega
theorem Jx.nd {l:CX}(h:Jx l):OA l :=
 ⟨by have:=h.len;simp only[Db];omega,by have:=h.c;unfold JY;omega,fun v hv=>by have:=h.rg v hv;unfold JY;omega⟩
theorem Jx.of {l:CX}(h:B0 l=true):Jx l:=by
 have h0:=aD h;have h':=h;simp only[B0,Bool.and_eq_true,decide_eq_true_eq] at h';exact⟨h0,(Nq h'.2).1,fun v hv=>by obtain⟨i,hi⟩:=List.mem_iff_getElem?.1 hv;exact L8 h hi⟩
theorem Jx.join {a b:CX}(h1:Jx a) (h2:Jx b):Jx (Ja a b):=by
 have hc1:=h1.c;have hc2:=h2.c;refine⟨?_,Qm h1.asc h2.asc,Ir (Q:=fun v=>(0≤v.plus∧v.plus≤100)∧ -65536≤v.index∧v.index<8) (fun u v g1 g2 _=>by simp only;omega) _ _ h1.rg h2.rg⟩;simp only[Ja,S0];split<;>omega
theorem Jx.one {v:B6}(h:(0≤v.plus∧v.plus≤100)∧ -65536≤v.index∧v.index<8):Jx ⟨0,[v]⟩:=⟨by simp,by simp[Mg],by simpa using h⟩
theorem Jx.num {n:Int}(h:0≤n∧n≤100):Jx ⟨n,[]⟩:=⟨h,by simp[Mg],by simp⟩
theorem Jx.plus {l:CX}{n:Int}(hl:B0 l=true) (h0:0≤n) (h1:n≤100) (he:(F5 l n).2=0):Jx (F5 l n).1:=by
 rcases RF hl h0 h1 with ⟨e,_⟩ | ⟨e,q1,q2⟩
 ·rw[e] at he;simp at he
 have h:=Jx.of hl;have hc:=h.c;rw[e];refine⟨?_,lN h.asc,fun w hw=>?_⟩
 ·simp only[J3];split<;>omega
 simp only[List.mem_map] at hw;obtain⟨u,hu,rfl⟩:=hw;have:=h.rg u hu;have:=q2 u hu;simp only[P1];omega
section
variable {ps:List CX}{q p:CX}{vs:List B6}{v:B6}{i:Nat}
theorem CO {α:Type} [Inhabited α] {l:List α}{i:Nat}{x:α}(h:l[i]?=some x):l.getD i default=x:=by rw[List.getD_eq_getElem?_getD,h];rfl
theorem yb (hv:vs[i]?=some v) (h0:0≤v.index) (h1:v.index<ps.length) (hp:ps[v.index.toNat]?=some p) (he:(F5 p v.plus).2≠0):Hr ps q (vs.drop i)=(GB,(F5 p v.plus).2):=by
 rw[Cd hv,Hr,if_pos ⟨h0,h1⟩,CO hp,if_pos he]
theorem yE (hv:vs[i]?=some v) (h0:0≤v.index) (h1:v.index<ps.length) (hp:ps[v.index.toNat]?=some p) (he:(F5 p v.plus).2=0):Hr ps q (vs.drop i)=Hr ps (Ja q (F5 p v.plus).1) (vs.drop (i+1)):=by
 rw[Cd hv,Hr,if_pos ⟨h0,h1⟩,CO hp,if_neg (by simp[he])]
theorem wq (hv:vs[i]?=some v) (h:¬(0≤v.index∧v.index<ps.length)):Hr ps q (vs.drop i)=Hr ps (Ja q ⟨0,[v]⟩) (vs.drop (i+1)):=by
 rw[Cd hv,Hr,if_neg h]
end
theorem fB {ps:List CX}{k i:Int}{n:ByteArray}{ls ys:List CX}{ks zs:List Tm}{er e e2:Int}(h1:F4 ps er ls=(ys,e)) (h2:HZ ps e ks=(zs,e2)):JA ps er (.mk k i n ls ks)=(.mk k i n ys zs,e2):=by rw[JA,h1,h2]
theorem j9 {ps:List CX}{tl ys:List CX}{e:Int}{i:Nat}{X:List CX×Int}(h:(ys++(F4 ps e (tl.drop i)).1,(F4 ps e (tl.drop i)).2)=X) (hi:tl.length≤i):X=(ys,e):=by
 rw[←h,List.drop_eq_nil_of_le hi];simp[F4]
theorem jS {ps:List CX}{ts zs:List Tm}{e:Int}{i:Nat}{X:List Tm×Int}(h:(zs++(HZ ps e (ts.drop i)).1,(HZ ps e (ts.drop i)).2)=X) (hi:ts.length≤i):X=(zs,e):=by
 rw[←h,List.drop_eq_nil_of_le hi];simp[HZ]
theorem cM (e:Int):Gi e 0=e:=by unfold Gi;split<;>simp_all
end Go.Eu
namespace Go.Proofs.YtldfmjoncbjldaaGreat
open Go.Abs Go.Eu
theorem M7 : ∀ (l : CX), (OA l) → En Tryz.prog 167 [.agg ((B4 l).map .p)] (.p (.bool (B0 l))) := by
 intro l h1
 have hl := h1.vars
 simp only [Db] at hl
 refine DI Tryz.func167 ?_
 refine CG [0] O O fun b1 => ?_
 refine CI [1] 1 [1] 12 ((decide ((l.const : Int) < (0 : Int))) || (decide ((l.const : Int) > (100 : Int)))) O O ?_ ?_
 ·refine Bc [4, 0] 8 rfl rfl ?_ ?_ <;> intro g
  ·exact CT [4] O
  exact CT [4, 0] O
 refine BC [0] rfl ?_ ?_ <;> intro c
 ·refine A9 [1] O (Bg [] [] O O ⟨pB (jO c), O⟩)
 refine GG (α := Nat) [1] [1] [0] (fun i => [(3, .p (I (i : Int)))]) (fun _ => []) (fun i => l.vars.length - i) (fun i => i ≤ l.vars.length ∧ (Cz l.const l.vars 0 = Cz l.const l.vars i)) 0 O O O (⟨by omega, rfl⟩) ?_
 rintro i hC
 try simp only at hC
 obtain ⟨hi, hC⟩ := hC
 refine CA [3, 0] O O (List.length_map _) ?_
 refine BC [1] rfl ?_ ?_ <;> intro c1
 ·refine D7 [3, 0] l.vars i O O O (H5 (f := Ey) fun _ => O) (fun x hx => ?_)
  refine Bp [1] O (Az HH O) fun b4 => ?_
  refine CI [1, 0, 1] 7 [1, 3, 4] 42 ((((decide ((x.index : Int) < (-65536 : Int))) || (decide ((x.index : Int) ≥ (8 : Int)))) || (decide ((x.plus : Int) < (0 : Int)))) || (decide ((x.plus : Int) > (100 : Int)))) O O ?_ ?_
  ·refine Bc [4, 0] 28 rfl rfl ?_ ?_ <;> intro g
   ·exact CT [14] O
   refine Bc [5, 0] 33 rfl rfl ?_ ?_ <;> intro g1
   ·exact CT [9] O
   refine Bc [5, 0] 38 rfl rfl ?_ ?_ <;> intro g2
   ·exact CT [4] O
   exact CT [4, 0] O
  refine BC [0] rfl ?_ ?_ <;> intro c2
  ·refine A9 [1] O (Bg [] [] O O ⟨pB (Xx hC (jq hx (kn c2))), O⟩)
  refine CI [0] 9 [1, 3, 4] 56 (!(KH (Kn l.vars i) x.index)) O O ?_ ?_
  ·refine E2 [0] [] O ?_
   refine Bb [3] O ?_
   refine Da 45 O (fun g => ?_) (fun g => ?_)
   ·(try simp only [sd, se] at g)
    refine Bb [4, 1] O ?_
    obtain ⟨x1, hx1⟩ := A1 (l := l.vars) (i := (((i : Int) : Int) - (1 : Int) : Int).toNat) Au
    refine Bx O (fun _ => A0 DC O O Au (DT hx1) (O)) Aw ?_
    refine CY tab 6 [0] O ?_
    exact Cu (CT [0] O (hr := (by first | (refine pB ?_; exact (Oo Au).symm) | (refine pB ?_; exact (Q2 hx1 Au).symm))))
   (try simp only [sd, se] at g)
   refine CY tab 11 [] O ?_
   exact Cu (CT [0] O (hr := (by first | (refine pB ?_; exact (Oo Au).symm) | (refine pB ?_; exact (Q2 hx1 Au).symm))))
  refine BC [0] rfl ?_ ?_ <;> intro c3
  ·refine A9 [1] O (Bg [] [] O O ⟨pB (Xx hC (by rw [Pp hx]; rw [c3]; simp)), O⟩)
  refine CI [0] 11 [1, 3] 66 ((decide ((l.const : Int) > (0 : Int))) && (decide ((x.plus : Int) ≥ (l.const : Int)))) O O ?_ ?_
  ·refine Bc [4, 1] 60 rfl rfl ?_ ?_ <;> intro g
   ·exact CT [6, 0, 1] O
   exact CT [6] O
  refine BC [0] rfl ?_ ?_ <;> intro c4
  ·refine A9 [1] O (Bg [] [] O O ⟨pB (Xx hC (jq hx (oo c4.1 c4.2))), O⟩)
  exact FR [3] 1 (i + 1) O (⟨by omega, (hC.trans (qE hx (W6 Au (by simpa using c4)) (by simpa using c3)))⟩)
 refine DF [0] O ?_
 refine A9 [1] O (Bg [] [] O O ⟨pB (qW Au Au hC Au), O⟩)
theorem jI : ∀ (n : Int), En Tryz.prog 208 [.p (I n)] (.agg ((B4 (⟨n, []⟩ : CX)).map .p)) := by
 intro n
 refine DI Tryz.func208 ?_
 refine Bp [0] O (Az FC O) fun b2 => ?_
 refine CK [3, 0, 0] O ?_
 refine A5 (BE (i := 0) O) ?_
 refine BP (A9 [0] O (Bg [0] [] O O ⟨O, O⟩))
theorem YP : ∀ (l : List CX), (l.length < Db) → (∀ x ∈ l, OA x) → En Tryz.prog 200 [.p (.lst (List.map B4 l))] (.p (.bool (l.all B0))) := by
 intro l h1 h2
 simp only [Db] at h1
 refine DI Tryz.func200 ?_
 refine GG (α := Nat) [2] [0] [] (fun i => [(3, .p (I (i : Int)))]) (fun _ => []) (fun i => l.length - i) (fun i => i ≤ l.length ∧ (∀ j, j < i → ∀ y, l[j]? = some y → B0 y = true)) 0 O O O (⟨by omega, fun j h => by omega⟩) ?_
 rintro i hC
 try simp only at hC
 obtain ⟨hi, hC⟩ := hC
 refine CA [2] O O (List.length_map _) ?_
 refine BC [1] rfl ?_ ?_ <;> intro c
 ·refine D7 [2] l i O O O (H5 E3) (fun x hx => ?_)
  refine CQ [1] O (M7 x (h2 _ (List.mem_of_getElem? hx))) ?_
  refine BC [1] rfl ?_ ?_ <;> intro c1
  ·refine A9 [1] O (Bg [] [] O O ⟨pB (qI hx (by simpa using c1)), O⟩)
  exact FR [3] 0 (i + 1) O (⟨by omega, Cg (p := fun _ (y : CX) => B0 y = true) hC hx (by simpa using c1)⟩)
 refine DF [0] O ?_
 refine A9 [1] O (Bg [] [] O O ⟨pB (mF fun j hj => hC j Au), O⟩)
theorem gq : ∀ (l : CX), (OA l) → En Tryz.prog 201 [.agg ((B4 l).map .p)] (.p (I (HV l))) := by
 intro l h1
 have hl := h1.vars
 simp only [Db] at hl
 refine DI Tryz.func201 ?_
 refine CG [0] O O fun b1 => ?_
 refine CI [1] 1 [1] 11 ((!(B0 l)) || (((l.vars.length : Nat) : Int) == (0 : Int))) O O ?_ ?_
 ·refine CQ [1, 0] O (M7 (CX.mk l.const l.vars) h1) ?_
  refine Bc [2] 6 rfl rfl ?_ ?_ <;> intro g
  ·exact CT [5] O
  refine CA [2, 0] O O (List.length_map _) ?_
  exact CT [2] O
 refine BC [0] rfl ?_ ?_ <;> intro c
 ·refine A9 [1] O (Bg [] [] O O ⟨pI (Yp (by simpa using c)), O⟩)
 obtain ⟨hv, hn⟩ : B0 l = true ∧ l.vars.length ≠ 0 := by simpa using c
 refine CA [4, 0, 0] O O (List.length_map _) ?_
 obtain ⟨x, hx⟩ := A1 (l := l.vars) (i := (((l.vars.length : Nat) : Int) - (1 : Int) : Int).toNat) Au
 have hw := L8 hv hx
 refine A2 [1] O (A0 DC O O Au (DT hx) (O)) ?_
 refine A2 [3] O (F7 O O) ?_
 refine A9 [1] O (Bg [] [] O O ⟨pI (YL hv hx Au), O⟩)
end Go.Proofs.YtldfmjoncbjldaaGreat
namespace Go.Eu
def rW:Tm→Prop
 | .mk k i n l _=>(i≠0→k=0∨k=12)∧(n≠⟨#[]⟩→k=3)∧(k=2→l.length=1)∧(k≠2→k≠3→l.length=0)
mutual
def Cw:Tm→Prop
 | .mk k i n l ks=>rW (.mk k i n l ks)∧w4 ks
def w4:List Tm→Prop
 | []=>True
 | t::ts=>Cw t∧w4 ts
end
theorem Lq:∀{ts:List Tm},(∀t∈ts,Cw t)→w4 ts
 | [],_=>trivial
 | t::ts,h=>⟨h t List.mem_cons_self,Lq fun x hx=>h x (List.mem_cons_of_mem _ hx)⟩
end Go.Eu
namespace Go.Proofs.YtldfmjoncbjldaaGreat
open Go.Abs Go.Eu
theorem X8 : ∀ (c : Int), Hd Tryz.prog 166 [.p (.int .u8 c)] (LP) := by
 intro c
 refine DI Tryz.func166 ?_
 refine CI [1] 1 [] 2 ((((decide ((c : Int) ≥ (97 : Int))) && (decide ((c : Int) ≤ (122 : Int)))) || ((decide ((c : Int) ≥ (65 : Int))) && (decide ((c : Int) ≤ (90 : Int))))) || ((c : Int) == (95 : Int))) O O ?_ ?_
 ·refine Bc [3] 5 rfl rfl ?_ ?_ <;> intro g
  ·refine Bc [4] 9 rfl rfl ?_ ?_ <;> intro g1
   ·exact CT [12] O
   refine Bc [3] 12 rfl rfl ?_ ?_ <;> intro g2
   ·refine Bc [5] 17 rfl rfl ?_ ?_ <;> intro g3
    ·exact CT [4] O
    exact CT [4] O
   exact CT [9] O
  refine Bc [7] 12 rfl rfl ?_ ?_ <;> intro g1
  ·refine Bc [5] 17 rfl rfl ?_ ?_ <;> intro g2
   ·exact CT [4] O
   exact CT [4] O
  exact CT [9] O
 refine A9 [0] O (Bg [] [] O O ⟨⟨_, O⟩, O⟩)
theorem _root_.Go.AY {α:Prop}(h:α:=by first | trivial | omega | simp | (simp;omega)):α:=h
theorem mw : ∀ (s : ByteArray), (s.size < Db) → Hd Tryz.prog 136 [.p (.str s)] (LP) := by
 intro s h1
 simp only [Db] at h1
 refine DI Tryz.func136 ?_
 refine Fo [1] 1 [0] 12 LP O O ?_ ?_
 ·refine A2 [1] O (Gs O O) ?_
  refine Bc [1] 8 rfl rfl ?_ ?_ <;> intro g
  ·exact CT [4] O (hr := ⟨_, O⟩)
  refine A2 [1] O (G8 rj O) ?_
  exact CT [2] O (hr := ⟨_, O⟩)
 rintro _ ⟨q, rfl⟩
 refine BC [0] rfl ?_ ?_ <;> intro c
 ·refine A9 [1] O (Bg [] [] O O ⟨⟨_, O⟩, O⟩)
 refine GG (α := Nat × Bool) [2] [0] [] (fun (i, f) => [(3, .p (.bool f)), (4, .p (I (i : Int)))]) (fun _ => []) (fun (i, f) => s.size - i) (fun (i, f) => i ≤ s.size) ⟨0, true⟩ O O O AY ?_
 rintro ⟨i, f⟩ hC
 try simp only at hC
 have hi := hC
 refine A2 [2] O (G8 rj O) ?_
 refine BC [1] rfl ?_ ?_ <;> intro c1
 ·obtain ⟨ch, hch⟩ : ∃ c, (s)[i]? = some c := ⟨_, getElem?_pos s i Au⟩
  refine A2 [2] O (Uy rj O O Au (by simpa using hch)) ?_
  refine BC [2] rfl ?_ ?_ <;> intro c2
  ·refine DS [1] O ?_
   refine EF O O (B7 O O (X8 ch.toNat) (.inl O)) ?_
   rintro _ ⟨q1, rfl⟩
   refine BW (BC [1] rfl ?_ ?_) <;> intro c3
   ·refine A9 [1] O (Bg [] [] O O ⟨⟨_, O⟩, O⟩)
   exact FR [4] 0 ⟨i + 1, false⟩ O Au
  refine BC [2] rfl ?_ ?_ <;> intro c3
  ·exact FR [4] 0 ⟨i + 1, true⟩ O Au
  refine Fo [0] 14 [0, 3, 4] 42 LP O O ?_ ?_
  ·refine DS [1] O ?_
   refine EF O O (B7 O O (X8 ch.toNat) (.inl O)) ?_
   rintro _ ⟨q1, rfl⟩
   refine BW (Bc [2] 31 rfl rfl ?_ ?_) <;> intro g
   ·refine Bc [4] 35 rfl rfl ?_ ?_ <;> intro g1
    ·refine Bc [3] 38 rfl rfl ?_ ?_ <;> intro g2
     ·exact CT [4] O (hr := ⟨_, O⟩)
     exact CT [4] O (hr := ⟨_, O⟩)
    exact CT [7] O (hr := ⟨_, O⟩)
   exact CT [11] O (hr := ⟨_, O⟩)
  rintro _ ⟨r, rfl⟩
  refine BC [0] rfl ?_ ?_ <;> intro c4
  ·refine A9 [1] O (Bg [] [] O O ⟨⟨_, O⟩, O⟩)
  exact FR [3] 0 ⟨i + 1, f⟩ O Au
 refine DF [0] O ?_
 refine A9 [3] O (Bg [] [] O O ⟨⟨_, O⟩, O⟩)
theorem sx : ∀ (k : Int), En Tryz.prog 165 [.p (I k)] (.p (I (arity k))) := by
 intro k
 refine DI Tryz.func165 ?_
 refine CI [4] 999999 [3] 4 (decide (k = 4 ∨ k = 5 ∨ k = 6 ∨ k = 7)) O O ?_ ?_
 ·refine BC [0] rfl ?_ ?_ <;> intro c
  ·exact CT [0] O (hr := (by refine pB (Bool.eq_iff_iff.2 ?_); simp only [beq_iff_eq, decide_eq_true_eq]; omega))
  refine BC [2] rfl ?_ ?_ <;> intro c1
  ·exact CT [0] O (hr := (by refine pB (Bool.eq_iff_iff.2 ?_); simp only [beq_iff_eq, decide_eq_true_eq]; omega))
  refine BC [2] rfl ?_ ?_ <;> intro c2
  ·exact CT [0] O (hr := (by refine pB (Bool.eq_iff_iff.2 ?_); simp only [beq_iff_eq, decide_eq_true_eq]; omega))
  exact CT [2] O (hr := (by refine pB (Bool.eq_iff_iff.2 ?_); simp only [beq_iff_eq, decide_eq_true_eq]; omega))
 refine BC [0] rfl ?_ ?_ <;> intro c
 ·refine A9 [1] O (Bg [] [] O O ⟨pI (by simp_all [arity]), O⟩)
 refine CI [2] 999999 [3] 9 (decide (k = 8 ∨ k = 11)) O O ?_ ?_
 ·refine BC [0] rfl ?_ ?_ <;> intro c1
  ·exact CT [0] O (hr := (by refine pB (Bool.eq_iff_iff.2 ?_); simp only [beq_iff_eq, decide_eq_true_eq]; omega))
  exact CT [2] O (hr := (by refine pB (Bool.eq_iff_iff.2 ?_); simp only [beq_iff_eq, decide_eq_true_eq]; omega))
 refine BC [0] rfl ?_ ?_ <;> intro c1
 ·refine A9 [1] O (Bg [] [] O O ⟨pI (by simp_all [arity]), O⟩)
 refine CI [2] 999999 [] 12 (decide (k = 9 ∨ k = 10)) O O ?_ ?_
 ·refine BC [0] rfl ?_ ?_ <;> intro c2
  ·exact CT [0] O (hr := (by refine pB (Bool.eq_iff_iff.2 ?_); simp only [beq_iff_eq, decide_eq_true_eq]; omega))
  exact CT [2] O (hr := (by refine pB (Bool.eq_iff_iff.2 ?_); simp only [beq_iff_eq, decide_eq_true_eq]; omega))
 refine BC [0] rfl ?_ ?_ <;> intro c2
 ·refine A9 [1] O (Bg [] [] O O ⟨pI (by simp_all [arity]), O⟩)
 refine A9 [1] O (Bg [] [] O O ⟨pI (by simp_all [arity]), O⟩)
theorem Wm : ∀ (k i : Int), En Tryz.prog 99 [.p (I k), .p (I i)] (.p (I (below k i))) := by
 intro k i
 refine DI Tryz.func99 ?_
 refine CI [1] 1 [] 26 ((i == 1 && (k == 5 || k == 6 || k == 7)) || (i == 2 && k == 11)) O O ?_ ?_
 ·refine Bc [3] 7 rfl rfl ?_ ?_ <;> intro g
  ·refine Bc [3] 10 rfl rfl ?_ ?_ <;> intro g1
   ·exact CT [16] O (hr := pB Ar)
   refine Bc [4] 14 rfl rfl ?_ ?_ <;> intro g2
   ·exact CT [12] O (hr := pB Ar)
   refine Bc [5] 19 rfl rfl ?_ ?_ <;> intro g3
   ·exact CT [7] O (hr := pB Ar)
   refine Bc [3] 22 rfl rfl ?_ ?_ <;> intro g4
   ·exact CT [4] O (hr := pB Ar)
   exact CT [4] O (hr := pB Ar)
  refine Bc [15] 22 rfl rfl ?_ ?_ <;> intro g1
  ·exact CT [4] O (hr := pB Ar)
  exact CT [4] O (hr := pB Ar)
 refine BC [0] rfl ?_ ?_ <;> intro c
 ·refine A9 [1] O (Bg [] [] O O ⟨pI (by unfold below; first | (rw [if_pos (by simp only [Bool.or_eq_true, Bool.and_eq_true, beq_iff_eq]; omega)]) | (rw [if_neg (by simp only [Bool.or_eq_true, Bool.and_eq_true, beq_iff_eq]; omega)])), O⟩)
 refine A9 [1] O (Bg [] [] O O ⟨pI (by unfold below; first | (rw [if_pos (by simp only [Bool.or_eq_true, Bool.and_eq_true, beq_iff_eq]; omega)]) | (rw [if_neg (by simp only [Bool.or_eq_true, Bool.and_eq_true, beq_iff_eq]; omega)])), O⟩)
theorem oK : ∀ (l : CX) (a b : Int), (OA l) → Hd Tryz.prog 137 [.agg ((B4 l).map .p), .p (I a), .p (I b)] (ec) := by
 intro l a b h1
 have hl := h1.vars
 simp only [Db] at hl
 refine DI Tryz.func137 ?_
 refine CG [0] O O fun b3 => ?_
 refine CQ [2, 0] O (M7 l h1) ?_
 refine BC [1] rfl ?_ ?_ <;> intro c
 ·refine A9 [1] O (Bg [] [] O O ⟨⟨_, O⟩, O⟩)
 refine GG (α := Nat) [1] [1, 2, 3] [0] (fun i => [(7, .p (I (i : Int)))]) (fun _ => []) (fun i => l.vars.length - i) (fun i => i ≤ l.vars.length) 0 O O O AY ?_
 rintro i hC
 try simp only at hC
 have hi := hC
 refine CA [3, 0] O O (List.length_map _) ?_
 refine BC [1] rfl ?_ ?_ <;> intro c1
 ·refine Fo [0] 6 [1, 2, 3, 7] 35 LP O O ?_ ?_
  ·refine D7 [3, 0] l.vars i O O O (H5 (f := Ey) fun _ => O) (fun x hx => ?_)
   refine Bc [4] 26 rfl rfl ?_ ?_ <;> intro g
   ·refine A2 [3, 0] O (A0 DC O O Au (DT hx) (O)) ?_
    exact CT [5] O (hr := ⟨_, O⟩)
   exact CT [9] O (hr := ⟨_, O⟩)
  rintro _ ⟨q, rfl⟩
  refine BC [0] rfl ?_ ?_ <;> intro c2
  ·refine A9 [1] O (Bg [] [] O O ⟨⟨_, O⟩, O⟩)
  exact FR [3] 0 (i + 1) O Au
 refine DF [0] O ?_
 refine GG (α := Nat) [1] [2, 3] [0] (fun i => [(8, .p (I (i : Int)))]) (fun _ => []) (fun i => l.vars.length - i) (fun i => i ≤ l.vars.length) 0 O O O AY ?_
 rintro i hC1
 try simp only at hC1
 have hi := hC1
 refine CA [3, 0] O O (List.length_map _) ?_
 refine BC [1] rfl ?_ ?_ <;> intro c2
 ·refine Fo [0] 11 [2, 3, 8] 60 LP O O ?_ ?_
  ·refine D7 [3, 0] l.vars i O O O (H5 (f := Ey) fun _ => O) (fun x hx => ?_)
   refine Bc [4] 50 rfl rfl ?_ ?_ <;> intro g
   ·refine A2 [3, 0] O (A0 DC O O Au (DT hx) (O)) ?_
    refine A2 [2] O (J4 O O) ?_
    exact CT [3] O (hr := ⟨_, O⟩)
   exact CT [10] O (hr := ⟨_, O⟩)
  rintro _ ⟨q, rfl⟩
  refine BC [0] rfl ?_ ?_ <;> intro c3
  ·refine A9 [1] O (Bg [] [] O O ⟨⟨_, O⟩, O⟩)
  exact FR [3] 0 (i + 1) O Au
 refine DF [0] O ?_
 refine A9 [1] O (Bg [] [] O O ⟨⟨_, O⟩, O⟩)
theorem uT : ∀ (t : Tm), Hd Tryz.prog 135 [.agg ((BD t).map .p)] (fun v => ∃ bb : Bool, v = .p (.bool bb) ∧ (bb = true → bS t ∧ rW t)) := by
 intro t
 obtain ⟨tk, ti, tn, tl, ts⟩ := t
 refine DI Tryz.func135 ?_
 refine CG [0] O O fun b1 => ?_
 refine CI [1] 1 [1] 19 (decide (tk < 0) || decide (tk ≥ 13) || (ts.length : Int) != arity tk) O O ?_ ?_
 ·refine E2 [0] [] O ?_
  refine Bb [4, 0] O ?_
  refine Da 6 O (fun g => ?_) (fun g => ?_)
  ·(try simp only [sd, se] at g)
   refine CY tab 13 [] O ?_
   exact Cu (CT [0] O (hr := (by refine pB ?_; first | (simp_all; done) | (rw [decide_eq_false (by omega : ¬ tk < 0), decide_eq_false (by omega : ¬ tk ≥ 13)]; simp [A8]; done))))
  (try simp only [sd, se] at g)
  refine Bb [5, 0] O ?_
  refine Da 11 O (fun g1 => ?_) (fun g1 => ?_)
  ·(try simp only [sd, se] at g1)
   refine CY tab 8 [] O ?_
   exact Cu (CT [0] O (hr := (by refine pB ?_; first | (simp_all; done) | (rw [decide_eq_false (by omega : ¬ tk < 0), decide_eq_false (by omega : ¬ tk ≥ 13)]; simp [A8]; done))))
  (try simp only [sd, se] at g1)
  refine Bb [2, 0] O ?_
  refine Bx O (fun _ => Ct BS O (A8 _)) Aw ?_
  refine Bb [2, 0] O ?_
  refine Bx O (fun _ => BF O O (sx tk) O) Aw ?_
  refine CY tab 2 [] O ?_
  exact Cu (CT [0] O (hr := (by refine pB ?_; first | (simp_all; done) | (rw [decide_eq_false (by omega : ¬ tk < 0), decide_eq_false (by omega : ¬ tk ≥ 13)]; simp [A8]; done))))
 refine BC [0] rfl ?_ ?_ <;> intro c
 ·refine A9 [1] O (Bg [] [] O O ⟨⟨_, O, by first | exact fun h => absurd h As | exact fun h => ⟨hf, hi, hn, by simp only [beq_iff_eq, decide_eq_true_eq] at *; intro _; omega, by simp only [beq_iff_eq, decide_eq_true_eq] at *; intro _ _; omega⟩⟩, rfl⟩)
 have hf : bS (.mk tk ti tn tl ts) := by simp only [bS]; omega
 refine Fo [0] 3 [1] 32 (fun y => ∃ b : Bool, y = .p (.bool b) ∧ (b = false → ti ≠ 0 → tk = 0 ∨ tk = 12)) O O ?_ ?_
 ·refine Bc [4, 0] 23 rfl rfl ?_ ?_ <;> intro g
  ·refine Bc [5, 0] 28 rfl rfl ?_ ?_ <;> intro g1
   ·exact CT [4, 0] O (hr := (by refine ⟨_, rfl, fun h => ?_⟩; first | omega | (simp_all; done) | (simp_all; omega)))
   exact CT [4] O (hr := (by refine ⟨_, rfl, fun h => ?_⟩; first | omega | (simp_all; done) | (simp_all; omega)))
  exact CT [9] O (hr := (by refine ⟨_, rfl, fun h => ?_⟩; first | omega | (simp_all; done) | (simp_all; omega)))
 rintro _ ⟨q1, rfl, hq1⟩
 refine BC [0] rfl ?_ ?_ <;> intro c1
 ·refine A9 [1] O (Bg [] [] O O ⟨⟨_, O, by first | exact fun h => absurd h As | exact fun h => ⟨hf, hi, hn, by simp only [beq_iff_eq, decide_eq_true_eq] at *; intro _; omega, by simp only [beq_iff_eq, decide_eq_true_eq] at *; intro _ _; omega⟩⟩, rfl⟩)
 have hi := hq1 (by simpa using c1)
 refine Fo [0] 5 [1] 40 (fun y => ∃ b : Bool, y = .p (.bool b) ∧ (b = false → tn ≠ ⟨#[]⟩ → tk = 3)) O O ?_ ?_
 ·refine A2 [2, 0] O (Js O O) ?_
  refine Bc [1] 36 rfl rfl ?_ ?_ <;> intro g
  ·exact CT [4, 0] O (hr := (by refine ⟨_, rfl, fun h hne => ?_⟩; first | exact absurd (Gk g) hne | (simp only [bne_eq_false_iff_eq] at h; exact h)))
  exact CT [4] O (hr := (by refine ⟨_, rfl, fun h hne => ?_⟩; first | exact absurd (Gk g) hne | (simp only [bne_eq_false_iff_eq] at h; exact h)))
 rintro _ ⟨q2, rfl, hq2⟩
 refine BC [0] rfl ?_ ?_ <;> intro c2
 ·refine A9 [1] O (Bg [] [] O O ⟨⟨_, O, by first | exact fun h => absurd h As | exact fun h => ⟨hf, hi, hn, by simp only [beq_iff_eq, decide_eq_true_eq] at *; intro _; omega, by simp only [beq_iff_eq, decide_eq_true_eq] at *; intro _ _; omega⟩⟩, rfl⟩)
 have hn := hq2 (by simpa using c2)
 refine BC [3, 0] rfl ?_ ?_ <;> intro c3
 ·refine CA [2, 0] O O (List.length_map _) ?_
  refine A9 [2] O (Bg [] [] O O ⟨⟨_, O, by first | exact fun h => absurd h As | exact fun h => ⟨hf, hi, hn, by simp only [beq_iff_eq, decide_eq_true_eq] at *; intro _; omega, by simp only [beq_iff_eq, decide_eq_true_eq] at *; intro _ _; omega⟩⟩, rfl⟩)
 refine CA [2, 0] O O (List.length_map _) ?_
 refine Bc [2] 52 rfl rfl ?_ ?_ <;> intro g
 ·refine A9 [5] O (Bg [] [] O O ⟨⟨_, O, by first | exact fun h => absurd h As | exact fun h => ⟨hf, hi, hn, by simp only [beq_iff_eq, decide_eq_true_eq] at *; intro _; omega, by simp only [beq_iff_eq, decide_eq_true_eq] at *; intro _ _; omega⟩⟩, rfl⟩)
 refine A9 [5, 0] O (Bg [] [] O O ⟨⟨_, O, by first | exact fun h => absurd h As | exact fun h => ⟨hf, hi, hn, by simp only [beq_iff_eq, decide_eq_true_eq] at *; intro _; omega, by simp only [beq_iff_eq, decide_eq_true_eq] at *; intro _ _; omega⟩⟩, rfl⟩)
theorem _root_.Go.AB {α:Prop}(h:α:=by repeat' first | exact trivial | refine And.intro ?_ ?_ | ((refine Or.inr (And.intro ?_ ?_)<;>repeat (first | exact List.Mem.head _ | apply List.Mem.tail));done) | exact Or.inl (by kernel_rfl)):α:=h
theorem _root_.Go.Aq {α:Prop}(h:α:=by assumption):α:=h
theorem oR : ∀ (n : Nat) (t : Tm) (d vars params metas levels : Int), (size t ≤ n) → (Nd t) → (0 ≤ d) → (d + n < Db) → Hd Tryz.prog 102 [.agg ((BD t).map .p), .p (I d), .p (I vars), .p (I params), .p (I metas), .p (I levels)] (fun v => ∃ ee : Int, v = .p (I ee) ∧ (ee = 0 → wf vars metas d t ∧ Cw t)) := by
 intro n
 induction n with
 | zero => intro t d vars params metas levels h; cases t; simp [size] at h
 | succ n ih =>
  intro t d vars params metas levels h1 h2 h3 h4
  simp only [Db] at h4
  obtain ⟨tk, ti, tn, tl, ts⟩ := t
  simp only [size] at h1
  simp only [Nd, JY, Db] at h2
  have hks := Fl ts
  refine DI Tryz.func102 ?_
  refine CG [0] O O fun b6 => ?_
  refine DS [2, 0] O ?_
  refine EF O O (B7 O O (uT (.mk tk ti tn tl ts : Tm)) (.inl O)) ?_
  rintro _ ⟨q, rfl, hq⟩
  refine BW (BC [1] rfl ?_ ?_) <;> intro c
  ·refine A9 [1] rfl (Bg [] [] rfl rfl ⟨⟨_, rfl, by first | exact fun h => absurd h As | exact fun h => absurd h Aq | exact fun _ => ⟨⟨hf.1, hf.2.1, hf.2.2, hv1, hv2, Lz fun j x hx => by have h9 := (hC j (by have := (List.getElem?_eq_some_iff.1 hx).1; omega) x hx).1; simpa using h9⟩, hcn, Lq fun x hx => by obtain ⟨j, hj⟩ := List.mem_iff_getElem?.1 hx; exact (hC j (by have := (List.getElem?_eq_some_iff.1 hj).1; omega) x hj).2⟩⟩, rfl⟩)
  obtain ⟨hf, hcn⟩ := hq (by simpa using c)
  refine Fo [0] 3 [1, 2, 3, 4, 5, 6] 28 LP O O ?_ ?_
  ·refine Bc [4, 0] 23 rfl rfl ?_ ?_ <;> intro g
   ·refine DS [2, 0] O ?_
    refine I6 O O O O (B7 O O (mw tn h2.1) (.inl O)) ?_
    rintro _ ⟨q1, rfl⟩
    refine BW (Ks [2] O ?_)
    exact ⟨O, O, AQ, ⟨_, O⟩, ⟨O, O, O, O, O, O, Aw⟩⟩
   exact CT [5] O (hr := ⟨_, O⟩)
  rintro _ ⟨q1, rfl⟩
  refine BC [0] rfl ?_ ?_ <;> intro c1
  ·refine A9 [1] rfl (Bg [] [] rfl rfl ⟨⟨_, rfl, by first | exact fun h => absurd h As | exact fun h => absurd h Aq | exact fun _ => ⟨⟨hf.1, hf.2.1, hf.2.2, hv1, hv2, Lz fun j x hx => by have h9 := (hC j (by have := (List.getElem?_eq_some_iff.1 hx).1; omega) x hx).1; simpa using h9⟩, hcn, Lq fun x hx => by obtain ⟨j, hj⟩ := List.mem_iff_getElem?.1 hx; exact (hC j (by have := (List.getElem?_eq_some_iff.1 hj).1; omega) x hj).2⟩⟩, rfl⟩)
  refine CA [2, 0] O O (List.length_map _) ?_
  refine BC [1] rfl ?_ ?_ <;> intro c2
  ·refine A9 [1] rfl (Bg [] [] rfl rfl ⟨⟨_, rfl, by first | exact fun h => absurd h As | exact fun h => absurd h Aq | exact fun _ => ⟨⟨hf.1, hf.2.1, hf.2.2, hv1, hv2, Lz fun j x hx => by have h9 := (hC j (by have := (List.getElem?_eq_some_iff.1 hx).1; omega) x hx).1; simpa using h9⟩, hcn, Lq fun x hx => by obtain ⟨j, hj⟩ := List.mem_iff_getElem?.1 hx; exact (hC j (by have := (List.getElem?_eq_some_iff.1 hj).1; omega) x hj).2⟩⟩, rfl⟩)
  refine GG (α := Nat) [1] [1, 2, 3, 4, 5, 6] [0] (fun i => [(13, .p (I (i : Int)))]) (fun _ => []) (fun i => tl.length - i) (fun i => i ≤ tl.length) 0 O O O AY ?_
  rintro i hC
  try simp only at hC
  have hi := hC
  refine CA [3, 0] O O (List.length_map _) ?_
  refine BC [1] rfl ?_ ?_ <;> intro c3
  ·refine D7 [3, 0] tl i O O O (H5 E3) (fun x hx => ?_)
   refine DS [3] O ?_
   refine EF O O (B7 O O (oK x params levels (h2.2.2.1 _ (List.mem_of_getElem? hx))) (.inl O)) ?_
   rintro _ ⟨le, rfl⟩
   refine BW (BC [3] rfl ?_ ?_) <;> intro c4
   ·refine A9 [2] rfl (Bg [] [] rfl rfl ⟨⟨_, rfl, by first | exact fun h => absurd h As | exact fun h => absurd h Aq | exact fun _ => ⟨⟨hf.1, hf.2.1, hf.2.2, hv1, hv2, Lz fun j x hx => by have h9 := (hC j (by have := (List.getElem?_eq_some_iff.1 hx).1; omega) x hx).1; simpa using h9⟩, hcn, Lq fun x hx => by obtain ⟨j, hj⟩ := List.mem_iff_getElem?.1 hx; exact (hC j (by have := (List.getElem?_eq_some_iff.1 hj).1; omega) x hj).2⟩⟩, rfl⟩)
   exact FR [3] 0 (i + 1) O Au
  refine DF [0] O ?_
  refine Fo [0] 13 [1, 2, 3, 4, 5, 6] 66 (fun y => ∃ b : Bool, y = .p (.bool b) ∧ (b = false → tk = 0 → 0 ≤ ti ∧ ti - d < vars)) O O ?_ ?_
  ·refine Bc [4, 0] 54 rfl rfl ?_ ?_ <;> intro g
   ·refine Bc [4, 0] 58 rfl rfl ?_ ?_ <;> intro g1
    ·exact CT [8] rfl (hr := (by refine ⟨_, rfl, fun h => ?_⟩; first | (simp_all; done) | (simp_all <;> omega)))
    exact CT [8, 0] rfl (hr := (by refine ⟨_, rfl, fun h => ?_⟩; first | (simp_all; done) | (simp_all <;> omega)))
   exact CT [12] rfl (hr := (by refine ⟨_, rfl, fun h => ?_⟩; first | (simp_all; done) | (simp_all <;> omega)))
  rintro _ ⟨r, rfl, hr⟩
  refine BC [0] rfl ?_ ?_ <;> intro c4
  ·refine A9 [1] rfl (Bg [] [] rfl rfl ⟨⟨_, rfl, by first | exact fun h => absurd h As | exact fun h => absurd h Aq | exact fun _ => ⟨⟨hf.1, hf.2.1, hf.2.2, hv1, hv2, Lz fun j x hx => by have h9 := (hC j (by have := (List.getElem?_eq_some_iff.1 hx).1; omega) x hx).1; simpa using h9⟩, hcn, Lq fun x hx => by obtain ⟨j, hj⟩ := List.mem_iff_getElem?.1 hx; exact (hC j (by have := (List.getElem?_eq_some_iff.1 hj).1; omega) x hj).2⟩⟩, rfl⟩)
  have hv1 := hr (by simpa using c4)
  refine Fo [0] 15 [1, 2, 3, 4, 5, 6] 80 (fun y => ∃ b : Bool, y = .p (.bool b) ∧ (b = false → tk = 12 → 0 ≤ ti ∧ ti < metas)) O O ?_ ?_
  ·refine Bc [4, 0] 70 rfl rfl ?_ ?_ <;> intro g
   ·refine Bc [4, 0] 74 rfl rfl ?_ ?_ <;> intro g1
    ·exact CT [6] rfl (hr := (by refine ⟨_, rfl, fun h => ?_⟩; first | (simp_all; done) | (simp_all <;> omega)))
    exact CT [6, 0] rfl (hr := (by refine ⟨_, rfl, fun h => ?_⟩; first | (simp_all; done) | (simp_all <;> omega)))
   exact CT [10] rfl (hr := (by refine ⟨_, rfl, fun h => ?_⟩; first | (simp_all; done) | (simp_all <;> omega)))
  rintro _ ⟨r2, rfl, hr2⟩
  refine BC [0] rfl ?_ ?_ <;> intro c5
  ·refine A9 [1] rfl (Bg [] [] rfl rfl ⟨⟨_, rfl, by first | exact fun h => absurd h As | exact fun h => absurd h Aq | exact fun _ => ⟨⟨hf.1, hf.2.1, hf.2.2, hv1, hv2, Lz fun j x hx => by have h9 := (hC j (by have := (List.getElem?_eq_some_iff.1 hx).1; omega) x hx).1; simpa using h9⟩, hcn, Lq fun x hx => by obtain ⟨j, hj⟩ := List.mem_iff_getElem?.1 hx; exact (hC j (by have := (List.getElem?_eq_some_iff.1 hj).1; omega) x hj).2⟩⟩, rfl⟩)
  have hv2 := hr2 (by simpa using c5)
  refine GG (α := Nat) [1] [1, 2, 3, 4, 5, 6] [0] (fun i => [(15, .p (I (i : Int)))]) (fun _ => []) (fun i => ts.length - i) (fun i => i ≤ ts.length ∧ (∀ j, j < i → ∀ x, ts[j]? = some x → wf vars metas (d + below tk j) x ∧ Cw x)) 0 O O O (⟨by omega, fun j h => by omega⟩) ?_
  rintro i hC1
  try simp only at hC1
  obtain ⟨hi, hC⟩ := hC1
  have hbl := Cx tk i
  refine CA [3, 0] O O (A8 _) ?_
  refine BC [1] rfl ?_ ?_ <;> intro c6
  ·refine E2 [0] [15] O ?_
   refine Bb [3, 0] O ?_
   obtain ⟨x, hx⟩ := A1 (l := ts) (i := i) Au
   refine A3 O (fun _ => A0 BS O O Au (BO hx) (A7 _)) Aw ?_
   refine Bb [5, 0] O ?_
   refine A3 O (fun _ => BF O O (Wm tk (i : Int)) O) Aw ?_
   refine Bb [5] O ?_
   refine L9 [] O O (B7 O O (ih x ((d : Int) + (below tk (i : Int) : Int)) vars params metas levels (by have := CU hx; omega) (DV h2.2.2.2.2.1 hx) (by have := Cx tk i; omega) (by have := Cx tk i; simp only [Db]; omega)) (.inl O)) Ap (⟨_, 1, O, fun h => absurd h As⟩) AB ?_
   rintro _ ⟨e, rfl, he⟩
   refine ⟨Aw, ?_⟩
   refine Dj [1] rfl (BC [2] rfl ?_ ?_) <;> intro c7
   ·refine A9 [2] rfl (Bg [] [] rfl rfl ⟨⟨_, rfl, by first | exact fun h => absurd h As | exact fun h => absurd h Aq | exact fun _ => ⟨⟨hf.1, hf.2.1, hf.2.2, hv1, hv2, Lz fun j x hx => by have h9 := (hC j (by have := (List.getElem?_eq_some_iff.1 hx).1; omega) x hx).1; simpa using h9⟩, hcn, Lq fun x hx => by obtain ⟨j, hj⟩ := List.mem_iff_getElem?.1 hx; exact (hC j (by have := (List.getElem?_eq_some_iff.1 hj).1; omega) x hj).2⟩⟩, rfl⟩)
   exact FR [3] 0 (i + 1) O (⟨by omega, Cg hC hx (he Au)⟩)
  refine DF [0] O ?_
  refine A9 [1] rfl (Bg [] [] rfl rfl ⟨⟨_, rfl, by first | exact fun h => absurd h As | exact fun h => absurd h Aq | exact fun _ => ⟨⟨hf.1, hf.2.1, hf.2.2, hv1, hv2, Lz fun j x hx => by have h9 := (hC j (by have := (List.getElem?_eq_some_iff.1 hx).1; omega) x hx).1; simpa using h9⟩, hcn, Lq fun x hx => by obtain ⟨j, hj⟩ := List.mem_iff_getElem?.1 hx; exact (hC j (by have := (List.getElem?_eq_some_iff.1 hj).1; omega) x hj).2⟩⟩, rfl⟩)
theorem Ee : ∀ (f : Tm) (xs : List Tm), (xs.length < Db) → En Tryz.prog 63 [.agg ((BD f).map .p), .p (.lst (A6 xs))] (.agg ((BD (apply f xs)).map .p)) := by
 intro f xs h1
 simp only [Db] at h1
 refine DI Tryz.func63 ?_
 refine CG [0] O O fun b2 => ?_
 refine Bp [0] O (Az Ba O) fun b4 => ?_
 refine GG (α := Nat) [1] [1, 2, 4] [0, 1] (fun i => [(5, .p (I (i : Int)))]) (fun i => [(1, .box b2 ((BD (apply f (xs.take i))).map .p))]) (fun i => xs.length - i) (fun i => i ≤ xs.length) 0 O O O AY ?_
 rintro i hC
 try simp only at hC
 have hi := hC
 refine CA [2] O O (A8 _) ?_
 refine BC [1] rfl ?_ ?_ <;> intro c
 ·refine E2 [0] [] O ?_
  refine Bb [3, 1] O ?_
  obtain ⟨x, hx⟩ := A1 (l := xs) (i := i) Au
  refine A3 O (fun _ => A0 BS O O Au (BO hx) (A7 _)) Aw ?_
  refine A3 O (fun _ => Bk CN O (A7 _)) Aw ?_
  generalize hz : (apply f (xs.take i)) = z
  obtain ⟨zk, zi, zn, zl, zs⟩ := z
  obtain ⟨xk, xi, xn, xl, xs1⟩ := x
  refine A3 O (fun _ => BJ BS Ba O O O O O) Aw ?_
  refine CY tab 2 [1, 0] O ?_
  exact Cu (FR [3] 0 (i + 1) O Au (e2 := wl (oe O) (wl (on (by rw [TR hx, hz]; rfl)) (Ih))))
 refine DF [0] O ?_
 refine A9 [2, 1, 0, 1] O (Bg [0] [] O O ⟨by rw [show i = xs.length by omega, List.take_length]; try rfl, rfl⟩)
theorem _root_.Go.Ak {α:Prop}(h:α:=by simp only[Db];omega):α:=h
theorem ic : ∀ (n : Nat) (t : Tm), (size t ≤ n) → (n < Db) → BL Tryz.prog 41 [.agg ((BD t).map .p)] [] (Zf (fun v => .tup [.agg ((BD ((Ay t).1)).map .p), v]) 5 (A6 ((Ay t).2))) := by
 intro n
 induction n with
 | zero => intro t h; cases t; simp [size] at h
 | succ n ih =>
  intro t h1 h2
  simp only [Db] at h2
  refine DI Tryz.func41 ?_
  refine CG [0] O O fun b1 => ?_
  refine Bp [0] O (Az Ba O) fun b2 => ?_
  obtain ⟨tk, ti, tn, tl, ts⟩ := t
  simp only [size] at h1
  refine CI [1] 1 [1, 2] 14 (((tk : Int) != (4 : Int)) || (((ts.length : Nat) : Int) != (2 : Int))) O O ?_ ?_
  ·refine Bc [4, 1] 9 rfl rfl ?_ ?_ <;> intro g
   ·exact CT [5] O
   refine CA [2, 1] O O (A8 _) ?_
   exact CT [2] O
  refine BC [0] rfl ?_ ?_ <;> intro c
  ·refine CK [3, 1, 0, 0] O ?_
   refine A5 (DH (t := 3) (sz := 5) O) ?_
   refine BP (A9 [0] O (Bg [1] [0] O O ?_))
   rw [OK c]
   all_goals exact ⟨_, _, rfl, rfl⟩
  refine D7 [2, 1] ts 0 O O O (IH _) (fun x hx => ?_)
  refine DS [1] O ?_
  refine Mj O O O (.inl ⟨O, O, O⟩) (ih x (by have := CU hx; omega) Ak) (.inl O) fun o cp => ?_
  refine BW (Bp [3] O (Az Ba O) fun b4 => ?_)
  refine E2 [2, 0, 1] [7] O ?_
  refine Bb [4, 0, 3] O ?_
  obtain ⟨x1, hx1⟩ := A1 (l := ts) (i := 1) Au
  refine A3 O (fun _ => A0 BS O O Au (BO hx1) (A7 _)) Aw ?_
  refine A3 O (fun _ => Bk CN O (A7 _)) Aw ?_
  obtain ⟨x1k, x1i, x1n, x1l, x1s⟩ := x1
  refine A3 O (fun _ => BJ BS Ba O O O O O) Aw ?_
  refine JS [] O O (Bi (i := 1) (rows' := A6 [(.mk x1k x1i x1n x1l x1s : Tm)]) BS BS Ba O O O O O O (Bd _) (by have := P6 x; have := CU hx; simp [A8]; omega) (Hj ((Ay x).2) [(.mk x1k x1i x1n x1l x1s : Tm)])) Ap fun o1 cp1 => ⟨AB, Aw, ?_⟩
  refine Dj [2, 2, 1] O (A9 [0] O (Bg [2] [1] O O ?_))
  rw [VV c hx hx1]
  all_goals exact ⟨_, _, rfl, rfl⟩
theorem LG : ∀ (n : Nat) (t : Tm), size t ≤ n → n < Db → En Tryz.prog 41 [TV t] (.tup [TV (Ay t).1, xD (Ay t).2]) :=
 fun n t h1 h2 => aa (pre := [_]) (post := []) (ic n t h1 h2) (fun x _ => YO x)
theorem Nv : ∀ (n : Nat) (t : Tm), (size t ≤ n) → (Nd t) → En Tryz.prog 26 [.agg ((BD t).map .p)] (.p (I (FG t))) := by
 intro n
 induction n with
 | zero => intro t h; cases t; simp [size] at h
 | succ n ih =>
  intro t h1 h2
  obtain ⟨tk, ti, tn, tl, ts⟩ := t
  simp only [size] at h1
  simp only [Nd, Db] at h2
  refine DI Tryz.func26 ?_
  refine CG [0] O O fun b1 => ?_
  refine GG (α := Nat × Int) [3] [1] [0] (fun (i, m) => [(3, .p (I m)), (4, .p (I (i : Int)))]) (fun _ => []) (fun (i, m) => ts.length - i) (fun (i, m) => i ≤ ts.length ∧ (Ly m (ts.drop i) = Ly 1 ts)) ⟨0, 1⟩ O O O Av ?_
  rintro ⟨i, m⟩ hC
  try simp only at hC
  obtain ⟨hi, hC⟩ := hC
  refine CA [3, 0] O O (A8 _) ?_
  refine BC [1] rfl ?_ ?_ <;> intro c
  ·refine D7 [4, 0] ts i O O O (IH _) (fun x hx => ?_)
   refine CQ [1] O (ih x (by have := CU hx; omega) (DV h2.2.2.2.2.1 hx)) ?_
   refine A2 [0] O (Eg O O) ?_
   exact FR [4] 0 ⟨i + 1, wr (m + FG x)⟩ O (⟨by omega, by rw [← hC, Cd hx]; rfl⟩)
  refine DF [0] O ?_
  refine A9 [2] O (Bg [] [] O O ⟨pI (by rw [show FG (.mk tk ti tn tl ts) = Ly 1 ts from rfl, ← hC, show i = ts.length by omega, List.drop_length]; rfl), O⟩)
theorem Pj : ∀ (n : Nat) (t : Tm), (size t ≤ n) → (Nd t) → En Tryz.prog 87 [.agg ((BD t).map .p)] (.p (I (FU t))) := by
 intro n
 induction n with
 | zero => intro t h; cases t; simp [size] at h
 | succ n ih =>
  intro t h1 h2
  obtain ⟨tk, ti, tn, tl, ts⟩ := t
  simp only [size] at h1
  simp only [Nd, Db] at h2
  refine DI Tryz.func87 ?_
  refine CG [0] O O fun b1 => ?_
  refine GG (α := Nat × Int) [3] [1] [0] (fun (i, m) => [(3, .p (I m)), (4, .p (I (i : Int)))]) (fun _ => []) (fun (i, m) => ts.length - i) (fun (i, m) => i ≤ ts.length ∧ (Kg m (ts.drop i) = Kg 0 ts)) ⟨0, 0⟩ O O O Av ?_
  rintro ⟨i, m⟩ hC
  try simp only at hC
  obtain ⟨hi, hC⟩ := hC
  refine CA [3, 0] O O (A8 _) ?_
  refine BC [1] rfl ?_ ?_ <;> intro c
  ·refine D7 [4, 0] ts i O O O (IH _) (fun x hx => ?_)
   refine CQ [1] O (ih x (by have := CU hx; omega) (DV h2.2.2.2.2.1 hx)) ?_
   refine A2 [0] O (F7 O O) ?_
   exact FR [4] 0 ⟨i + 1, max m (FU x)⟩ O (⟨by omega, by rw [← hC, Cd hx]; rfl⟩)
  refine DF [0] O ?_
  refine A2 [1] O (Eg O O) ?_
  refine A9 [1] O (Bg [] [] O O ⟨pI (by rw [show FU (.mk tk ti tn tl ts) = wr (Kg 0 ts + 1) from rfl, ← hC, show i = ts.length by omega, List.drop_length]; rfl), O⟩)
theorem aV : ∀ (b : Nat) (er nd e : Int), BL Tryz.prog 97 [.ptr b 0, .p (I e)] [.box b [.p (I er), .p (I nd)]] (Gm (.tup []) [.box b [.p (I (Gi er e)), .p (I nd)]]) := by
 intro b er nd e
 refine DI Tryz.func97 ?_
 refine BC [5, 0] rfl ?_ ?_ <;> intro c
 ·refine Ks [5, 0, 0] O ?_
  refine ⟨O, _, _, O, (HB (is := [0]) O), ?_⟩
  refine ⟨O, ?_⟩
  show ([.box b [.p (I e), .p (I nd)]] : List A4) = _
  simp [Gi, c]
 refine Ks [0] O ?_
 refine ⟨O, _, _, O, (HB (is := [0]) O), ?_⟩
 refine ⟨O, ?_⟩
 show ([.box b [.p (I er), .p (I nd)]] : List A4) = _
 simp [Gi, c]
theorem TH : ∀ (b : Nat) (er nd i : Int), BL Tryz.prog 98 [.ptr b 0, .p (I i)] [.box b [.p (I er), .p (I nd)]] (Gm (.agg ((BD (Cs i)).map .p)) [.box b [.p (I (MZ er i)), .p (I nd)]]) := by
 intro b er nd i
 refine DI Tryz.func98 ?_
 refine Bp [0] O (Az Ba O) fun b4 => ?_
 refine BC [2] rfl ?_ ?_ <;> intro c
 ·refine A2 [1] O (Bj [1] O (.inl ⟨O, O, O⟩) (aV b er nd 24) ⟨_, _, O, O, O⟩ As O (.inl O)) ?_
  refine CK [3, 0, 0] O ?_
  refine A5 (BE (i := 0) O) ?_
  refine BP (A9 [0] O (Bg [0] [1] O O ?_))
  refine ⟨O, ?_⟩
  show ([.box b [.p (I (Gi er 24)), .p (I nd)]] : List A4) = _
  simp [MZ, show i > 65535 by omega]
 refine CK [3, 0, 0] O ?_
 refine A5 (BE (i := 0) O) ?_
 refine BP (A9 [0] O (Bg [0] [1] O O ?_))
 refine ⟨O, ?_⟩
 show ([.box b [.p (I er), .p (I nd)]] : List A4) = _
 simp [MZ, show ¬ i > 65535 by omega]
theorem _root_.Go.AD {α:Prop}(h:α:=by simp only[A8,List.length_map,List.length_cons,List.length_nil,List.nil_append,List.length_append];omega):α:=h
theorem qb : ∀ (n : Nat) (t : Tm) (b : Nat) (by' fr d er nd : Int), (size t ≤ n) → (Nd t) → (0 ≤ d) → (d + n < 2 ^ 62) → BL Tryz.prog 49 [.ptr b 0, .agg ((BD t).map .p), .p (I by'), .p (I fr), .p (I d)] [.box b [.p (I er), .p (I nd)]] (Gm (.agg ((BD ((CS by' fr d er t).1)).map .p)) [.box b [.p (I ((CS by' fr d er t).2)), .p (I nd)]]) := by
 intro n
 induction n with
 | zero => intro t b by' fr d er nd h; cases t; simp [size] at h
 | succ n ih =>
  intro t b by' fr d er nd h1 h2 h3 h4
  obtain ⟨tk, ti, tn, tl, ts⟩ := t
  simp only [size] at h1
  simp only [Nd, Db] at h2
  refine DI Tryz.func49 ?_
  refine CG [0] O O fun b6 => ?_
  refine Bp [0] O (Az Ba O) fun b10 => ?_
  refine BC [3, 1] rfl ?_ ?_ <;> intro c
  ·refine A2 [4, 1] O (Eg O O) ?_
   refine BC [1] rfl ?_ ?_ <;> intro c1
   ·refine A9 [2, 1, 0, 0] O (Bg [0] [2] O O ?_)
    refine ⟨by show (.agg [.p (I tk), .p (I ti), .p (.str tn), .p (.lst (List.map B4 tl)), .p (.lst (A6 ts))] : AV) = _; rw [CS, if_pos c, if_pos c1]; rfl, ?_⟩
    show ([.box b [.p (I er), .p (I nd)]] : List A4) = _
    rw [CS, if_pos c, if_pos c1]
   refine A2 [3, 1] O (Eg O O) ?_
   refine A2 [2] O (Eg O O) ?_
   refine BC [1] rfl ?_ ?_ <;> intro c2
   ·refine A2 [1] O (Bj [2] O (.inl ⟨O, O, O⟩) (aV b er nd 24) ⟨_, _, O, O, O⟩ As O (.inl O)) ?_
    refine A9 [2, 1, 0, 0] O (Bg [0] [2] O O ?_)
    refine ⟨by show (.agg [.p (I tk), .p (I ti), .p (.str tn), .p (.lst (List.map B4 tl)), .p (.lst (A6 ts))] : AV) = _; rw [CS, if_pos c, if_neg Au, if_pos c2]; rfl, ?_⟩
    show ([.box b [.p (I (Gi er 24)), .p (I nd)]] : List A4) = _
    rw [CS, if_pos c, if_neg Au, if_pos c2]
   refine A2 [4, 1] O (Eg O O) ?_
   refine A2 [0] O (Bj [2] O (.inl ⟨O, O, O⟩) (TH b er nd (wr ((ti : Int) + (by' : Int)))) ⟨_, _, rfl, rfl, rfl⟩ As rfl (.inl rfl)) ?_
   refine A9 [1, 0, 1] O (Bg [0] [2] O O ?_)
   refine ⟨by show (.agg ((BD (Cs (wr ((ti : Int) + (by' : Int))))).map .p) : AV) = _; rw [CS, if_pos c, if_neg Au, if_neg Au], ?_⟩
   show ([.box b [.p (I (MZ er (wr ((ti : Int) + (by' : Int))))), .p (I nd)]] : List A4) = _
   rw [CS, if_pos c, if_neg Au, if_neg Au]
  refine CK [2] O ?_
  refine A5 (DH (t := 11) (sz := 5) O) ?_
  refine BP (GG (α := Nat × List Tm × Int × Option Nat × Nat) [0] [0, 2, 3, 4, 6, 10] [0, 1, 2, 3] (fun (i, ys, e, o, cp) => [(11, .vs o (A6 ys).length cp), (12, .p (I (i : Int)))]) (fun (i, ys, e, o, cp) => [(0, .vec o 5 (A6 ys) cp), (3, .box b [.p (I e), .p (I nd)])]) (fun (i, ys, e, o, cp) => ts.length - i) (fun (i, ys, e, o, cp) => i ≤ ts.length ∧ (ys.length = i ∧ (ys ++ (Cq by' fr tk d i e (ts.drop i)).1, (Cq by' fr tk d i e (ts.drop i)).2) = Cq by' fr tk d 0 er ts)) ⟨0, [], er, none, 0⟩ rfl rfl rfl Av ?_)
  rintro ⟨i, ys, e, o, cp⟩ hC
  try simp only at hC
  obtain ⟨hi, hl, hC⟩ := hC
  refine CA [3, 2] O O (A8 _) ?_
  refine BC [1] rfl ?_ ?_ <;> intro c1
  ·refine E2 [0] [17] O ?_
   refine Bb [5, 2] O ?_
   obtain ⟨x, hx⟩ := A1 (l := ts) (i := i) Au
   refine A3 O (fun _ => A0 BS O O Au (BO hx) (A7 _)) Aw ?_
   refine Bb [7, 2] O ?_
   refine A3 O (fun _ => BF O O (Wm tk (i : Int)) O) Aw ?_
   refine A3 O (fun _ => Kd O O (by have := Cx tk i; omega) (by have := Cx tk i; omega)) Aw ?_
   refine FB O O (Bj [3] O (.inl ⟨O, O, O⟩) (ih x b by' fr ((d : Int) + (below tk (i : Int) : Int)) e nd (by have := CU hx; omega) (DV h2.2.2.2.2.1 hx) (by have := Cx tk i; omega) (by have := Cx tk i; omega)) ⟨_, _, rfl, rfl, rfl⟩ As rfl (.inl rfl)) AB trivial ?_
   generalize hz : (CS by' fr ((d : Int) + (below tk (i : Int) : Int)) e x).1 = z
   obtain ⟨zk, zi, zn, zl, zs⟩ := z
   refine A3 O (fun _ => BJ BS Ba O O O O O) Aw ?_
   refine JS [] O O (Bi (i := 0) (rows' := A6 [(.mk zk zi zn zl zs : Tm)]) BS BS Ba O O O O O O (Bd _) AD (Hj ys [(.mk zk zi zn zl zs : Tm)])) Ap fun o1 cp1 => ⟨AB, Aw, ?_⟩
   refine CY tab 1 [] O ?_
   exact Cu (FR [3] 0 ⟨i + 1, ys ++ [(CS by' fr (d + below tk i) e x).1], (CS by' fr (d + below tk i) e x).2, o1, cp1⟩ rfl (⟨by omega, ⟨by simp [hl], by rw [← hC, Cd hx]; simp [Cq]⟩⟩) (e1 := ⟨we (H9 (ys ++ [(.mk zk zi zn zl zs : Tm)]) (by rw [hz])), we rfl, trivial⟩) (e2 := wl (Gw (ys ++ [(.mk zk zi zn zl zs : Tm)]) (by rw [hz])) (wl (oe rfl) (wl (oe rfl) (wl (oe rfl) (Ih))))))
  refine DF [0] O ?_
  refine DS [2] O ?_
  refine BH (CL (i := 0) [11, 65] O (DA ⟨O, O, Aw⟩)) ?_
  refine BW (A9 [3, 1, 0, 1, 0, 0] O (Bg [0] [2] O O ?_))
  refine ⟨by show (.agg [.p (I tk), .p (I ti), .p (.str tn), .p (.lst (List.map B4 tl)), .p (.lst (A6 ys))] : AV) = _; rw [CS, if_neg c]; rw [show i = ts.length by omega, List.drop_length] at hC; rw [← hC]; simp [Cq]; rfl, ?_⟩
  show ([.box b [.p (I e), .p (I nd)]] : List A4) = _
  rw [CS, if_neg c]; rw [show i = ts.length by omega, List.drop_length] at hC; rw [← hC]; simp [Cq]
theorem pM : ∀ (n : Nat) (t : Tm) (vs : List Tm) (b : Nat) (d er nd : Int), (size t ≤ n) → (Nd t) → (M6 vs) → (BB vs + d + n < 2 ^ 62) → (0 ≤ d) → BL Tryz.prog 86 [.ptr b 0, .agg ((BD t).map .p), .p (.lst (A6 vs)), .p (I d)] [.box b [.p (I er), .p (I nd)]] (Gm (.agg ((BD ((B2 vs d er nd t).1)).map .p)) [.box b [.p (I ((B2 vs d er nd t).2.1)), .p (I ((B2 vs d er nd t).2.2))]]) := by
 intro n
 induction n with
 | zero => intro t vs b d er nd h; cases t; simp [size] at h
 | succ n ih =>
  intro t vs b d er nd h1 h2 h3 h4 h5
  obtain ⟨tk, ti, tn, tl, ts⟩ := t
  simp only [size] at h1
  simp only [Nd, JY, Db] at h2
  have hvl := Fl vs
  refine DI Tryz.func86 ?_
  refine CG [0] O O fun b5 => ?_
  refine Bp [0] O (Az Ba O) fun b8 => ?_
  refine BC [5, 2] rfl ?_ ?_ <;> intro c
  ·refine A9 [2, 1, 0, 0] O (Bg [0] [2] O O ?_)
   refine ⟨by show (.agg [.p (I tk), .p (I ti), .p (.str tn), .p (.lst (List.map B4 tl)), .p (.lst (A6 ts))] : AV) = _; rw [B2, if_pos Au]; rfl, ?_⟩
   show ([.box b [.p (I er), .p (I nd)]] : List A4) = _
   rw [B2, if_pos Au]
  refine CI [0] 3 [0, 2, 3, 5, 8] 35 ((((tk : Int) == (0 : Int)) && (decide ((ti : Int) ≥ (d : Int)))) && (decide (((ti : Int) - (d : Int) : Int) < ((vs.length : Nat) : Int)))) O O ?_ ?_
  ·refine Bc [4, 1] 21 rfl rfl ?_ ?_ <;> intro g
   ·refine Bc [6, 1] 27 rfl rfl ?_ ?_ <;> intro g1
    ·refine CA [5, 1] O O (A8 _) ?_
     exact CT [2] O
    exact CT [8] O
   exact CT [14] O
  refine BC [0] rfl ?_ ?_ <;> intro c1
  ·refine D7 [5, 1] vs (((ti : Int) - (d : Int) : Int).toNat) O O O (IH _) (fun x hx => ?_)
   refine Bp [1] O (Az Ba O) fun b9 => ?_
   refine E2 [1, 0, 1] [] O ?_
   refine Bb [5, 3, 0] O ?_
   refine A3 O (fun _ => BF O O (Nv _ x (Nat.le_refl _) (DV h3 hx)) O) Aw ?_
   refine A3 O (fun _ => Eg O O) Aw ?_
   refine Dj [3, 3, 0] O (A2 [3, 0] O (Bj [3] O (.inl ⟨O, O, O⟩) (qb _ x b d 0 0 er (wr ((nd : Int) + (FG x : Int))) (Nat.le_refl _) (DV h3 hx) Au (by have := CU hx; omega)) ⟨_, _, O, O, O⟩ As O (.inl O)) ?_)
   refine A9 [1, 1, 1] O (Bg [1] [3] O O ?_)
   refine ⟨by show (.agg ((BD ((CS d 0 0 er x).1)).map .p) : AV) = _; rw [B2, if_neg Au, if_pos Au, Oy hx], ?_⟩
   show ([.box b [.p (I ((CS d 0 0 er x).2)), .p (I (wr ((nd : Int) + (FG x : Int))))]] : List A4) = _
   rw [B2, if_neg Au, if_pos Au, Oy hx]
  refine A2 [4, 2] O (Eg O O) ?_
  refine BC [6, 2, 0, 1] rfl ?_ ?_ <;> intro c2
  ·refine BC [4, 1] rfl ?_ ?_ <;> intro c3
   ·refine CA [4, 1] O O (A8 _) ?_
    refine A2 [0] O (J4 O O) ?_
    refine A2 [0] O (Bj [2] O (.inl ⟨O, O, O⟩) (TH b er (wr ((nd : Int) + (1 : Int))) (wr ((ti : Int) - ((vs.length : Nat) : Int)))) ⟨_, _, O, O, O⟩ As O (.inl O)) ?_
    refine A9 [1, 0, 1] O (Bg [0] [2] O O ?_)
    refine ⟨by show (.agg ((BD (Cs (wr ((ti : Int) - ((vs.length : Nat) : Int))))).map .p) : AV) = _; rw [B2, if_neg Au, if_neg Au, if_pos Au, if_pos Au], ?_⟩
    show ([.box b [.p (I (MZ er (wr ((ti : Int) - ((vs.length : Nat) : Int))))), .p (I (wr ((nd : Int) + (1 : Int))))]] : List A4) = _
    rw [B2, if_neg Au, if_neg Au, if_pos Au, if_pos Au]
   refine A9 [2, 1, 0, 0] O (Bg [0] [2] O O ?_)
   refine ⟨by show (.agg [.p (I tk), .p (I ti), .p (.str tn), .p (.lst (List.map B4 tl)), .p (.lst (A6 ts))] : AV) = _; rw [B2, if_neg Au, if_neg Au, if_pos Au, if_neg Au]; rfl, ?_⟩
   show ([.box b [.p (I er), .p (I (wr ((nd : Int) + (1 : Int))))]] : List A4) = _
   rw [B2, if_neg Au, if_neg Au, if_pos Au, if_neg Au]
  refine CK [2] O ?_
  refine A5 (DH (t := 10) (sz := 5) O) ?_
  refine BP (GG (α := Nat × List Tm × Int × Int × Option Nat × Nat) [0] [0, 2, 3, 5, 8] [0, 1, 2, 3] (fun (i, ys, e, m, o, cp) => [(10, .vs o (A6 ys).length cp), (11, .p (I (i : Int)))]) (fun (i, ys, e, m, o, cp) => [(0, .vec o 5 (A6 ys) cp), (3, .box b [.p (I e), .p (I m)])]) (fun (i, ys, e, m, o, cp) => ts.length - i) (fun (i, ys, e, m, o, cp) => i ≤ ts.length ∧ (ys.length = i ∧ (ys ++ (Cc vs tk d i e m (ts.drop i)).1, (Cc vs tk d i e m (ts.drop i)).2) = Cc vs tk d 0 er (wr (nd + 1)) ts)) ⟨0, [], er, wr (nd + 1), none, 0⟩ O O O Av ?_)
  rintro ⟨i, ys, e, m, o, cp⟩ hC
  try simp only at hC
  obtain ⟨hi, hl, hC⟩ := hC
  refine CA [3, 2] O O (A8 _) ?_
  refine BC [1] rfl ?_ ?_ <;> intro c3
  ·refine E2 [0] [16] O ?_
   refine Bb [5, 2] O ?_
   obtain ⟨x, hx⟩ := A1 (l := ts) (i := i) Au
   refine A3 O (fun _ => A0 BS O O Au (BO hx) (A7 _)) Aw ?_
   refine Bb [6, 2] O ?_
   refine A3 O (fun _ => BF O O (Wm tk (i : Int)) O) Aw ?_
   refine A3 O (fun _ => Kd O O (by have := Cx tk i; omega) (by have := Cx tk i; omega)) Aw ?_
   refine FB O O (Bj [3] O (.inl ⟨O, O, O⟩) (ih x vs b ((d : Int) + (below tk (i : Int) : Int)) e m (by have := CU hx; omega) (DV h2.2.2.2.2.1 hx) h3 (by have := Cx tk i; omega) (by have := Cx tk i; omega)) ⟨_, _, O, O, O⟩ As O (.inl O)) AB Aw ?_
   generalize hz : (B2 vs ((d : Int) + (below tk (i : Int) : Int)) e m x).1 = z
   obtain ⟨zk, zi, zn, zl, zs⟩ := z
   refine A3 O (fun _ => BJ BS Ba O O O O O) Aw ?_
   refine JS [] O O (Bi (i := 0) (rows' := A6 [(.mk zk zi zn zl zs : Tm)]) BS BS Ba O O O O O O (Bd _) AD (Hj ys [(.mk zk zi zn zl zs : Tm)])) Ap fun o1 cp1 => ⟨AB, Aw, ?_⟩
   refine CY tab 1 [] O ?_
   exact Cu (FR [3] 0 ⟨i + 1, ys ++ [(B2 vs (d + below tk i) e m x).1], (B2 vs (d + below tk i) e m x).2.1, (B2 vs (d + below tk i) e m x).2.2, o1, cp1⟩ O (⟨by omega, ⟨by simp [hl], by rw [← hC, Cd hx]; simp [Cc]⟩⟩) (e1 := ⟨we (H9 (ys ++ [(.mk zk zi zn zl zs : Tm)]) (by rw [hz])), we rfl, trivial⟩) (e2 := wl (Gw (ys ++ [(.mk zk zi zn zl zs : Tm)]) (by rw [hz])) (wl (oe rfl) (wl (oe rfl) (wl (oe rfl) (Ih))))))
  refine DF [0] O ?_
  refine DS [2] O ?_
  refine BH (CL (i := 0) [10, 102] O (DA ⟨O, O, Aw⟩)) ?_
  refine BW (A9 [3, 1, 0, 1, 0, 0] O (Bg [0] [2] O O ?_))
  refine ⟨by show (.agg [.p (I tk), .p (I ti), .p (.str tn), .p (.lst (List.map B4 tl)), .p (.lst (A6 ys))] : AV) = _; rw [B2, if_neg Au, if_neg Au, if_neg Au]; rw [show i = ts.length by omega, List.drop_length] at hC; rw [← hC]; simp [Cc]; rfl, ?_⟩
  show ([.box b [.p (I e), .p (I m)]] : List A4) = _
  rw [B2, if_neg Au, if_neg Au, if_neg Au]; rw [show i = ts.length by omega, List.drop_length] at hC; rw [← hC]; simp [Cc]
theorem mA : ∀ (t : Tm) (vs : List Tm) (d : Int), (size t < 2 ^ 60) → (Nd t) → (M6 vs) → (BB vs < 2 ^ 60) → (0 ≤ d) → En Tryz.prog 47 [.agg ((BD t).map .p), .p (.lst (A6 vs)), .p (I d)] (.tup [.agg ((BD ((B9 t vs d).1)).map .p), .p (I ((B9 t vs d).2))]) := by
 intro t vs d h1 h2 h3 h4 h5
 generalize hr : B2 vs (min d 65536) 0 0 t = r
 refine DI Tryz.func47 ?_
 refine CG [0] O O fun b3 => ?_
 refine Bp [0] O (Az Ba O) fun b6 => ?_
 refine BC [3] rfl ?_ ?_ <;> intro c
 ·refine CK [3, 0, 0] O ?_
  refine A5 (BE (i := 0) O) ?_
  refine BP (A9 [0] O ?_)
  exact absurd c Au
 refine CG [1] O O fun b14 => ?_
 refine A2 [5, 2] O (nr O O) ?_
 refine A2 [0] O (Bj [0] O (.inl ⟨O, O, O⟩) (pM _ t vs b14 (min (d : Int) (65536 : Int)) 0 0 (Nat.le_refl _) h2 h3 Au Au) ⟨_, _, O, O, O⟩ As O (.inl O)) ?_
 refine Bp [0] O (Az Ba O) fun b9 => ?_
 refine BC [6, 0, 1, 1] rfl ?_ ?_ <;> intro c1
 ·refine CK [3, 2, 0] O ?_
  refine A5 (BE (i := 2) O) ?_
  refine BP (A9 [0] O (Bg [2] [] O O ?_))
  unfold B9
  rw [if_pos (by simpa using c1)]
  all_goals exact ⟨rfl, rfl⟩
 refine BC [5, 1] rfl ?_ ?_ <;> intro c2
 ·refine E2 [0] [] O ?_
  refine Dj [7, 1, 2, 0] O (CK [0] O ?_)
  refine A5 (BE (i := 2) O) ?_
  refine BP (A9 [0] O (Bg [2] [] O O ?_))
  unfold B9
  rw [if_neg Au, if_pos c2]
  all_goals exact ⟨rfl, rfl⟩
 refine CQ [1, 0] O (Pj _ ((B2 vs (min (d : Int) (65536 : Int)) 0 0 t).1) (Nat.le_refl _) (QZ t vs _ _ _ h2 h3)) ?_
 refine BC [1] rfl ?_ ?_ <;> intro c3
 ·refine CK [3, 2, 0] O ?_
  refine A5 (BE (i := 2) O) ?_
  refine BP (A9 [0] O (Bg [2] [] O O ?_))
  unfold B9
  rw [if_neg Au, if_neg (by simpa using c2), if_pos c3]
  all_goals exact ⟨rfl, rfl⟩
 refine A9 [3, 0, 2, 1] O (Bg [2] [] O O ?_)
 unfold B9
 rw [if_neg Au, if_neg (by simpa using c2), if_neg Au]
 all_goals exact ⟨rfl, rfl⟩
theorem K2 : ∀ (t : Tm) (vs : List Tm), (size t < 2 ^ 60) → (Nd t) → (M6 vs) → (BB vs < 2 ^ 60) → En Tryz.prog 21 [.agg ((BD t).map .p), .p (.lst (A6 vs))] (.tup [.agg ((BD ((B9 t vs 0).1)).map .p), .p (I ((B9 t vs 0).2))]) := by
 intro t vs h1 h2 h3 h4
 refine DI Tryz.func21 ?_
 refine CG [0] O O fun b2 => ?_
 refine Bp [0] O (Az Ba O) fun b4 => ?_
 refine CQ [3, 1] O (mA t vs 0 h1 h2 h3 h4 Au) ?_
 refine A9 [4, 0, 1] O (Bg [0] [] O O ⟨O, O⟩)
theorem qL : ∀ (b : Nat) (c : Dn) (t : Tm) (e : Int), (Nd t) → BL Tryz.prog 117 [.ptr b 0, .agg ((BD t).map .p), .p (I e)] [.box b ((HX c).map .p)] (Gm (.tup []) [.box b ((HX (c.form t e)).map .p)]) := by
 intro b c t e h1
 refine DI Tryz.func117 ?_
 refine CG [0] O O fun b4 => ?_
 refine E2 [0] [] O ?_
 refine Bb [5, 1, 0] O ?_
 refine A3 O (fun _ => BF O O (Nv _ t (Nat.le_refl _) h1) O) Aw ?_
 refine A3 O (fun _ => Eg O O) Aw ?_
 refine Dj [3, 1, 0] O (CI [0] 2 [0] 61 (((((((e : Int) != (0 : Int)) || (decide ((c.steps : Int) > (c.limit : Int)))) || (decide ((c.nodes : Int) > (wr ((2 : Int) * (c.limit : Int)) : Int)))) || (decide ((wr ((c.forms : Int) + (FG t : Int)) : Int) > (wr ((40 : Int) * (c.limit : Int)) : Int)))) || (decide ((FG t : Int) > (2000 : Int)))) || (decide ((FU t : Int) > (95 : Int)))) O O ?_ ?_)
 ·refine E2 [0] [] O ?_
  refine Bb [3] O ?_
  refine Da 17 O (fun g => ?_) (fun g => ?_)
  ·(try simp only [sd, se] at g)
   refine CY tab 44 [] O ?_
   exact Cu (CT [0] O)
  (try simp only [sd, se] at g)
  refine Bb [11, 1, 1] O ?_
  refine Da 28 O (fun g1 => ?_) (fun g1 => ?_)
  ·(try simp only [sd, se] at g1)
   refine CY tab 33 [] O ?_
   exact Cu (CT [0] O)
  (try simp only [sd, se] at g1)
  refine Bb [8, 1, 1] O ?_
  refine Bx O (fun _ => YU O O) Aw ?_
  refine Bb [3] O ?_
  refine Da 40 O (fun g2 => ?_) (fun g2 => ?_)
  ·(try simp only [sd, se] at g2)
   refine CY tab 21 [] O ?_
   exact Cu (CT [0] O)
  (try simp only [sd, se] at g2)
  refine Bb [8, 1, 1] O ?_
  refine Bx O (fun _ => YU O O) Aw ?_
  refine Bb [3] O ?_
  refine Da 52 O (fun g3 => ?_) (fun g3 => ?_)
  ·(try simp only [sd, se] at g3)
   refine CY tab 9 [] O ?_
   exact Cu (CT [0] O)
  (try simp only [sd, se] at g3)
  refine Bb [1, 0] O ?_
  refine Bx O (fun _ => BF O O (Nv _ t (Nat.le_refl _) h1) O) Aw ?_
  refine Bb [3] O ?_
  refine Da 57 O (fun g4 => ?_) (fun g4 => ?_)
  ·(try simp only [sd, se] at g4)
   refine CY tab 4 [] O ?_
   exact Cu (CT [0] O)
  (try simp only [sd, se] at g4)
  refine Bb [1, 0] O ?_
  refine Bx O (fun _ => BF O O (Pj _ t (Nat.le_refl _) h1) O) Aw ?_
  refine CY tab 2 [] O ?_
  exact Cu (CT [0] O)
 refine ID [0] O O (fun c1 => ?_) (fun c1 => ?_)
 ·have c1R := c1
  (try simp only [sd, se] at c1)
  refine Ks [4, 1, 0] O ?_
  refine ⟨O, _, _, O, (HB (is := [1]) O), ?_⟩
  refine ⟨O, ?_⟩
  show ([.box b [.p (I c.steps), .p (I c.nodes), .p (I (wr ((c.forms : Int) + (FG t : Int)))), .p (I c.limit), .p (.bool true)]] : List A4) = _
  simp only [Dn.form, HX, List.map_cons, List.map_nil]; rw [c1R]; simp
 have c1R := c1
 (try simp only [sd, se] at c1)
 refine Ks [0] O ?_
 refine ⟨O, _, _, O, (HB (is := [1]) O), ?_⟩
 refine ⟨O, ?_⟩
 show ([.box b [.p (I c.steps), .p (I c.nodes), .p (I (wr ((c.forms : Int) + (FG t : Int)))), .p (I c.limit), .p (.bool c.over)]] : List A4) = _
 simp only [Dn.form, HX, List.map_cons, List.map_nil]; rw [c1R]; simp
theorem ni : ∀ (b : Nat) (c : Dn) (t : Tm), (Nd t) → BL Tryz.prog 62 [.agg ((BD t).map .p), .ptr b 0] [.box b ((HX c).map .p)] (Gm (.agg ((BD t).map .p)) [.box b ((HX (c.sized t)).map .p)]) := by
 intro b c t h1
 refine DI Tryz.func62 ?_
 refine CG [0] O O fun b2 => ?_
 refine Bp [0] O (Az Ba O) fun b4 => ?_
 refine CI [0] 1 [1, 2, 4] 12 ((decide ((FG t : Int) > (2000 : Int))) || (decide ((FU t : Int) > (95 : Int)))) O O ?_ ?_
 ·refine CQ [1, 1] O (Nv _ t (Nat.le_refl _) h1) ?_
  refine Bc [2] 8 rfl rfl ?_ ?_ <;> intro g
  ·exact CT [4] O
  refine CQ [1, 1] O (Pj _ t (Nat.le_refl _) h1) ?_
  exact CT [2] O
 refine ID [0] O O (fun c1 => ?_) (fun c1 => ?_)
 ·have c1R := c1
  (try simp only [sd, se] at c1)
  refine A9 [6, 2, 0, 1, 0, 1] O (Bg [0] [2] O O ?_)
  refine ⟨O, ?_⟩
  show ([.box b [.p (I c.steps), .p (I c.nodes), .p (I c.forms), .p (I c.limit), .p (.bool true)]] : List A4) = _
  simp only [Dn.sized, HX, List.map_cons, List.map_nil]; rw [c1R]; simp
 have c1R := c1
 (try simp only [sd, se] at c1)
 refine A9 [2, 1, 0, 1] O (Bg [0] [2] O O ?_)
 refine ⟨O, ?_⟩
 show ([.box b [.p (I c.steps), .p (I c.nodes), .p (I c.forms), .p (I c.limit), .p (.bool c.over)]] : List A4) = _
 simp only [Dn.sized, HX, List.map_cons, List.map_nil]; rw [c1R]; simp
theorem _root_.Go.Ae {α:Prop}(h:α:=by first | omega | (simp only;omega)):α:=h
theorem _root_.Go.AJ {α:Prop}(h:α:=by first | rfl | (refine pB ?_;simp_all;done) | (refine pB ?_;simp_all<;>(intros;omega))):α:=h
theorem oz : ∀ {σ : Type} (st : σ → Int → Tm → σ × Bool) (Inv : Nat → σ → Prop) (HP : Bool → σ → List A4 → Prop) (l b2 b3 b4 : Nat) (hI : ∀ m s d t, Inv (m + 1) s → Inv m (st s d t).1) (hy : ∀ m s d t T, Nd t → Inv (m + 1) s → HP true s T → Mn Tryz.prog l [.p (I d), TV t] T (ZX (.p (.bool (st s d t).2)) (HP (st s d t).2 (st s d t).1))) (n : Nat) (t : Tm) (d : Int) (s : σ) (T0 : List A4) (m : Nat), size t ≤ n → Nd t → 0 ≤ d → d + n < 4611686018427387904 → Inv (m + size t) s → HP true s T0 → BL Tryz.prog 158 [TV t, .p (I d), .ptr b2 0, .ptr b3 0, .ptr b4 0] (.box b2 [.fn (.yield l) [] []] :: .box b3 Qd :: .box b4 [.fn (.func 158) [] [.ptr b2 0, .ptr b3 0, .ptr b4 0]] :: T0) (ZX (.p (.bool (E6 st t d s).2)) (fun H => ∃ T, HP (E6 st t d s).2 (E6 st t d s).1 T ∧ H = .box b2 [.fn (.yield l) [] []] :: .box b3 Qd :: .box b4 [.fn (.func 158) [] [.ptr b2 0, .ptr b3 0, .ptr b4 0]] :: T)) := by
 intro σ st Inv HP l b2 b3 b4 hI hy n
 induction n with
 | zero => intro t d s T0 m h; cases t; simp [size] at h
 | succ n ih =>
  intro t d s T0 m h1 h2 h3 h4 h5 h6
  obtain ⟨tk, ti, tn, tl, ts⟩ := t
  have h2' := h2
  simp only [size] at h1 h5
  simp only [Nd, JY, Db] at h2
  refine Cb Tryz.func158 O vu (n := 50) O O ?_
  refine BQ ?_
  refine C8 O (Dk O) fun b5 => ?_
  refine BK tab 1 [] O ?_
  refine BR ?_
  refine BQ ?_
  refine BT tab 3 [1, 0] O ?_
  refine Ju [_, _, _, _] O O O O (hy (m + BB ts) _ _ _ _ h2' (by rw [Nat.add_assoc, Nat.add_comm (BB ts)]; exact h5) h6) O ?_ (fun _ _ h => h.elim)
  rintro _ T ⟨rfl, hT⟩
  refine BK tab 1 [] O ?_
  refine BX O (fun c => ?_) (fun c => ?_)
  ·(try simp only [sd, se] at c)
   refine BZ tab 1 [] O ?_
   refine CB ?_
   refine ⟨O, _, _, ⟨_, _, O, O, O⟩, (Et [1, 2, 3] [_, _, _, _] O), ?_⟩
   rw [Yd c]
   rw [c] at hT
   exact ⟨O, _, hT, O⟩
  (try simp only [sd, se] at c)
  rw [c] at hT
  refine Bn ?_
  refine BZ tab 1 [] O ?_
  refine BR ?_
  refine BR ?_
  refine Gq [1, 3, 4, 5, 8] 24 (fun y => y = .p (.bool ((decide ((tk : Int) ≥ (0 : Int))) && (decide ((tk : Int) < (13 : Int)))))) ?_ ?_
  ·refine Be ?_
   refine BT tab 4 [0] O ?_
   refine D6 20 O (fun g => ?_) (fun g => ?_)
   ·(try simp only [sd, se] at g)
    refine BK tab 4 [0] O ?_
    exact ⟨O, O, AQ, AJ, ⟨O, O, O, O, O, Aw⟩⟩
   (try simp only [sd, se] at g)
   refine BK tab 4 [] O ?_
   exact ⟨O, O, AQ, AJ, ⟨O, O, O, O, O, Aw⟩⟩
  rintro _ rfl
  refine BX O (fun c1 => ?_) (fun c1 => ?_)
  ·(try simp only [sd, se] at c1)
   refine Be ?_
   refine BT tab 2 [0] O ?_
   refine BA O (T3 rY rV O O Au Au) ?_
   refine BA O (BG ur O O) ?_
   refine BA O (Bt (i := 2) Dz O O (lY Au)) ?_
   refine BK tab 1 [] O ?_
   refine BR ?_
   refine BQ ?_
   refine BT tab 2 [0] O ?_
   refine BA O (Ct BS O (A8 _)) ?_
   refine BK tab 1 [] O ?_
   refine B3 ?_
   refine Er (α := Nat × σ × List A4) (fun (i, q, U) => ⟨50, mk [(1, .p (I d)), (4, .ptr b4 0), (8, .p (I (Ke tk))), (31, .p (.lst (A6 ts))), (32, .p (I (ts.length : Nat))), (33, .p (I (i : Int)))], (.box b2 [.fn (.yield l) [] []] :: .box b3 Qd :: .box b4 [.fn (.func 158) [] [.ptr b2 0, .ptr b3 0, .ptr b4 0]] :: U), []⟩) (fun (i, q, U) => ts.length - i) (fun (i, q, U) => i ≤ ts.length ∧ (FA st tk d i q (ts.drop i) = FA st tk d 0 (st s d (.mk tk ti tn tl ts)).1 ts ∧ Inv (m + BB (ts.drop i)) q ∧ HP true q U)) ⟨0, (st s d (.mk tk ti tn tl ts)).1, T⟩ (⟨by omega, by simp, by simpa using hI _ _ _ _ (by rw [Nat.add_assoc, Nat.add_comm (BB ts)]; exact h5), by assumption⟩) ?_ ?_
   ·exact Ec ⟨we O, we O, we O, we O, we O, we O, Aw⟩ (Uf [1, 2, 3] [_, _, _, _] (l' := [_, _, _]) O (wl (oe O) (wl (oe O) (wl (oe O) (Ih)))))
   rintro ⟨i, q, U⟩ hC
   try simp only at hC
   obtain ⟨hi, hC, hJ, hK⟩ := hC
   refine BZ tab 1 [] O ?_
   refine BR ?_
   refine BX O (fun c2 => ?_) (fun c2 => ?_)
   ·(try simp only [sd, se] at c2)
    refine Bn ?_
    refine BR ?_
    refine B3 ?_
    refine BQ ?_
    refine D3 O ?_
    obtain ⟨x, hx⟩ := A1 (l := ts) (i := i) Au
    refine BA O (A0 BS O O Au (BO hx) (A7 _)) ?_
    refine BA O (Bk CN O (A7 _)) ?_
    refine C8 O (Az Ba O) fun b10 => ?_
    refine BK tab 2 [0, 1] O ?_
    refine BZ tab 2 [] O ?_
    refine BR ?_
    refine BZ tab 3 [] O ?_
    refine BX O (fun c3 => ?_) (fun c3 => ?_)
    ·(try simp only [sd, se] at c3)
     refine Be ?_
     refine BK tab 3 [] O ?_
     refine A5 (CV (t := 11) (x := .p (I (d + below tk i))) (pI (by have := Y3 (k := tk) (i := i) Au Au; omega))) ?_
     refine BQ ?_
     refine BT tab 3 [3, 0] O ?_
     refine JE [_] O O O (.inr O) (ih x (d + below tk i) q _ (m + BB (ts.drop (i + 1))) (by have := CU hx; omega) (DV h2.2.2.2.2.1 hx) (by have := Cx tk i; omega) (by have := Cx tk i; omega) (by rw [Cd hx, BB] at hJ; rw [Nat.add_assoc, Nat.add_comm (BB _)]; exact hJ) hK) (aw (we O) (aw (we O) (aw (we O) (aw (we O) (aw (we O) (HT)))))) ?_ (fun _ _ h => h.elim)
     rintro _ _ ⟨rfl, T1, hT1, rfl⟩
     refine BK tab 1 [] O ?_
     refine BX O (fun c4 => ?_) (fun c4 => ?_)
     ·(try simp only [sd, se] at c4)
      refine BZ tab 1 [] O ?_
      refine CB ?_
      refine ⟨O, _, _, ⟨_, _, O, O, O⟩, (Et [1, 2, 3] [_, _, _, _] O), ?_⟩
      rw [Io Aq, ← hC, Jh hx c4]
      rw [c4] at hT1
      exact ⟨O, _, hT1, O⟩
     (try simp only [sd, se] at c4)
     rw [c4] at hT1
     refine Bn ?_
     refine Be ?_
     refine BK tab 2 [] O ?_
     refine ⟨⟨i + 1, (E6 st x (d + below tk i) q).1, T1⟩, Ae, ⟨by omega, ⟨by rw [← hC]; exact (Li hx Aq).symm, by rw [Cd hx, BB] at hJ; exact J9 hI x _ _ _ (by rw [Nat.add_assoc, Nat.add_comm (BB _)]; exact hJ) Aq, by assumption⟩⟩, Ec ⟨we rfl, we rfl, we rfl, we rfl, we rfl, we rfl, trivial⟩ (Uf [1, 2, 3] [_, _, _, _] (l' := [_, _, _]) rfl (wl (oe rfl) (wl (oe rfl) (wl (oe rfl) (Ih)))))⟩
    (try simp only [sd, se] at c3)
    refine Bn ?_
    refine A5 (CV (t := 11) (x := .p (I (d + below tk i))) (pI (by have := WK (k := tk) (i := i) Au; omega))) ?_
    refine BQ ?_
    refine BT tab 3 [3, 0] O ?_
    refine JE [_] O O O (.inr O) (ih x (d + below tk i) q _ (m + BB (ts.drop (i + 1))) (by have := CU hx; omega) (DV h2.2.2.2.2.1 hx) (by have := Cx tk i; omega) (by have := Cx tk i; omega) (by rw [Cd hx, BB] at hJ; rw [Nat.add_assoc, Nat.add_comm (BB _)]; exact hJ) hK) (aw (we O) (aw (we O) (aw (we O) (aw (we O) (aw (we O) (HT)))))) ?_ (fun _ _ h => h.elim)
    rintro _ _ ⟨rfl, T1, hT1, rfl⟩
    refine BK tab 1 [] O ?_
    refine BX O (fun c4 => ?_) (fun c4 => ?_)
    ·(try simp only [sd, se] at c4)
     refine BZ tab 1 [] O ?_
     refine CB ?_
     refine ⟨O, _, _, ⟨_, _, O, O, O⟩, (Et [1, 2, 3] [_, _, _, _] O), ?_⟩
     rw [Io Aq, ← hC, Jh hx c4]
     rw [c4] at hT1
     exact ⟨O, _, hT1, O⟩
    (try simp only [sd, se] at c4)
    rw [c4] at hT1
    refine Bn ?_
    refine Be ?_
    refine BK tab 2 [] O ?_
    refine ⟨⟨i + 1, (E6 st x (d + below tk i) q).1, T1⟩, Ae, ⟨by omega, ⟨by rw [← hC]; exact (Li hx Aq).symm, by rw [Cd hx, BB] at hJ; exact J9 hI x _ _ _ (by rw [Nat.add_assoc, Nat.add_comm (BB _)]; exact hJ) Aq, by assumption⟩⟩, Ec ⟨we rfl, we rfl, we rfl, we rfl, we rfl, we rfl, trivial⟩ (Uf [1, 2, 3] [_, _, _, _] (l' := [_, _, _]) rfl (wl (oe rfl) (wl (oe rfl) (wl (oe rfl) (Ih)))))⟩
   (try simp only [sd, se] at c2)
   refine EN ?_
   refine BZ tab 1 [] O ?_
   refine CB ?_
   refine ⟨O, _, _, ⟨_, _, O, O, O⟩, (Et [0, 1, 2] [_, _, _] O), ?_⟩
   rw [Io Aq, ← hC, show i = ts.length by omega, List.drop_length]
   exact ⟨O, _, hK, O⟩
  (try simp only [sd, se] at c1)
  have hbx := YD (k := tk) Au
  refine Bn ?_
  refine BR ?_
  refine BQ ?_
  refine BT tab 2 [0] O ?_
  refine BA O (Ct BS O (A8 _)) ?_
  refine BK tab 1 [] O ?_
  refine B3 ?_
  refine Er (α := Nat × σ × List A4) (fun (i, q, U) => ⟨50, mk [(1, .p (I d)), (4, .ptr b4 0), (8, .p (I (-1))), (31, .p (.lst (A6 ts))), (32, .p (I (ts.length : Nat))), (33, .p (I (i : Int)))], (.box b2 [.fn (.yield l) [] []] :: .box b3 Qd :: .box b4 [.fn (.func 158) [] [.ptr b2 0, .ptr b3 0, .ptr b4 0]] :: U), []⟩) (fun (i, q, U) => ts.length - i) (fun (i, q, U) => i ≤ ts.length ∧ (FA st tk d i q (ts.drop i) = FA st tk d 0 (st s d (.mk tk ti tn tl ts)).1 ts ∧ Inv (m + BB (ts.drop i)) q ∧ HP true q U)) ⟨0, (st s d (.mk tk ti tn tl ts)).1, T⟩ (⟨by omega, by simp, by simpa using hI _ _ _ _ (by rw [Nat.add_assoc, Nat.add_comm (BB ts)]; exact h5), by assumption⟩) ?_ ?_
  ·exact Ec ⟨we O, we O, we O, we O, we O, we O, Aw⟩ (Uf [1, 2, 3] [_, _, _, _] (l' := [_, _, _]) O (wl (oe O) (wl (oe O) (wl (oe O) (Ih)))))
  rintro ⟨i, q, U⟩ hC
  try simp only at hC
  obtain ⟨hi, hC, hJ, hK⟩ := hC
  refine BZ tab 1 [] O ?_
  refine BR ?_
  refine BX O (fun c2 => ?_) (fun c2 => ?_)
  ·(try simp only [sd, se] at c2)
   refine Bn ?_
   refine BR ?_
   refine B3 ?_
   refine BQ ?_
   refine D3 O ?_
   obtain ⟨x, hx⟩ := A1 (l := ts) (i := i) Au
   refine BA O (A0 BS O O Au (BO hx) (A7 _)) ?_
   refine BA O (Bk CN O (A7 _)) ?_
   refine C8 O (Az Ba O) fun b10 => ?_
   refine BK tab 2 [0, 1] O ?_
   refine BZ tab 2 [] O ?_
   refine BR ?_
   refine BZ tab 3 [] O ?_
   refine BX O (fun c3 => ?_) (fun c3 => ?_)
   ·(try simp only [sd, se] at c3)
    refine Be ?_
    refine BK tab 3 [] O ?_
    refine A5 (CV (t := 11) (x := .p (I (d + below tk i))) (pI (by have := Y3 (k := tk) (i := i) Au Au; omega))) ?_
    refine BQ ?_
    refine BT tab 3 [3, 0] O ?_
    refine JE [_] O O O (.inr O) (ih x (d + below tk i) q _ (m + BB (ts.drop (i + 1))) (by have := CU hx; omega) (DV h2.2.2.2.2.1 hx) (by have := Cx tk i; omega) (by have := Cx tk i; omega) (by rw [Cd hx, BB] at hJ; rw [Nat.add_assoc, Nat.add_comm (BB _)]; exact hJ) hK) (aw (we O) (aw (we O) (aw (we O) (aw (we O) (aw (we O) (HT)))))) ?_ (fun _ _ h => h.elim)
    rintro _ _ ⟨rfl, T1, hT1, rfl⟩
    refine BK tab 1 [] O ?_
    refine BX O (fun c4 => ?_) (fun c4 => ?_)
    ·(try simp only [sd, se] at c4)
     refine BZ tab 1 [] O ?_
     refine CB ?_
     refine ⟨O, _, _, ⟨_, _, O, O, O⟩, (Et [1, 2, 3] [_, _, _, _] O), ?_⟩
     rw [Io Aq, ← hC, Jh hx c4]
     rw [c4] at hT1
     exact ⟨O, _, hT1, O⟩
    (try simp only [sd, se] at c4)
    rw [c4] at hT1
    refine Bn ?_
    refine Be ?_
    refine BK tab 2 [] O ?_
    refine ⟨⟨i + 1, (E6 st x (d + below tk i) q).1, T1⟩, Ae, ⟨by omega, ⟨by rw [← hC]; exact (Li hx Aq).symm, by rw [Cd hx, BB] at hJ; exact J9 hI x _ _ _ (by rw [Nat.add_assoc, Nat.add_comm (BB _)]; exact hJ) Aq, by assumption⟩⟩, Ec ⟨we rfl, we rfl, we rfl, we rfl, we rfl, we rfl, trivial⟩ (Uf [1, 2, 3] [_, _, _, _] (l' := [_, _, _]) rfl (wl (oe rfl) (wl (oe rfl) (wl (oe rfl) (Ih)))))⟩
   (try simp only [sd, se] at c3)
   refine Bn ?_
   refine A5 (CV (t := 11) (x := .p (I (d + below tk i))) (pI (by have := WK (k := tk) (i := i) Au; omega))) ?_
   refine BQ ?_
   refine BT tab 3 [3, 0] O ?_
   refine JE [_] O O O (.inr O) (ih x (d + below tk i) q _ (m + BB (ts.drop (i + 1))) (by have := CU hx; omega) (DV h2.2.2.2.2.1 hx) (by have := Cx tk i; omega) (by have := Cx tk i; omega) (by rw [Cd hx, BB] at hJ; rw [Nat.add_assoc, Nat.add_comm (BB _)]; exact hJ) hK) (aw (we O) (aw (we O) (aw (we O) (aw (we O) (aw (we O) (HT)))))) ?_ (fun _ _ h => h.elim)
   rintro _ _ ⟨rfl, T1, hT1, rfl⟩
   refine BK tab 1 [] O ?_
   refine BX O (fun c4 => ?_) (fun c4 => ?_)
   ·(try simp only [sd, se] at c4)
    refine BZ tab 1 [] O ?_
    refine CB ?_
    refine ⟨O, _, _, ⟨_, _, O, O, O⟩, (Et [1, 2, 3] [_, _, _, _] O), ?_⟩
    rw [Io Aq, ← hC, Jh hx c4]
    rw [c4] at hT1
    exact ⟨O, _, hT1, O⟩
   (try simp only [sd, se] at c4)
   rw [c4] at hT1
   refine Bn ?_
   refine Be ?_
   refine BK tab 2 [] O ?_
   refine ⟨⟨i + 1, (E6 st x (d + below tk i) q).1, T1⟩, Ae, ⟨by omega, ⟨by rw [← hC]; exact (Li hx Aq).symm, by rw [Cd hx, BB] at hJ; exact J9 hI x _ _ _ (by rw [Nat.add_assoc, Nat.add_comm (BB _)]; exact hJ) Aq, by assumption⟩⟩, Ec ⟨we rfl, we rfl, we rfl, we rfl, we rfl, we rfl, trivial⟩ (Uf [1, 2, 3] [_, _, _, _] (l' := [_, _, _]) rfl (wl (oe rfl) (wl (oe rfl) (wl (oe rfl) (Ih)))))⟩
  (try simp only [sd, se] at c2)
  refine EN ?_
  refine BZ tab 1 [] O ?_
  refine CB ?_
  refine ⟨O, _, _, ⟨_, _, O, O, O⟩, (Et [0, 1, 2] [_, _, _] O), ?_⟩
  rw [Io Aq, ← hC, show i = ts.length by omega, List.drop_length]
  exact ⟨O, _, hK, O⟩
theorem sX : En Tryz.prog 157 [] (.agg Qd) := by
 refine DI Tryz.func157 ?_
 refine Bp [0] O (Az mG O) fun b0 => ?_
 refine A2 [13] O (Tc rY rV mG O) ?_
 refine A9 [1, 0, 0] O (Bg [0] [] O O ⟨O, O⟩)
theorem kW : ∀ (t : Tm), BL Tryz.prog 116 [.agg ((BD t).map .p)] [] (fun r H' => ∃ b, r = .val (.fn (.func 156) [] [.ptr b 0]) ∧ H' = [.box b ((BD t).map .p)]) := by
 intro t
 refine DI Tryz.func116 ?_
 refine CG [0] O O fun b1 => ?_
 refine A9 [3] O (Bg [] [0] O O ⟨_, O, O⟩)
theorem nL : ∀ {σ : Type} (st : σ → Int → Tm → σ × Bool) (Inv : Nat → σ → Prop) (HP : Bool → σ → List A4 → Prop) (l b1 : Nat) (hI : ∀ m s d t, Inv (m + 1) s → Inv m (st s d t).1) (hy : ∀ m s d t T, Nd t → Inv (m + 1) s → HP true s T → Mn Tryz.prog l [.p (I d), TV t] T (ZX (.p (.bool (st s d t).2)) (HP (st s d t).2 (st s d t).1))) (t : Tm) (s : σ) (T0 : List A4) (m : Nat), Nd t → size t < 4611686018427387904 → Inv (m + size t) s → HP true s T0 → BL Tryz.prog 156 [.fn (.yield l) [] [], .ptr b1 0] (.box b1 ((BD t).map .p) :: T0) (ZX (.tup []) (fun H => ∃ T, HP (E6 st t 0 s).2 (E6 st t 0 s).1 T ∧ H = .box b1 ((BD t).map .p) :: T)) := by
 intro σ st Inv HP l b1 hI hy t s T0 m h1 h2 h3 h4
 refine DI Tryz.func156 ?_
 refine CG [0] O O fun b2 => ?_
 refine CQ [0] O (sX ) ?_
 refine Bp [0] O (Az mG O) fun b3 => ?_
 refine Bp [1, 0, 0] O (Az xa O) fun b4 => ?_
 refine DS [4, 0, 0, 0, 3] O ?_
 refine IZ ((List.reverse_perm [_, _, _, _]).symm.append_right _) ?_
 refine JE [_] O O O (.inr O) (oz st Inv HP l b2 b3 b4 hI hy _ t 0 s T0 m (Nat.le_refl _) h1 Au Au h3 h4) (aw (we O) (aw (we O) (aw (we O) (aw (we O) (aw (we O) (HT)))))) ?_ (fun _ _ h => h.elim)
 rintro _ _ ⟨rfl, T, hT, rfl⟩
 refine BW (Ks [0] O ?_)
 refine ⟨O, _, _, O, (Et [0] [_, _, _, _] O), ?_⟩
 exact ⟨O, _, hT, O⟩
theorem _root_.Go.Am {α:Prop}(h:α:=by simp[A7]):α:=h
theorem dx : ∀ (t : Tm), (Nd t) → (size t < 1152921504606846976) → En Tryz.prog 68 [.agg ((BD t).map .p)] (.p (I (size t : Nat))) := by
 intro t h1 h2
 refine Em Tryz.func68 O xL (n := 11) O O ?_
 refine BQ ?_
 refine C8 O (Dk O) fun b1 => ?_
 refine BK tab 1 [] O ?_
 refine BQ ?_
 refine C8 O (Az mT O) fun b3 => ?_
 refine BK tab 1 [0, 0] O ?_
 refine BR ?_
 refine BQ ?_
 refine BA O (Cy (i := 1) CN O O Am) ?_
 refine jz [] O O O (.inl ⟨O, O, O⟩) (kW t) O Av (aw (we O) HT) ?_ (fun _ _ ⟨_, h, _⟩ => by cases h)
 rintro _ _ ⟨bn, h, rfl⟩
 cases h
 refine Ch O ?_
 refine B3 ?_
 refine SU (.inr O) fun dd l L hL => ?_
 refine ⟨_, _, DP (is := [2, 0, 3]) As ⟨_, _, O, O, ⟨_, _, O, O, ⟨_, _, O, O, O⟩⟩⟩, ?_⟩
 have hy : ∀ (m : Nat) (s : Int) (d : Int) (t : Tm) (T : List A4), Nd t → (fun _ _ => True) (m + 1) s → (fun (_ : Bool) (s : Int) (T : List A4) => T = [.loop l L, .box b3 [.p (I s)]]) true s T → Mn Tryz.prog l [.p (I d), TV t] T (ZX (.p (.bool (bp s d t).2)) ((fun (_ : Bool) (s : Int) (T : List A4) => T = [.loop l L, .box b3 [.p (I s)]]) (bp s d t).2 (bp s d t).1)) := by
  rintro m s d tt T hnd hinv rfl
  subst hL
  refine Vn (i := 0) O O O O ?_
  refine Bn ?_
  refine ⟨O, 0, O, ?_⟩
  refine B3 ?_
  refine Be ?_
  refine BA O (Bt (i := 1) Dz O O O) ?_
  refine BA O (Eg O O) ?_
  refine BK tab 1 [1, 0] O ?_
  refine ⟨0, _, O, HB (is := [0, 1]) O, ?_⟩
  exact ⟨O, O⟩
 refine (nL bp (fun _ _ => True) (fun (_ : Bool) (s : Int) (T : List A4) => T = [.loop l L, .box b3 [.p (I s)]]) l bn (fun _ _ _ _ _ => Aw) hy t 0 _ 0 (h1) Au (Aw) O).mono ?_
 rintro (v | v) H' hR
 rotate_left
 ·exact hR.elim
 obtain ⟨rfl, _, rfl, rfl⟩ := hR
 subst hL
 refine ⟨1, _, O, Av, ?_⟩
 refine BZ tab 2 [1] O ?_
 refine CB ?_
 refine ⟨2, O, _, _, ⟨_, _, O, O, O⟩, (List.nil_sublist _), ?_⟩
 all_goals exact ⟨pI (by rw [X7 4611686018427387904 (Int.le_refl _) t 0 0 Au Au]; simp), rfl⟩
theorem ZU : ∀ (n : Nat) (t : Tm), (size t ≤ n) → (Nd t) → En Tryz.prog 69 [.agg ((BD t).map .p)] (.p (I (FU t))) := by
 intro n
 induction n with
 | zero => intro t h; cases t; simp [size] at h
 | succ n ih =>
  intro t h1 h2
  obtain ⟨tk, ti, tn, tl, ts⟩ := t
  simp only [size] at h1
  simp only [Nd, Db] at h2
  refine DI Tryz.func69 ?_
  refine CG [0] O O fun b1 => ?_
  refine CA [4, 0] O O (A8 _) ?_
  refine GG (α := Nat × Int) [1] [7, 8] [] (fun (i, m) => [(3, .p (I m)), (9, .p (I (i : Int)))]) (fun _ => []) (fun (i, m) => ts.length - i) (fun (i, m) => i ≤ ts.length ∧ (Kg m (ts.drop i) = Kg 0 ts)) ⟨0, 0⟩ O O O Av ?_
  rintro ⟨i, m⟩ hC
  try simp only at hC
  obtain ⟨hi, hC⟩ := hC
  refine BC [1] rfl ?_ ?_ <;> intro c
  ·refine D7 [0] ts i O O O (IH _) (fun x hx => ?_)
   refine Bp [1] O (Az Ba O) fun b5 => ?_
   refine CQ [3, 0, 1, 0] O (ih x (by have := CU hx; omega) (DV h2.2.2.2.2.1 hx)) ?_
   refine A2 [0] O (F7 O O) ?_
   exact FR [3] 1 ⟨i + 1, max m (FU x)⟩ O (⟨by omega, by rw [← hC, Cd hx]; rfl⟩)
  refine DF [0] O ?_
  refine A2 [1] O (Eg O O) ?_
  refine A9 [1] O (Bg [] [] O O ⟨pI (by rw [show FU (.mk tk ti tn tl ts) = wr (Kg 0 ts + 1) from rfl, ← hC, show i = ts.length by omega, List.drop_length]; rfl), O⟩)
theorem Fp : ∀ (f : Tm) (xs : List Tm), (xs.length < Db) → En Tryz.prog 112 [.agg ((BD f).map .p), .p (.lst (A6 xs))] (.agg ((BD (apply f xs)).map .p)) := by
 intro f xs h1
 simp only [Db] at h1
 refine DI Tryz.func112 ?_
 refine CG [0] O O fun b2 => ?_
 refine Bp [0] O (Az Ba O) fun b4 => ?_
 refine CA [1] O O (A8 _) ?_
 refine GG (α := Nat) [1] [2, 4, 7, 8] [0, 1] (fun i => [(9, .p (I (i : Int)))]) (fun i => [(1, .box b2 ((BD (apply f (xs.take i))).map .p))]) (fun i => xs.length - i) (fun i => i ≤ xs.length) 0 O O O AY ?_
 rintro i hC
 try simp only at hC
 have hi := hC
 refine BC [1] rfl ?_ ?_ <;> intro c
 ·refine D7 [0] xs i O O O (IH _) (fun x hx => ?_)
  refine Bp [1] O (Az Ba O) fun b6 => ?_
  generalize hz : (apply f (xs.take i)) = z
  obtain ⟨zk, zi, zn, zl, zs⟩ := z
  obtain ⟨xk, xi, xn, xl, xs1⟩ := x
  refine A2 [3, 0, 1, 2, 0] O (BJ BS Ba O O O O O) ?_
  exact FR [4, 2, 0] 1 (i + 1) O Au (e2 := wl (oe O) (wl (on (by rw [TR hx, hz]; rfl)) (Ih)))
 refine DF [0] O ?_
 refine A9 [2, 1, 0, 1] O (Bg [0] [] O O ⟨by rw [show i = xs.length by omega, List.take_length]; try rfl, rfl⟩)
theorem _root_.Go.AR {α:Prop}(h:α:=by simp only[A8,List.length_map,List.length_set];omega):α:=h
theorem _root_.Go.Ah {α:Prop}(h:α:=by simp only[A8];omega):α:=h
theorem _root_.Go.Aj {α:Prop}(h:α:=by simp[A8];omega):α:=h
theorem kO : ∀ (xs : List Tm) (o0 : Option Nat) (c0 : Nat), (xs.length < Db) → BL Tryz.prog 70 [.vs o0 (A6 xs).length c0] [.vec o0 5 (A6 xs) c0] (Gm (.tup []) [.vec o0 5 (A6 xs.reverse) c0]) := by
 intro xs o0 c0 h1
 simp only [Db] at h1
 refine DI Tryz.func70 ?_
 refine A2 [1] O (JO BS O (A8 _)) ?_
 refine GG (α := Nat × List Tm × Option Nat × Nat) [3] [] [0] (fun (i, ys, o, cp) => [(0, .vs o (A6 ys).length cp), (2, .p (I (i : Int))), (3, .p (I ((xs.length : Int) - 1 - (i : Int))))]) (fun (i, ys, o, cp) => [(0, .vec o 5 (A6 ys) cp)]) (fun (i, ys, o, cp) => xs.length - i) (fun (i, ys, o, cp) => i ≤ xs.length ∧ ZR xs ys i ∧ o = o0 ∧ cp = c0) ⟨0, xs, o0, c0⟩ O O O (⟨by omega, bh xs, rfl, rfl⟩) ?_ (e0 := ⟨we rfl, we rfl, we (pI Au), trivial⟩)
 rintro ⟨i, ys, o, cp⟩ hC
 try simp only at hC
 obtain ⟨hi, hR, ho, hcp⟩ := hC
 have hyl := hR.1
 have hjn : ((xs.length : Int) - 1 - (i : Int)).toNat = xs.length - 1 - i := by omega
 refine BC [3] rfl ?_ ?_ <;> intro c
 ·refine CK [0] O ?_
  refine JI (i := 0) O Aj fun b hb => ?_
  subst hb
  refine BP (E2 [0] [] O ?_)
  refine Bb [6] O ?_
  refine A3 O (fun _ => CJ BS O O Au Ah) Aw ?_
  obtain ⟨y, hy⟩ := A1 (l := ys) (i := ((xs.length : Int) - 1 - (i : Int) : Int).toNat) Au
  refine CF (j := 0) O O O (fun H i hi => Dl (i := i) CN O hi (BO hy)) AB Aw ?_
  refine Bb [2] O ?_
  refine A3 O (fun _ => CJ BS O O Au Ah) Aw ?_
  obtain ⟨y1, hy1⟩ := A1 (l := ys) (i := i) Au
  refine CF (j := 0) O O O (fun H i hi => Dl (i := i) CN O hi (BO hy1)) AB Aw ?_
  refine A3 O (fun _ => CJ BS O O Au Ah) Aw ?_
  refine FB O O (C7 (i := 0) (j := i) CN O O O AR O (Ho _) (A7 _) (Gd _) (MP ys i y)) AB Aw ?_
  refine A3 O (fun _ => CJ BS O O Au Ah) Aw ?_
  refine FB O O (C7 (i := 0) (j := (((xs.length : Int) - 1 - (i : Int) : Int).toNat)) CN O O O AR O (Ho _) (A7 _) (Gd _) (MP ((ys).set i y) (((xs.length : Int) - 1 - (i : Int) : Int).toNat) y1)) AB Aw ?_
  refine HC O Ap ?_
  exact Cu (FR [6] 0 ⟨i + 1, (ys.set i y).set (xs.length - 1 - i) y1, (some b), cp⟩ O (⟨by omega, bB hR Au hy1 (hjn ▸ hy), ho, hcp⟩) (e1 := ⟨we (CZ ys Av), we rfl, we (pI Au), trivial⟩) (e2 := wl (Gw (((ys).set i y).set (((xs.length : Int) - 1 - (i : Int) : Int).toNat) y1) (by rw [hjn])) (Ih)))
 refine DF [0] O ?_
 refine Ks [0] O ?_
 refine ⟨O, _, _, O, (HB (is := [0]) O), ?_⟩
 refine ⟨O, ?_⟩
 show ([.vec o 5 (A6 ys) cp] : List A4) = _
 rw [ck hR Au, ho, hcp]
theorem O5 : ∀ (t : Tm), (Nd t) → (size t < Db) → En Tryz.prog 38 [.agg ((BD t).map .p)] (.tup [.agg ((BD ((Ay t).1)).map .p), .p (.lst (A6 ((Ay t).2)))]) := by
 intro t h1 h2
 simp only [Db] at h2
 refine DI Tryz.func38 ?_
 refine CG [0] O O fun b1 => ?_
 refine Bp [0] O (Az Ba O) fun b2 => ?_
 refine CK [2] O ?_
 refine A5 (DH (t := 4) (sz := 5) O) ?_
 refine BP (GG (α := Tm × List Tm × Option Nat × Nat) [0] [1, 2] [0, 1, 2] (fun (tt, ys, o, cp) => [(4, .vs o (A6 ys).length cp)]) (fun (tt, ys, o, cp) => [(0, .vec o 5 (A6 ys) cp), (2, .box b1 ((BD tt).map .p))]) (fun (tt, ys, o, cp) => size tt) (fun (tt, ys, o, cp) => Ay t = ((Ay tt).1, (Ay tt).2 ++ ys.reverse) ∧ Nd tt ∧ size tt + ys.length ≤ size t) ⟨t, [], none, 0⟩ O O O (⟨by simp, h1, by simp⟩) ?_)
 rintro ⟨tt, ys, o, cp⟩ hC
 try simp only at hC
 obtain ⟨hS, hN, hL⟩ := hC
 obtain ⟨ttk, tti, ttn, ttl, tts⟩ := tt
 simp only [size] at hL
 refine CI [0] 2 [1, 2, 4] 13 (((ttk : Int) == (4 : Int)) && (((tts.length : Nat) : Int) == (2 : Int))) O O ?_ ?_
 ·refine Bc [4, 2] 8 rfl rfl ?_ ?_ <;> intro g
  ·refine CA [2, 2] O O (A8 _) ?_
   exact CT [2] O
  exact CT [5] O
 refine BC [0] rfl ?_ ?_ <;> intro c
 ·refine D7 [3, 2] tts 1 O O O (IH _) (fun x hx => ?_)
  obtain ⟨xk, xi, xn, xl, xs⟩ := x
  refine A2 [1] O (BJ BS Ba O O O O O) ?_
  refine DS [0] O ?_
  refine ET O O (Bi (i := 0) (rows' := A6 [(.mk xk xi xn xl xs : Tm)]) BS BS Ba O O O O O O (Bd _) AD (Hj ys [(.mk xk xi xn xl xs : Tm)])) fun o1 cp1 => ?_
  refine BW (D7 [3, 2] tts 0 O O O (IH _) (fun x1 hx1 => ?_))
  exact FR [2, 2, 1] 0 ⟨x1, ys ++ [.mk xk xi xn xl xs], o1, cp1⟩ O (⟨by rw [hS, VV c hx1 hx]; simp, DV hN.2.2.2.2.1 hx1, by have := CU hx1; simp; omega⟩) (hμ := (by have := CU hx1; simp only [size]; omega))
 refine DF [0] O ?_
 refine A2 [1] O (Bj [0] O (.inl ⟨O, O, O⟩) (kO ys o cp Ak) ⟨_, _, O, O, O⟩ As O (.inl O)) ?_
 refine CK [4, 2, 1, 0] O ?_
 refine A5 (CV (t := 4) (x := .vs o (A6 ys.reverse).length cp) (CZ ys (l' := ys.reverse) Av)) ?_
 refine A5 (CV (t := 25) (x := .vs o (A6 ys.reverse).length cp) (CZ ys (l' := ys.reverse) Av)) ?_
 refine A5 (CV (t := 28) (x := .vs o (A6 ys.reverse).length cp) (CZ ys (l' := ys.reverse) Av)) ?_
 refine A5 (CV (t := 3) (x := .vs o (A6 ys.reverse).length cp) (CZ ys (l' := ys.reverse) Av)) ?_
 refine A5 (CL (i := 0) [4, 25, 28, 3] O (DA ⟨O, O, O, O, Aw⟩)) ?_
 refine BP (A9 [0] O (Bg [0] [] O O ?_))
 rw [hS, OK (Classical.or_iff_not_imp_left.2 fun h => by simp at h; exact fun e => absurd (c h) (by simp [e]))]
 all_goals exact ⟨rfl, rfl⟩
theorem Rt : ∀ (e : Int), BL Tryz.prog 129 [.p (I e)] [] (Ww (.p (.iface 207 (I e))) []) := by
 intro e
 refine DI Tryz.func129 ?_
 refine A2 [1] O (Uu r6 (by intro ms h; cases h) O) ?_
 refine DS [0] O ?_
 refine T4 O O (Qk O) ?_
 exact ⟨O, _, List.nil_sublist _, ⟨O, O⟩⟩
theorem QY : ∀ (e : Int), En Tryz.prog 80 [.p (.iface 207 (I e))] (.p (I e)) := by
 intro e
 refine DI Tryz.func80 ?_
 refine A2 [2] O (TK r6 O O) ?_
 refine ID [7] O O (fun c => by cases c) (fun c => ?_)
 refine A9 [2] O (Bg [] [] O O ⟨O, O⟩)
theorem ju : ∀ (k i : Int), En Tryz.prog 132 [.p (I k), .p (I i)] (.p (I (below k i))) := by
 intro k i
 refine DI Tryz.func132 ?_
 refine CI [1] 1 [0, 1] 5 (((i : Int) == (1 : Int)) && ((((k : Int) == (5 : Int)) || ((k : Int) == (6 : Int))) || ((k : Int) == (7 : Int)))) O O ?_ ?_
 ·refine Bc [3] 8 rfl rfl ?_ ?_ <;> intro g
  ·refine Bc [3] 11 rfl rfl ?_ ?_ <;> intro g1
   ·exact CT [9] O
   refine Bc [4] 15 rfl rfl ?_ ?_ <;> intro g2
   ·exact CT [5] O
   exact CT [5] O
  exact CT [12] O
 refine BC [0] rfl ?_ ?_ <;> intro c
 ·refine BC [0] rfl ?_ ?_ <;> intro c1
  ·refine A9 [1] O (Bg [] [] O O ⟨pI (by unfold below; simp_all), O⟩)
  refine A9 [1] O (Bg [] [] O O ⟨pI (by unfold below; simp_all), O⟩)
 refine CI [0] 2 [] 5 (((i : Int) == (2 : Int)) && ((k : Int) == (11 : Int))) O O ?_ ?_
 ·refine Bc [3] 22 rfl rfl ?_ ?_ <;> intro g
  ·exact CT [4] O
  exact CT [4] O
 refine BC [0] rfl ?_ ?_ <;> intro c1
 ·refine A9 [1] O (Bg [] [] O O ⟨pI (by unfold below; simp_all), O⟩)
 refine A9 [1] O (Bg [] [] O O ⟨pI (by unfold below; simp_all), O⟩)
theorem aM : ∀ (i : Int), BL Tryz.prog 96 [.p (I i)] [] (OP (fun (r : Tm) => TV r) (fun e => .p (.iface 207 (I e))) (fun r H' => H' = []) (Il i)) := by
 intro i
 refine DI Tryz.func96 ?_
 refine Bp [0] O (Az Ba O) fun b2 => ?_
 refine BC [2] rfl ?_ ?_ <;> intro c
 ·refine DS [0] O ?_
  refine Pz O O O (.inl ⟨O, O, O⟩) (Rt 24) (aw (we O) (HT)) ?_
  exact ⟨O, _, List.nil_sublist _, ⟨_, by unfold Il; rw [if_pos Au], rfl⟩⟩
 refine CK [3, 0, 0] O ?_
 refine A5 (BE (i := 0) O) ?_
 refine BP (A9 [0] O (Bg [0] [] O O ⟨(.mk 0 i ⟨#[]⟩ [] [] : Tm), by unfold Il; rw [if_neg Au]; rfl, rfl, rfl⟩))
theorem kv : ∀ (bc : Nat) (n m : Int), BL Tryz.prog 91 [.ptr bc 0, .p (I m)] [.box bc [.p (I n)]] (OP (fun (r : Int) => .tup []) (fun e => .p (.iface 207 (I e))) (fun r H' => H' = [.box bc [.p (I r)]]) (ZM n m)) := by
 intro bc n m
 refine DI Tryz.func91 ?_
 refine A2 [5, 0] O (Eg O O) ?_
 refine BC [8, 0, 0, 0] rfl ?_ ?_ <;> intro c
 ·refine DS [0] O ?_
  refine Pz O O O (.inl ⟨O, O, O⟩) (Rt 5) (aw (we O) (HT)) ?_
  exact ⟨O, _, List.nil_sublist _, ⟨_, by unfold ZM; rw [if_pos Au], rfl⟩⟩
 refine Ks [0] O ?_
 refine ⟨O, _, _, O, (HB (is := [0]) O), ?_⟩
 exact ⟨(wr (n + m)), by unfold ZM; rw [if_neg Au], rfl, rfl⟩
theorem _root_.Go.AM {α:Prop}(h:α:=by simp only[List.length_map,List.length_take,List.length_cons,List.length_nil];omega):α:=h
theorem Sq : ∀ (t : Tm), (Nd t) → En Tryz.prog 95 [.agg ((BD t).map .p)] (.agg ((BD (QS t)).map .p)) := by
 intro t h1
 obtain ⟨tk, ti, tn, tl, ts⟩ := t
 simp only [Nd, Db] at h1
 refine DI Tryz.func95 ?_
 refine CG [0] O O fun b1 => ?_
 refine Bp [0] O (Az Ba O) fun b2 => ?_
 refine Bp [7, 1, 1, 1] O (Az Ba O) fun b3 => ?_
 refine DS [1, 0, 0] O ?_
 refine BH (EV (i := 0) O (Ux (aw (we O) (aw (we O) (aw (we O) (aw (Iv) (aw (we O) (HT)))))))) ?_
 refine BH (H6 (sz := 2)) ?_
 refine BW (CA [2, 3] O O (List.length_map _) ?_)
 refine GG (α := Nat × Option Nat × Nat) [1] [2, 3, 14, 15] [0, 1, 2] (fun (i, o, cp) => [(16, .p (I (i : Int)))]) (fun (i, o, cp) => [(0, .vec o 2 (List.map B4 (tl.take i)) cp), (1, .box b3 [.p (I tk), .p (I ti), .p (.str tn), .vs o (List.map B4 (tl.take i)).length cp, .p (.nils)])]) (fun (i, o, cp) => tl.length - i) (fun (i, o, cp) => i ≤ tl.length) ⟨0, none, 0⟩ O O O AY ?_
 rintro ⟨i, o, cp⟩ hC
 try simp only at hC
 have hi := hC
 refine BC [1] rfl ?_ ?_ <;> intro c
 ·refine D7 [0] tl i O O O (H5 E3) (fun x hx => ?_)
  refine Bp [1] O (Az FC O) fun b5 => ?_
  refine E2 [1, 0, 0] [9] O ?_
  refine Bb [6, 2, 0, 0] O ?_
  refine A3 O (fun _ => Mo (rows' := List.map Ey x.vars) DC DC HH O O (fun _ _ _ h => Xp h) O (G6 _) (by have := h1.2.2.1 x (List.mem_of_getElem? hx); have := this.1; simp only [Db] at this; simp only [List.length_map]; omega)) Aw ?_
  refine A3 O (fun _ => EW ry FC O) Aw ?_
  refine A3 O (fun _ => BJ KX FC O O O O O) Aw ?_
  refine JS [] O O (Bi (i := 1) (rows' := List.map B4 [(CX.mk x.const x.vars)]) KX KX FC O O O O O O (Nl _) AM (Fx (f := B4) (tl.take i) [(CX.mk x.const x.vars)])) Ap fun o1 cp1 => ⟨AB, Aw, ?_⟩
  refine CY tab 2 [2, 0] O ?_
  exact Cu (FR [2] 1 ⟨i + 1, o1, cp1⟩ O Au (e2 := wl (Eo (f := B4) (tl.take i ++ [(CX.mk x.const x.vars)]) (by rw [List.take_add_one, hx]; rfl)) (wl (Ux (aw (we O) (aw (we O) (aw (we O) (aw (we (FQ (f := B4) (tl.take i ++ [(CX.mk x.const x.vars)]) (by rw [List.take_add_one, hx]; rfl))) (aw (we O) (HT))))))) (wl (oe O) (Ih)))))
 refine DF [0] O ?_
 refine DS [0] O ?_
 refine BH (Cf (i := 0) (j := 1) (q := 3) [] O O O (DA Aw)) ?_
 refine BW (CK [2, 0, 1, 0] O ?_)
 refine A5 (BE (i := 1) O) ?_
 refine BP (A9 [0] O (Bg [1] [] O O ⟨by rw [show i = tl.length by omega, List.take_length]; rfl, rfl⟩))
theorem _root_.Go.AP {α:Prop}(h:α:=by simp only[A8,List.length_append,List.length_replicate,hB.1];omega):α:=h
theorem Pq : ∀ {σ : Type} (vis : σ → Tm → Int → Except Int ((Tm × Bool) × σ)) (HP : σ → List A4 → Prop) (fid : Nat) (caps : List AV) (hv : ∀ (s : σ) (t : Tm) (d : Int) (T : List A4), Nd t → Vp t → 0 ≤ d → d < Db → HP s T → BL Tryz.prog fid ([TV t, .p (I d)] ++ caps) T (OP (fun (r : (Tm × Bool) × σ) => .tup [TV r.1.1, .p (.bool r.1.2)]) (fun e => .p (.iface 207 (I e))) (fun r => HP r.2) (vis s t d))) (n : Nat) (t : Tm) (d : Int) (s : σ) (T0 : List A4), size t ≤ n → Nd t → Vp t → 0 ≤ d → d + size t < Db → HP s T0 → BL Tryz.prog 92 [.agg [.fn (.func fid) [] caps], TV t, .p (I d)] T0 (OP (fun (r : Tm × σ) => TV r.1) (fun e => .p (.iface 207 (I e))) (fun r => HP r.2) (EE vis t d s)) := by
 intro σ vis HP fid caps hv n
 induction n with
 | zero => intro t d s T0 h1; exact absurd h1 (by have := size_pos t; omega)
 | succ n ih =>
  intro t d s T0 h1 h2 h3 h4 h5 h6
  simp only [Db] at h5
  refine DI Tryz.func92 ?_
  refine CG [0] O O fun b3 => ?_
  refine CG [0] O O fun b4 => ?_
  refine Bp [0] O (Az Ba O) fun b6 => ?_
  refine DS [4, 2, 1] O ?_
  refine rU [_, _, _] O O O (.inr O) (hv s t d T0 h2 h3 h4 (by simp only [Db]; have := size_pos t; omega) h6) (Dt _) ?_ ?_
  rotate_left
  ·intro e _ he
   exact ⟨O, _, List.nil_sublist _, ⟨_, HD he, O⟩⟩
  rintro ⟨⟨z, dn⟩, q⟩ T hz hT
  refine BW (Bp [3] O (Az Ba O) fun b7 => ?_)
  refine BC [3, 0, 1] rfl ?_ ?_ <;> intro c
  ·refine A9 [2, 0, 1, 1] O ?_
   refine ⟨O, _, _, ⟨_, _, O, (DR (i := 1) CN O O Am), O⟩, (Et [] [_, _, _, _] O), ?_⟩
   exact ⟨⟨z, q⟩, Fj (by rw [hz, c]), O, hT⟩
  obtain ⟨zk, zi, zn, zl, zs⟩ := z
  obtain ⟨tk, ti, tn, tl, ts⟩ := t
  simp only [size] at h1 h5
  have hn2 := h2
  simp only [Nd, Db] at hn2
  refine CA [4, 0, 0, 2] O O (A8 _) ?_
  refine BC [1] rfl ?_ ?_ <;> intro c1
  ·refine CA [2, 2] O O (A8 _) ?_
   refine DS [0] O ?_
   refine P7 O O (KR BS Ba O O As O O O Au Au Au (rH (((ts.length : Nat) : Int).toNat) (.mk 0 0 ⟨#[]⟩ [] [] : Tm))) fun b29 cp => ?_
   refine BW (CA [4, 1, 0, 3] O O (A8 _) ?_)
   refine CK [1] O ?_
   refine Er (α := Nat × List Tm × σ × List A4 × Option Nat × Nat) (fun (i, ys, q1, U, o, cp1) => ⟨54, mk [(2, .p (I d)), (3, .ptr b3 0), (4, .ptr b4 0), (6, .ptr b6 0), (7, .ptr b7 0), (32, .p (.lst (A6 ts))), (33, .p (I (ts.length : Nat))), (34, .p (I (i : Int)))], (.vec o 5 (A6 (ys ++ List.replicate (ts.length - i) BN)) cp1 :: .box b7 [.p (I zk), .p (I zi), .p (.str zn), .p (.lst (List.map B4 zl)), .vs o (A6 (ys ++ List.replicate (ts.length - i) BN)).length cp1] :: .box b6 [.p (I 0), .p (I 0), .p (.str ⟨#[]⟩), .p (.nils), .p (.nils)] :: .box b4 [.p (I tk), .p (I ti), .p (.str tn), .p (.lst (List.map B4 tl)), .p (.lst (A6 ts))] :: .box b3 [.fn (.func fid) [] caps] :: U), []⟩) (fun (i, ys, q1, U, o, cp1) => ts.length - i) (fun (i, ys, q1, U, o, cp1) => i ≤ ts.length ∧ (TU vis tk ts d q i ys q1 ∧ HP q1 U)) ⟨0, [], q, T, (some b29), cp⟩ (⟨by omega, TU.zero _ _ _ _, hT⟩) ?_ ?_
   ·exact Ec ⟨we O, we O, we O, we O, we O, we O, we O, we O, Aw⟩ (Uf [0, 1, 2, 3, 4] [_, _, _, _, _] (l' := [_, _, _, _, _]) O (wl (oe O) (wl (oe O) (wl (oe O) (wl (oe O) (wl (oe O) (Ih)))))))
   rintro ⟨i, ys, q1, U, o, cp1⟩ hC
   try simp only at hC
   obtain ⟨hi, hB, hU⟩ := hC
   have hbl := Cx tk i
   refine xg (BC [1] rfl ?_ ?_) <;> intro c2
   ·refine D7 [1] ts i O O O (IH _) (fun x hx => ?_)
    refine Bp [1] O (Az Ba O) fun b10 => ?_
    refine CK [2, 0, 1] O ?_
    refine JI (i := 1) O Aj fun b hb => ?_
    subst hb
    refine BP (E2 [0] [11] O ?_)
    refine Bb [9, 2, 5, 0, 4] O ?_
    refine A3 O (fun _ => BF O O (ju tk (i : Int)) O) Aw ?_
    refine Bb [1] O ?_
    refine wR [_, _, _, _, _, _] O O O (.inl ⟨O, O, O⟩) (ih x (d + below tk i) q1 U (by have := CU hx; omega) (DV h2.2.2.2.2.1 hx) (Nt h3.2 hx) (by have := (Cx tk i).1; omega) (by have := CU hx; have := Cx tk i; simp only [Db]; omega) hU) (Dt _) Ap Ap O AB ?_ ?_
    rotate_left
    ·intro e he _ _ hτ
     exact ⟨O, _, List.nil_sublist _, ⟨_, JP (by rw [hz, c]) (hB.err hx he), O⟩⟩
    rintro ⟨y, q2⟩ T1 hz1 hT1
    refine ⟨AB, Aw, ?_⟩
    refine A3 O (fun _ => CJ BS O O Au AP) Aw ?_
    refine FB O O (C7 (i := 1) (j := i) CN O O O AP O (Ho _) (A7 _) (Gd _) (MP (ys ++ List.replicate (ts.length - i) BN) i y)) AB Aw ?_
    refine HC O Ap ?_
    refine Cu (Ks [2] O ?_)
    refine ⟨⟨i + 1, ys ++ [y], q2, T1, (some b), cp1⟩, Ae, ⟨by omega, ⟨hB.succ hx hz1, hT1⟩⟩, Ec ⟨we rfl, we rfl, we rfl, we rfl, we rfl, we rfl, we rfl, we rfl, trivial⟩ (Uf [1, 2, 3, 4, 5] [_, _, _, _, _, _] (l' := [_, _, _, _, _]) rfl (wl (Gw ((ys ++ List.replicate (ts.length - i) BN).set i y) (by rw [Y2 hB.1 Au]; congr 2)) (wl (Ux (aw (we rfl) (aw (we rfl) (aw (we rfl) (aw (we rfl) (aw (we (CZ (ys ++ List.replicate (ts.length - i) BN) Ao)) (HT))))))) (wl (oe rfl) (wl (oe rfl) (wl (oe rfl) (Ih)))))))⟩
   refine DF [0] O ?_
   refine DS [0] O ?_
   refine BH (Cf (i := 0) (j := 1) (q := 4) [] O O O (DA Aw)) ?_
   refine BW (A9 [2, 0, 1, 0] O ?_)
   refine ⟨O, _, _, ⟨_, _, O, (DR (i := 1) CN O O O), O⟩, (Et [] [_, _, _, _] O), ?_⟩
   rw [show ts.length - i = 0 by omega, List.replicate_zero, List.append_nil]
   exact ⟨⟨.mk zk zi zn zl ys, q1⟩, IC (by rw [hz, c]) (hB.fin Au), O, hU⟩
  refine CK [2, 0, 1, 0] O ?_
  refine A5 (BE (i := 1) O) ?_
  refine BP (A9 [0] O ?_)
  refine ⟨O, _, _, ⟨_, _, O, (DR (i := 1) CN O O O), O⟩, (Et [] [_, _, _, _] O), ?_⟩
  exact ⟨⟨.mk zk zi zn zl [], q⟩, IC (o := .mk zk zi zn zl zs) (q := q) (ys := []) (by rw [hz, c]) (by rw [show ts = [] by (cases ts with | nil => rfl | cons a b => simp at c1; omega)]; rfl), O, hT⟩
theorem e7 : ∀ (fid : Nat) (caps : List AV), BL Tryz.prog 93 [.fn (.func fid) [] caps] [] (W2 (fun b => .agg [.fn (.func 133) [] [.ptr b 0]]) [.fn (.func fid) [] caps]) := by
 intro fid caps
 refine DI Tryz.func93 ?_
 refine CG [0] O O fun b1 => ?_
 refine Bp [0] O (Az u6 O) fun b2 => ?_
 refine A9 [3, 0, 0] O (Bg [0] [1] O O ⟨_, O, O⟩)
theorem Yz : ∀ (rep : Tm → Int → Except Int Tm) (fid : Nat) (caps : List AV) (T : List A4) (hr : ∀ (t : Tm) (d : Int), Nd t → Vp t → t.kind = 0 → 0 ≤ d → d < Db → BL Tryz.prog fid ([TV t, .p (I d)] ++ caps) T (OP (fun (r : Tm) => TV r) (fun e => .p (.iface 207 (I e))) (fun r H' => H' = T) (rep t d))) (bR : Nat) (s : Unit) (t : Tm) (d : Int), Nd t → Vp t → 0 ≤ d → d < Db → BL Tryz.prog 133 [TV t, .p (I d), .ptr bR 0] (.box bR [.fn (.func fid) [] caps] :: T) (OP (fun (r : (Tm × Bool) × Unit) => .tup [TV r.1.1, .p (.bool r.1.2)]) (fun e => .p (.iface 207 (I e))) (fun r H' => H' = .box bR [.fn (.func fid) [] caps] :: T) (KW rep s t d)) := by
 intro rep fid caps T hr bR s t d h1 h2 h3 h4
 refine DI Tryz.func133 ?_
 refine CG [0] O O fun b3 => ?_
 refine Bp [0] O (Az Ba O) fun b5 => ?_
 obtain ⟨tk, ti, tn, tl, ts⟩ := t
 refine BC [4, 1] rfl ?_ ?_ <;> intro c
 ·refine DS [3, 2, 1] O ?_
  refine rU [_, _, _] O O O (.inr O) (hr (.mk tk ti tn tl ts) d h1 h2 c h3 h4) (Dt _) ?_ ?_
  rotate_left
  ·intro e _ he
   exact ⟨O, _, List.nil_sublist _, ⟨_, K3 c he, O⟩⟩
  rintro z _ hz rfl
  refine BW (A9 [2, 0, 1] O ?_)
  refine ⟨O, _, _, ⟨_, _, O, (DR (i := 0) CN O O Am), ⟨_, _, O, O, O⟩⟩, (Et [2] [_, _, _] O), ?_⟩
  exact ⟨⟨⟨z, true⟩, ()⟩, Kl c hz, O, O⟩
 refine CQ [1, 1] O (Sq (.mk tk ti tn tl ts : Tm) h1) ?_
 refine A9 [2, 0, 1] O ?_
 refine ⟨O, _, _, ⟨_, _, O, (DR (i := 0) CN O O Am), ⟨_, _, O, O, O⟩⟩, (Et [2] [_, _, _] O), ?_⟩
 exact ⟨⟨⟨.mk tk ti tn tl [], false⟩, ()⟩, Lk c, O, O⟩
theorem hZ : ∀ (t : Tm) (d : Int) (bf bb : Nat) (fr b : Int), (Nd t) → (Vp t) → (t.kind = 0) → (0 ≤ d) → (d < Db) → (-4611686018427387904 ≤ b ∧ b ≤ 4611686018427387904) → (-2305843009213693952 ≤ fr ∧ fr ≤ 2305843009213693952) → BL Tryz.prog 128 [.agg ((BD t).map .p), .p (I d), .ptr bf 0, .ptr bb 0] [.box bf [.p (I fr)], .box bb [.p (I b)]] (OP (fun (r : Tm) => TV r) (fun e => .p (.iface 207 (I e))) (fun r H' => H' = [.box bf [.p (I fr)], .box bb [.p (I b)]]) (Yj b fr t d)) := by
 intro t d bf bb fr b h1 h2 h3 h4 h5 h6 h7
 obtain ⟨tk, ti, tn, tl, ts⟩ := t
 have hi := h2.1 h3
 simp only [Db] at h5
 refine DI Tryz.func128 ?_
 refine CG [0] O O fun b4 => ?_
 refine Bp [0] O (Az Ba O) fun b6 => ?_
 refine BC [8, 1, 2] rfl ?_ ?_ <;> intro c
 ·refine CQ [1, 1] O (Sq (.mk tk ti tn tl ts : Tm) h1) ?_
  refine A9 [1, 0, 1] O (Bg [0] [2, 3] O O ⟨(.mk tk ti tn tl []), Wf c, O, O⟩)
 refine CI [0] 4 [3, 4, 6] 25 ((decide ((b : Int) < (0 : Int))) && (decide (((ti : Int) - (d : Int) : Int) < ((fr : Int) - (b : Int) : Int)))) O O ?_ ?_
 ·refine Bc [3, 3] 19 rfl rfl ?_ ?_ <;> intro g
  ·exact CT [6, 2, 3] O
  exact CT [6] O
 refine BC [0] rfl ?_ ?_ <;> intro c1
 ·refine DS [0] O ?_
  refine Pz O O O (.inl ⟨O, O, O⟩) (Rt 24) (aw (we O) (HT)) ?_
  exact ⟨O, _, List.nil_sublist _, ⟨_, dL Au Au Au, O⟩⟩
 refine DS [4, 1, 3] O ?_
 refine GZ [] O O O (.inl ⟨O, O, O⟩) (aM ((ti : Int) + (b : Int))) O As (aw (we O) (HT)) (fun _ _ h => (congrArg List.length h).trans O) ?_ ?_
 rotate_left
 ·intro e _ he
  exact ⟨O, _, List.nil_sublist _, ⟨_, by rw [Wr Au Au, he], rfl⟩⟩
 rintro z _ hz rfl
 refine BW (A9 [1, 0, 1] O (Bg [0] [2, 3] O O ⟨z, by rw [Wr Au Au, hz], rfl, rfl⟩))
theorem _root_.Go.AS {α:Prop}(h:α:=by repeat' first | exact trivial | rfl | refine And.intro ?_ ?_):α:=h
theorem Tx : ∀ (t : Tm) (b fr : Int), (Nd t) → (Vp t) → (size t < Db) → (-4611686018427387904 ≤ b ∧ b ≤ 4611686018427387904) → (-2305843009213693952 ≤ fr ∧ fr ≤ 2305843009213693952) → BL Tryz.prog 81 [.agg ((BD t).map .p), .p (I b), .p (I fr)] [] (OP (fun (r : Tm) => TV r) (fun e => .p (.iface 207 (I e))) (fun r H' => H' = []) (Iy b fr t)) := by
 intro t b fr h1 h2 h3 h4 h5
 refine DI Tryz.func81 ?_
 refine CG [0] O O fun b3 => ?_
 refine CG [0] O O fun b4 => ?_
 refine CG [0] O O fun b5 => ?_
 refine Bp [0] O (Az Ba O) fun b6 => ?_
 refine E2 [0] [1, 3] O ?_
 refine A3 O (fun _ => EK O O) Aw ?_
 refine PK [(2, .read [.box b3 ((BD t).map .p)] (.agg ((BD t).map .p)))] O O O (.inl ⟨O, O, O⟩) (e7 128 [.ptr b5 0, .ptr b4 0]) (.inl O) Ap fun bn => ⟨AB, Aw, ?_⟩
 refine Bb [1, 4] O ?_
 refine XD [0, 2, 3] O O O (.inl ⟨O, O, O⟩) (Pq (KW (Yj b fr)) (fun _ T => T = [.box bn [.fn (.func 128) [] [.ptr b5 0, .ptr b4 0]], .box b5 [.p (I fr)], .box b4 [.p (I b)]]) 133 [.ptr bn 0] (fun s t d T hn hp h0 hb hT => by subst hT; exact Yz (Yj b fr) 128 [.ptr b5 0, .ptr b4 0] _ (fun t d g1 g2 g3 g4 g5 => hZ t d b5 b4 fr b g1 g2 g3 g4 g5 h4 h5) bn s t d hn hp h0 hb) _ t 0 () _ (Nat.le_refl _) h1 h2 Au Au rfl) ⟨_, _, rfl, rfl, ⟨_, _, rfl, rfl, ⟨_, _, rfl, rfl, rfl⟩⟩⟩ As (Dt _) (fun _ _ h => (congrArg List.length h).trans rfl) Ap Ap rfl AB ?_ ?_
 rotate_left
 ·intro e he _ _ hτ
  exact ⟨O, _, List.nil_sublist _, ⟨_, Qo he, O⟩⟩
 rintro ⟨z, _⟩ _ hz rfl
 refine ⟨AB, AS, ?_⟩
 refine Dj [1, 1, 1] O (A9 [0] O (Bg [1] [] O O ⟨z, SR hz, O, O⟩))
theorem WI : ∀ (bo be : Nat) (co ce : List AV), D8 Tryz.prog 88 [.ptr bo 0, .ptr be 0] (.ret) [.box bo co, .box be ce] (fun H' => H' = [.box bo co, .box be ce]) := by
 intro bo be co ce
 refine GQ (ty2 := 0) Tryz.func88 O ve (n := 9) O O O O O O ?_
 refine BQ ?_
 refine D3 O ?_
 refine BA O (Fb Wu O O O) ?_
 refine Ch O ?_
 refine BX O (fun c => by cases c) (fun c => ?_)
 refine Bn ?_
 exact ⟨.inl O, O, _, (HB (is := [0, 1]) O), O⟩
theorem VJ : ∀ (bo be : Nat) (e : Int), D8 Tryz.prog 88 [.ptr bo 0, .ptr be 0] (.pan (.p (.iface 207 (I e)))) [.box bo [.p (I 0), .p (I 0), .p (.str ⟨#[]⟩), .p (.nils), .p (.nils)], .box be [.p (I 0)]] (fun H' => H' = [.box bo [.p (I 0), .p (I 0), .p (.str ⟨#[]⟩), .p (.lst []), .p (.lst [])], .box be [.p (I e)]]) := by
 intro bo be e
 refine GQ (ty2 := 0) Tryz.func88 O ve (n := 9) O O O O O O ?_
 refine BQ ?_
 refine D3 O ?_
 refine BA O (Fb Wu O O O) ?_
 refine BH (BE (i := 0) O) ?_
 refine Ch O ?_
 refine BX O (fun c => ?_) (fun c => by cases c)
 refine Be ?_
 refine BT tab 2 [] O ?_
 refine BA O (BF O O (QY _) O) ?_
 refine BT tab 2 [0, 0, 1, 0] O ?_
 refine BH (BE (i := 0) O) ?_
 refine Ch O ?_
 exact ⟨.inl O, O, _, (HB (is := [0, 1]) O), O⟩
theorem WH : ∀ (t : Tm) (d : Int) (bd bv : Nat) (dp : Int) (vs : List Tm), BL Tryz.prog 89 [.agg ((BD t).map .p), .p (I d), .ptr bd 0, .ptr bv 0] [.box bd [.p (I dp)], .box bv [.p (.lst (A6 vs))]] (Gm (.p (I (KN vs dp t.index d))) [.box bd [.p (I dp)], .box bv [.p (.lst (A6 vs))]]) := by
 intro t d bd bv dp vs
 obtain ⟨tk, ti, tn, tl, ts⟩ := t
 refine DI Tryz.func89 ?_
 refine CG [0] O O fun b4 => ?_
 refine A2 [4, 0] O (J4 O O) ?_
 refine A2 [1, 1] O (J4 O O) ?_
 refine CI [1] 2 [7] 21 ((decide ((wr ((wr ((ti : Int) - (d : Int)) : Int) - (dp : Int)) : Int) ≥ (0 : Int))) && (decide ((wr ((wr ((ti : Int) - (d : Int)) : Int) - (dp : Int)) : Int) < ((vs.length : Nat) : Int)))) O O ?_ ?_
 ·refine Bc [3] 16 rfl rfl ?_ ?_ <;> intro g
  ·refine CA [2, 2] O O (A8 _) ?_
   exact CT [2] O
  exact CT [5] O
 refine BC [0] rfl ?_ ?_ <;> intro c
 ·refine A9 [2] O (Bg [] [1, 2] O O ⟨pI (nV Au Au).symm, O⟩)
 refine A9 [1] O (Bg [] [1, 2] O O ⟨pI (qK (ti := ti) Au).symm, O⟩)
theorem gU : ∀ (t : Tm) (d : Int) (bv bc bs bd bvs cb : Nat) (dp n : Int) (vs : List Tm) (sz : List Int), (sz.length = vs.length) → BL Tryz.prog 90 [.agg ((BD t).map .p), .p (I d), .ptr bv 0, .ptr bc 0, .ptr bs 0] [.box bv [.fn (.func 89) [] [.ptr bd 0, .ptr bvs 0]], .box bc [.ptr cb 0], .box bs [.p (.lst (List.map Fz sz))], .box bd [.p (I dp)], .box bvs [.p (.lst (A6 vs))], .box cb [.p (I n)]] (OP (fun (r : (Tm × Bool) × Int) => .tup [TV r.1.1, .p (.bool r.1.2)]) (fun e => .p (.iface 207 (I e))) (fun r H' => H' = [.box bv [.fn (.func 89) [] [.ptr bd 0, .ptr bvs 0]], .box bc [.ptr cb 0], .box bs [.p (.lst (List.map Fz sz))], .box bd [.p (I dp)], .box bvs [.p (.lst (A6 vs))], .box cb [.p (I r.2)]]) (TS vs sz dp n t d)) := by
 intro t d bv bc bs bd bvs cb dp n vs sz h1
 obtain ⟨tk, ti, tn, tl, ts⟩ := t
 refine DI Tryz.func90 ?_
 refine CG [0] O O fun b5 => ?_
 refine Bp [0] O (Az Ba O) fun b7 => ?_
 refine A2 [4, 2, 1] O (Bj [5, 6] O (.inr O) (WH (.mk tk ti tn tl ts : Tm) d bd bvs dp vs) ⟨_, _, O, O, ⟨_, _, O, O, O⟩⟩ As O (.inl O)) ?_
 refine CI [1] 2 [3, 4, 5, 7, 9] 20 (((tk : Int) == (0 : Int)) && (decide ((KN vs dp (.mk tk ti tn tl ts : Tm).index d : Int) ≥ (0 : Int)))) O O ?_ ?_
 ·refine Bc [4, 1] 17 rfl rfl ?_ ?_ <;> intro g
  ·exact CT [3] O
  exact CT [3] O
 refine BC [0] rfl ?_ ?_ <;> intro c
 ·have hvl := Wj (vs := vs) (dp := dp) (ti := (Tm.mk tk ti tn tl ts).index) (d := d) c.2
  refine E2 [0] [5] O ?_
  refine Bb [3, 3, 4] O ?_
  obtain ⟨x, hx⟩ := A1 (l := sz) (i := (KN vs dp (.mk tk ti tn tl ts : Tm).index d : Int).toNat) Au
  refine A3 O (fun _ => A0 HL O O Au (K4 hx) (O)) Aw ?_
  refine A3 O (fun _ => Gp Dz O) Aw ?_
  refine XD [7] O O O (.inl ⟨O, O, O⟩) (kv cb n x) ⟨_, _, O, O, O⟩ As (aw (we O) (aw (we O) (HT))) (fun _ _ h => (congrArg List.length h).trans O) Ap Ap O AB ?_ ?_
  rotate_left
  ·intro e he _ _ hτ
   exact ⟨O, _, List.nil_sublist _, ⟨_, O4 (Tk c hx) he, O⟩⟩
  rintro r _ hz rfl
  refine ⟨AB, Aw, ?_⟩
  refine HC O Ap ?_
  refine Cu (E2 [0] [] O ?_)
  refine Dj [6, 1, 0, 0] O (CK [0] O ?_)
  refine A5 (BE (i := 0) O) ?_
  refine BP (A9 [0] O (Bg [0] [2, 3, 4, 5, 6, 7] O O ⟨⟨⟨BN, decide (tk = 0)⟩, r⟩, Rs (Tk c hx) hz, O, O⟩))
 refine DS [1, 3] O ?_
 refine GZ [7] O O O (.inl ⟨O, O, O⟩) (kv cb n 1) ⟨_, _, O, O, O⟩ As (aw (we O) (aw (we O) (HT))) (fun _ _ h => (congrArg List.length h).trans O) ?_ ?_
 rotate_left
 ·intro e _ he
  exact ⟨O, _, List.nil_sublist _, ⟨_, O4 (R7 (by simp_all [Tm.index])) he, O⟩⟩
 rintro r _ hz rfl
 refine BW (E2 [0] [] O ?_)
 refine Dj [6, 1, 0, 0] O (CK [0] O ?_)
 refine A5 (BE (i := 0) O) ?_
 refine BP (A9 [0] O (Bg [0] [2, 3, 4, 5, 6, 7] O O ⟨⟨⟨BN, decide (tk = 0)⟩, r⟩, Rs (R7 (by simp_all [Tm.index])) hz, O, O⟩))
theorem gX : ∀ (t : Tm) (d : Int) (bv bvs bd : Nat) (dp : Int) (vs : List Tm), (Nd t) → (Vp t) → (t.kind = 0) → (0 ≤ d) → (d < Db) → (M6 vs) → (Uh vs) → (∀ v ∈ vs, size v < Db) → (0 ≤ dp ∧ dp ≤ 65536) → (vs.length < Db) → BL Tryz.prog 94 [.agg ((BD t).map .p), .p (I d), .ptr bv 0, .ptr bvs 0, .ptr bd 0] [.box bv [.fn (.func 89) [] [.ptr bd 0, .ptr bvs 0]], .box bvs [.p (.lst (A6 vs))], .box bd [.p (I dp)]] (OP (fun (r : Tm) => TV r) (fun e => .p (.iface 207 (I e))) (fun r H' => H' = [.box bv [.fn (.func 89) [] [.ptr bd 0, .ptr bvs 0]], .box bvs [.p (.lst (A6 vs))], .box bd [.p (I dp)]]) (ME vs dp t d)) := by
 intro t d bv bvs bd dp vs h1 h2 h3 h4 h5 h6 h7 h8 h9 h10
 obtain ⟨tk, ti, tn, tl, ts⟩ := t
 have hti := h2.1 h3
 simp only [Db] at h5
 have hw : wr (dp + d) = dp + d := ES (by unfold JY; omega)
 refine DI Tryz.func94 ?_
 refine CG [0] O O fun b5 => ?_
 refine Bp [0] O (Az Ba O) fun b7 => ?_
 refine A2 [3, 2, 1] O (Bj [4, 3] O (.inr O) (WH (.mk tk ti tn tl ts : Tm) d bd bvs dp vs) ⟨_, _, O, O, ⟨_, _, O, O, O⟩⟩ As O (.inl O)) ?_
 refine BC [3] rfl ?_ ?_ <;> intro c
 ·have hvl := Wj (vs := vs) (dp := dp) (ti := (Tm.mk tk ti tn tl ts).index) (d := d) c
  refine E2 [0] [7] O ?_
  refine Bb [2, 3] O ?_
  obtain ⟨x, hx⟩ := A1 (l := vs) (i := (KN vs dp (.mk tk ti tn tl ts : Tm).index d : Int).toNat) Au
  refine A3 O (fun _ => A0 BS O O Au (BO hx) (A7 _)) Aw ?_
  refine Bb [3, 4] O ?_
  refine A3 O (fun _ => Eg O O) Aw ?_
  refine XD [] O O O (.inl ⟨O, O, O⟩) (Tx x (wr ((dp : Int) + (d : Int))) 0 (DV h6 hx) (Nt h7 hx) (h8 x (List.mem_of_getElem? hx)) (by rw [hw]; omega) Au) O As (aw (we O) (aw (we O) (aw (we O) (HT)))) (fun _ _ h => (congrArg List.length h).trans O) Ap Ap O AB ?_ ?_
  rotate_left
  ·intro e he _ _ hτ
   exact ⟨O, _, List.nil_sublist _, ⟨_, (TG (i := ti) c hx).trans he, O⟩⟩
  rintro z _ hz rfl
  refine ⟨AB, Aw, ?_⟩
  refine Dj [1, 0, 1] O (A9 [0] O (Bg [0] [2, 3, 4] O O ⟨z, (TG (i := ti) c hx).trans hz, O, O⟩))
 refine A2 [3, 1] O (J4 O O) ?_
 refine BC [2, 4] rfl ?_ ?_ <;> intro c1
 ·refine CQ [1, 1] O (Sq (.mk tk ti tn tl ts : Tm) h1) ?_
  refine A9 [1, 0, 1] O (Bg [0] [2, 3, 4] O O ⟨(.mk tk ti tn tl []), Zt (by simpa [Tm.index] using c) Au, O, O⟩)
 refine CA [3, 1, 3] O O (A8 _) ?_
 refine A2 [0] O (J4 O O) ?_
 refine DS [0] O ?_
 refine GZ [] O O O (.inl ⟨O, O, O⟩) (aM (wr ((ti : Int) - ((vs.length : Nat) : Int)))) O As (aw (we O) (HT)) (fun _ _ h => (congrArg List.length h).trans O) ?_ ?_
 rotate_left
 ·intro e _ he
  exact ⟨O, _, List.nil_sublist _, ⟨_, by rw [XR (by simpa [Tm.index] using c) Au, he], rfl⟩⟩
 rintro z _ hz rfl
 refine BW (A9 [1, 0, 1] O (Bg [0] [2, 3, 4] O O ⟨z, by rw [XR (by simpa [Tm.index] using c) Au, hz], rfl, rfl⟩))
theorem _root_.Go.AH {α:Prop}(h:α:=by simp only[List.length_append,List.length_map,List.length_take,List.length_replicate];omega):α:=h
set_option maxHeartbeats 2000000 in
theorem gN : ∀ (t : Tm) (vs : List Tm) (dp : Int), (Nd t) → (Vp t) → (size t < 1099511627776) → (M6 vs) → (Uh vs) → (∀ v ∈ vs, size v < Db) → (0 ≤ dp ∧ dp ≤ 65536) → (vs.length < Db) → En Tryz.prog 48 [.agg ((BD t).map .p), .p (.lst (A6 vs)), .p (I dp)] (.tup [.agg ((BD ((Hh t vs dp).1)).map .p), .p (I ((Hh t vs dp).2))]) := by
 intro t vs dp h1 h2 h3 h4 h5 h6 h7 h8
 have h8b := h8
 simp only [Db] at h8b
 refine Em Tryz.func48 O w9 (n := 49) O O ?_
 refine BQ ?_
 refine C8 O (Dk O) fun b3 => ?_
 refine C8 O (Dk O) fun b4 => ?_
 refine C8 O (Dk O) fun b5 => ?_
 refine C8 O (Az Ba O) fun b6 => ?_
 refine C8 O (Az a8 O) fun b7 => ?_
 refine Ch O ?_
 refine BR ?_
 refine BZ tab 2 [2] O ?_
 refine BX O (fun c => ?_) (fun c => ?_)
 ·(try simp only [sd, se] at c)
  exact absurd c Au
 (try simp only [sd, se] at c)
 refine Bn ?_
 refine BQ ?_
 refine BA O (EK O O) ?_
 refine LK O O O O ?_
 refine Ch O ?_
 refine BQ ?_
 refine BA O (EK O O) ?_
 refine C8 O (Az wP O) fun b8 => ?_
 refine BK tab 1 [0, 0] O ?_
 refine BQ ?_
 refine BA O (Bt (i := 4) JW O O O) ?_
 refine BA O (Ct BS O (A8 _)) ?_
 refine P7 O O (KR HL mT O O As O O O Au Au Au (tK (f := Fz) (((vs.length : Nat) : Int).toNat) 0)) fun b20 cp => ?_
 refine C8 O (Az wo O) fun b9 => ?_
 refine BK tab 1 [0, 0] O ?_
 refine BR ?_
 refine BQ ?_
 refine BA O (Bt (i := 6) JW O O O) ?_
 refine BA O (Ct BS O (A8 _)) ?_
 refine BK tab 1 [] O ?_
 refine B3 ?_
 refine Er (α := Nat × Option Nat × Nat) (fun (i, o, cp1) => ⟨49, mk [(3, .ptr b3 0), (4, .ptr b4 0), (5, .ptr b5 0), (6, .ptr b6 0), (7, .ptr b7 0), (8, .ptr b8 0), (9, .ptr b9 0), (21, .p (.lst (A6 vs))), (22, .p (I (vs.length : Nat))), (23, .p (I (i : Int)))], [.box b9 [.vs o (List.map Fz (((vs.take i).map fun v => (size v : Int)) ++ List.replicate (vs.length - i) 0)).length cp1], .vec o 1 (List.map Fz (((vs.take i).map fun v => (size v : Int)) ++ List.replicate (vs.length - i) 0)) cp1, .box b8 [.fn (.func 89) [] [.ptr b5 0, .ptr b4 0]], .box b7 [.p (I 0)], .box b6 [.p (I 0), .p (I 0), .p (.str ⟨#[]⟩), .p (.nils), .p (.nils)], .box b5 [.p (I dp)], .box b4 [.p (.lst (A6 vs))], .box b3 ((BD t).map .p)], [.clo (.func 88) [.ptr b6 0, .ptr b7 0]]⟩) (fun (i, o, cp1) => vs.length - i) (fun (i, o, cp1) => i ≤ vs.length) ⟨0, (some b20), cp⟩ AY ?_ ?_
 ·exact Ec ⟨we O, we O, we O, we O, we O, we O, we O, we O, we O, we O, Aw⟩ (leH (is := [0, 1, 2, 3, 4, 5, 6, 7]) O (wl (Ux (aw (we (FQ (f := Fz) (List.replicate (((vs.length : Nat) : Int).toNat) 0) Av)) (HT))) (wl (Eo (f := Fz) (List.replicate (((vs.length : Nat) : Int).toNat) 0) Av) (wl (oe O) (wl (oe O) (wl (oe O) (wl (oe O) (wl (oe O) (wl (oe O) (Ih))))))))))
 rintro ⟨i, o, cp1⟩ hC
 try simp only at hC
 have hi := hC
 refine BZ tab 1 [] O ?_
 refine BR ?_
 refine BX O (fun c1 => ?_) (fun c1 => ?_)
 ·(try simp only [sd, se] at c1)
  refine Bn ?_
  refine BR ?_
  refine B3 ?_
  refine BQ ?_
  refine D3 O ?_
  obtain ⟨x, hx⟩ := A1 (l := vs) (i := i) Au
  refine BA O (A0 BS O O Au (BO hx) (A7 _)) ?_
  refine BA O (Bk CN O (A7 _)) ?_
  refine C8 O (Az Ba O) fun b11 => ?_
  refine BK tab 2 [0, 1] O ?_
  refine JI (i := 2) O Aj fun b hb => ?_
  subst hb
  refine Hg (fun k => false) Ot ?_
  refine DO tab 3 [1, 0] O ?_
  refine A3 O (fun _ => BF O O (dx x (DV h4 hx) (by have := h6 x (List.mem_of_getElem? hx); simp only [Db] at this; omega)) O) Aw ?_
  refine A3 O (fun _ => CJ HL O O Au AH) Aw ?_
  refine FB O O (C7 (i := 2) (j := i) Dz O O O AH O O O O (lG (f := Fz) (((vs.take i).map fun v => (size v : Int)) ++ List.replicate (vs.length - i) 0) i (size x : Nat))) AB Aw ?_
  refine HC O Ap ?_
  refine Be ?_
  refine BK tab 2 [] O ?_
  refine ⟨⟨i + 1, (some b), cp1⟩, Ae, by omega, Ec ⟨we rfl, we rfl, we rfl, we rfl, we rfl, we rfl, we rfl, we rfl, we rfl, we rfl, trivial⟩ (leH (is := [1, 2, 3, 4, 5, 6, 7, 8]) rfl (wl (Ux (aw (we (Vo (f := Fz) (((vs.take i).map fun v => (size v : Int)) ++ List.replicate (vs.length - i) 0) Ao)) (HT))) (wl (Eo (f := Fz) ((((vs.take i).map fun v => (size v : Int)) ++ List.replicate (vs.length - i) 0).set i (size x : Nat)) (tO hx)) (wl (oe rfl) (wl (oe rfl) (wl (oe rfl) (wl (oe rfl) (wl (oe rfl) (wl (oe rfl) (Ih))))))))))⟩
 (try simp only [sd, se] at c1)
 refine EN ?_
 refine BQ ?_
 rw [vd (vs := vs) (i := i) Au]
 refine BH (Cf (i := 1) (j := 0) (q := 0) [] O O O (DA Aw)) ?_
 refine BA O (EW wJ vH O) ?_
 refine C8 O (Dk O) fun b35 => ?_
 refine C8 O (Az wQ O) fun b12 => ?_
 refine BK tab 1 [0, 0] O ?_
 refine BQ ?_
 refine BT tab 3 [8] O ?_
 refine GZ [3, 0, 2, 6, 7, 1] O O O (.inl ⟨O, O, O⟩) (Pq (TS vs (vs.map fun v => (size v : Int)) dp) (fun n T => T = [.box b8 [.fn (.func 89) [] [.ptr b5 0, .ptr b4 0]], .box b12 [.ptr b35 0], .box b9 [.p (.lst (List.map Fz (vs.map fun v => (size v : Int))))], .box b5 [.p (I dp)], .box b4 [.p (.lst (A6 vs))], .box b35 [.p (I n)]]) 90 [.ptr b8 0, .ptr b12 0, .ptr b9 0] (fun n t d T hn hp h0 hb hT => by subst hT; exact gU t d b8 b12 b9 b5 b4 b35 dp n vs (vs.map fun v => (size v : Int)) Av) _ t 0 0 _ (Nat.le_refl _) h1 h2 Au Ak rfl) ⟨_, _, rfl, rfl, ⟨_, _, rfl, rfl, ⟨_, _, rfl, rfl, ⟨_, _, rfl, rfl, ⟨_, _, rfl, rfl, ⟨_, _, rfl, rfl, rfl⟩⟩⟩⟩⟩⟩ As (Dt _) (fun _ _ h => (congrArg List.length h).trans rfl) ?_ ?_
 rotate_left
 ·intro e _ he
  refine ⟨_, _, _, O, K6 (is := [1, 0]) _ As ⟨_, _, O, O, ⟨_, _, O, O, O⟩⟩, D8.eq (VJ b6 b7 _) ?_⟩
  refine ⟨_, [], ⟨_, _, O, (DR (i := 0) CN O O O), ⟨_, _, O, (F9 (i := 1) QN O O), O⟩⟩, (List.nil_sublist _), ?_⟩
  rw [Jn (RX he)]
  exact ⟨O, O⟩
 rintro ⟨z, n1⟩ _ hz rfl
 refine Ch O ?_
 refine BR ?_
 refine Hg (fun k => Nat.beq k 1 || Nat.beq k 3) Ot ?_
 refine A3 O (fun _ => EK O O) Aw ?_
 refine PK [(2, .read [.box b3 ((BD t).map .p)] (.agg ((BD t).map .p)))] O O O (.inl ⟨O, O, O⟩) (e7 94 [.ptr b8 0, .ptr b4 0, .ptr b5 0]) (.inl O) Ap fun bn => ⟨AB, Aw, ?_⟩
 refine DO tab 1 [9] O ?_
 refine XD [0, 4, 8, 7] O O O (.inl ⟨O, O, O⟩) (Pq (KW (ME vs dp)) (fun _ T => T = [.box bn [.fn (.func 94) [] [.ptr b8 0, .ptr b4 0, .ptr b5 0]], .box b8 [.fn (.func 89) [] [.ptr b5 0, .ptr b4 0]], .box b4 [.p (.lst (A6 vs))], .box b5 [.p (I dp)]]) 133 [.ptr bn 0] (fun s t d T hn hp h0 hb hT => by subst hT; exact Yz (ME vs dp) 94 [.ptr b8 0, .ptr b4 0, .ptr b5 0] [.box b8 [.fn (.func 89) [] [.ptr b5 0, .ptr b4 0]], .box b4 [.p (.lst (A6 vs))], .box b5 [.p (I dp)]] (fun t d g1 g2 g3 g4 g5 => gX t d b8 b4 b5 dp vs g1 g2 g3 g4 g5 h4 h5 h6 h7 h8) bn s t d hn hp h0 hb) _ t 0 () _ (Nat.le_refl _) h1 h2 Au Ak rfl) ⟨_, _, rfl, rfl, ⟨_, _, rfl, rfl, ⟨_, _, rfl, rfl, ⟨_, _, rfl, rfl, rfl⟩⟩⟩⟩ As (Dt _) (fun _ _ h => (congrArg List.length h).trans rfl) Ap Ap rfl AB ?_ ?_
 rotate_left
 ·intro e he _ _ hτ
  refine ⟨_, _, _, O, K6 (is := [4, 3]) _ As ⟨_, _, O, O, ⟨_, _, O, O, O⟩⟩, D8.eq (VJ b6 b7 _) ?_⟩
  refine ⟨_, [], ⟨_, _, O, (DR (i := 0) CN (hτ 6 (Sw Ap)) O O), ⟨_, _, O, (F9 (i := 1) QN (hτ 7 (Sw Ap)) O), O⟩⟩, (List.nil_sublist _), ?_⟩
  rw [Jn (RG hz he)]
  exact ⟨O, O⟩
 rintro ⟨z1, _⟩ _ hz1 rfl
 refine ⟨AB, AS, ?_⟩
 refine CY tab 1 [6, 1] O ?_
 refine BR ?_
 refine BQ ?_
 refine BA O (Cy (i := 6) CN O O Am) ?_
 refine BA O (BF O O (ZU _ z1 (Nat.le_refl _) (oX h4 h5 h1 h2 hz1)) O) ?_
 refine BK tab 1 [] O ?_
 refine BX O (fun c2 => ?_) (fun c2 => ?_)
 ·(try simp only [sd, se] at c2)
  refine BQ ?_
  refine BA O (EW S1 Ba O) ?_
  obtain ⟨z1k, z1i, z1n, z1l, z1s⟩ := z1
  refine BK tab 2 [6, 0, 5, 0] O ?_
  refine A5 (BE (i := 6) O) ?_
  refine CB ?_
  refine ⟨_, _, _, O, DP (is := [6, 5]) As ⟨_, _, O, O, ⟨_, _, O, O, O⟩⟩, D8.eq (WI b6 b7 _ _) ?_⟩
  refine ⟨_, _, ⟨_, _, O, (DR (i := 0) CN O O O), ⟨_, _, O, (F9 (i := 1) QN O O), O⟩⟩, (List.nil_sublist _), ?_⟩
  rw [Q6 (NW hz hz1) Au]
  all_goals exact ⟨rfl, rfl⟩
 (try simp only [sd, se] at c2)
 refine Bn ?_
 refine BZ tab 3 [6, 6, 1, 5, 0] O ?_
 refine CB ?_
 refine ⟨_, _, _, O, DP (is := [6, 5]) As ⟨_, _, O, O, ⟨_, _, O, O, O⟩⟩, D8.eq (WI b6 b7 _ _) ?_⟩
 refine ⟨_, _, ⟨_, _, O, (DR (i := 0) CN O O Am), ⟨_, _, O, (F9 (i := 1) QN O O), O⟩⟩, (List.nil_sublist _), ?_⟩
 rw [Vu (NW hz hz1) Au]
 all_goals exact ⟨rfl, rfl⟩
theorem jH : ∀ (t : Tm) (vs : List Tm), (Nd t) → (Vp t) → (size t < 1099511627776) → (M6 vs) → (Uh vs) → (∀ v ∈ vs, size v < Db) → (vs.length < Db) → En Tryz.prog 22 [.agg ((BD t).map .p), .p (.lst (A6 vs))] (.tup [.agg ((BD ((Hh t vs 0).1)).map .p), .p (I ((Hh t vs 0).2))]) := by
 intro t vs h1 h2 h3 h4 h5 h6 h7
 refine DI Tryz.func22 ?_
 refine CG [0] O O fun b2 => ?_
 refine Bp [0] O (Az Ba O) fun b4 => ?_
 refine CQ [3, 1] O (gN t vs 0 h1 h2 h3 h4 h5 h6 Au h7) ?_
 refine A9 [4, 0, 1] O (Bg [0] [] O O ⟨O, O⟩)
end Go.Proofs.YtldfmjoncbjldaaGreat
namespace Go.Eu
open Go.Abs
mutual
def eZ (x d:Int):Tm→Bool
 | .mk k i n l ks=>(decide (k=0)&&decide (d≤i)&&decide (i - d=x))||Mh x d k 0 ks
def Mh (x d k:Int) (j:Nat):List Tm→Bool
 | []=>false
 | t::ts=>eZ x (d+below k j) t||Mh x d k (j+1) ts
end
def sN (l:List Int) (n:Int) (l2:List Int):Prop:=(∀x,x∈l2↔x=n∨x∈l)∧l2.length≤l.length+1
theorem sN.same {l:List Int}{n:Int}(h:n∈l):sN l n l:=⟨fun x=>⟨.inr,fun e=>e.elim (fun e=>e▸h) id⟩,by omega⟩
structure U5 (l:List Int) (n:Int) (i:Nat) (f:Bool) (out:List Int):Prop where
 mem:∀x,x∈out↔(f=true∧x=n)∨x∈l.take i
 len:out.length≤i+(if f=true then 1 else 0)
theorem U5.zero (l:List Int) (n:Int):U5 l n 0 false []:=⟨by simp,by simp⟩
theorem U5.step {l:List Int}{n:Int}{i:Nat}{f:Bool}{out:List Int}{y:Int}(h:U5 l n i f out) (hy:l[i]?=some y):U5 l n (i+1) f (out++[y]):=by
 refine⟨fun x=>?_,by have:=h.len;simp;omega⟩;rw[List.mem_append,h.mem,List.take_add_one,hy];simp only[List.mem_singleton,Option.toList_some,List.mem_append];constructor
 ·rintro((h | h) | h)
  ·exact .inl h
  ·exact .inr (.inl h)
  exact .inr (.inr h)
 rintro(h | h | h)
 ·exact .inl (.inl h)
 ·exact .inl (.inr h)
 exact .inr h
theorem U5.put {l:List Int}{n:Int}{i:Nat}{out:List Int}(h:U5 l n i false out):U5 l n i true (out++[n]):=by
 refine⟨fun x=>?_,by have:=h.len;simp at *;omega⟩;rw[List.mem_append,h.mem];simp only[List.mem_singleton,true_and,Bool.false_eq_true,false_and,false_or];constructor
 ·rintro(h | h)
  ·exact .inr h
  exact .inl h
 rintro(h | h)
 ·exact .inr h
 exact .inl h
theorem U5.done {l:List Int}{n:Int}{i:Nat}{out:List Int}(h:U5 l n i true out) (hi:l.length≤i) (hi2:i≤l.length):sN l n out:=by
 refine⟨fun x=>?_,by have:=h.len;simp at this;omega⟩;rw[h.mem,List.take_of_length_le hi];simp
def wv (l:List Int) (d:Int) (t:Tm) (l2:List Int):Prop:=(∀x,x∈l2↔x∈l∨eZ x d t=true)∧l2.length≤l.length+size t
structure tw (l:List Int) (d:Int) (k i0:Int) (ts:List Tm) (i:Nat) (l2:List Int):Prop where
 mem:∀x,x∈l2↔x∈l∨(k=0∧d≤i0∧i0 - d=x)∨Mh x d k 0 (ts.take i)=true
 len:l2.length≤l.length+1+BB (ts.take i)
theorem YN (x d k:Int):∀(ts us:List Tm) (j:Nat),Mh x d k j (ts++us)=(Mh x d k j ts||Mh x d k (j+ts.length) us)
 | [],us,j=>by simp[Mh]
 | t::ts,us,j=>by
  simp only[List.cons_append,Mh,YN x d k ts us (j+1),List.length_cons];rw[show j+1+ts.length=j+(ts.length+1) by omega,Bool.or_assoc]
theorem VG:∀(ts us:List Tm),BB (ts++us)=BB ts+BB us
 | [],us=>by simp[BB]
 | t::ts,us=>by simp only[List.cons_append,BB,VG ts us];omega
theorem tw.start {l:List Int}{d k i:Int}{ts:List Tm}(h:¬(k=0∧d≤i)):tw l d k i ts 0 l:=⟨fun x=>by simp[Mh];intro e1 e2;exact absurd ⟨e1,e2⟩ h,by simp[BB]⟩
theorem tw.step {l l2 l3:List Int}{d k i0:Int}{ts:List Tm}{i:Nat}{y:Tm}(h:tw l d k i0 ts i l2) (hy:ts[i]?=some y) (hf:wv l2 (d+below k i) y l3):tw l d k i0 ts (i+1) l3:=by
 have hi:i<ts.length:=(List.getElem?_eq_some_iff.1 hy).1;have ht:ts.take (i+1)=ts.take i++[y]:=by rw[List.take_add_one,hy];rfl
 refine⟨fun x=>?_,?_⟩
 ·rw[hf.1,h.mem,ht,YN];have hl:(ts.take i).length=i:=by simp;omega
  simp only[Mh,hl,Nat.zero_add,Bool.or_false,Bool.or_eq_true];constructor
  ·rintro((h | h | h) | h)
   ·exact .inl h
   ·exact .inr (.inl h)
   ·exact .inr (.inr (.inl h))
   exact .inr (.inr (.inr h))
  rintro(h | h | h | h)
  ·exact .inl (.inl h)
  ·exact .inl (.inr (.inl h))
  ·exact .inl (.inr (.inr h))
  exact .inr h
 have:=h.len;have:=hf.2;rw[ht,VG];simp only[BB];omega
theorem tw.done {l l2:List Int}{d k i0:Int}{n:ByteArray}{ls:List CX}{ts:List Tm}{i:Nat}(h:tw l d k i0 ts i l2) (hi:ts.length≤i):wv l d (.mk k i0 n ls ts) l2:=by
 refine⟨fun x=>?_,?_⟩
 ·rw[h.mem,List.take_of_length_le hi];simp[eZ,and_assoc]
 have:=h.len;rw[List.take_of_length_le hi] at this;simp only[size];omega
mutual
def u9 (d:Int):Tm→List Int
 | .mk k i n l ks=>(if k=0∧d≤i then [i - d] else [])++il d k 0 ks
def il (d k:Int) (j:Nat):List Tm→List Int
 | []=>[]
 | t::ts=>u9 (d+below k j) t++il d k (j+1) ts
end
mutual
theorem Sy:∀(t:Tm) (d:Int),(∀x,x∈u9 d t↔eZ x d t=true)∧(u9 d t).length≤size t
 | .mk k i n l ks,d=>by
  obtain⟨h1,h2⟩:=V9 ks d k 0;simp only[u9,eZ,size];refine⟨fun x=>?_,?_⟩
  ·rw[List.mem_append,h1];split
   ·rename_i h;simp only[h.1,h.2,List.mem_singleton,decide_true,Bool.true_and,Bool.or_eq_true,decide_eq_true_eq];exact or_congr eq_comm Iff.rfl
   rename_i h;simp;intro e1 e2;exact absurd ⟨e1,e2⟩ h
  rw[List.length_append];split<;>simp<;>omega
theorem V9:∀(ts:List Tm) (d k:Int) (j:Nat),(∀x,x∈il d k j ts↔Mh x d k j ts=true)∧(il d k j ts).length≤BB ts
 | [],d,k,j=>by simp[il,Mh]
 | t::ts,d,k,j=>by
  obtain⟨h1,h2⟩:=Sy t (d+below k j);obtain⟨h3,h4⟩:=V9 ts d k (j+1);simp only[il,Mh,BB];exact⟨fun x=>by rw[List.mem_append,h1,h3];simp,by rw[List.length_append];omega⟩
end
theorem wv.ex (l:List Int) (d:Int) (t:Tm):wv l d t (l++u9 d t):=⟨fun x=>by rw[List.mem_append,(Sy t d).1],by rw[List.length_append];have:=(Sy t d).2;omega⟩
end Go.Eu
namespace Go.Abs
theorem pU (b:Nat):LU (.p (.addr b)) (.ptr b 0):=fun F w v h=>by simpa only[Bz,Br] using h
theorem dq (b:Nat):LU (.ptr b 0) (.p (.addr b)):=fun F w v h=>by simpa only[Bz,Br] using h
section
variable {P:Program}{o:Oper}{ρ:Operand→AV}{H H':List A4}{v v':AV}
end
section
variable {P:Program}{dst:Option Tmp}{ty:TypeId}{pos:String}{aft:Array Edge}{g:Option (Nat×Bool)}{ρ:Operand→AV}{H:List A4}{x y z:Operand}{v:AV}
theorem IS {T:TypeId}{b:Nat}(hc:lX P T=true) (hx:ρ x= .ptr b 0):Dm P ⟨dst,.makeInterface T x,ty,pos,aft,g⟩ ρ H (.p (.iface T (.addr b))) H:=by
 obtain⟨d,hu,hd⟩:=QV hc;refine Bw fun F w E hH hE=>?_;have h1:=hE x Al;rw[hx] at h1;refine⟨.iface T (E x),?_,by simp only[Bz,Br];exact⟨_,rfl,by simpa only[Bz] using h1⟩⟩;cases d<;>simp_all [execOp,Instr.makeInterface,Sem.run_bind,run_underlying hu]
def gb (P:Program) (T:TypeId) (name:String):Option FuncId:=match P.info? T,P.underlying T with
 | some i,some (.pointer _)=>match i.methods.find? (·.name==name) with
  | some m=>match m.path.toList,m.func with
   | [],some (f,true)=>some f
   | _,_=>none
  | none=>none
 | _,_=>none
theorem cJ {T:TypeId}{name:String}{f:FuncId}(h:gb P T name=some f) (n:Nat) (u:Value) (w:World):(method (n+1) T u name).run P w= .ok (f,u) w:=by
 unfold gb at h;split at h
 ·rename_i i e hi hu;split at h
  ·rename_i m hm;split at h
   ·rename_i f' hp hf;injection h with h;subst h;simp[method,typeInfo,hi,hm,hp,hf,follow,receiverAt,run_underlying hu,Place.get,Sem.run_bind]
   cases h
  cases h
 cases h
theorem Lr {c:Call}{fid:FuncId}{recv:Operand}{name:String}{T:TypeId}{p:PV}{Hs Hf:List A4}{A:List AV}{R:EG→List A4→Prop}
  (hc:c.callee= .invoke recv name) (hf:ρ recv= .p (.iface T p)) (hm:gb P T name=some fid)
  (hp:H.Perm (Hs++Hf)) (h:BL P fid A Hs R) (hA:Fc (.p p::c.args.toList.map ρ) A) :
  DL P ⟨dst,.call c,ty,pos,aft,g⟩ ρ H (fun r H'=>∃Hs',R r Hs'∧H'=Hs'++Hf):=by
 intro r F S a w hs hH hρ hd;subst hH;refine MA O ?_;have hev:∀x∈(recv::c.args.toList),Bz F w (ρ x) (a.eval x):=by
  intro x hx;rw[←hρ x (by simp[Op.operands,Call.operands,hc];simpa using hx)];exact hs.eval x
 obtain⟨u,hu,hpu⟩:∃u,a.eval recv= .iface T u∧Br F w p u:=by
  have:=hev recv Av;rw[hf] at this;simpa only[Bz,Br] using this
 have hargs:Bf F w (c.args.toList.map ρ) (c.args.toList.map a.eval):=Bf.mapEval _ fun x hx=>hev x (by simp[hx]);have hn:∃n,P.types.size+Made.depth=n+1:=⟨P.types.size+Made.depth - 1,by have:0<Made.depth:=As;omega⟩;obtain⟨n,hn⟩:=hn;have hrun:(execOp a.eval ⟨dst,.call c,ty,pos,aft,g⟩).run P w= .ok (.enter fid ⟨u::c.args.toList.map a.eval⟩) w:=by
  have e:(#[u]++c.args.map a.eval:Array Value)=⟨u::c.args.toList.map a.eval⟩:=by
   apply Array.ext';simp
  have e1:(c.args.map a.eval).extract 0 c.args.size=c.args.map a.eval:=by
   apply Array.ext';simp[List.extract];exact List.take_of_length_le Av
  have e0:(#[Value.iface T u]++c.args.map a.eval)[0]?=some (Value.iface T u):=by simp[Array.getElem?_append]
  simp[execOp,resolve,hc,Sem.run_bind,hu,invoke,callMethod,e0,hn,cJ hm,Jo h.1,e,e1]
 simp only[hrun,Oper.uponIn];have hH':=hs.heap.perm hp;have hHs:HRel F Hs w:=hH'.sublist (List.sublist_append_left _ _);have hrep:Bf F w A (u::c.args.toList.map a.eval):=Nu hA ⟨u,_,rfl,by simpa only[Bz] using hpu,hargs⟩;refine⟨fun h=>(by cases h),CallsIn.mono (x9 r (h.2 F w _ hHs hrep)) ?_⟩;rintro e w' ⟨r,H',F',hR,he,hH2,ht⟩;have htf:=ht.frame (H:=S.H) hp;cases r with
 | val v =>
  obtain⟨u,rfl,hu⟩:=he;exact⟨v,H'++Hf,F',⟨H',hR,O⟩,hs.put hd (htf.stable hs.heap.sub) (hH'.frame hH2 ht) hu,htf⟩
 | panic v =>
  obtain⟨u,rfl,hu⟩:=he;have:=hs.put (d:=none) (fun _ h=>by cases h) (htf.stable hs.heap.sub) (hH'.frame hH2 ht) (L3 undef);exact⟨v,H'++Hf,F',u,⟨H',hR,O⟩,O,hu,this,htf⟩
end
section
variable {P:Program}{dst:Option Tmp}{ty:TypeId}{pos:String}{aft:Array Edge}{g:Option (Nat×Bool)}{ρ:Operand→AV}{H:List A4}{x y z:Operand}{v:AV}
theorem mW {T e:TypeId}{sz bytes:Nat}{m:Int}{rows:List (List PV)}(hT:E1 P T=some (e,sz,bytes)) (hx:ρ x= .p (.lst rows)) (hy:ρ y= .p (.int .i64 m)) (hz:ρ z= .p (.int .i64 m)) (hm:m=rows.length) :
  Dm P ⟨dst,.slice T x none (some y) (some z),ty,pos,aft,g⟩ ρ H (.p (.lstc rows)) H :=
 Bw fun F w E hH hE=>by
  obtain⟨hu,j,hj,hs,_⟩:=Dy hT;have h:=hE x Al;have h1:=hE y Al;have h2:=hE z Al;rw[hx] at h;rw[hy] at h1;rw[hz] at h2;subst hm;simp only[Bz,Br] at h h1 h2;have hszr:(sizeOf e).run P w= .ok sz w:=by simp[sizeOf,typeInfo,hj,hs]
  rcases h with ⟨rfl,o,c,h⟩ | ⟨b,o,c,sz',h,hF,hb,hc,hr⟩
  ·refine⟨.slice o 0 0,?_,by simp only[Bz,Br];exact .inl ⟨trivial,o,rfl⟩⟩;simp[execOp,Instr.sliceAt,Sem.run_bind,run_underlying hu,h,h1,h2,Instr.slice,Instr.sliceBounds,Instr.sliceBound,asIntOf,hszr]
  refine⟨.slice (some ⟨b,o,none⟩) rows.length rows.length,?_,by simp only[Bz,Br];exact .inr ⟨b,o,sz',rfl,hF,hb,hr⟩⟩;have h0:(some (⟨b,o,none⟩:Addr)).map (·.add 0)=some ⟨b,o,none⟩:=by simp[Addr.add_mid]
  simp[execOp,Instr.sliceAt,Sem.run_bind,run_underlying hu,h,h1,h2,Instr.slice,Instr.sliceBounds,Instr.sliceBound,asIntOf,hszr,hc,Addr.add_mid]
theorem gh (rows:List (List PV)):LU (.p (.lstc rows)) (.p (.lst rows)):=fun F w v h=>by
 simp only[Bz,Br] at h ⊢;rcases h with ⟨rfl,o,h⟩ | ⟨b,o,sz,h,hF,hb,hr⟩
 ·exact .inl ⟨O,o,0,h⟩
 exact .inr ⟨b,o,_,sz,h,hF,hb,Nat.le_refl _,hr⟩
theorem Rn {T T2 e e2:TypeId}{sz bytes n2 n3:Nat}{rows rows':List (List PV)}{zv:Value}(hT:E1 P T=some (e,sz,bytes)) (hT2:E1 P T2=some (e2,n2,n3)) (hz:zeroOf P e=some zv) (hzs:zv.cells.size=sz) (hb0:(Nat.blt 0 sz&&Nat.blt 0 bytes)=true)
  (hx:ρ x= .p (.lstc rows)) (hr:∀r∈rows,r.length=sz) (hy:norm (ρ y)= .p (.lst rows')) (hsol:∀r∈rows',Ej sz r) (hne:0<rows'.length) (hroom:2*(rows.length+rows'.length)*bytes≤281474976710656) :
  DL P ⟨dst,.call { callee:= .builtin .append,args:=#[x,y],argTypes:=#[T,T2] },ty,pos,aft,g⟩ ρ H (Lc sz (rows++rows') H) :=
 G9 fun F w E hH hE=>by
  have hr':∀r∈rows',r.length=sz:=fun r hr=>(hsol r hr).1;simp only[Bool.and_eq_true,Nat.blt_eq] at hb0;obtain⟨hu,inf,hinf,hs,hby⟩:=Dy hT;obtain⟨hu2,_⟩:=Dy hT2;have h1:=hE x Af;have h2:=(hE y Af).norm;rw[hx] at h1;rw[hy] at h2;obtain⟨ns,oy,cy,hEy,hns,hnsl,hnsr⟩:=HN (P:=P) h2 hr';have hEx:∃base,E x= .slice base rows.length rows.length:=by
   have:=h1;simp only[Bz,Br] at this;rcases this with ⟨rfl,o,h⟩ | ⟨b,o,sz',h,_⟩
   ·exact⟨o,h⟩
   exact⟨_,h⟩
  obtain⟨base,hEx⟩:=hEx;unfold zeroOf at hz;have hz':∃j,P.info? e=some j∧j.zero=some zv:=by
   cases hq:P.info? e with
   | none=>simp[hq] at hz
   | some j=>exact⟨j,rfl,by simpa [hq] using hz⟩
  obtain⟨j,hj,hz'⟩:=hz';have hzv:∀w,(zeroValue e).run P w= .ok zv w:=fun w=>by simp[zeroValue,typeInfo,hj,hz',Sem.run_bind]
  have hti:∀w,(typeInfo e).run P w= .ok inf w:=fun w=>by simp[typeInfo,hinf]
  have hszr:∀w,(sizeOf e).run P w= .ok sz w:=fun w=>by simp[sizeOf,typeInfo,hinf,hs]
  have hlall:∀r∈rows++rows',r.length=sz:=by
   intro r hq;rcases List.mem_append.1 hq with hq | hq
   ·exact hr r hq
   exact hr' r hq
  have hlen:(rows++rows').length=rows.length+rows'.length:=by simp
  have hlenof:∀w,(Builtin.lenOf (E y)).run P w= .ok rows'.length w:=fun w=>by rw[hEy];rfl
  have hcap':rows.length<rows.length+rows'.length:=by omega
  have hcap:¬(rows.length+rows'.length≤rows.length):=by omega
  generalize hnc:Question.cut (.appendCap (rows.length+rows'.length) rows.length e) (w.tape w.drawn (.appendCap (rows.length+rows'.length) rows.length e))=newCap;have hncge:rows.length+rows'.length≤newCap:=by rw[←hnc];simp only[Question.cut];omega
  have hnext:=Oe hcap';have hask:∀(b:Nat) w,(askRoom b).run P w= .ok () w:=by intro b w;unfold askRoom;split<;>rfl
  let w1:World:={ w with drawn:=w.drawn+1 }
  have same:Dq F w F w1:=⟨Nat.le_refl _,fun _ _ _=>rfl,fun _ h _=>h⟩;obtain⟨ns',oy',cy',hEy',hns',hnsl',hnsr'⟩:=HN (P:=P) (Bz.mono same _ _ h2) hr';obtain⟨os',oz',cz',hEz',hos',hosl',hosr'⟩:=HN (P:=P) (Bz.mono same _ _ (gh rows _ _ _ h1)) hr
  let vs:List Value:=os'++ns'++(Builtin.zeroCells zv.cells (newCap - (rows.length+rows'.length))).toList
  have hrun:(execOp E ⟨dst,.call { callee:= .builtin .append,args:=#[x,y],argTypes:=#[T,T2] },ty,pos,aft,g⟩).run P w= .ok (.value (.slice (some ⟨w.heap.size,0,none⟩) (rows.length+rows'.length) newCap)) (World.push w1 (.cells ⟨vs⟩ e (0,0))):=by
   have hos2:=hos';rw[hEx] at hos2;simp only[execOp,resolve,invoke,builtin,Builtin.append_,hEx,Sem.run_bind,Sem.run_pure,Result.andThen_ok,List.map_toArray,List.map_cons,List.map_nil,List.getElem?_toArray,List.getElem?_cons_zero,List.getElem?_cons_succ,run_underlying hu,run_underlying hu2,hszr,pure_bind,
    Bool.false_eq_true,if_false,hlenof,Bool.not_false,if_true]
   rw[if_neg hcap];simp only[Sem.run_bind,hti,Result.andThen_ok,hby];rw[if_neg Ao];simp only[Sem.run_bind,Sem.run_pure,Result.andThen_ok,hti,hby,pure_bind];rw[if_neg (by
    have:Builtin.nextslicecap (rows.length+rows'.length) rows.length*bytes≤2*(rows.length+rows'.length)*bytes:=Nat.mul_le_mul_right bytes hnext;simp;omega)]
   have hch:(choose (.appendCap (rows.length+rows'.length) rows.length e)).run P w= .ok newCap w1:=by
    simp only[choose,Sem.run,Question.forced,Bool.false_eq_true,if_false,hnc];rfl
   simp only[Sem.run_bind,Sem.run_pure,Result.andThen_ok,pure_bind,hch,hti,hask,hos2,hns',hzv,newRow,newObj,Sem.run,Result.andThen];have evs:(⟨os'⟩++⟨ns'⟩++Builtin.zeroCells zv.cells (newCap - (rows.length+rows'.length)):Array Value)=⟨vs⟩:=by
    apply Array.ext';simp[vs]
   rw[evs];rfl
  have hvl:vs.length=newCap*sz:=by
   simp only[vs,List.length_append,hosl',hnsl',Array.length_toList,Kz,hzs];rw[←Nat.add_mul,←Nat.add_mul];congr 1;omega
  have hlen2:(rows++rows').flatten.length=(rows.length+rows'.length)*sz:=by rw[mZ hlall,hlen]
  have hpre:Bf F w1 ((rows++rows').flatten.map .p) (vs.take ((rows++rows').flatten.length)):=by
   have e1:vs.take ((rows++rows').flatten.length)=os'++ns':=by
    rw[hlen2];have:(os'++ns').length=(rows.length+rows'.length)*sz:=by rw[List.length_append,hosl',hnsl',Nat.add_mul]
    rw[←this];exact List.take_left
   rw[e1,List.flatten_append,List.map_append];exact hosr'.append hnsr'
  have hH1:HRel F H w1:=hH.stable' same (fun _ h=>h) (fun _ _ _ _=>rfl) hH.bd;have t1:Trans F H w F H w1:=⟨Nat.le_refl _,fun _ _ _=>rfl,fun _ h _=>h,fun _ h=> .inl h,fun o ho b hb=> .inl ⟨o,ho,hb⟩,rfl,rfl,rfl⟩;obtain⟨v',H',F',hnv,ht,hHr,hrep⟩:=LA (T:=e) (c:=newCap) (vs:=vs) (H:=H) hH1 hlall hpre (by rw[hvl];exact Nat.le_refl _) (by rw[hlen];exact hncge);exact⟨_,_,v',H',F',hrun,hnv,t1.trans hH.bd ht,hHr,by rw[←hlen];exact hrep⟩
def cr:AV→Option Bool
 | .p (.addr _)=>some false
 | .p (.optp o)=>some o.isNone
 | .ptr _ _=>some false
 | .nilp=>some true
 | .ref _=>some false
 | _=>none
theorem Yv {F:Nat→Prop}{w:World}{a:AV}{u:Value}{c:Bool}(h:cr a=some c) (hr:Bz F w a u):∃q,u= .pointer q∧q.isNone=c:=by
 unfold cr at h;split at h
 ·injection h with h;subst h;simp only[Bz,Br] at hr;exact⟨_,hr,rfl⟩
 ·rename_i o;injection h with h;subst h;simp only[Bz,Br] at hr;exact⟨_,hr,by cases o<;>rfl⟩
 ·injection h with h;subst h;simp only[Bz] at hr;exact⟨_,hr,rfl⟩
 ·injection h with h;subst h;simp only[Bz] at hr;exact⟨_,hr,rfl⟩
 ·injection h with h;subst h;simp only[Bz] at hr;obtain⟨b,o,hr,_⟩:=hr;exact⟨_,hr,rfl⟩
 cases h
theorem ct {T e:TypeId}{q:Option Addr}{w:World}(hu:P.underlying T=some (.pointer e)):(Op.equal T (.pointer q) (.pointer none)).run P w= .ok q.isNone w:=by
 unfold Op.equal;rw[show Op.maxDepth=9999+1 from rfl];unfold Op.equalIn;simp only[Sem.run_bind,run_underlying hu,Result.andThen_ok];cases q<;>rfl
theorem jG {T U e:TypeId}{c:Bool}(hu:P.underlying T=some (.pointer e)) (hx:cr (ρ x)=some c) (hy:ρ (.const (.pointer none))= .nilp):Dm P ⟨dst,.binOp .neq T x (.const (.pointer none)) U,ty,pos,aft,g⟩ ρ H (.p (.bool (!c))) H :=
 Bw fun F w E hH hE=>by
  have e2:=hE (.const (.pointer none)) Al;rw[hy] at e2;simp only[Bz,Br] at e2;obtain⟨q,hq,hc⟩:=Yv hx (hE x Al);have hg:(eqGuard .neq T x (.const (.pointer none)) (.pointer q) (.pointer none)).run P w= .ok () w:=by
   unfold eqGuard;simp<;>rfl
  refine⟨.bool (!c),?_,by simp[Bz,Br]⟩;simp[execOp,Sem.run_bind,hg,hq,e2,binOp,ct hu,hc]
theorem Zu {T U:TypeId}{ms:Array (String×TypeId)}{X:PV}{b:Bool}(hu:P.underlying T=some (.interface ms)) (hx:ρ x= .p X) (hy:ρ (.const .nilIface)= .p .nilIface) (hX:(match X with | .nilIface=>some true | .iface _ _=>some false | _=>none)=some b):Dm P ⟨dst,.binOp .eql T x (.const .nilIface) U,ty,pos,aft,g⟩ ρ H (.p (.bool b)) H :=
 Bw fun F w E hH hE=>by
  have e2:=hE (.const .nilIface) Al;rw[hy] at e2;simp only[Bz,Br] at e2;have e1:=hE x Al;rw[hx] at e1;have hg:∀a,(eqGuard .eql T x (.const .nilIface) a .nilIface).run P w= .ok () w:=by
   intro a;unfold eqGuard;cases a<;>simp<;>rfl
  refine⟨.bool b,?_,by simp[Bz,Br]⟩;cases X with
  | nilIface =>
   simp at hX;subst hX;simp only[Bz,Br] at e1;have hq:(Op.equal T .nilIface .nilIface).run P w= .ok true w:=HO hu rfl;simp[execOp,Sem.run_bind,hg,e1,e2,binOp,hq]
  | iface t c =>
   simp at hX;subst hX;simp only[Bz,Br] at e1;obtain⟨u,e1,_⟩:=e1;have hq:(Op.equal T (.iface t u) .nilIface).run P w= .ok false w:=HO hu rfl;simp[execOp,Sem.run_bind,hg,e1,e2,binOp,hq]
  | _=>simp at hX
theorem Y0 {T A B e:TypeId}{c:PV}(hu:P.underlying B=some (.pointer e)) (hz:zeroOf P B=some (.pointer none)) (hx:ρ x= .p (.iface A c)) (hne:Nat.beq A B=false):Dm P ⟨dst,.typeAssert x T B true,ty,pos,aft,g⟩ ρ H (.tup [.nilp,.p (.bool false)]) H :=
 Bw fun F w E hH hE=>by
  have h1:=hE x Al;rw[hx] at h1;simp only[Bz,Br] at h1;obtain⟨u,hv,hc⟩:=h1;have hne':¬A=B:=fun e=>by subst e;rw[Nat.beq_refl] at hne;cases hne
  have hzv:(zeroValue B).run P w= .ok (.pointer none) w:=by
   unfold zeroOf at hz;cases hq:P.info? B with
   | none=>simp[hq] at hz
   | some j=>simp[hq] at hz;simp[zeroValue,typeInfo,hq,hz,Sem.run_bind]
  refine⟨.tuple #[.pointer none,.bool false],?_,?_⟩
  ·simp[execOp,Instr.typeAssert,Sem.run_bind,run_underlying hu,hv,hne',hzv]
  simp only[Bz];exact⟨[.pointer none,.bool false],O,by simp only[Bf,Bz,Br];exact⟨_,_,rfl,rfl,_,_,rfl,rfl,rfl⟩⟩
end
section
variable {P:Program}{dst:Option Tmp}{ty:TypeId}{pos:String}{aft:Array Edge}{g:Option (Nat×Bool)}{ρ:Operand→AV}{H:List A4}{x:Operand}
theorem Xh {T:TypeId}{name:String}{f:FuncId}(h:gb P T name=some f) (n:Nat) (u:Value) (w:World):(nilAhead (n+1) T u name).run P w= .ok (some false) w:=by
 unfold gb at h;split at h
 ·rename_i i e hi hu;split at h
  ·rename_i m hm;split at h
   ·rename_i f' hp hf;simp[nilAhead,typeInfo,hi,hm,hp,hf,followBlind,Sem.run_bind]
   cases h
  cases h
 cases h
theorem SO {T:TypeId}{nm:String}{p:PV}(hm:(gb P T nm).isSome=true) (hx:ρ x= .fn (.method nm) [.p (.iface T p)] []):Dm P ⟨dst,.nilCheck x,ty,pos,aft,g⟩ ρ H (.p .any) H :=
 Bw fun F w E hH hE=>by
  obtain⟨fid,hm⟩:=Option.isSome_iff_exists.1 hm;have h1:=hE x Al;rw[hx] at h1;simp only[Bz,Bf,Br] at h1;obtain⟨fs,cs,hv,⟨u,us,rfl,⟨u',rfl,hu⟩,rfl⟩,rfl⟩:=h1;have hn:∃n,P.types.size+Made.depth=n+1:=⟨P.types.size+Made.depth - 1,by have:0<Made.depth:=As;omega⟩;obtain⟨n,hn⟩:=hn;refine⟨.func (.method nm) #[.iface T u'] #[],?_,L3 _⟩;simp[execOp,hv,Sem.run_bind,hn,Xh hm]
end
end Go.Abs
namespace Go.Eu
open Go.Abs
def Qw {α:Type}(p:α→Bool):List α→Int→Int
 | [],_=> -1
 | x::l,i=>if p x=true then i else Qw p l (i+1)
theorem Xw {α:Type}{p:α→Bool}{l:List α}{i:Nat}{x:α}{k:Int}(h:l[i]?=some x):Qw p (l.drop i) k=if p x=true then k else Qw p (l.drop (i+1)) (k+1):=by rw[Cd h,Qw]
theorem Xa {α:Type}{p:α→Bool}:∀(l:List α) (i:Int),0≤i→decide (Qw p l i≥0)=l.any p
 | [],i,_=>by simp[Qw]
 | x::l,i,h=>by
  simp only[Qw,List.any_cons];split
  ·rename_i q;simp[q,h]
  rename_i q;rw[Xa l (i+1) Au];simp[q]
theorem Ki (c:Int):∀(p:Option Int) (vs:List B6),GX c p vs=(GX 0 p vs&&(decide (c≤0)|| !(vs.any fun v=>decide (c≤v.plus))))
 | p,[]=>by simp[GX]
 | p,v::vs=>by
  simp only[GX,Ki c _ vs,List.any_cons,Wp];by_cases h:c≤0
  ·simp[h]
  simp only[h,decide_false,Bool.false_or,Int.le_refl,decide_true,Bool.true_or,Bool.and_true,Bool.not_or];have:decide (v.plus<c)= !decide (c≤v.plus):=by rw[←decide_not,decide_eq_decide];omega
  rw[this];cases (!decide (c≤v.plus))<;>cases KH p v.index<;>cases GX 0 (some v.index) vs<;>simp
theorem sK {l:CX}(h:(l.const<0∨100<l.const)∨0<l.const∧Rh l=true):false=B0 l:=by
 rcases h with h | ⟨h1,h2⟩
 ·exact jO h
 unfold Rh at h2;rw[B0,Ki,h2,decide_eq_false (p:=l.const≤0) Au];simp
theorem oS {l:CX}{i:Nat}(h:Cz 0 l.vars 0=Cz 0 l.vars i) (hb:Cz 0 l.vars i=false):false=B0 l:=by
 rw[B0,Ki,show GX 0 none l.vars=Cz 0 l.vars 0 from rfl,h,hb];simp
theorem pv {l:CX}{i:Nat}(h1:¬((l.const<0∨100<l.const)∨0<l.const∧Rh l=true)) (h:Cz 0 l.vars 0=Cz 0 l.vars i) (hb:l.vars.length≤i):true=B0 l:=by
 rw[B0,Ki,show GX 0 none l.vars=Cz 0 l.vars 0 from rfl,h,kf hb];simp only[not_or,not_and] at h1;rw[decide_eq_true Au,decide_eq_true Au];by_cases q:l.const≤0
 ·simp[q]
 have:=h1.2 Au;simp only[Rh,Bool.not_eq_true] at this;simp[this,q]
section
variable {l:List B6}{i j:Nat}{x u:B6}
theorem Qs (h:((x.index < -65536∨7<x.index)∨x.plus<0)∨100<x.plus):true= !(Wp 0 x&&KH (Kn l i) x.index):=by
 rw[kn Au];rfl
theorem Ns (h:¬(((x.index < -65536∨7<x.index)∨x.plus<0)∨100<x.plus)) (hi:(i:Int)≤0):false= !(Wp 0 x&&KH (Kn l i) x.index):=by
 rw[W6 Au Au,Bool.true_and,Oo Au]
theorem VT (hj:l[j]?=some u) (he:i=j+1) (h:¬(((x.index < -65536∨7<x.index)∨x.plus<0)∨100<x.plus)):decide (u.index≥x.index)= !(Wp 0 x&&KH (Kn l i) x.index):=by
 rw[W6 Au Au,Bool.true_and,Q2 hj he]
end
theorem vX {l:CX}(h:(0≤l.const∧l.const≤100)∧(0<l.const→Rh l=false)):¬((l.const<0∨100<l.const)∨0<l.const∧Rh l=true):=by
 rintro((q | q) | ⟨q1,q2⟩)
 ·omega
 ·omega
 rw[h.2 q1] at q2;cases q2
theorem vO {l:CX}(h:B0 l=true→(l.vars.length:Int)≤0):B0 l=false∨l.vars.length=0:=by
 by_cases q:B0 l=true
 ·exact .inr (by have:=h q;omega)
 exact .inl (by simpa using q)
def Hy (m:List (Int×Int)):List (Int×AV):=m.map fun p=>(p.1,.p (I p.2))
theorem Xf (k:Int):∀m:List (Int×Int),Ku k (Hy m)=(mg k m).map fun v=> .p (I v)
 | []=>rfl
 | (j,x)::m=>by
  have ih:=Xf k m;simp only[Hy] at ih;simp only[Hy,List.map_cons,Ku,mg];split
  ·rfl
  exact ih
theorem eX (k v:Int):∀m:List (Int×Int),OS k (.p (I v)) (Hy m)=Hy (ms k v m)
 | []=>rfl
 | (j,x)::m=>by
  have ih:=eX k v m;simp only[Hy] at ih;simp only[Hy,List.map_cons,OS,ms];split
  ·rfl
  rw[ih];rfl
theorem Y4 (m:List (Int×Int)) (k:Int):(Ku k (Hy m)).getD (.p (I 0))= .p (I ((mg k m).getD 0)):=by rw[Xf];cases mg k m<;>rfl
theorem ja (m:List (Int×Int)) (k:Int):(Ku k (Hy m)).isSome=(mg k m).isSome:=by rw[Xf];cases mg k m<;>rfl
theorem iQ {m:List (Int×Int)}{i p:Int}(h:(mg i m).isSome=false∨(mg i m).getD 0<p):HM m i p=ms i p m:=by
 unfold HM;cases e:mg i m with
 | none=>rfl
 | some old =>
  rw[e] at h;simp at h;simp only;rw[if_pos Au]
theorem bV {m:List (Int×Int)}{i p:Int}(h:(mg i m).isSome=true∧p≤(mg i m).getD 0):HM m i p=m:=by
 unfold HM;cases e:mg i m with
 | none=>rw[e] at h;simp at h
 | some old =>
  rw[e] at h;simp at h;simp only;rw[if_neg Au]
theorem w7 {l:CX}{i:Nat}{x:B6}(hx:l.vars[i]?=some x) (h:100<x.plus):L1 l=(GB,15):=by
 unfold L1;rw[if_pos];rw[List.any_eq_true];exact⟨x,List.mem_of_getElem? hx,by simpa using h⟩
theorem xI {l:CX}(h:100<l.const):L1 l=(GB,15):=by
 unfold L1;split
 ·rfl
 first | rfl | rw[if_pos Au]
theorem eU {l:CX}(h:∀j,j<l.vars.length→∀y,l.vars[j]?=some y→¬100<y.plus):¬(l.vars.any fun v=>decide (v.plus > 100))=true:=by
 rw[List.any_eq_true];rintro⟨x,hx,hq⟩;obtain⟨j,hj⟩:=List.mem_iff_getElem?.1 hx;exact h j (List.getElem?_eq_some_iff.1 hj).1 x hj (by simpa using hq)
theorem xO {l:CX}(h:∀j,j<l.vars.length→∀y,l.vars[j]?=some y→¬100<y.plus) (h1:l.const≤100) (h2:Rh l=true):L1 l=(⟨0,l.vars⟩,0):=by
 unfold L1;rw[if_neg (eU h),if_neg Au,if_pos h2]
theorem xt {l:CX}(h:∀j,j<l.vars.length→∀y,l.vars[j]?=some y→¬100<y.plus) (h1:l.const≤100) (h2:Rh l=false):L1 l=(l,0):=by
 unfold L1;rw[if_neg (eU h),if_neg Au,if_neg (by simp[h2])]
theorem gV {n:Int}{vs:List B6}{i:Nat}{x:B6}{M:List (Int×Int)}(hx:vs[i]?=some x):HM ((vs.take i).foldl (Iz n) M) x.index (x.plus+n)=(vs.take (i+1)).foldl (Iz n) M:=by
 rw[List.take_add_one,hx,List.foldl_append];rfl
theorem step_take {ps:List CX}{vs:List B6}{i:Nat}{x:B6}{S:List (Int×Int)×Int}(hx:vs[i]?=some x):(vs.take (i+1)).foldl (Es ps) S=Es ps ((vs.take i).foldl (Es ps) S) x:=by
 rw[List.take_add_one,hx,List.foldl_append];rfl
theorem gI (M:List (Int×Int)):(IX M).length=M.length:=by simp[IX,Vs]
def VA (M:List (Int×Int)) (k:Int):B6:=⟨k,(mg k M).getD 0⟩
theorem bu {M:List (Int×Int)}{i:Nat}(h:(Gz (M.map Prod.fst)).length≤i):((Gz (M.map Prod.fst)).take i).map (VA M)=IX M:=by
 rw[List.take_of_length_le h];rfl
theorem Xn {ps:List CX}{S:List (Int×Int)×Int}{x:B6}(h:x.index<0):Es ps S x=(HM S.1 x.index x.plus,S.2):=by unfold Es;rw[if_pos h]
theorem Wv {ps:List CX}{S:List (Int×Int)×Int}{x:B6}{p:CX}(h:0≤x.index) (hp:ps[x.index.toNat]?=some p):Es ps S x=Tu (S.1,S.2) p x.plus:=by unfold Es;rw[if_neg Au,CO hp]
theorem Ro.len {m:List (Int×Int)}(h:Ro m) (hr:∀k∈m.map Prod.fst,-65536≤k∧k<8):m.length≤65544:=by
 have ha:=VL h;have:=XV (lo:= -65536) ha (fun v hv=>by
  simp only[IX,List.mem_map] at hv;obtain⟨k,hk,rfl⟩:=hv;exact hr k ((Od _).mem_iff.1 hk)) Au
 rw[gI] at this;omega
structure dA (S:List (Int×Int)×Int):Prop where
 m:Ro S.1
 r:∀k∈S.1.map Prod.fst,-65536≤k∧k<8
theorem dA.len {S:List (Int×Int)×Int}(h:dA S):S.1.length≤65544:=h.m.len h.r
theorem TX {m:List (Int×Int)}{i p:Int}{Q:Int→Prop}(h:∀k∈m.map Prod.fst,Q k) (hi:Q i):∀k∈(HM m i p).map Prod.fst,Q k:=by
 have hs:∀k∈(ms i p m).map Prod.fst,Q k:=by
  rw[Wi];split
  ·exact h
  intro k hk;rcases List.mem_append.1 hk with hk | hk
  ·exact h k hk
  rw[List.mem_singleton.1 hk];exact hi
 unfold HM;split
 ·split
  ·exact hs
  exact h
 exact hs
theorem WL {n:Int}{Q:Int→Prop}:∀(vs:List B6) (m:List (Int×Int)),(∀k∈m.map Prod.fst,Q k)→(∀v∈vs,Q v.index)→∀k∈(vs.foldl (Iz n) m).map Prod.fst,Q k
 | [],m,h,_=>h
 | v::vs,m,h,hv=>WL vs (Iz n m v) (TX h (hv v Av)) fun w hw=>hv w (by simp[hw])
theorem dA.step {ps:List CX}{S:List (Int×Int)×Int}{x:B6}(hps:∀l∈ps,B0 l=true) (h:dA S) (hx:(0≤x.plus∧x.plus≤100)∧ -65536≤x.index∧x.index<8) (hi:x.index<ps.length):dA (Es ps S x):=by
 refine⟨(Yt hps h.m hx.1.1 hi).1,?_⟩;unfold Es;split
 ·exact TX h.r hx.2
 rename_i q;refine WL _ _ h.r fun v hv=>?_;have hlt:x.index.toNat<ps.length:=by omega
 rw[List.getD_eq_getElem?_getD,List.getElem?_eq_getElem hlt] at hv;exact((Jx.of (hps _ (List.getElem_mem hlt))).rg v hv).2
theorem dA.fold {ps:List CX}(hps:∀l∈ps,B0 l=true):∀(vs:List B6) (S:List (Int×Int)×Int),dA S→(∀x∈vs,((0≤x.plus∧x.plus≤100)∧ -65536≤x.index∧x.index<8)∧x.index<ps.length)→dA (vs.foldl (Es ps) S)
 | [],S,h,_=>h
 | v::vs,S,h,hv=>dA.fold hps vs _ (h.step hps (hv v Av).1 (hv v Av).2) fun w hw=>hv w (by simp[hw])
theorem dA.zero (c:Int):dA ([],c):=⟨Ro.nil,by simp⟩
theorem nD {l:CX}{ps:List CX}{i:Nat}{x:B6}(h:B0 l=true) (hp:¬(HV l > ps.length)) (hx:l.vars[i]?=some x):x.index<ps.length:=by
 have hm:=List.mem_of_getElem? hx;have:=Pu (Jx.of h).asc x hm;unfold HV at hp;rw[if_pos ⟨h,List.ne_nil_of_mem hm⟩] at hp;omega
def Jc (ps:List CX):List CX→Except Int (List CX)
 | []=> .ok []
 | l::ls=>if (C4 l ps).2≠0 then .error (C4 l ps).2 else match Jc ps ls with
  | .ok zs=> .ok ((C4 l ps).1::zs)
  | .error e=> .error e
def Pe (ys:List CX):Except Int (List CX)→Except Int (List CX)
 | .ok zs=> .ok (ys++zs)
 | .error e=> .error e
def X1 (ps:List CX) (_:Unit) (t:Tm) (_:Int):Except Int ((Tm×Bool)×Unit):=match Jc ps t.levels with
 | .ok ls=> .ok ((.mk t.kind t.index t.name ls [],false),())
 | .error e=> .error e
section
variable {ps:List CX}
theorem s7 {ls ys:List CX}{i:Nat}{l:CX}(h:ls[i]?=some l) (h0:(C4 l ps).2=0):Pe ys (Jc ps (ls.drop i))=Pe (ys++[(C4 l ps).1]) (Jc ps (ls.drop (i+1))):=by
 rw[Cd h,Jc,if_neg (by simp[h0])];cases Jc ps (ls.drop (i+1))<;>simp[Pe]
theorem uO {ls ys:List CX}{i:Nat}{l:CX}(h:ls[i]?=some l) (h0:(C4 l ps).2≠0):Pe ys (Jc ps (ls.drop i))= .error (C4 l ps).2:=by
 rw[Cd h,Jc,if_pos h0];rfl
theorem Tn:∀(ls:List CX) (er:Int),er≠0→(F4 ps er ls).2=er
 | [],er,_=>rfl
 | l::ls,er,h=>by
  rw[F4];simp only;rw[show Gi er (C4 l ps).2=er by unfold Gi;rw[if_neg h]];exact Tn ls er h
mutual
theorem qB:∀(t:Tm) (er:Int),er≠0→(JA ps er t).2=er
 | .mk k i n ls ks,er,h=>by
  rw[JA];simp only;rw[Tn ls er h];exact PR ks er h
theorem PR:∀(ts:List Tm) (er:Int),er≠0→(HZ ps er ts).2=er
 | [],er,_=>rfl
 | t::ts,er,h=>by
  rw[HZ];simp only;rw[qB t er h];exact PR ts er h
end
theorem YE:∀(ls:List CX),Jc ps ls=if (F4 ps 0 ls).2=0 then .ok (F4 ps 0 ls).1 else .error (F4 ps 0 ls).2
 | []=>rfl
 | l::ls=>by
  have ih:=YE ls;rw[Jc,F4];simp only;by_cases h:(C4 l ps).2=0
  ·rw[if_neg (by simp[h]),h,cM,ih];by_cases q:(F4 ps 0 ls).2=0
   ·rw[if_pos q,if_pos q]
   rw[if_neg q,if_neg q]
  rw[if_pos h,show Gi 0 (C4 l ps).2=(C4 l ps).2 from rfl,Tn ls _ h,if_neg h]
mutual
theorem QI:∀(t:Tm) (d:Int),EE (X1 ps) t d ()=El (JA ps 0 t)
 | .mk k i n ls ks,d=>by
  rw[EE,JA];simp only[X1,Tm.levels,Tm.kind,Tm.index,Tm.name,YE];by_cases h:(F4 ps 0 ls).2=0
  ·rw[if_pos h,h];simp only[Ea];rw[if_neg Av,SS k 0 ks d];unfold El F8;simp only;by_cases q:(HZ ps 0 ks).2=0
   ·rw[if_pos q,if_pos q];rfl
   rw[if_neg q,if_neg q]
  rw[if_neg h];simp only[Ea,El];rw[PR ks _ h,if_neg h]
theorem SS (k:Int):∀(j:Nat) (ts:List Tm) (d:Int),Dw (X1 ps) k j ts d ()=F8 (HZ ps 0 ts)
 | _,[],_=>rfl
 | j,t::ts,d=>by
  rw[Dw,QI t,HZ];unfold El F8;simp only;by_cases h:(JA ps 0 t).2=0
  ·rw[if_pos h,h];simp only[Ea];rw[SS k (j+1) ts d];unfold F8;by_cases q:(HZ ps 0 ts).2=0
   ·rw[if_pos q,if_pos q]
   rw[if_neg q,if_neg q]
  rw[if_neg h,PR ts _ h,if_neg h];rfl
end
end
theorem iZ (x:Except Int (List CX)):x=Pe [] x:=by cases x<;>simp[Pe]
theorem p5 {ps:List CX}{s:Unit}{k i d e:Int}{n:ByteArray}{ls:List CX}{ks:List Tm}(h:Jc ps ls= .error e):X1 ps s (.mk k i n ls ks) d= .error e:=by
 simp only[X1,Tm.levels,h]
theorem s5 {ps:List CX}{s:Unit}{k i d:Int}{n:ByteArray}{ls ys:List CX}{ks:List Tm}(h:Jc ps ls= .ok ys):X1 ps s (.mk k i n ls ks) d= .ok ((.mk k i n ys [],false),()):=by
 simp only[X1,Tm.levels,Tm.kind,Tm.index,Tm.name,h]
theorem set_drop {ys tl:List CX}{i:Nat}{x m:CX}(h:ys.length=i) (hx:tl[i]?=some x):(ys++tl.drop i).set i m=(ys++[m])++tl.drop (i+1):=by
 subst h;rw[Cd hx];simp
theorem uG {ps:List CX}{tl ys:List CX}{i:Nat}{X:Except Int (List CX)}(h:X=Pe ys (Jc ps (tl.drop i))) (hi:tl.length≤i):X= .ok ys:=by
 rw[h,List.drop_eq_nil_of_le hi];simp[Jc,Pe]
theorem iE (m:CX):Hc (((B4 m).map AV.p).map dn)=some (B4 m):=by obtain⟨c,v⟩:=m;rfl
theorem Zj {t:Tm}{ps:List CX}{e:Int}(h:El (JA ps 0 t)= .error e):BU t ps=(BN,e):=by
 unfold El at h;unfold BU;split at h
 ·cases h
 rename_i q;cases h;rw[if_pos q]
theorem bY {t z:Tm}{ps:List CX}{u:Unit}(h:El (JA ps 0 t)= .ok (z,u)):BU t ps=(z,0):=by
 unfold El at h;unfold BU;split at h
 ·rename_i q;cases h;rw[if_neg (by simp[q])]
 cases h
def Ef {α:Type}(a b:Out α):Prop:=a= .stuck∨a=b
section
variable {α β:Type}
theorem Ef.refl (a:Out α):Ef a a:= .inr rfl
theorem Ef.bind {a b:Out α}{k k':α→Out β}(h:Ef a b) (hk:∀x,Ef (k x) (k' x)):Ef (a.bind k) (b.bind k'):=by
 rcases h with rfl | rfl
 ·exact .inl O
 cases a with
 | stuck=>exact .inl rfl
 | fail=>exact .inr rfl
 | ok x=>exact hk x
theorem Ef.ite {c:Prop} [Decidable c] {a a' b b':Out α}(h1:Ef a a') (h2:Ef b b'):Ef (if c then a else b) (if c then a' else b'):=by
 split
 ·exact h1
 exact h2
theorem Ef.chk {σ:Type}{a b:Out (Tm×σ)}{k k':Tm×σ→Out β}(h:Ef a b) (hk:∀x,Ef (k x) (k' x)):Ef (a.chk k) (b.chk k'):=Ef.bind h fun x=>Ef.ite (hk x) (Ef.refl _)
variable {σ:Type}{E:List B8}{S:Sys σ}
theorem Ef.put {s:σ}{x:Tm×Int}{k k':Tm→σ→Out β}(hk:∀t s',Ef (k t s') (k' t s')):Ef (S.put s x k) (S.put s x k'):=by
 unfold Sys.put;refine Ef.ite ?_ (Ef.refl _);cases S.res s x.1 x.2 with
 | none=>exact Ef.refl _
 | some s'=>exact hk _ _
variable {W W':σ→Tm→Out (Tm×σ)}(hW:∀s t,Ef (W s t) (W' s t))
include hW
theorem ey:∀(n m:Nat),n≤m→∀(t:FY) (v:List Tm) (l:Tm) (s:σ),Ef (EA E S W n t v l s) (EA E S W' m t v l s)
 | 0,_,_,_,_,_,_=> .inl rfl
 | n+1,0,h,_,_,_,_=>absurd h Au
 | n+1,m+1,h,t,v,l,s=>by
  rw[EA,EA];refine Ef.ite (Ef.ite (Ef.refl _) (Ef.chk (hW _ _) fun r=>?_)) (Ef.refl _);cases Ce E r.1 with
  | none=>exact Ef.refl _
  | some q =>
   obtain⟨d,j,f⟩:=q;simp only;cases Cl (EM d j).name t.branches with
   | none=>exact Ef.refl _
   | some t'=>exact ey n m Au _ _ _ _
theorem nJ {n m:Nat}(h:n≤m) (x:Tm) (a:List Tm) (s:σ):Ef (Dc E S W n x a s) (Dc E S W' m x a s):=by
 unfold Dc;cases Gx E x with
 | none=>exact Ef.refl _
 | some y =>
  simp only;refine Ef.ite (Ef.refl _) (Ef.ite ?_ (Ef.ite ?_ (Ef.refl _)))
  ·unfold QE;exact Ef.ite (Ef.refl _) (Ef.chk (hW _ _) fun r=>Ef.refl _)
  unfold Iw;exact Ef.ite (Ef.refl _) (Ef.bind (ey hW n m h _ _ _ _) fun q=>Ef.refl _)
end
section
variable {σ:Type}{E:List B8}{S:Sys σ}
theorem pG {β:Type}{h:Tm}{a:List Tm}{s:σ}{k k':Tm→σ→Out β}(hk:∀t s',Ef (k t s') (k' t s')):Ef (KC S h a s k) (KC S h a s k'):=by
 unfold KC;cases h.kids[1]? with
 | none=>exact Ef.refl _
 | some b=>exact Ef.put fun t s'=>hk _ _
theorem s4 {β:Type}{h:Tm}{a:List Tm}{s:σ}{k k':Tm→σ→Out β}(hk:∀t s',Ef (k t s') (k' t s')):Ef (OV S h a s k) (OV S h a s k'):=by
 unfold OV;cases h.kids[1]? with
 | none=>exact Ef.refl _
 | some b =>
  cases h.kids[2]? with
  | none=>exact Ef.refl _
  | some c=>exact Ef.put fun t s'=>hk _ _
theorem pP {β:Type}{h p:Tm}{a:List Tm}{s:σ}{k k':Tm→σ→Out β}(hk:∀t s',Ef (k t s') (k' t s')):Ef (Jf S h p a s k) (Jf S h p a s k'):=by
 unfold Jf;cases p.kids[(1+h.kind - 9).toNat]? with
 | none=>exact Ef.refl _
 | some q=>exact Ef.put fun t s'=>hk _ _
theorem lD:∀(n m:Nat),n≤m→∀(s:σ) (t:Tm),Ef (FM E S n s t) (FM E S m s t)
 | 0,_,_,_,_=> .inl rfl
 | n+1,0,h,_,_=>absurd h Au
 | n+1,m+1,h,s,t=>by
  have ih:=lD n m Au;rw[FM,FM];refine Ef.ite (Ef.refl _) (Ef.ite (Ef.refl _) (Ef.ite (Ef.refl _) (Ef.ite (Ef.ite (Ef.refl _) (pG fun t s'=>ih _ _)) (Ef.ite (s4 fun t s'=>ih _ _) (Ef.ite ?_ (Ef.ite ?_ (Ef.refl _)))))))
  ·cases (Ay t).1.kids[0]? with
   | none=>exact Ef.refl _
   | some p=>exact Ef.chk (ih _ _) fun r=>Ef.ite (Ef.refl _) (pP fun t s'=>ih _ _)
  refine Ef.bind (nJ ih Au _ _ _) fun r=>?_;cases r.1 with
  | none=>exact Ef.refl _
  | some x=>exact ih _ _
theorem mN {T T':σ→Tm→Out (Option Tm×σ)}(hT:∀s t,Ef (T s t) (T' s t)) (h:Tm) (ar:Int) (a:List Tm):∀(n m:Nat),n≤m→∀(t:FY) (v:List Tm) (pl:List (Int×List Int)) (s:σ),Ef (Fs E S T h ar a n t v pl s) (Fs E S T' h ar a m t v pl s)
 | 0,_,_,_,_,_,_=> .inl rfl
 | n+1,0,h,_,_,_,_=>absurd h Au
 | n+1,m+1,hn,t,v,pl,s=>by
  rw[Fs,Fs];refine Ef.ite (Ef.ite (Ef.refl _) ?_) (Ef.refl _);cases Ce E (v.getD t.var.toNat default) with
  | none=>exact Ef.bind (hT _ _) fun r=>Ef.refl _
  | some q =>
   obtain⟨d,j,f⟩:=q;simp only;cases Cl (EM d j).name t.branches with
   | none=>exact Ef.refl _
   | some t'=>exact mN hT h ar a n m Au _ _ _ _
theorem cX:∀(n m:Nat),n≤m→∀(s:σ) (t:Tm),Ef (Di E S n s t) (Di E S m s t)
 | 0,_,_,_,_=> .inl rfl
 | n+1,0,h,_,_=>absurd h Au
 | n+1,m+1,h,s,t=>by
  have ih:=cX n m Au;rw[Di,Di];refine Ef.ite (Ef.refl _) (Ef.ite (Ef.refl _) (Ef.ite (Ef.refl _) (Ef.ite ?_ (Ef.ite ?_ (Ef.refl _)))))
  ·cases (Ay t).1.kids[0]? with
   | none=>exact Ef.refl _
   | some p=>exact Ef.ite (Ef.refl _) (Ef.bind (ih _ _) fun r=>Ef.refl _)
  cases Gx E (Ay t).1 with
  | none=>exact Ef.refl _
  | some x =>
   refine Ef.ite (Ef.refl _) (Ef.ite ?_ (Ef.ite (mN ih _ _ _ n m Au _ _ _ _) (Ef.refl _)));cases Ce E ((Ay t).2.getD (Bv (CR E x.decl)).toNat default) with
   | none=>exact Ef.bind (ih _ _) fun r=>Ef.refl _
   | some y=>exact Ef.refl _
end
theorem oY {k i:Int}{n:ByteArray}{l:List CX}{ts:List Tm}{x y:Tm}(h:k=6∧((ts.length:Nat):Int)=2) (hx:ts[0]?=some x) (hy:ts[1]?=some y):Hz (.mk k i n l ts)=(x::(Hz y).1,(Hz y).2):=by
 obtain⟨rfl,h2⟩:=h;rw[lh h2 hx hy,Hz,if_pos rfl]
theorem qV {k i:Int}{n:ByteArray}{l:List CX}{ts:List Tm}(h:k≠6∨((ts.length:Nat):Int)≠2):Hz (.mk k i n l ts)=([],.mk k i n l ts):=by
 unfold Hz;split
 ·rename_i k' i' n' l' a b e;injection e with e1 e2 e3 e4 e5;subst e1 e2 e3 e4 e5;simp at h;rw[if_neg h]
 rfl
theorem V2 {k i:Int}{n:ByteArray}{ls:List CX}{ts l:List Tm}{x y:Tm}{X:List Tm×Tm}(h:k=6∧((ts.length:Nat):Int)=2) (hx:ts[0]?=some x) (hy:ts[1]?=some y) (hX:(l++(Hz (.mk k i n ls ts)).1,(Hz (.mk k i n ls ts)).2)=X):((l++[x])++(Hz y).1,(Hz y).2)=X:=by
 rw[←hX,oY h hx hy];simp
theorem ZQ {k i:Int}{n:ByteArray}{ls:List CX}{ts l:List Tm}{X:List Tm×Tm}(h:k≠6∨((ts.length:Nat):Int)≠2) (hX:(l++(Hz (.mk k i n ls ts)).1,(Hz (.mk k i n ls ts)).2)=X):X=(l,.mk k i n ls ts):=by
 rw[←hX,qV h];simp
theorem JB:∀(t:Tm),(Hz t).1.length<size t
 | .mk k i n l [a,b]=>by
  unfold Hz;split
  ·have:=JB b;have:=size_pos a;simp only[List.length_cons,size,BB];omega
  ·simp[size,BB];omega
 | .mk k i n l []=>by simp[Hz,size,BB]
 | .mk k i n l [_]=>by simp[Hz,size,BB];omega
 | .mk k i n l (_::_::_::_)=>by simp[Hz,size,BB];omega
mutual
def FD:FY→Prop
 | .mk k b v l=>okB b=true∧UC l
def rM:G3→Prop
 | .mk c a t=>FD t
def UC:List G3→Prop
 | []=>True
 | b::l=>rM b∧UC l
end
structure DG (d:B8):Prop where
 din:Q0 d
 fx:0≤d.fixed∧d.fixed≤1000000
 vl:okB d.value=true
 ru:∀t∈d.recs.rules,okB t=true
 fu:∀f∈d.funs,1≤f.arity∧f.arity≤16∧FD f.tree
structure MC (E:List B8):Prop where
 env:IT E
 all:∀d∈E,DG d
def Jb (TA:IJ→List A4) (T0:List A4) (nm:ByteArray) (l:List (ByteArray×IJ)):List A4:=match C2 nm l with
 | some e=>TA e
 | none=>T0
section
variable {TA:IJ→List A4}{T0:List A4}{nm:ByteArray}{d:B8}{i:Int}{j:Nat}
theorem bF (h:d.kind=0∨d.kind=1∨d.kind=2):Jb TA T0 nm (GD d i)=if d.name=nm then TA ⟨d.kind,i,0,d.params,d.type⟩ else T0:=by
 unfold Jb GD;rw[if_pos h];simp only[C2];by_cases e:d.name=nm<;>simp[e]
theorem iY (h:d.kind=3) (hn:d.name=nm):Jb TA T0 nm (GD d i)=TA ⟨3,i,0,d.params,d.type⟩:=by
 unfold Jb GD;rw[if_neg Au,if_pos h];simp only[C2,if_pos hn]
theorem bK (h:d.kind=3) (hn:¬d.name=nm) {c:LQ}(hx:d.ctors[j]?=some c) (he:c.name=nm) (hb:∀q,q<j→∀y,d.ctors[q]?=some y→y.name≠nm):Jb TA T0 nm (GD d i)=TA ⟨4,i,j,d.params,c.type⟩:=by
 unfold Jb GD;rw[if_neg Au,if_pos h];simp only[C2,if_neg hn,MG,Qu hx he hb,Int.zero_add]
theorem iv (h:d.kind=3) (hn:¬d.name=nm) (hb:∀q:Nat,q<d.ctors.length→∀y,d.ctors[q]?=some y→y.name≠nm):Jb TA T0 nm (GD d i)=if Xq d.name=nm then TA ⟨5,i,0,d.recs.params,d.recs.type⟩ else T0:=by
 unfold Jb GD;rw[if_neg Au,if_pos h];simp only[C2,if_neg hn,MG,Oa hb];by_cases e:Xq d.name=nm<;>simp[e]
theorem gv (h:d.kind=4) {c:I9}(hx:d.funs[j]?=some c) (he:c.name=nm) (hb:∀q,q<j→∀y,d.funs[q]?=some y→y.name≠nm):Jb TA T0 nm (GD d i)=TA ⟨6,i,j,d.params,c.type⟩:=by
 unfold Jb GD;rw[if_neg Au,if_neg Au,if_pos h];simp only[Sn hx he hb,Int.zero_add]
theorem bU (h:d.kind=4) (hb:∀q:Nat,q<d.funs.length→∀y,d.funs[q]?=some y→y.name≠nm):Jb TA T0 nm (GD d i)=T0:=by
 unfold Jb GD;rw[if_neg Au,if_neg Au,if_pos h];simp only[QQ hb]
theorem bM (h:¬(d.kind=0∨d.kind=1∨d.kind=2)) (h3:¬d.kind=3) (h4:¬d.kind=4):Jb TA T0 nm (GD d i)=T0:=by
 unfold Jb GD;rw[if_neg h,if_neg h3,if_neg h4];rfl
theorem jo (h:d.kind=0∨d.kind=1∨d.kind=2):(d.name,(⟨d.kind,i,0,d.params,d.type⟩:IJ))∈GD d i:=by
 unfold GD;rw[if_pos h];simp
theorem qM (h:d.kind=3):(d.name,(⟨3,i,0,d.params,d.type⟩:IJ))∈GD d i:=by
 unfold GD;rw[if_neg Au,if_pos h];simp
theorem jW (h:d.kind=3) {c:LQ}(hx:d.ctors[j]?=some c):(c.name,(⟨4,i,j,d.params,c.type⟩:IJ))∈GD d i:=by
 unfold GD;rw[if_neg Au,if_pos h];have:=VW (i:=i) (p:=d.params) (k:=0) hx;rw[Int.zero_add] at this;simp[this]
theorem rF (h:d.kind=3):(Xq d.name,(⟨5,i,0,d.recs.params,d.recs.type⟩:IJ))∈GD d i:=by
 unfold GD;rw[if_neg Au,if_pos h];simp
theorem pC (h:d.kind=4) {c:I9}(hx:d.funs[j]?=some c):(c.name,(⟨6,i,j,d.params,c.type⟩:IJ))∈GD d i:=by
 unfold GD;rw[if_neg Au,if_neg Au,if_pos h];have:=Zw (i:=i) (p:=d.params) (k:=0) hx
 rwa [Int.zero_add] at this
end
theorem Z7 {nm:ByteArray}{e:IJ}:∀{ds:List B8}{i:Nat}{k:Int}{d:B8},ds[i]?=some d→(∀j,j<i→∀y,ds[j]?=some y→C2 nm (GD y (k+j))=none)→C2 nm (GD d (k+i))=some e→findF nm ds k=some e
 | [],i,k,d,h,_,_=>by simp at h
 | a::ds,0,k,d,h,_,hn=>by
  simp at h;subst h;rw[findF];rw[show k+((0:Nat):Int)=k by omega] at hn;rw[hn]
 | a::ds,i+1,k,d,h,hb,hn=>by
  have h0:=hb 0 Au a rfl;rw[show k+((0:Nat):Int)=k by omega] at h0;rw[findF,h0];exact Z7 (by simpa using h) (fun j hj y hy=>by have:=hb (j+1) Au y (by simpa using hy);rwa [show k+((j+1:Nat):Int)=k+1+j by omega] at this) (by rwa [show k+((i+1:Nat):Int)=k+1+i by omega] at hn)
theorem Z0 {nm:ByteArray}:∀{ds:List B8}{k:Int},(∀j,j<ds.length→∀y,ds[j]?=some y→C2 nm (GD y (k+j))=none)→findF nm ds k=none
 | [],k,_=>rfl
 | a::ds,k,hb=>by
  have h0:=hb 0 Av a rfl;rw[show k+((0:Nat):Int)=k by omega] at h0;rw[findF,h0];exact Z0 fun j hj y hy=>by have:=hb (j+1) (by simpa using hj) y (by simpa using hy);rwa [show k+((j+1:Nat):Int)=k+1+j by omega] at this
theorem ly {nm:ByteArray}{e:IJ}{ds:List B8}{i:Nat}{d:B8}(hx:ds[i]?=some d) (hb:∀j,j<i→∀y,ds[j]?=some y→C2 nm (GD y j)=none) (he:C2 nm (GD d i)=some e):BY ds nm=(e,0):=by
 rw[BY,Z7 hx (fun j hj y hy=>by rw[Int.zero_add];exact hb j hj y hy) (by rwa [Int.zero_add])]
theorem nC {nm:ByteArray}{ds:List B8}(hb:∀j,j<ds.length→∀y,ds[j]?=some y→C2 nm (GD y j)=none):BY ds nm=(jN,9):=by
 rw[BY,Z0 fun j hj y hy=>by rw[Int.zero_add];exact hb j hj y hy]
def x0 (ds:List B8):Prop:=∀d∈ds,d.kind=0∨Q0 d
theorem TW {nm:ByteArray}:∀{l:List (ByteArray×IJ)}{e:IJ},C2 nm l=some e→∃s,(s,e)∈l
 | (s,x)::l,e,h=>by
  simp only[C2] at h;split at h
  ·cases h;exact⟨s,by simp⟩
  obtain⟨s',h'⟩:=TW h;exact⟨s',List.mem_cons_of_mem _ h'⟩
theorem aH {i p:Int}{s:ByteArray}{e:IJ}:∀{cs:List LQ}{k:Int},(s,e)∈JN i p cs k→∃(j:Nat) (c:LQ),cs[j]?=some c∧e=⟨4,i,k+j,p,c.type⟩
 | c::cs,k,h=>by
  simp only[JN,List.mem_cons] at h;rcases h with h | h
  ·cases h;exact⟨0,c,rfl,by simp⟩
  obtain⟨j,c',h1,h2⟩:=aH h;exact⟨j+1,c',by simpa using h1,by rw[h2];congr 1;omega⟩
theorem eS {i p:Int}{s:ByteArray}{e:IJ}:∀{cs:List I9}{k:Int},(s,e)∈Mk i p cs k→∃(j:Nat) (c:I9),cs[j]?=some c∧e=⟨6,i,k+j,p,c.type⟩
 | c::cs,k,h=>by
  simp only[Mk,List.mem_cons] at h;rcases h with h | h
  ·cases h;exact⟨0,c,rfl,by simp⟩
  obtain⟨j,c',h1,h2⟩:=eS h;exact⟨j+1,c',by simpa using h1,by rw[h2];congr 1;omega⟩
structure eO (d:B8) (i:Int) (e:IJ):Prop where
 decl:e.decl=i
 kind:0≤e.kind∧e.kind≤6
 ctor:e.kind=4→∃(j:Nat) (c:LQ),d.ctors[j]?=some c∧e.item=j
 func:e.kind=6→∃(j:Nat) (c:I9),d.funs[j]?=some c∧e.item=j
theorem uP {d:B8}{i:Int}{s:ByteArray}{e:IJ}(h:(s,e)∈GD d i):eO d i e:=by
 unfold GD at h;split at h
 ·rename_i hk;simp only[List.mem_singleton,Prod.mk.injEq] at h;obtain⟨_,rfl⟩:=h;exact⟨O,by simp only;omega,fun q=>by simp only at q;omega,fun q=>by simp only at q;omega⟩
 split at h
 ·simp only[List.mem_cons,List.mem_append,List.mem_singleton,Prod.mk.injEq,List.not_mem_nil,or_false] at h;rcases h with ⟨_,rfl⟩ | h | ⟨_,rfl⟩
  ·exact⟨O,by simp,fun q=>by simp at q,fun q=>by simp at q⟩
  ·obtain⟨j,c,h1,rfl⟩:=aH h;exact⟨O,by simp,fun _=>⟨j,c,h1,by simp⟩,fun q=>by simp at q⟩
  exact⟨O,by simp,fun q=>by simp at q,fun q=>by simp at q⟩
 split at h
 ·obtain⟨j,c,h1,rfl⟩:=eS h;exact⟨O,by simp,fun q=>by simp at q,fun _=>⟨j,c,h1,by simp⟩⟩
 cases h
theorem Zs {nm:ByteArray}:∀{ds:List B8}{k:Int}{e:IJ},findF nm ds k=some e→∃(i:Nat) (d:B8),ds[i]?=some d∧eO d (k+i) e
 | d::ds,k,e,h=>by
  simp only[findF] at h;split at h
  ·rename_i x hx;cases h;obtain⟨s,hs⟩:=TW hx;exact⟨0,d,O,by simpa using uP hs⟩
  obtain⟨i,d',h1,h2⟩:=Zs h;refine⟨i+1,d',by simpa using h1,?_⟩;rw[show k+((i+1:Nat):Int)=k+1+i by omega];exact h2
theorem Ps {ds:List B8}{nm:ByteArray}(h:(BY ds nm).2=0):∃(i:Nat) (d:B8),ds[i]?=some d∧eO d i (BY ds nm).1:=by
 unfold BY at h ⊢;cases e:findF nm ds 0 with
 | none=>rw[e] at h;simp at h
 | some x =>
  obtain⟨i,d,h1,h2⟩:=Zs e;exact⟨i,d,h1,by simpa using h2⟩
def Yr:B8:=⟨0,⟨#[]⟩,0,BN,BN,0,[],⟨0,BN,[]⟩,[]⟩
def Co (E:List B8) (nm:ByteArray):B8×Int×Bool:=match GU E nm with
 | some (d,j)=>(d,j,true)
 | none=>(Yr,0,false)
section
variable {E:List B8}{nm:ByteArray}{x:B8}
theorem dX (h:(BY E nm).2≠0):Co E nm=(Yr,0,false):=by simp[Co,GU,h]
theorem Q4 (hx:E[(BY E nm).1.decl.toNat]?=some x):CR E (BY E nm).1.decl=x:=CO hx
theorem rq (h:(BY E nm).2=0) (h3:(BY E nm).1.kind=3) (hx:E[(BY E nm).1.decl.toNat]?=some x):Co E nm=(x,-1,true):=by
 simp[Co,GU,h,h3,Q4 hx]
theorem rk (h:(BY E nm).2=0) (h3:(BY E nm).1.kind=4) (hx:E[(BY E nm).1.decl.toNat]?=some x):Co E nm=(x,(BY E nm).1.item,true):=by
 simp[Co,GU,h,h3,Q4 hx]
theorem ld (h:(BY E nm).2=0) (h3:(BY E nm).1.kind=5) (hx:E[(BY E nm).1.decl.toNat]?=some x):Co E nm=(x,-2,true):=by
 simp[Co,GU,h,h3,Q4 hx]
theorem lK (h3:(BY E nm).1.kind≠3) (h4:(BY E nm).1.kind≠4) (h5:(BY E nm).1.kind≠5):Co E nm=(Yr,0,false):=by
 simp[Co,GU,h3,h4,h5]
end
theorem GM {d:B8}(h:Q0 d) (hf:0≤d.fixed∧d.fixed≤1000000):0≤Mw d∧Mw d≤1000000:=by
 have h1:=JB d.type;have h2:=h.ty.sz;unfold Mw aZ;omega
def Up (E:List B8) (h:Tm):Bool:=decide ((BY E h.name).2=0)&&decide ((h.levels.length:Int)=(BY E h.name).1.params)
theorem Df (E:List B8) (h:Tm):Gx E h=if Up E h=true then some (BY E h.name).1 else none:=by
 unfold Gx Up;simp only[Bool.and_eq_true,decide_eq_true_eq]
theorem ZB {l:List Tm}{m:Nat}{x:Tm}(h:l[m - 1]?=some x) (hm:0<m):(l.drop m).reverse++[x]=(l.drop (m - 1)).reverse:=by
 rw[Cd h,List.reverse_cons,show m - 1+1=m by omega]
theorem m4 {E:List B8}{k i:Int}{n:ByteArray}{ls:List CX}{ks:List Tm}(h:(BY E n).2=0):(((ls.length:Nat):Int)==(BY E n).1.params)=Up E (.mk k i n ls ks):=by
 simp only[Up,Tm.name,Tm.levels,h,decide_true,Bool.true_and];rw[Bool.eq_iff_iff,beq_iff_eq];exact⟨fun q=>decide_eq_true q,fun q=>of_decide_eq_true q⟩
theorem rp {E:List B8}{k i:Int}{n:ByteArray}{ls:List CX}{ks:List Tm}(h:(BY E n).2≠0):false=Up E (.mk k i n ls ks):=by
 simp[Up,Tm.name,h]
def Out.ex {α:Type}:Out α→Except Int α
 | .ok a=> .ok a
 | .stuck=> .error 0
 | .fail=> .error 0
section
variable {α β σ:Type}
theorem aB {o:Out α}{a:α}(h:o.ex= .ok a):o= .ok a:=by
 cases o<;>simp[Out.ex] at h;rw[h]
theorem Gy {o:Out α}{a:α}(h:o= .ok a):o.ex= .ok a:=by rw[h];rfl
theorem tQ {o:Out α}{e:Int}(hs:o≠ .stuck) (h:o.ex= .error e):o= .fail∧e=0:=by
 cases o with
 | stuck=>exact absurd rfl hs
 | fail=>simp[Out.ex] at h;exact⟨rfl,h.symm⟩
 | ok a=>simp[Out.ex] at h
theorem D9 {o:Out α}{k:α→Out β}{b:β}(h:o.bind k= .ok b):∃a,o= .ok a∧k a= .ok b:=by
 cases o with
 | stuck=>simp[Out.bind] at h
 | fail=>simp[Out.bind] at h
 | ok a=>exact⟨a,rfl,h⟩
theorem R3 {o:Out α}{k:α→Out β}(h:o.bind k≠ .stuck):o≠ .stuck:=fun e=>h (by rw[e];rfl)
theorem XO {o:Out α}{k:α→Out β}{a:α}(h:o.ex= .ok a):o.bind k=k a:=by rw[aB h];rfl
theorem XE {o:Out α}{k:α→Out β}{e:Int}(h:o.bind k≠ .stuck) (he:o.ex= .error e):(o.bind k).ex= .error e:=by
 obtain⟨h1,h2⟩:=tQ (R3 h) he;subst h2;rw[h1];rfl
theorem HA {o:Out (Tm×σ)}{k:Tm×σ→Out β}{b:β}(h:o.chk k= .ok b):∃r,o= .ok r∧okB r.1=true∧k r= .ok b:=by
 obtain⟨r,h1,h2⟩:=D9 h;split at h2
 ·rename_i hr;exact⟨r,h1,hr,h2⟩
 cases h2
theorem IM {s:Dn}{x:Tm×Int}{k:Tm→Dn→Out α}(h:DK.put s x k≠ .stuck):okB x.1=true∧DK.put s x k=k x.1 (s.result x.1 x.2):=by
 unfold Sys.put at h ⊢;split at h
 ·rename_i hx;exact⟨hx,by rw[if_pos hx];rfl⟩
 exact absurd O h
theorem Rx {s:Int}{x:Tm×Int}{k:Tm→Int→Out α}(h:CE.put s x k≠ .stuck):okB x.1=true∧CE.put s x k=if s - 1<0∨x.2≠0 then .fail else k x.1 (s - 1):=by
 unfold Sys.put at h ⊢;split at h
 ·rename_i hx;refine⟨hx,?_⟩;rw[if_pos hx];simp only[CE];by_cases c:s - 1<0∨x.2≠0
  ·rw[if_pos c,if_pos c]
  rw[if_neg c,if_neg c]
 exact absurd O h
end
section
variable {E:List B8}{σ:Type}{S:Sys σ}{W:σ→Tm→Out (Tm×σ)}{n:Nat}{t:FY}{v:List Tm}{l:Tm}{s:σ}{x:Tm}
def RL (E:List B8) (S:Sys σ) (W:σ→Tm→Out (Tm×σ)) (n:Nat) (t:FY) (v:List Tm) (r:Tm×σ):Out ((Option (Tm×List Tm)×Tm)×σ):=match Ce E r.1 with
 | none=> .ok ((none,r.1),r.2)
 | some (d,j,fields)=>match Cl (EM d j).name t.branches with
  | none=> .ok ((none,r.1),r.2)
  | some t'=>EA E S W n t' (v++fields) r.1 r.2
theorem iu {X:Out ((Option (Tm×List Tm)×Tm)×σ)}(h:EA E S W n t v l s=X) (hX:X≠ .stuck):∃k,n=k+1:=by
 cases n with
 | zero=>rw[EA] at h;exact absurd h.symm hX
 | succ k=>exact⟨k,rfl⟩
theorem Is (h:t.kind≠1):EA E S W (n+1) t v l s= .ok ((some (t.body,v),BN),s):=by rw[EA,if_neg h]
theorem KT (h:t.kind=1) (hb:t.var<0∨t.var≥(v.length:Int)∨S.over s=true):EA E S W (n+1) t v l s= .ok ((none,l),s):=by rw[EA,if_pos h,if_pos hb]
theorem L4 (h:t.kind=1) (hb:¬(t.var<0∨t.var≥(v.length:Int)∨S.over s=true)) (hx:v[t.var.toNat]?=some x):EA E S W (n+1) t v l s=(W s x).chk (RL E S W n t v):=by
 rw[EA,if_pos h,if_neg hb,CO hx];rfl
theorem G7 {r:Tm×σ}(h:Ce E r.1=none):RL E S W n t v r= .ok ((none,r.1),r.2):=by unfold RL;rw[h]
theorem JK {r:Tm×σ}{d:B8}{j:Int}{f:List Tm}(h:Ce E r.1=some (d,j,f)) (hb:Cl (EM d j).name t.branches=none):RL E S W n t v r= .ok ((none,r.1),r.2):=by unfold RL;rw[h];simp only[hb]
theorem JM {r:Tm×σ}{d:B8}{j:Int}{f:List Tm}{t':FY}(h:Ce E r.1=some (d,j,f)) (hb:Cl (EM d j).name t.branches=some t'):RL E S W n t v r=EA E S W n t' (v++f) r.1 r.2:=by unfold RL;rw[h];simp only[hb]
end
section
variable {E:List B8}{σ:Type}{S:Sys σ}{W:σ→Tm→Out (Tm×σ)}{n:Nat}{h m:Tm}{a:List Tm}{s:σ}{d:B8}{x:IJ}
theorem Jv (he:(BU d.value h.levels).2≠0):EP S d h a s= .ok (none,s):=by rw[EP,if_pos he]
theorem KD (he:(BU d.value h.levels).2=0):EP S d h a s=S.put s ((BU d.value h.levels).1,0) fun t s'=> .ok (some (apply t a),s'):=by rw[EP,if_neg Au]
theorem Nc (hc:Ce E m=none):ER E S d h a m s= .ok (none,s):=by unfold ER;rw[hc]
theorem SJ {e:B8}{j:Int}{f:List Tm}(hc:Ce E m=some (e,j,f)) (hn:e.name≠d.name∨j≥(d.recs.rules.length:Int)):ER E S d h a m s= .ok (none,s):=by unfold ER;rw[hc];simp only[if_pos hn]
theorem Mp {e:B8}{j:Int}{f:List Tm}{r:Tm}(hc:Ce E m=some (e,j,f)) (hn:¬(e.name≠d.name∨j≥(d.recs.rules.length:Int))) (hr:d.recs.rules[j.toNat]?=some r) (he:(BU r h.levels).2≠0):ER E S d h a m s= .ok (none,s):=by
 unfold ER;rw[hc];simp only[if_neg hn,XK,CO hr,if_pos he]
theorem NY {e:B8}{j:Int}{f:List Tm}{r:Tm}(hc:Ce E m=some (e,j,f)) (hn:¬(e.name≠d.name∨j≥(d.recs.rules.length:Int))) (hr:d.recs.rules[j.toNat]?=some r) (he:(BU r h.levels).2=0) :
  ER E S d h a m s=S.put s (apply (apply (BU r h.levels).1 (a.take (d.fixed+1+d.ctors.length).toNat)) f,0) fun t s'=> .ok (some (apply t (a.drop (Bv d+1).toNat)),s'):=by
 unfold ER;rw[hc];simp only[if_neg hn,XK,CO hr,if_neg (show ¬(BU r h.levels).2≠0 by omega)]
theorem KE {b:Tm}{vars rest:List Tm}(he:(BU b h.levels).2≠0):FE S h b vars rest s= .ok (none,s):=by rw[FE,if_pos he]
theorem X3 {b:Tm}{vars rest:List Tm}(hs:FE S h b vars rest s≠ .stuck) (he:(BU b h.levels).2=0):okB (BU b h.levels).1=true∧(∀v∈vars,okB v=true)∧BB vars<1125899906842624∧FE S h b vars rest s=S.put s (B9 (BU b h.levels).1 vars.reverse 0) fun t s'=> .ok (some (apply t rest),s'):=by
 rw[FE,if_neg Au] at hs ⊢;split at hs
 ·exact absurd O hs
 rename_i hc;have hn:=hc;simp only[not_or,Bool.not_eq_false] at hc;exact⟨hc.1,fun v hv=>List.all_eq_true.1 hc.2.1 v hv,by omega,by rw[if_neg hn]⟩
def P3 (S:Sys σ) (f:I9) (h:Tm) (a:List Tm) (q:(Option (Tm×List Tm)×Tm)×σ):Out (Option Tm×σ):=match q.1.1 with
 | none=> .ok (none,q.2)
 | some (b,vars)=>if S.over q.2=true then .ok (none,q.2) else FE S h b vars (a.drop f.arity.toNat) q.2
theorem NU {f:I9}(hl:(a.length:Int)<f.arity):Iw E S W n f h a s= .ok (none,s):=by rw[Iw,if_pos hl]
theorem NT {f:I9}(hl:¬(a.length:Int)<f.arity):Iw E S W n f h a s=(EA E S W n f.tree (a.take f.arity.toNat) BN s).bind (P3 S f h a):=by rw[Iw,if_neg hl];rfl
theorem Rv (hl:(a.length:Int)≤Bv d):QE E S W d h a s= .ok (none,s):=by rw[QE,if_pos hl]
theorem Xc {y:Tm}(hl:¬(a.length:Int)≤Bv d) (hy:a[(Bv d).toNat]?=some y):QE E S W d h a s=(W s y).chk fun r=>ER E S d h a r.1 r.2:=by rw[QE,if_neg hl,CO hy]
theorem L2 (hu:Up E h=false):Dc E S W n h a s= .ok (none,s):=by
 unfold Dc;rw[Df,hu];simp
section
variable (hu:Up E h=true) (hd:E[(BY E h.name).1.decl.toNat]?=some d)
include hu hd
theorem Jr (hk:(BY E h.name).1.kind=1):Dc E S W n h a s=EP S d h a s:=by
 unfold Dc;rw[Df,hu,if_pos rfl];simp only[if_pos hk,CR,CO hd]
theorem Jw (hk:(BY E h.name).1.kind=5):Dc E S W n h a s=QE E S W d h a s:=by
 unfold Dc;rw[Df,hu,if_pos rfl];simp only[hk,CR,CO hd];rfl
theorem Iq {f:I9}(hk:(BY E h.name).1.kind=6) (hf:d.funs[(BY E h.name).1.item.toNat]?=some f):Dc E S W n h a s=Iw E S W n f h a s:=by
 unfold Dc;rw[Df,hu,if_pos rfl];simp only[hk,CR,CO hd,Gh,CO hf];rfl
omit hd
theorem Pt (h1:(BY E h.name).1.kind≠1) (h5:(BY E h.name).1.kind≠5) (h6:(BY E h.name).1.kind≠6):Dc E S W n h a s= .ok (none,s):=by
 unfold Dc;rw[Df,hu,if_pos rfl];simp only[if_neg h1,if_neg h5,if_neg h6]
end
end
section
variable {E:List B8}{σ:Type}{S:Sys σ}{n:Nat}{t:Tm}{s:σ}{X:Out (Tm×σ)}
theorem oU (h:FM E S n s t=X) (hX:X≠ .stuck):∃k,n=k+1:=by
 cases n with
 | zero=>rw[FM] at h;exact absurd h.symm hX
 | succ k=>exact⟨k,rfl⟩
theorem bP (h:FM E S (n+1) s t=X) (hX:X≠ .stuck):okB t=true:=by
 rw[FM] at h;split at h
 ·exact absurd h.symm hX
 rename_i hc;simpa using hc
theorem dJ (ho:okB t=true) (h:S.over s=true):FM E S (n+1) s t= .ok (t,s):=by rw[FM,if_neg (by simp[ho]),if_pos h]
theorem ep (ho:okB t=true) (h:S.over s=false) (hm:S.many (Ay t).2.length=true):FM E S (n+1) s t= .fail:=by rw[FM,if_neg (by simp[ho]),if_neg (by simp[h]),if_pos hm]
section
variable (ho:okB t=true) (h:S.over s=false) (hm:S.many (Ay t).2.length=false)
include ho h hm
theorem MI (hk:(Ay t).1.kind=5) (hl:(Ay t).2.length=0):FM E S (n+1) s t= .ok (t,s):=by
 rw[FM,if_neg (by simp[ho]),if_neg (by simp[h]),if_neg (by simp[hm]),if_pos hk,if_pos hl]
theorem UH {b:Tm}(hk:(Ay t).1.kind=5) (hl:(Ay t).2.length≠0) (hb:(Ay t).1.kids[1]?=some b) :
  FM E S (n+1) s t=S.put s (B9 b ((Ay t).2.take 1) 0) fun x s'=>FM E S n s' (apply x ((Ay t).2.drop 1)):=by
 rw[FM,if_neg (by simp[ho]),if_neg (by simp[h]),if_neg (by simp[hm]),if_pos hk,if_neg hl,KC,hb]
theorem Ta {v b:Tm}(hk:(Ay t).1.kind=11) (hv:(Ay t).1.kids[1]?=some v) (hb:(Ay t).1.kids[2]?=some b) :
  FM E S (n+1) s t=S.put s (B9 b [v] 0) fun x s'=>FM E S n s' (apply x (Ay t).2):=by
 rw[FM,if_neg (by simp[ho]),if_neg (by simp[h]),if_neg (by simp[hm]),if_neg Au,if_pos hk,OV,hv,hb]
def RW (E:List B8) (S:Sys σ) (n:Nat) (h:Tm) (a:List Tm) (r:Tm×σ):Out (Tm×σ) :=
 if r.1.kind≠8 then .ok (apply (Ha h.kind r.1) a,r.2) else Jf S h r.1 a r.2 fun x s'=>FM E S n s' x
theorem LY {p:Tm}(hk:(Ay t).1.kind=9∨(Ay t).1.kind=10) (hp:(Ay t).1.kids[0]?=some p) :
  FM E S (n+1) s t=(FM E S n s p).chk (RW E S n (Ay t).1 (Ay t).2):=by
 rw[FM,if_neg (by simp[ho]),if_neg (by simp[h]),if_neg (by simp[hm]),if_neg Au,if_neg Au,if_pos hk,hp];rfl
def dg (E:List B8) (S:Sys σ) (n:Nat) (t:Tm) (r:Option Tm×σ):Out (Tm×σ):=match r.1 with
 | none=> .ok (t,r.2)
 | some x=>FM E S n r.2 x
theorem JG (hk:(Ay t).1.kind=3):FM E S (n+1) s t=(Dc E S (FM E S n) n (Ay t).1 (Ay t).2 s).bind (dg E S n t):=by
 rw[FM,if_neg (by simp[ho]),if_neg (by simp[h]),if_neg (by simp[hm]),if_neg Au,if_neg Au,if_neg Au,if_pos hk];rfl
theorem Sk (h1:(Ay t).1.kind≠5) (h2:(Ay t).1.kind≠11) (h3:(Ay t).1.kind≠9) (h4:(Ay t).1.kind≠10) (h5:(Ay t).1.kind≠3):FM E S (n+1) s t= .ok (t,s):=by
 rw[FM,if_neg (by simp[ho]),if_neg (by simp[h]),if_neg (by simp[hm]),if_neg h1,if_neg h2,if_neg Au,if_neg h5]
end
theorem KF {h:Tm}{a:List Tm}{r:Tm×σ}(hk:r.1.kind≠8):RW E S n h a r= .ok (apply (Ha h.kind r.1) a,r.2):=by rw[RW,if_pos hk]
theorem Pr {h:Tm}{a:List Tm}{r:Tm×σ}{q:Tm}(hk:r.1.kind=8) (hq:r.1.kids[(1+h.kind - 9).toNat]?=some q):RW E S n h a r=S.put r.2 (q,0) fun x s'=>FM E S n s' (apply x a):=by
 rw[RW,if_neg Au,Jf,hq]
end
inductive NV where
 | fn (a:Nat)
 | pr (a:Nat)
 | st (a:Nat)
 deriving DecidableEq,Inhabited
structure NB where
 t:Tm
 vars:Option Nat
 deriving Inhabited
structure NH where
 kind:Int
 level:Int
 node:Tm
 kids:List Nat
 body:Option NB
 deriving Inhabited
inductive NO where
 | thunk (t:Tm) (vars:Option Nat) (known:Option NV)
 | scope (first:Nat) (rest:Option Nat)
 | func (domain:Nat) (body:NB)
 | pair (domain first second:Nat)
 | stuck (h:NH) (args:List Nat)
 deriving Inhabited
structure NS where
 objs:List NO
 left:Int
 nodes:Int
def NS.get (s:NS) (a:Nat):Option NO:=if a<s.objs.length then s.objs[s.objs.length - 1 - a]? else none
def NS.set (s:NS) (a:Nat) (o:NO):NS:={ s with objs:=s.objs.set (s.objs.length - 1 - a) o }
def NS.new (s:NS) (o:NO):NS:={ s with objs:=o::s.objs }
def NS.next (s:NS):Nat:=s.objs.length
def NS.count (s:NS) {α:Type}(k:NS→Out α):Out α:=if s.left - 1<0 then .fail else k { s with left:=s.left - 1 }
def NS.node (s:NS) (d:Int) {α:Type}(k:NS→Out α):Out α:=if s.nodes+1 > 8192∨d > 400 then .fail else k { s with nodes:=s.nodes+1 }
def NS.thunk (s:NS) (t:Tm) (vars:Option Nat):NS:=s.new (.thunk t vars none)
def NH.plain (k:Int) (node:Tm):NH:=⟨k,0,node,[],none⟩
def NS.var (s:NS) (level:Int):NS:=s.new (.stuck ⟨0,level,BN,[],none⟩ [])
section
variable (E:List B8)
inductive Rq where
 | eval (t:Tm) (vars:Option Nat)
 | force (a:Nat)
 | apply (v:NV) (a:Nat)
 | body (b:NB) (a:Nat)
def aW (Q:NS→Nat→Int→Out (Tm×NS)) (d:Int):List Nat→NS→Out (List Tm×NS)
 | [],s=> .ok ([],s)
 | x::xs,s=>(Q s x d).bind fun r=>(aW Q d xs r.2).bind fun q=> .ok (r.1::q.1,q.2)
end
def Rb (n:Nat):Option Nat→Bool
 | none=>true
 | some a=>decide (a<n)
def U6 (n:Nat):NV→Bool
 | .fn a | .pr a | .st a=>decide (a<n)
def ux (n:Nat):Option NV→Bool
 | none=>true
 | some v=>U6 n v
def wS (n:Nat):Option NB→Bool
 | none=>true
 | some b=>Rb n b.vars
def Ue (n:Nat):NO→Bool
 | .thunk _ v k=>Rb n v&&ux n k
 | .scope x r=>decide (x<n)&&Rb n r
 | .func d b=>decide (d<n)&&Rb n b.vars
 | .pair x y z=>decide (x<n)&&decide (y<n)&&decide (z<n)
 | .stuck h args=>h.kids.all (fun a=>decide (a<n))&&wS n h.body&&args.all (fun a=>decide (a<n))
def Uo (s:NS):Bool:=s.objs.all (Ue s.objs.length)
def gd {α:Type}(b:Bool) (x:Out α):Out α:=if b=true then x else .stuck
def uH (n:Nat):Rq→Bool
 | .eval _ ρ=>Rb n ρ
 | .force a=>decide (a<n)
 | .apply v a=>U6 n v&&decide (a<n)
 | .body b a=>Rb n b.vars&&decide (a<n)
def pc {α:Type}(s:NS) (o:NO) (k:NS→Out α):Out α:=gd (Uo s&&Ue s.objs.length o) (k (s.new o))
def tc {α:Type}(s:NS) (k:NS→Out α):Out α:=gd (decide (0<s.left)&&decide (s.left≤20000)) (k { s with left:=s.left - 1 })
def rm {α:Type}(s:NS) (d:Int) (k:NS→Out α):Out α:=gd (decide (0≤s.nodes)&&decide (s.nodes<8000)&&decide (0≤d)&&decide (d<400)) (k { s with nodes:=s.nodes+1 })
def OF (W:Rq→NS→Out (NV×NS)) (s:NS):Nat→Int→Option Nat→Out (NV×NS)
 | _,i,none=>gd (decide (-1000000≤i)&&decide (i≤1000000)) (pc s (.stuck ⟨0,-1 - i,BN,[],none⟩ []) fun s1=> .ok (.st s.next,s1))
 | 0,_,_=> .stuck
 | n+1,i,some b=>gd (decide (-1000000≤i)&&decide (i≤1000000)) (match s.get b with
  | some (.scope x r)=>if i=0 then W (.force x) s else OF W s n (i - 1) r
  | _=> .stuck)
def uR {α:Type}(s:NS) (x:Out (α×NS)):Out (α×NS):=x.bind fun r=>gd (decide (s.objs.length≤r.2.objs.length)) (.ok r)
def VD (v:NV) (s:NS):Out (NV×NS):=match v with
 | .pr _=> .stuck
 | v=>pc s (.thunk BN none (some v)) fun s1=>pc s1 (.stuck ⟨9,0,BN,[s.next],none⟩ []) fun s2=> .ok (.st s1.next,s2)
def jJ (W:Rq→NS→Out (NV×NS)) (n:Nat) (t:Tm) (ρ:Option Nat) (s:NS):Out (NV×NS):=match t.kids with
 | []=>if t.kind=0 then OF W s n t.index ρ else .stuck
 | [p]=>if t.kind=9 then (W (.eval p ρ) s).bind fun r=>VD r.1 r.2 else .stuck
 | [a,b] =>
  if t.kind=4 then (W (.eval a ρ) s).bind fun r=>pc r.2 (.thunk b ρ none) fun s1=>W (.apply r.1 r.2.next) s1
  else if t.kind=5 then pc s (.thunk a ρ none) fun s1=>pc s1 (.func s.next ⟨b,ρ⟩) fun s2=> .ok (.fn s1.next,s2)
  else .stuck
 | _=> .stuck
def oq (W:Rq→NS→Out (NV×NS)) (v:NV) (x:Nat) (s:NS):Out (NV×NS):=match v with
 | .fn a=>match s.get a with
  | some (.func d b)=>tc s fun s=>W (.body b x) s
  | _=> .stuck
 | .st a=>match s.get a with
  | some (.stuck h args)=>gd (decide (args.length<100)&& !decide (h.kind=3)&&h.body.isNone) (pc s (.stuck h (args++[x])) fun s1=> .ok (.st s.next,s1))
  | _=> .stuck
 | .pr _=> .stuck
def Mf:Nat→Rq→NS→Out (NV×NS)
 | 0,_,_=> .stuck
 | n+1,r,s=>gd (Uo s&&uH s.objs.length r) ((uR s (match r with
  | .eval t ρ=>jJ (Mf n) n t ρ s
  | .force a=>match s.get a with
   | some (.thunk t ρ (some v))=> .ok (v,s)
   | some (.thunk t ρ none)=>(Mf n (.eval t ρ) s).bind fun r=>match r.2.get a with
    | some (.thunk t' ρ' k')=> .ok (r.1,r.2.set a (.thunk t' none (some r.1)))
    | _=> .stuck
   | _=> .stuck
  | .apply v x=>oq (Mf n) v x s
  | .body b x=>pc s (.scope x b.vars) fun s1=>Mf n (.eval b.t (some s.next)) s1)).bind fun r=>gd (U6 r.2.objs.length r.1) (.ok r))
def Uv (Q:NS→NV→Int→Out (Tm×NS)) (n:Nat) (s:NS) (x:Nat) (d:Int):Out (Tm×NS):=(Mf n (.force x) s).bind fun r=>Q r.2 r.1 d
def iV (Q:NS→Nat→Int→Out (Tm×NS)) (h:NH) (s:NS) (d:Int):Out (Tm×NS) :=
 if h.kind=0 then gd (decide (-1000000≤h.level)&&decide (h.level≤1000000)) (.ok (Cs (d - 1 - h.level),s))
 else gd (decide (0<h.kids.length)&&h.body.isNone) ((aW Q d h.kids s).bind fun r=> .ok (.mk h.kind 0 ⟨#[]⟩ [] r.1,r.2))
def YA (Q:NS→Nat→Int→Out (Tm×NS)) (d:Int):List Nat→Tm→NS→Out (Tm×NS)
 | [],t,s=> .ok (t,s)
 | x::xs,t,s=>rm s d fun s=>(Q s x d).bind fun r=>YA Q d xs (GJ t r.1) r.2
def Mb:Nat→NS→NV→Int→Out (Tm×NS)
 | 0,_,_,_=> .stuck
 | n+1,s,v,d=>match v with
  | .st a=>match s.get a with
   | some (.stuck h args)=>gd (Uo s&&decide (h.kids.length<100)&&h.body.isNone) (uR s (rm s d fun s=>(iV (Uv (Mb n) n) h s d).bind fun r=>match r.2.get a with
    | some (.stuck h2 args2)=>gd (Uo r.2&&decide (args2.length<100)) (YA (Uv (Mb n) n) d args2 r.1 r.2)
    | _=> .stuck))
   | _=> .stuck
  | _=> .stuck
def kL (n:Nat) (t:Tm):Out (Tm×NS):=(Mf n (.eval t none) ⟨[],20000,0⟩).bind fun r=>Mb n r.2 r.1 0
def cA:Tm:= .mk 3 0 ⟨#[65]⟩ [] []
def vW:Tm:= .mk 5 0 ⟨#[]⟩ [] [cA,Cs 0]
def vo:Tm:=GJ (Cs 5) (GJ vW (Cs 3))
def yK:Tm:= .mk 9 0 ⟨#[]⟩ [] [GJ vW (Cs 2)]
theorem lQ:∃s,kL 20 vo= .ok (GJ (Cs 5) (Cs 3),s):=⟨_,rfl⟩
theorem mI:∃s,kL 20 yK= .ok (.mk 9 0 ⟨#[]⟩ [] [Cs 2],s):=⟨_,rfl⟩
end Go.Eu
