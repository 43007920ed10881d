/- Part of the proofs: an abstract program logic, plain models and contracts of functions. -/
import Derived.Test.YtldfmjoncbjldaaGreatPb
import Derived.Shelf.Sort.Plain
import Derived.Shelf.Slices.In.SortNone
import Derived.Test.YtldfmjoncbjldaaGreatPd
import Derived.Test.YtldfmjoncbjldaaGreatPc
set_option linter.unusedVariables false
set_option linter.unusedSimpArgs false
set_option maxRecDepth 100000
namespace Go.Eu
open Go.Abs Go.Sort
def N5 (zs:List Int):List Int:=zs.mergeSort fun x y=>decide (x≤y)
theorem Q1 (zs:List Int):(N5 zs).length=zs.length:=List.length_mergeSort _
end Go.Eu
namespace Go.Eu
open Go.Abs
def QF (c:Int) (v:Br):Bool:=decide (-65536≤v.index)&&decide (v.index<8)&&decide (0≤v.plus)&&decide (v.plus≤100)&&(decide (c≤0)||decide (v.plus<c))
def Gz (p:Option Int) (i:Int):Bool:=match p with
 | none=>true
 | some j=>decide (j<i)
def E6 (c:Int):Option Int→List Br→Bool
 | _,[]=>true
 | p,v::vs=>QF c v&&Gz p v.index&&E6 c (some v.index) vs
def Cc (l:CE):Bool:=decide (0≤l.const)&&decide (l.const≤100)&&E6 l.const none l.vars
def E1:CE:=⟨0,[]⟩
def aQ (l:CE):Bool:=l.vars.any fun v=>decide (l.const≤v.plus)
def ZG (vs:List Br):Int:=(vs.getD (vs.length - 1) default).index
def QI (l:CE):Int:=if Cc l=true∧l.vars≠[] then max 0 (ZG l.vars+1) else 0
def DZ (x:Br) (rec:List Br→List Br):List Br→List Br
 | []=>x::rec []
 | y::b=>if x.index<y.index then x::rec (y::b) else if y.index<x.index then y::DZ x rec b else ⟨x.index,max x.plus y.plus⟩::rec b
def Ch:List Br→List Br→List Br
 | [],b=>b
 | x::a,b=>DZ x (Ch a) b
def Ls (vs:List Br):Int:=vs.foldl (fun m v=>max m v.plus) 0
def VR (c:Int) (vs:List Br):CE:=⟨if vs≠[]∧c≤Ls vs then 0 else c,vs⟩
def Pq (a b:CE):CE:=VR (max a.const b.const) (Ch a.vars b.vars)
def Xt (n:Int) (v:Br):Br:=⟨v.index,v.plus+n⟩
def L6 (l:CE) (n:Int):Int:=if l.const > 0∨l.vars=[] then l.const+n else 0
def JG (l:CE) (n:Int):CE×Int :=
 if Cc l=false then (E1,3) else if n<0 then (E1,2) else if n > 100 then (E1,15)
 else if L6 l n > 100 then (E1,15)
 else if (l.vars.any fun v=>decide (v.plus+n > 100))=true then (E1,15)
 else (⟨L6 l n,l.vars.map (Xt n)⟩,0)
def TF (ps:List CE):CE→List Br→CE×Int
 | out,[]=>(out,0)
 | out,v::vs =>
  if 0≤v.index∧v.index<ps.length then
   (if (JG (ps.getD v.index.toNat default) v.plus).2≠0 then (E1,(JG (ps.getD v.index.toNat default) v.plus).2)
    else TF ps (Pq out (JG (ps.getD v.index.toNat default) v.plus).1) vs)
  else TF ps (Pq out ⟨0,[v]⟩) vs
def IV (l:CE) (ps:List CE):CE×Int :=
 if Cc l=false∨ps.all Cc=false then (E1,3)
 else if QI l > ps.length then (E1,24)
 else TF ps ⟨l.const,[]⟩ l.vars
-- the program's way
def mg (k:Int):List (Int×Int)→Option Int
 | []=>none
 | (j,x)::r=>if j=k then some x else mg k r
def ms (k v:Int):List (Int×Int)→List (Int×Int)
 | []=>[(k,v)]
 | (j,x)::r=>if j=k then (j,v)::r else (j,x)::ms k v r
def GA (m:List (Int×Int)) (i p:Int):List (Int×Int):=match mg i m with
 | some old=>if p > old then ms i p m else m
 | none=>ms i p m
def GC (n:Int) (m:List (Int×Int)) (v:Br):List (Int×Int):=GA m v.index (v.plus+n)
def XG (s:List (Int×Int)×Int) (l:CE) (n:Int):List (Int×Int)×Int:=(l.vars.foldl (GC n) s.1,max s.2 (l.const+n))
def KJ (ps:List CE) (s:List (Int×Int)×Int) (v:Br):List (Int×Int)×Int :=
 if v.index<0 then (GA s.1 v.index v.plus,s.2) else XG s (ps.getD v.index.toNat default) v.plus
def Lt (m:List (Int×Int)):List Br:=(N5 (m.map Prod.fst)).map fun i=>⟨i,(mg i m).getD 0⟩
def bh (l:CE):CE×Int :=
 if (l.vars.any fun v=>decide (v.plus > 100))=true then (E1,15)
 else if l.const > 100 then (E1,15)
 else if aQ l=true then (⟨0,l.vars⟩,0) else (l,0)
def cN (l:CE) (ps:List CE):CE×Int :=
 if Cc l=false∨ps.all Cc=false then (E1,3)
 else if QI l > ps.length then (E1,24)
 else bh ⟨(l.vars.foldl (KJ ps) ([],l.const)).2,Lt (l.vars.foldl (KJ ps) ([],l.const)).1⟩
-- offsets
def MS:List Br→Int→Int
 | [],_=> -1
 | v::vs,i=>if v.index=i then max v.plus (MS vs i) else MS vs i
abbrev II (l:List Br):Prop:=l.Pairwise fun a b=>a.index<b.index
-- merging
theorem GD {Q:Br→Prop}{x:Br}{rec:List Br→List Br}(hx:Q x) (hm:∀u v:Br,Q u→Q v→u.index=v.index→Q ⟨u.index,max u.plus v.plus⟩) (hr:∀b,(∀v∈b,Q v)→∀v∈rec b,Q v):∀(b:List Br),(∀v∈b,Q v)→∀v∈DZ x rec b,Q v
 | [],hb,v,hv=>by
  simp only[DZ,List.mem_cons] at hv;rcases hv with rfl | hv
  ·exact hx
  ·exact hr [] Ae v hv
 | y::b,hb,v,hv=>by
  simp only[DZ] at hv;have hy:=hb y Ae;have hb':∀v∈b,Q v:=fun v hv=>hb v (by simp[hv]);split at hv
  ·rcases List.mem_cons.1 hv with rfl | hv
   ·exact hx
   exact hr _ hb v hv
  split at hv
  ·rcases List.mem_cons.1 hv with rfl | hv
   ·exact hy
   exact GD hx hm hr b hb' v hv
  rcases List.mem_cons.1 hv with rfl | hv
  ·exact hm x y hx hy Ad
  exact hr _ hb' v hv
theorem Eb {Q:Br→Prop}(hm:∀u v:Br,Q u→Q v→u.index=v.index→Q ⟨u.index,max u.plus v.plus⟩):∀(a b:List Br),(∀v∈a,Q v)→(∀v∈b,Q v)→∀v∈Ch a b,Q v
 | [],b,_,hb=>by simpa [Ch] using hb
 | x::a,b,ha,hb=>by
  rw[Ch];exact GD (ha x Ae) hm (fun b hb=>Eb hm a b (fun v hv=>ha v (by simp[hv])) hb) b hb
theorem I7 {x:Br}{a:List Br}(hr:∀b,II b→II (Ch a b)) (hx:∀v∈a,x.index<v.index):∀(b:List Br),II b→II (DZ x (Ch a) b)
 | [],_=>by
  rw[DZ,II,List.pairwise_cons];exact⟨Eb (Q:=fun v=>x.index<v.index) (fun u v h _ _=>h) a [] hx Ae,hr [] (by simp[II])⟩
 | y::b,hb=>by
  have hb':=hb;rw[II,List.pairwise_cons] at hb';simp only[DZ];split
  ·rename_i q;rw[II,List.pairwise_cons];refine⟨Eb (Q:=fun v=>x.index<v.index) (fun u v h _ _=>h) a _ hx fun v hv=>?_,hr _ hb⟩;rcases List.mem_cons.1 hv with rfl | hv
   ·exact q
   have:=hb'.1 v hv;omega
  split
  ·rename_i q;rw[II,List.pairwise_cons];refine⟨GD (Q:=fun v=>y.index<v.index) q (fun u v h _ _=>h) (fun c hc=>Eb (Q:=fun v=>y.index<v.index) (fun u v h _ _=>h) a c (fun v hv=>by have:=hx v hv;omega) hc) b hb'.1,I7 hr hx b hb'.2⟩
  have e:x.index=y.index:=by omega
  rw[II,List.pairwise_cons];refine⟨Eb (Q:=fun v=>x.index<v.index) (fun u v h _ _=>h) a b hx (fun v hv=>by have:=hb'.1 v hv;omega),hr _ hb'.2⟩
theorem LX:∀{a b:List Br},II a→II b→II (Ch a b)
 | [],b,_,hb=>by simpa [Ch] using hb
 | x::a,b,ha,hb=>by
  rw[II,List.pairwise_cons] at ha;rw[Ch];exact I7 (fun b hb=>LX ha.2 hb) ha.1 b hb
-- the greatest offset
def X0 (c:Int) (vs:List Br):Int:=if (vs.any fun v=>decide (c≤v.plus))=true then 0 else c
-- the offsets of the program
def Gm (m:List (Int×Int)) (i:Int):Int:=(mg i m).getD (-1)
theorem SP (k v:Int):∀(m:List (Int×Int)) (j:Int),mg j (ms k v m)=if k=j then some v else mg j m
 | [],j=>by simp[ms,mg]
 | (i,x)::m,j=>by
  have ih:=SP k v m j;simp only[ms];split
  ·rename_i q;subst q;simp only[mg];split<;>rfl
  rename_i q;simp only[mg,ih];by_cases h1:i=j
  ·subst h1;rw[if_pos rfl,if_neg (Ne.symm q),if_pos rfl]
  simp[h1]
theorem Ml (k v:Int):∀(m:List (Int×Int)),(ms k v m).map Prod.fst=if k∈m.map Prod.fst then m.map Prod.fst else m.map Prod.fst++[k]
 | []=>by simp[ms]
 | (i,x)::m=>by
  have ih:=Ml k v m;simp only[ms];split
  ·rename_i q;subst q;simp
  rename_i q;simp only[List.map_cons,ih,List.mem_cons,(show (k=i)=False by simp;exact fun h=>q h.symm),false_or];split<;>simp
structure NA (m:List (Int×Int)):Prop where
 nd:(m.map Prod.fst).Nodup
 pos:∀k v,mg k m=some v→0≤v
theorem NA.nil:NA []:=⟨by simp,fun k v h=>by simp[mg] at h⟩
theorem TO {m:List (Int×Int)}(k v:Int) (h:(m.map Prod.fst).Nodup):((ms k v m).map Prod.fst).Nodup:=by
 rw[Ml];split
 ·exact h
 rename_i q;rw[List.nodup_append];refine⟨h,by simp,fun a ha b hb=>?_⟩;simp only[List.mem_singleton] at hb;subst hb;exact fun e=>q (e▸ha)
theorem OB {m:List (Int×Int)}{i p:Int}(h:NA m) (hp:0≤p):NA (GA m i p):=by
 have hs:NA (ms i p m):=⟨TO i p h.nd,fun k v hk=>by
  rw[SP] at hk;split at hk
  ·cases hk;exact hp
  exact h.pos k v hk⟩
 unfold GA;split
 ·split
  ·exact hs
  exact h
 exact hs
theorem Md {m:List (Int×Int)}(h:NA m) (i:Int): -1≤Gm m i:=by
 unfold Gm;cases e:mg i m with
 | none=>simp
 | some v=>have:=h.pos i v e;simp;omega
theorem Kp {m:List (Int×Int)}{i p:Int}(h:NA m) (hp:0≤p) (j:Int):Gm (GA m i p) j=max (MS [⟨i,p⟩] j) (Gm m j):=by
 have h1:Gm (ms i p m) j=if i=j then p else Gm m j:=by unfold Gm;rw[SP];split<;>rfl
 have h2:=Md h j;unfold GA;simp only[MS];cases e:mg i m with
 | none =>
  simp only[h1];split
  ·rename_i q;subst q;simp only[Gm,e,Option.getD_none];omega
  ·omega
 | some old =>
  simp only;split
  ·rw[h1];split
   ·rename_i q;subst q;simp only[Gm,e,Option.getD_some];omega
   omega
  split
  ·rename_i q;subst q;simp only[Gm,e,Option.getD_some];omega
  omega
theorem Kn {n:Int}:∀(vs:List Br) (m:List (Int×Int)),NA m→(∀v∈vs,0≤v.plus+n)→NA (vs.foldl (GC n) m)∧∀i,Gm (vs.foldl (GC n) m) i=max (MS (vs.map (Xt n)) i) (Gm m i)
 | [],m,h,_=>⟨h,fun i=>by have:=Md h i;simp only[List.foldl_nil,List.map_nil,MS];omega⟩
 | v::vs,m,h,hv=>by
  have hp:=hv v Ae;have h1:NA (GC n m v):=OB h hp;obtain⟨h2,h3⟩:=Kn vs (GC n m v) h1 fun w hw=>hv w (by simp[hw]);refine⟨h2,fun i=>?_⟩;rw[List.foldl_cons,h3 i,show Gm (GC n m v) i=max (MS [⟨v.index,v.plus+n⟩] i) (Gm m i) from Kp h hp i];have:=Md h i;simp only[List.map_cons,MS,Xt];split<;>omega
theorem KQ (zs:List Int):(N5 zs).Perm zs:=List.mergeSort_perm _ _
theorem Me (zs:List Int):(N5 zs).Pairwise fun a b=>a≤b:=by
 have:=List.pairwise_mergeSort (le:=fun(x y:Int)=>decide (x≤y)) (fun a b c h1 h2=>by simp at *;omega) (fun a b=>by simp;omega) zs;exact this.imp fun h=>by simpa using h
theorem RB {m:List (Int×Int)}(h:NA m):II (Lt m):=by
 have hn:(N5 (m.map Prod.fst)).Nodup:=(KQ _).nodup_iff.2 h.nd;have hs:=Me (m.map Prod.fst);rw[II,Lt,List.pairwise_map];exact(hs.and hn).imp fun⟨h1,h2⟩=>by simp only;omega
-- valid levels
theorem Io:∀{c:Int}{vs:List Br}{p:Option Int},E6 c p vs=true→∀v∈vs,QF c v=true
 | c,w::vs,p,h,v,hv=>by
  simp only[E6,Bool.and_eq_true] at h;rcases List.mem_cons.1 hv with rfl | hv
  ·exact h.1.1
  exact Io h.2 v hv
theorem U4 {c:Int}{v:Br}(h:QF c v=true):0≤v.plus∧v.plus≤100:=by
 simp only[QF,Bool.and_eq_true,decide_eq_true_eq] at h;exact⟨h.1.1.2,h.1.2⟩
theorem MH:∀{c:Int}{vs:List Br}{p:Option Int},E6 c p vs=true→II vs∧∀v∈vs,Gz p v.index=true
 | c,[],p,_=>⟨by simp[II],by simp⟩
 | c,w::vs,p,h=>by
  simp only[E6,Bool.and_eq_true] at h;obtain⟨h1,h2⟩:=MH h.2;simp only[Gz,decide_eq_true_eq] at h2;refine⟨?_,fun v hv=>?_⟩
  ·rw[II,List.pairwise_cons];exact⟨h2,h1⟩
  rcases List.mem_cons.1 hv with rfl | hv
  ·exact h.1.2
  have a:=h.1.2;have b:=h2 v hv;unfold Gz at a ⊢;cases p with
  | none=>rfl
  | some j=>simp only[decide_eq_true_eq] at a ⊢;omega
theorem XA {n:Int}{vs:List Br}(h:II vs):II (vs.map (Xt n)):=by
 rw[II,List.pairwise_map];exact h.imp fun h=>h
structure dm (m:List (Int×Int)) (c:Int) (out:CE):Prop where
 ok:NA m
 asc:II out.vars
 pos:∀v∈out.vars,0≤v.plus∧v.plus≤100
 off:∀i,MS out.vars i=Gm m i
 c0:0≤c
 c1:c≤100
 con:out.const=X0 c out.vars
-- errors stay
def YQ (s:List (Int×Int)×Int):Prop:=(∃i,100<Gm s.1 i)∨100<s.2
theorem Rs {ps:List CE}(hps:∀l∈ps,Cc l=true) {s:List (Int×Int)×Int}{v:Br}(hm:NA s.1) (hv:0≤v.plus) (hi:v.index<ps.length):NA (KJ ps s v).1∧(YQ s→YQ (KJ ps s v)):=by
 unfold KJ;split
 ·refine⟨OB hm hv,fun h=>?_⟩;rcases h with ⟨i,h⟩ | h
  ·exact .inl ⟨i,by rw[Kp hm hv];omega⟩
  exact .inr h
 rename_i q;have hmem:ps.getD v.index.toNat default∈ps:=by
  have hlt:v.index.toNat<ps.length:=by omega
  rw[List.getD_eq_getElem?_getD,List.getElem?_eq_getElem hlt];exact List.getElem_mem hlt
 have hl:=hps _ hmem;simp only[Cc,Bool.and_eq_true,decide_eq_true_eq] at hl;obtain⟨h1,h2⟩:=Kn (n:=v.plus) (ps.getD v.index.toNat default).vars s.1 hm fun w hw=>by have:=(U4 (Io hl.2 w hw)).1;omega
 refine⟨h1,fun h=>?_⟩;rcases h with ⟨i,h⟩ | h
 ·exact .inl ⟨i,by simp only[XG,h2];omega⟩
 exact .inr (by simp only[XG];omega)
theorem NF {l:CE}{n:Int}(hl:Cc l=true) (h0:0≤n) (h1:n≤100) :
  (JG l n=(E1,15)∧(100<l.const+n∨∃v∈l.vars,100<v.plus+n)) ∨
  (JG l n=(⟨L6 l n,l.vars.map (Xt n)⟩,0)∧l.const+n≤100∧∀v∈l.vars,v.plus+n≤100):=by
 have hl':=hl;simp only[Cc,Bool.and_eq_true,decide_eq_true_eq] at hl';unfold JG;rw[if_neg (by simp[hl]),if_neg Ad,if_neg Ad];split
 ·rename_i q;refine .inl ⟨O,.inl ?_⟩;unfold L6 at q;split at q<;>omega
 rename_i q;split
 ·rename_i q';simp only[List.any_eq_true,decide_eq_true_eq] at q';obtain⟨v,h1,h2⟩:=q';exact .inl ⟨O,.inr ⟨v,h1,by omega⟩⟩
 rename_i q';simp only[List.any_eq_true,decide_eq_true_eq,not_exists,not_and] at q';refine .inr ⟨O,?_,fun v hv=>by have:=q' v hv;omega⟩;unfold L6 at q;split at q<;>omega
def OL (ps:List CE):Int→List CE→List CE×Int
 | er,[]=>([],er)
 | er,l::ls=>((IV l ps).1::(OL ps (Ew er (IV l ps).2) ls).1,(OL ps (Ew er (IV l ps).2) ls).2)
mutual
def Qv (ps:List CE):Int→Tm→Tm×Int
 | er,.mk k i n ls ks=>(.mk k i n (OL ps er ls).1 (QL ps (OL ps er ls).2 ks).1,(QL ps (OL ps er ls).2 ks).2)
def QL (ps:List CE):Int→List Tm→List Tm×Int
 | er,[]=>([],er)
 | er,t::ts=>((Qv ps er t).1::(QL ps (Qv ps er t).2 ts).1,(QL ps (Qv ps er t).2 ts).2)
end
def DM (t:Tm) (ps:List CE):Tm×Int:=if (Qv ps 0 t).2≠0 then (BN,(Qv ps 0 t).2) else ((Qv ps 0 t).1,0)
inductive Out (α:Type) where
 | stuck
 | fail
 | ok (a:α)
def Out.bind {α β:Type}:Out α→(α→Out β)→Out β
 | .stuck,_=> .stuck
 | .fail,_=> .fail
 | .ok a,k=>k a
def Jt (n:Int):Bool:=decide (-9223372036854775808≤n)&&decide (n≤9223372036854775807)
def RY (l:CE):Bool:=decide (l.vars.length<Ci)&&Jt l.const&&l.vars.all fun v=>Jt v.index&&Jt v.plus
mutual
def P5:Tm→Bool
 | .mk k i n ls ks=>decide (n.size<Ci)&&decide (ls.length<Ci)&&ls.all RY&&decide (ks.length<Ci)&&Jt k&&Jt i&&decide ((ks.length:Int)=arity k)&&(decide (k≠12)||decide (0≤i))&&(decide (k≠0)||decide (0≤i)&&decide (i<1099511627776))&&JQ ks
def JQ:List Tm→Bool
 | []=>true
 | t::ts=>P5 t&&JQ ts
end
def okB (t:Tm):Bool:=P5 t&&decide (size t<549755813888)
def Out.chk {σ β:Type}(o:Out (Tm×σ)) (k:Tm×σ→Out β):Out β:=o.bind fun r=>if okB r.1=true then k r else .stuck
structure Sys (σ:Type) where
 over:σ→Bool
 res:σ→Tm→Int→Option σ
 many:Nat→Bool
def Sys.put {σ α:Type}(S:Sys σ) (s:σ) (x:Tm×Int) (k:Tm→σ→Out α):Out α :=
 if okB x.1=true then (match S.res s x.1 x.2 with
  | none=> .fail
  | some s'=>k x.1 s')
 else .stuck
def Gw.result (c:Gw) (t:Tm) (e:Int):Gw:=({ c with steps:=wr (c.steps+1),nodes:=wr (c.nodes+JF t) }).form t e
def eC:Sys Gw:=⟨Gw.over,fun c t e=>some (c.result t e),fun _=>false⟩
def dt:Sys Int:=⟨fun _=>false,fun n t e=>if n - 1<0∨e≠0 then none else some (n - 1),fun k=>decide (40960<k)⟩
def NW:Tm→List Tm×Tm
 | .mk k i n l [a,b]=>if k=6 then (a::(NW b).1,(NW b).2) else ([],.mk k i n l [a,b])
 | t=>([],t)
section
variable (E:List Cg)
def CH (i:Int):Cg:=E.getD i.toNat default
def Im (d:Cg) (j:Int):RJ:=d.ctors.getD j.toNat default
def G2 (d:Cg) (j:Int):OW:=d.funs.getD j.toNat default
def XJ (t:Tm):Int:=((NW t).1.length:Int)
def Jm (d:Cg) (j:Int):Int:=max 0 (XJ (Im d j).type - d.fixed)
def Hp (nm:ByteArray):Option (Cg×Int) :=
 if (DJ E nm).2≠0 then none
 else if (DJ E nm).1.kind=3 then some (CH E (DJ E nm).1.decl,-1)
 else if (DJ E nm).1.kind=4 then some (CH E (DJ E nm).1.decl,(DJ E nm).1.item)
 else if (DJ E nm).1.kind=5 then some (CH E (DJ E nm).1.decl,-2)
 else none
def F8 (t:Tm):Option (Cg×Int×List Tm) :=
 if (A3 t).1.kind≠3 then none
 else match Hp E (A3 t).1.name with
  | none=>none
  | some (d,j)=>if j<0 then none else if ((A3 t).2.length:Int)≠d.fixed+Jm d j then none else some (d,j,(A3 t).2.drop d.fixed.toNat)
def SL (d:Cg):Int:=max 0 (XJ d.type - d.fixed)
def Fu (d:Cg):Int:=d.fixed+1+d.ctors.length+SL d
def DO (nm:ByteArray):List HY→Option FX
 | []=>none
 | b::l=>if b.ctor=nm then (if b.absurd=true then none else some b.tree) else DO nm l
def JY (h:Tm):Option HW:=if (DJ E h.name).2=0∧(h.levels.length:Int)=(DJ E h.name).1.params then some (DJ E h.name).1 else none
variable {σ:Type}(S:Sys σ)
def OT (W:σ→Tm→Out (Tm×σ)):Nat→FX→List Tm→Tm→σ→Out ((Option (Tm×List Tm)×Tm)×σ)
 | 0,_,_,_,_=> .stuck
 | n+1,t,vars,last,s =>
  if t.kind=1 then
   if t.var<0∨t.var≥(vars.length:Int)∨S.over s=true then .ok ((none,last),s)
   else (W s (vars.getD t.var.toNat default)).chk fun r=>match F8 E r.1 with
    | none=> .ok ((none,r.1),r.2)
    | some (d,j,fields)=>match DO (Im d j).name t.branches with
     | none=> .ok ((none,r.1),r.2)
     | some t'=>OT W n t' (vars++fields) r.1 r.2
  else .ok ((some (t.body,vars),BN),s)
def TD (d:Cg) (h:Tm) (a:List Tm) (s:σ):Out (Option Tm×σ) :=
 if (DM d.value h.levels).2≠0 then .ok (none,s)
 else S.put s ((DM d.value h.levels).1,0) fun t s'=> .ok (some (apply t a),s')
def M8 (d:Cg) (j:Int):Tm:=d.recs.rules.getD j.toNat default
def V4 (d:Cg) (h:Tm) (a:List Tm) (m:Tm) (s:σ):Out (Option Tm×σ):=match F8 E m with
 | none=> .ok (none,s)
 | some (e,j,fields) =>
  if e.name≠d.name∨j≥(d.recs.rules.length:Int) then .ok (none,s)
  else if (DM (M8 d j) h.levels).2≠0 then .ok (none,s)
  else S.put s (apply (apply (DM (M8 d j) h.levels).1 (a.take (d.fixed+1+d.ctors.length).toNat)) fields,0) fun t s'=> .ok (some (apply t (a.drop (Fu d+1).toNat)),s')
def Sj (h:Tm) (b:Tm) (vars:List Tm) (rest:List Tm) (s:σ):Out (Option Tm×σ) :=
 if (DM b h.levels).2≠0 then .ok (none,s)
 else if okB (DM b h.levels).1=false∨vars.all okB=false∨1125899906842624≤A4 vars then .stuck
 else S.put s (GB (DM b h.levels).1 vars.reverse 0) fun t s'=> .ok (some (apply t rest),s')
def WJ (W:σ→Tm→Out (Tm×σ)) (n:Nat) (f:OW) (h:Tm) (a:List Tm) (s:σ):Out (Option Tm×σ) :=
 if (a.length:Int)<f.arity then .ok (none,s)
 else (OT E S W n f.tree (a.take f.arity.toNat) BN s).bind fun q=>match q.1.1 with
  | none=> .ok (none,q.2)
  | some (b,vars)=>if S.over q.2=true then .ok (none,q.2) else Sj S h b vars (a.drop f.arity.toNat) q.2
def bU (W:σ→Tm→Out (Tm×σ)) (d:Cg) (h:Tm) (a:List Tm) (s:σ):Out (Option Tm×σ) :=
 if (a.length:Int)≤Fu d then .ok (none,s)
 else (W s (a.getD (Fu d).toNat default)).chk fun r=>V4 E S d h a r.1 r.2
def Wb (W:σ→Tm→Out (Tm×σ)) (n:Nat) (h:Tm) (a:List Tm) (s:σ):Out (Option Tm×σ):=match JY E h with
 | none=> .ok (none,s)
 | some x =>
  if x.kind=1 then TD S (CH E x.decl) h a s
  else if x.kind=5 then bU E S W (CH E x.decl) h a s
  else if x.kind=6 then WJ E S W n (G2 (CH E x.decl) x.item) h a s
  else .ok (none,s)
def Sy (k:Int) (p:Tm):Tm:= .mk k 0 ⟨#[]⟩ [] [p]
def VZ (h:Tm) (a:List Tm) (s:σ) {α:Type}(k:Tm→σ→Out α):Out α:=match h.kids[1]? with
 | none=> .stuck
 | some b=>S.put s (GB b (a.take 1) 0) fun x s'=>k (apply x (a.drop 1)) s'
def Za (h:Tm) (a:List Tm) (s:σ) {α:Type}(k:Tm→σ→Out α):Out α:=match h.kids[1]?,h.kids[2]? with
 | some v,some b=>S.put s (GB b [v] 0) fun x s'=>k (apply x a) s'
 | _,_=> .stuck
def Tc (h p:Tm) (a:List Tm) (s:σ) {α:Type}(k:Tm→σ→Out α):Out α:=match p.kids[(1+h.kind - 9).toNat]? with
 | none=> .stuck
 | some q=>S.put s (q,0) fun x s'=>k (apply x a) s'
def SK:Nat→σ→Tm→Out (Tm×σ)
 | 0,_,_=> .stuck
 | n+1,s,t =>
  if okB t=false then .stuck
  else if S.over s=true then .ok (t,s)
  else if S.many (A3 t).2.length=true then .fail
  else if (A3 t).1.kind=5 then
   (if (A3 t).2.length=0 then .ok (t,s) else VZ S (A3 t).1 (A3 t).2 s fun x s'=>SK n s' x)
  else if (A3 t).1.kind=11 then Za S (A3 t).1 (A3 t).2 s fun x s'=>SK n s' x
  else if (A3 t).1.kind=9∨(A3 t).1.kind=10 then match (A3 t).1.kids[0]? with
   | none=> .stuck
   | some p=>(SK n s p).chk fun r =>
    if r.1.kind≠8 then .ok (apply (Sy (A3 t).1.kind r.1) (A3 t).2,r.2)
    else Tc S (A3 t).1 r.1 (A3 t).2 r.2 fun x s'=>SK n s' x
  else if (A3 t).1.kind=3 then (Wb E S (SK n) n (A3 t).1 (A3 t).2 s).bind fun r=>match r.1 with
   | none=> .ok (t,r.2)
   | some x=>SK n r.2 x
  else .ok (t,s)
noncomputable def WR:Nat→σ→Tm→Out (Option Int×σ)
 | 0,_,_=> .stuck
 | n+1,s,t=>(SK E S n s t).chk fun r =>
  if (A3 r.1).1.kind=12 then .ok (some (A3 r.1).1.index,r.2)
  else if (A3 r.1).1.kind=9∨(A3 r.1).1.kind=10 then match (A3 r.1).1.kids[0]? with
   | none=> .stuck
   | some p=>WR n r.2 p
  else if (A3 r.1).1.kind=3 then match JY E (A3 r.1).1 with
   | none=> .ok (none,r.2)
   | some x =>
    if S.over r.2=true then .ok (none,r.2)
    else if x.kind=5∧((A3 r.1).2.length:Int) > Fu (CH E x.decl) then WR n r.2 ((A3 r.1).2.getD (Fu (CH E x.decl)).toNat default)
    else if x.kind=6∧((A3 r.1).2.length:Int)≥(G2 (CH E x.decl) x.item).arity then
     (OT E S (SK E S n) n (G2 (CH E x.decl) x.item).tree ((A3 r.1).2.take (G2 (CH E x.decl) x.item).arity.toNat) BN r.2).bind fun q=>match q.1.1 with
      | some _=> .ok (none,q.2)
      | none=>if S.over q.2=false∧JT q.1.2 BN=false then WR n q.2 q.1.2 else .ok (none,q.2)
    else .ok (none,r.2)
  else .ok (none,r.2)
def VQ:Tm→List Int→Tm→Option Tm
 | _,[],x=>some x
 | t,p::ps,x=>match (A3 t).2[p.toNat]? with
  | none=>none
  | some y=>(VQ y ps x).map fun z=>apply (A3 t).1 ((A3 t).2.set p.toNat z)
def Hq (a:Int×List Int) (fx:Int) (n:Nat):List (Int×List Int):=(List.range n).map fun i:Nat=>(a.1,a.2++[fx+(i:Int)])
def Xv (T:σ→Tm→Out (Option Tm×σ)) (h:Tm) (ar:Int) (a:List Tm):Nat→FX→List Tm→List (Int×List Int)→σ→Out (Option Tm×σ)
 | 0,_,_,_,_=> .stuck
 | n+1,t,vars,pl,s =>
  if t.kind=1 then
   if t.var<0∨t.var≥(vars.length:Int) then .ok (none,s)
   else match F8 E (vars.getD t.var.toNat default) with
    | none=>(T s (vars.getD t.var.toNat default)).bind fun r=>match r.1 with
     | none=> .ok (none,r.2)
     | some x=>match VQ (a.getD (pl.getD t.var.toNat default).1.toNat default) (pl.getD t.var.toNat default).2 x with
      | none=> .stuck
      | some y=> .ok (some (apply h (a.set (pl.getD t.var.toNat default).1.toNat y)),r.2)
    | some (d,j,fields)=>match DO (Im d j).name t.branches with
     | none=> .ok (none,s)
     | some t'=>Xv T h ar a n t' (vars++fields) (pl++Hq (pl.getD t.var.toNat default) d.fixed fields.length) s
  else Sj S h t.body vars (a.drop ar.toNat) s
def XX:Nat→σ→Tm→Out (Option Tm×σ)
 | 0,_,_=> .stuck
 | n+1,s,t =>
  if okB t=false then .stuck
  else if (A3 t).1.kind=5 then
   (if (A3 t).2.length=0 then .ok (none,s) else VZ S (A3 t).1 (A3 t).2 s fun x s'=> .ok (some x,s'))
  else if (A3 t).1.kind=11 then Za S (A3 t).1 (A3 t).2 s fun x s'=> .ok (some x,s')
  else if (A3 t).1.kind=9∨(A3 t).1.kind=10 then match (A3 t).1.kids[0]? with
   | none=> .stuck
   | some p =>
    if p.kind=8 then Tc S (A3 t).1 p (A3 t).2 s fun x s'=> .ok (some x,s')
    else (XX n s p).bind fun r=>match r.1 with
     | none=> .ok (none,r.2)
     | some x=> .ok (some (apply (Sy (A3 t).1.kind x) (A3 t).2),r.2)
  else if (A3 t).1.kind=3 then match JY E (A3 t).1 with
   | none=> .ok (none,s)
   | some x =>
    if x.kind=1 then TD S (CH E x.decl) (A3 t).1 (A3 t).2 s
    else if x.kind=5∧((A3 t).2.length:Int) > Fu (CH E x.decl) then match F8 E ((A3 t).2.getD (Fu (CH E x.decl)).toNat default) with
     | some _=>V4 E S (CH E x.decl) (A3 t).1 (A3 t).2 ((A3 t).2.getD (Fu (CH E x.decl)).toNat default) s
     | none=>(XX n s ((A3 t).2.getD (Fu (CH E x.decl)).toNat default)).bind fun r=>match r.1 with
      | none=> .ok (none,r.2)
      | some y=> .ok (some (apply (A3 t).1 ((A3 t).2.set (Fu (CH E x.decl)).toNat y)),r.2)
    else if x.kind=6∧((A3 t).2.length:Int)≥(G2 (CH E x.decl) x.item).arity then
     Xv E S (XX n) (A3 t).1 (G2 (CH E x.decl) x.item).arity (A3 t).2 n (G2 (CH E x.decl) x.item).tree ((A3 t).2.take (G2 (CH E x.decl) x.item).arity.toNat) ((List.range (G2 (CH E x.decl) x.item).arity.toNat).map fun i:Nat=>((i:Int),[])) s
    else .ok (none,s)
  else .ok (none,s)
def eN (n:Nat) (t:FX) (a:List Tm) (s:σ):Out (Option Tm×σ) :=
 (OT E S (SK E S n) n t a BN s).bind fun q=>match q.1.1 with
  | none=> .ok (none,q.2)
  | some (b,vars)=>if okB b=false∨vars.all okB=false∨1125899906842624≤A4 vars then .stuck else S.put q.2 (GB b vars.reverse 0) fun x s'=> .ok (some x,s')
end
def Z4 (k i:Int) (n:ByteArray) (ls:List CE) (ks:Nat):Bool:=decide (n.size<Ci)&&decide (ls.length<Ci)&&ls.all RY&&decide (ks<Ci)&&Jt k&&Jt i&&decide ((ks:Int)=arity k)&&(decide (k≠12)||decide (0≤i))&&(decide (k≠0)||decide (0≤i)&&decide (i<1099511627776))
theorem MM (k i:Int) (n:ByteArray) (ls:List CE) (ks:List Tm):P5 (.mk k i n ls ks)=(Z4 k i n ls ks.length&&JQ ks):=by rw[P5,Z4]
theorem FN:∀{ts:List Tm},JQ ts=true↔∀t∈ts,P5 t=true
 | []=>by simp[JQ]
 | t::ts=>by simp only[JQ,Bool.and_eq_true,FN (ts:=ts),List.mem_cons,forall_eq_or_imp]
theorem VI {l:CE}(h:RY l=true):Ve l:=by
 simp only[RY,Jt,Bool.and_eq_true,decide_eq_true_eq,List.all_eq_true] at h;exact⟨h.1.1,h.1.2,fun v hv=>h.2 v hv⟩
theorem Uw {l:CE}(h:Ve l):RY l=true:=by
 simp only[RY,Jt,Bool.and_eq_true,decide_eq_true_eq,List.all_eq_true];exact⟨⟨h.vars,h.c⟩,fun v hv=>h.v v hv⟩
mutual
theorem GZ:∀(t:Tm),P5 t=true→Nd t∧Wt t∧Vp t
 | .mk k i n ls ks,h=>by
  rw[MM,Bool.and_eq_true] at h;obtain⟨h1,h2⟩:=h;simp only[Z4,Jt,Bool.and_eq_true,Bool.or_eq_true,decide_eq_true_eq,List.all_eq_true] at h1;obtain⟨a,b,c⟩:=HT ks h2;obtain⟨⟨⟨⟨⟨⟨⟨⟨g1,g2⟩,g3⟩,g4⟩,g5⟩,g6⟩,g7⟩,g8⟩,g9⟩:=h1;refine⟨⟨g1,g2,fun l hl=>VI (g3 l hl),g4,a,g5,g6⟩,⟨g7,fun e=>?_,b⟩,fun e=>?_,c⟩
  ·rcases g8 with g | g
   ·exact absurd e g
   exact g
  rcases g9 with g | g
  ·exact absurd e g
  exact g
theorem HT:∀(ts:List Tm),JQ ts=true→IX ts∧K8 ts∧Oc ts
 | [],_=>⟨trivial,trivial,trivial⟩
 | t::ts,h=>by
  simp only[JQ,Bool.and_eq_true] at h;obtain⟨a,b,c⟩:=GZ t h.1;obtain⟨a',b',c'⟩:=HT ts h.2;exact⟨⟨a,a'⟩,⟨b,b'⟩,⟨c,c'⟩⟩
end
mutual
theorem Lk:∀(t:Tm),Nd t→Wt t→Vp t→P5 t=true
 | .mk k i n ls ks,h1,h2,h3=>by
  rw[MM,Bool.and_eq_true];simp only[Nd] at h1;simp only[Wt] at h2;simp only[Vp] at h3;obtain⟨a1,a2,a3,a4,a5,a6,a7⟩:=h1;refine⟨?_,KD ks a5 h2.2.2 h3.2⟩;simp only[Z4,Jt,Bool.and_eq_true,Bool.or_eq_true,decide_eq_true_eq,List.all_eq_true];refine⟨⟨⟨⟨⟨⟨⟨⟨a1,a2⟩,fun l hl=>Uw (a3 l hl)⟩,a4⟩,a6⟩,a7⟩,h2.1⟩,?_⟩,?_⟩
  ·by_cases e:k=12
   ·exact .inr (h2.2.1 e)
   exact .inl e
  by_cases e:k=0
  ·exact .inr (h3.1 e)
  exact .inl e
theorem KD:∀(ts:List Tm),IX ts→K8 ts→Oc ts→JQ ts=true
 | [],_,_,_=>rfl
 | t::ts,h1,h2,h3=>by
  simp only[JQ,Bool.and_eq_true];exact⟨Lk t h1.1 h2.1 h3.1,KD ts h1.2 h2.2 h3.2⟩
end
structure eg (t:Tm):Prop where
 nd:Nd t
 wt:Wt t
 vp:Vp t
 sz:size t<549755813888
theorem Jd {t:Tm}:okB t=true↔eg t:=by
 simp only[okB,Bool.and_eq_true,decide_eq_true_eq];exact⟨fun h=>by obtain⟨a,b,c⟩:=GZ t h.1;exact⟨a,b,c,h.2⟩,fun h=>⟨Lk t h.nd h.wt h.vp,h.sz⟩⟩
theorem Xj {t:Tm}(h:P5 t=true) (hs:size t<549755813888):okB t=true:=by simp[okB,h,hs]
theorem Vl {t:Tm}(h:okB t=true):P5 t=true:=by simp only[okB,Bool.and_eq_true] at h;exact h.1
theorem PY {t:Tm}(h:okB t=true):size t<549755813888:=by simp only[okB,Bool.and_eq_true,decide_eq_true_eq] at h;exact h.2
theorem UE {t x:Tm}{i:Nat}(h:okB t=true) (hx:t.kids[i]?=some x):okB x=true:=by
 have h1:=Vl h;have h2:=PY h;obtain⟨k,j,n,ls,ks⟩:=t;rw[MM,Bool.and_eq_true] at h1;simp only[size] at h2;simp only[Tm.kids] at hx;have:=Bg hx;exact Xj (FN.1 h1.2 x (List.mem_of_getElem? hx)) Ad
theorem MG:∀(t:Tm),P5 t=true→P5 (A3 t).1=true∧JQ (A3 t).2=true
 | .mk k i n l [f,a],h=>by
  unfold A3;split
  ·rw[MM,Bool.and_eq_true] at h;simp only[JQ,Bool.and_eq_true] at h;obtain⟨h1,h2⟩:=MG f h.2.1;refine⟨h1,FN.2 fun x hx=>?_⟩;rcases List.mem_append.1 hx with hx | hx
   ·exact FN.1 h2 x hx
   rw[List.mem_singleton.1 hx];exact h.2.2.1
  ·exact⟨h,O⟩
 | .mk k i n l [],h=>⟨h,rfl⟩
 | .mk k i n l [_],h=>⟨h,rfl⟩
 | .mk k i n l (_::_::_::_),h=>⟨h,rfl⟩
theorem Ir {t:Tm}(h:okB t=true):okB (A3 t).1=true∧∀x∈(A3 t).2,okB x=true:=by
 simp only[okB,Bool.and_eq_true,decide_eq_true_eq] at h ⊢;obtain⟨h1,h2⟩:=MG t h.1;have hs:=Fs t;refine⟨⟨h1,by omega⟩,fun x hx=>⟨FN.1 h2 x hx,?_⟩⟩;obtain⟨i,hi⟩:=List.mem_iff_getElem?.1 hx;have:=Bg hi;omega
def Gx (l:List Br) (i:Nat):Option Int:=if i=0 then none else (l[i - 1]?).map Br.index
def B7 (c:Int) (l:List Br) (i:Nat):Bool:=E6 c (Gx l i) (l.drop i)
theorem Mz {c:Int}{l:List Br}{i:Nat}{v:Br}(h:l[i]?=some v):B7 c l i=(QF c v&&Gz (Gx l i) v.index&&B7 c l (i+1)):=by
 have e:Gx l (i+1)=some v.index:=by simp[Gx,h]
 rw[B7,B3 h,E6,B7,e]
theorem WT {c:Int}{l:List Br}{i:Nat}(h:l.length≤i):B7 c l i=true:=by
 rw[B7,List.drop_eq_nil_of_le h];rfl
theorem M3 (l:CE):Cc l=(decide (0≤l.const)&&decide (l.const≤100)&&B7 l.const l.vars 0):=rfl
theorem TQ {c:Int}{l:List Br}{i:Nat}{v:Br}(h:l[i]?=some v) (hb:QF c v=false):B7 c l i=false:=by rw[Mz h,hb];rfl
theorem Tw {c:Int}{l:List Br}{i:Nat}{v:Br}(h:l[i]?=some v) (h1:QF c v=true) (h2:Gz (Gx l i) v.index=true):B7 c l i=B7 c l (i+1):=by rw[Mz h,h1,h2];simp
theorem WH {l:CE}(h:l.const<0∨100<l.const):false=Cc l:=by
 rw[M3];rcases h with h | h
 ·rw[decide_eq_false Ad];rfl
 rw[decide_eq_false (p:=l.const≤100) Ad];simp
theorem MQ {l:CE}{i:Nat}(h:B7 l.const l.vars 0=B7 l.const l.vars i) (hb:B7 l.const l.vars i=false):false=Cc l:=by
 rw[M3,h,hb];simp
theorem Ud {l:CE}{i:Nat}(h0:0≤l.const) (h1:l.const≤100) (h:B7 l.const l.vars 0=B7 l.const l.vars i) (hb:l.vars.length≤i):true=Cc l:=by
 rw[M3,h,WT hb,decide_eq_true h0,decide_eq_true h1];rfl
theorem WY {c:Int}{v:Br}(h:((v.index < -65536∨8≤v.index)∨v.plus<0)∨100<v.plus):QF c v=false:=by
 simp only[QF,Bool.and_eq_false_iff,decide_eq_false_iff_not];omega
theorem U7 {c:Int}{v:Br}(h1:0<c) (h:c≤v.plus):QF c v=false:=by
 simp only[QF,Bool.and_eq_false_iff,Bool.or_eq_false_iff,decide_eq_false_iff_not];omega
theorem UI {c:Int}{v:Br}(h: -65536≤v.index∧v.index<8∧0≤v.plus∧v.plus≤100) (h1:0<c→v.plus<c):QF c v=true:=by
 simp only[QF,Bool.and_eq_true,Bool.or_eq_true,decide_eq_true_eq];refine⟨⟨⟨⟨h.1,h.2.1⟩,h.2.2.1⟩,h.2.2.2⟩,?_⟩;by_cases q:c≤0
 ·exact .inl q
 exact .inr (h1 Ad)
theorem Sm {l:CE}(h:Cc l=true):0≤l.const∧l.const≤100:=by
 simp only[Cc,Bool.and_eq_true,decide_eq_true_eq] at h;exact h.1
theorem WL {l:CE}{i:Nat}{x:Br}(h:Cc l=true) (hx:l.vars[i]?=some x):(0≤x.plus∧x.plus≤100)∧ -65536≤x.index∧x.index<8:=by
 simp only[Cc,Bool.and_eq_true,decide_eq_true_eq] at h;have:=Io h.2 x (List.mem_of_getElem? hx);simp only[QF,Bool.and_eq_true,decide_eq_true_eq] at this;exact⟨⟨this.1.1.2,this.1.2⟩,this.1.1.1⟩
theorem Lj {l:List Br}{i j:Nat}{u:Br}{x:Int}(hj:l[j]?=some u) (he:i=j+1):(!Gz (Gx l i) x)=decide (u.index≥x):=by
 subst he;have e:Gx l (j+1)=some u.index:=by simp[Gx,hj]
 rw[e];simp only[Gz];rw[←decide_not,decide_eq_decide];omega
theorem Kg {l:List Br}{i:Nat}{x:Int}(h:¬(i:Int) > 0):(!Gz (Gx l i) x)=false:=by
 have:i=0:=by omega
 subst this;rfl
theorem TR {x y:Br}{a b:List Br}(h:y.index<x.index):Ch (x::a) (y::b)=y::Ch (x::a) b:=by
 rw[Ch,DZ,if_neg Ad,if_pos h];rfl
def Sh (a b:List Br) (i k:Nat):Bool:=(k==b.length)||(match a[i]?,b[k]? with
 | some x,some y=>decide (x.index<y.index)
 | _,_=>false)
def VH (a b:List Br) (i k:Nat):Bool:=(i==a.length)||(match a[i]?,b[k]? with
 | some x,some y=>decide (y.index<x.index)
 | _,_=>false)
section
variable {a b:List Br}{i k:Nat}{vs:List Br}{m:Int}{x y:Br}
theorem Pz (hx:a[i]?=some x) (hy:b[k]?=some y):decide (x.index<y.index)=Sh a b i k:=by
 have:=(List.getElem?_eq_some_iff.1 hy).1;simp only[Sh,hx,hy];rw[show (k==b.length)=false by simp;omega,Bool.false_or]
theorem P9 (hx:a[i]?=some x) (hy:b[k]?=some y):decide (y.index<x.index)=VH a b i k:=by
 have:=(List.getElem?_eq_some_iff.1 hx).1;simp only[VH,hx,hy];rw[show (i==a.length)=false by simp;omega,Bool.false_or]
structure IK (a b:List Br) (i k:Nat) (vs:List Br) (m:Int):Prop where
 hi:i≤a.length
 hk:k≤b.length
 eq:vs++Ch (a.drop i) (b.drop k)=Ch a b
 mo:m=Ls vs
 ln:vs.length≤i+k
theorem IL (vs:List Br) (v:Br):Ls (vs++[v])=max (Ls vs) v.plus:=by simp[Ls]
theorem IK.zero:IK a b 0 0 [] 0:=⟨by omega,by omega,by simp,rfl,by simp⟩
theorem IK.left (h:IK a b i k vs m) (hx:a[i]?=some x) (hs:Sh a b i k=true):IK a b (i+1) k (vs++[x]) (max m x.plus):=by
 have hl:=(List.getElem?_eq_some_iff.1 hx).1;have:=h.ln;refine⟨hl,h.hk,?_,by rw[IL,←h.mo],by simp;omega⟩;rw[←h.eq,B3 hx,List.append_assoc];congr 1;by_cases q:k<b.length
 ·obtain⟨y,hy⟩:∃y,b[k]?=some y:=⟨_,List.getElem?_eq_getElem q⟩;rw[←Pz hx hy,decide_eq_true_eq] at hs;rw[B3 hy,Ch,DZ,if_pos hs];rfl
 rw[List.drop_eq_nil_of_le (show b.length≤k by omega),Ch,DZ];rfl
theorem IK.right (h:IK a b i k vs m) (hy:b[k]?=some y) (hs:Sh a b i k=false) (h2:VH a b i k=true):IK a b i (k+1) (vs++[y]) (max m y.plus):=by
 have hl:=(List.getElem?_eq_some_iff.1 hy).1;have:=h.ln;refine⟨h.hi,hl,?_,by rw[IL,←h.mo],by simp;omega⟩;rw[←h.eq,B3 hy,List.append_assoc];congr 1;by_cases q:i<a.length
 ·obtain⟨x,hx⟩:∃x,a[i]?=some x:=⟨_,List.getElem?_eq_getElem q⟩;rw[←P9 hx hy,decide_eq_true_eq] at h2;rw[B3 hx,TR h2];rfl
 rw[List.drop_eq_nil_of_le (show a.length≤i by omega),Ch,Ch];rfl
theorem IK.both (h:IK a b i k vs m) (hx:a[i]?=some x) (hy:b[k]?=some y) (hs:Sh a b i k=false) (h2:VH a b i k=false):IK a b (i+1) (k+1) (vs++[⟨x.index,max x.plus y.plus⟩]) (max m (max x.plus y.plus)):=by
 have hl:=(List.getElem?_eq_some_iff.1 hx).1;have hl':=(List.getElem?_eq_some_iff.1 hy).1;have:=h.ln;rw[←Pz hx hy,decide_eq_false_iff_not] at hs;rw[←P9 hx hy,decide_eq_false_iff_not] at h2;refine⟨hl,hl',?_,by rw[IL,←h.mo],by simp;omega⟩;rw[←h.eq,B3 hx,B3 hy,List.append_assoc,Ch,DZ,if_neg hs,if_neg h2];rfl
theorem IK.fin (h:IK a b i k vs m) (hc:¬(i<a.length∨k<b.length)):vs=Ch a b∧m=Ls vs:=by
 refine⟨?_,h.mo⟩;rw[←h.eq,List.drop_eq_nil_of_le Ad,List.drop_eq_nil_of_le Ad];simp[Ch]
end
theorem MR:∀{vs:List Br}{lo:Int},II vs→(∀v∈vs,lo≤v.index∧v.index<8)→lo≤8→(vs.length:Int)≤8 - lo
 | [],lo,_,_,h=>by simp;omega
 | x::vs,lo,ha,hv,h=>by
  rw[II,List.pairwise_cons] at ha;have hx:=hv x Ae;have:=MR (vs:=vs) (lo:=x.index+1) ha.2 (fun v hv'=>⟨by have:=ha.1 v hv';omega,(hv v (by simp[hv'])).2⟩) Ad;simp only[List.length_cons];omega
structure LF (l:CE):Prop where
 c:0≤l.const∧l.const≤100
 asc:II l.vars
 rg:∀v∈l.vars,(0≤v.plus∧v.plus≤100)∧ -65536≤v.index∧v.index<8
theorem LF.len {l:CE}(h:LF l):l.vars.length≤65544:=by
 have:=MR (lo:= -65536) h.asc (fun v hv=>(h.rg v hv).2) Ad;omega
theorem LF.nd {l:CE}(h:LF l):Ve l :=
 ⟨by have:=h.len;simp only[Ci];omega,by have:=h.c;unfold HD;omega,fun v hv=>by have:=h.rg v hv;unfold HD;omega⟩
theorem LF.of {l:CE}(h:Cc l=true):LF l:=by
 have h0:=Sm h;have h':=h;simp only[Cc,Bool.and_eq_true,decide_eq_true_eq] at h';exact⟨h0,(MH h'.2).1,fun v hv=>by obtain⟨i,hi⟩:=List.mem_iff_getElem?.1 hv;exact WL h hi⟩
theorem LF.join {a b:CE}(h1:LF a) (h2:LF b):LF (Pq a b):=by
 have hc1:=h1.c;have hc2:=h2.c;refine⟨?_,LX h1.asc h2.asc,Eb (Q:=fun v=>(0≤v.plus∧v.plus≤100)∧ -65536≤v.index∧v.index<8) (fun u v g1 g2 _=>by simp only;omega) _ _ h1.rg h2.rg⟩;simp only[Pq,VR];split<;>omega
theorem LF.one {v:Br}(h:(0≤v.plus∧v.plus≤100)∧ -65536≤v.index∧v.index<8):LF ⟨0,[v]⟩:=⟨by simp,by simp[II],by simpa using h⟩
theorem LF.num {n:Int}(h:0≤n∧n≤100):LF ⟨n,[]⟩:=⟨h,by simp[II],by simp⟩
theorem LF.plus {l:CE}{n:Int}(hl:Cc l=true) (h0:0≤n) (h1:n≤100) (he:(JG l n).2=0):LF (JG l n).1:=by
 rcases NF hl h0 h1 with ⟨e,_⟩ | ⟨e,q1,q2⟩
 ·rw[e] at he;simp at he
 have h:=LF.of hl;have hc:=h.c;rw[e];refine⟨?_,XA h.asc,fun w hw=>?_⟩
 ·simp only[L6];split<;>omega
 simp only[List.mem_map] at hw;obtain⟨u,hu,rfl⟩:=hw;have:=h.rg u hu;have:=q2 u hu;simp only[Xt];omega
section
variable {ps:List CE}{q p:CE}{vs:List Br}{v:Br}{i:Nat}
theorem Pv {α:Type} [Inhabited α] {l:List α}{i:Nat}{x:α}(h:l[i]?=some x):l.getD i default=x:=by rw[List.getD_eq_getElem?_getD,h];rfl
end
end Go.Eu
namespace Go.Proofs.YtldfmjoncbjldaaGreat
open Go.Abs Go.Eu
theorem _root_.Go.AN {α:Prop}(h:α:=by first | omega | (simp only;omega)):α:=h
theorem _root_.Go.AG {α:Prop}(h:α:=by first | rfl | (refine pB ?_;simp_all;done) | (refine pB ?_;simp_all<;>(intros;omega))):α:=h
theorem Tb:∀(l:CE),(Ve l)→Dp Tryz.prog 167 [.agg ((B0 l).map .p)] (.p (.bool (Cc l))):=by
 intro l h1;have hl:=h1.vars;simp only[Ci] at hl;refine Ar Tryz.func167 O ZK (n:=67) O O (Ao (A6 O (BF O) fun b1=>Ag Al 1 [] O (Ai (Ai (BL [1] 12 (fun y=>y= .p (.bool ((decide ((l.const:Int)<(0:Int)))||(decide ((l.const:Int) > (100:Int)))))) ?_ ?_)))))
 ·refine Ap (Aq Al 4 [0] O (A5 8 O (fun g=>?_) (fun g=>?_)))
  ·(try simp only[sd,se] at g);exact Ag Al 4 [] O (⟨O,O,AH,AG,⟨O,Af⟩⟩)
  (try simp only[sd,se] at g);exact Ag Al 4 [0] O (⟨O,O,AH,AG,⟨O,Af⟩⟩)
 rintro _ rfl;refine Ak O (fun c=>?_) (fun c=>?_)
 ·(try simp only[sd,se] at c);refine Ah Al 1 [] O (Am (⟨O,_,_,⟨_,_,O,O,O⟩,(List.nil_sublist _),?_⟩))
  all_goals exact⟨pB (WH c),rfl⟩
 (try simp only[sd,se] at c);refine An (Ai (Ah Al 1 [] O (Aw (BR (α:=Nat) (fun i=>⟨67,mk [(1,.ptr b1 0),(3,.p (I (i:Int)))],[.box b1 [.p (I l.const),.p (.lst (List.map HK l.vars))]],[]⟩) (fun i=>l.vars.length - i) (fun i=>i≤l.vars.length∧(B7 l.const l.vars 0=B7 l.const l.vars i)) 0 (⟨by omega,rfl⟩) ?_ ?_))))
 ·exact BM ⟨we O,we O,Af⟩ (leH (is:=[0]) O (wl (oe O) (Cv)))
 rintro i hC
 try simp only at hC
 obtain⟨hi,hC⟩:=hC;refine Ai (Ao (Aq Al 3 [0] O (Aj O (A8 DR O (List.length_map _)) (Ag Al 1 [] O (Ak O (fun c1=>?_) (fun c1=>?_))))))
 ·(try simp only[sd,se] at c1);refine An (Ai (Aw (Ao (Aq Al 3 [0] O ?_))));obtain⟨x,hx⟩:=Av (l:=l.vars) (i:=i) Ad;refine Aj O (As DR O O Ad (DV hx) (O)) (Aj O (BC SZ O (O)) (A6 O (Ax WA O) fun b4=>Ag Al 1 [0,1] O (Ai (Ai (BL [1,3,4] 42 (fun y=>y= .p (.bool ((((decide ((x.index:Int)<(-65536:Int)))||(decide ((x.index:Int)≥(8:Int))))||(decide ((x.plus:Int)<(0:Int))))||(decide ((x.plus:Int) > (100:Int)))))) ?_ ?_)))))
  ·refine Ap (Aq Al 4 [0] O (A5 28 O (fun g=>?_) (fun g=>?_)))
   ·(try simp only[sd,se] at g);exact Ag Al 14 [] O (⟨O,O,AH,AG,⟨O,O,O,Af⟩⟩)
   (try simp only[sd,se] at g);refine Aq Al 5 [0] O (A5 33 O (fun g1=>?_) (fun g1=>?_))
   ·(try simp only[sd,se] at g1);exact Ag Al 9 [] O (⟨O,O,AH,AG,⟨O,O,O,Af⟩⟩)
   (try simp only[sd,se] at g1);refine Aq Al 5 [0] O (A5 38 O (fun g2=>?_) (fun g2=>?_))
   ·(try simp only[sd,se] at g2);exact Ag Al 4 [] O (⟨O,O,AH,AG,⟨O,O,O,Af⟩⟩)
   (try simp only[sd,se] at g2);exact Ag Al 4 [0] O (⟨O,O,AH,AG,⟨O,O,O,Af⟩⟩)
  rintro _ rfl;refine Ak O (fun c2=>?_) (fun c2=>?_)
  ·(try simp only[sd,se] at c2);refine Ah Al 1 [] O (Am (⟨O,_,_,⟨_,_,O,O,O⟩,(List.nil_sublist _),?_⟩))
   all_goals exact⟨pB (MQ hC (TQ hx (WY c2))),rfl⟩
  (try simp only[sd,se] at c2);refine An (Ai (Ai (BL [1,3,4] 56 (fun y=>y= .p (.bool (!(Gz (Gx l.vars i) x.index)))) ?_ ?_)))
  ·refine Bt (fun k=>false) EY (BE Al 3 [] O (Dt 45 O (fun g=>?_) (fun g=>?_)))
   ·(try simp only[sd,se] at g);refine BE Al 4 [1] O ?_;obtain⟨x1,hx1⟩:=Av (l:=l.vars) (i:=(((i:Int):Int) - (1:Int):Int).toNat) Ad;exact Bj O (fun _=>As DR O O Ad (DV hx1) (O)) Af (Bl Al 6 [0] O (⟨O,O,AH,(by first | (refine pB ?_;exact(Kg Ad).symm) | (refine pB ?_;exact(Lj hx1 Ad).symm)),⟨O,O,O,Af⟩⟩))
   (try simp only[sd,se] at g);exact Bl Al 11 [] O (⟨O,O,AH,(by first | (refine pB ?_;exact(Kg Ad).symm) | (refine pB ?_;exact(Lj hx1 Ad).symm)),⟨O,O,O,Af⟩⟩)
  rintro _ rfl;refine Ak O (fun c3=>?_) (fun c3=>?_)
  ·(try simp only[sd,se] at c3);refine Ah Al 1 [] O (Am (⟨O,_,_,⟨_,_,O,O,O⟩,(List.nil_sublist _),?_⟩))
   all_goals exact⟨pB (MQ hC (by rw[Mz hx];rw[c3];simp)),rfl⟩
  (try simp only[sd,se] at c3);refine An (Ai (BL [1,3] 66 (fun y=>y= .p (.bool ((decide ((l.const:Int) > (0:Int)))&&(decide ((x.plus:Int)≥(l.const:Int)))))) ?_ ?_))
  ·refine Ap (Aq Al 4 [1] O (A5 60 O (fun g=>?_) (fun g=>?_)))
   ·(try simp only[sd,se] at g);exact Ag Al 6 [0,1] O (⟨O,O,AH,AG,⟨O,O,Af⟩⟩)
   (try simp only[sd,se] at g);exact Ag Al 6 [] O (⟨O,O,AH,AG,⟨O,O,Af⟩⟩)
  rintro _ rfl;refine Ak O (fun c4=>?_) (fun c4=>?_)
  ·(try simp only[sd,se] at c4);refine Ah Al 1 [] O (Am (⟨O,_,_,⟨_,_,O,O,O⟩,(List.nil_sublist _),?_⟩))
   all_goals exact⟨pB (MQ hC (TQ hx (U7 c4.1 c4.2))),rfl⟩
  (try simp only[sd,se] at c4);refine An (Ap (Ag Al 3 [] O (⟨(i+1),AN,⟨by omega,(hC.trans (Tw hx (UI Ad (by simpa using c4)) (by simpa using c3)))⟩,BM ⟨we rfl,we rfl,trivial⟩ (leH (is:=[1]) rfl (wl (oe rfl) (Cv)))⟩)))
 (try simp only[sd,se] at c1);refine BQ (Ah Al 1 [] O (Am (⟨O,_,_,⟨_,_,O,O,O⟩,(List.nil_sublist _),?_⟩)))
 all_goals exact⟨pB (Ud Ad Ad hC Ad),rfl⟩
end Go.Proofs.YtldfmjoncbjldaaGreat
namespace Go.Eu
def Vf:Tm→Prop
 | .mk k i n l _=>(i≠0→k=0∨k=12)∧(n≠⟨#[]⟩→k=3)∧(k=2→l.length=1)∧(k≠2→k≠3→l.length=0)
mutual
def Cw:Tm→Prop
 | .mk k i n l ks=>Vf (.mk k i n l ks)∧aC ks
def aC:List Tm→Prop
 | []=>True
 | t::ts=>Cw t∧aC ts
end
theorem Ff:∀{ts:List Tm},(∀t∈ts,Cw t)→aC ts
 | [],_=>trivial
 | t::ts,h=>⟨h t List.mem_cons_self,Ff fun x hx=>h x (List.mem_cons_of_mem _ hx)⟩
end Go.Eu
namespace Go.Proofs.YtldfmjoncbjldaaGreat
open Go.Abs Go.Eu
theorem Nt:∀(c:Int),D1 Tryz.prog 166 [.p (.int .u8 c)] (Hr):=by
 intro c;refine Ar Tryz.func166 O Zh (n:=21) O O (Ah Al 1 [] O (Ai (BL [] 2 (fun y=>y= .p (.bool ((((decide ((c:Int)≥(97:Int)))&&(decide ((c:Int)≤(122:Int))))||((decide ((c:Int)≥(65:Int)))&&(decide ((c:Int)≤(90:Int)))))||((c:Int)==(95:Int))))) ?_ ?_)))
 ·refine Ap (Aq Al 3 [] O (A5 5 O (fun g=>?_) (fun g=>?_)))
  ·(try simp only[sd,se] at g);refine Aq Al 4 [] O (A5 9 O (fun g1=>?_) (fun g1=>?_))
   ·(try simp only[sd,se] at g1);exact Ag Al 12 [] O ⟨O,O,AH,AG,Af⟩
   (try simp only[sd,se] at g1);refine Aq Al 3 [] O (A5 12 O (fun g2=>?_) (fun g2=>?_))
   ·(try simp only[sd,se] at g2);refine Aq Al 5 [] O (A5 17 O (fun g3=>?_) (fun g3=>?_))
    ·(try simp only[sd,se] at g3);exact Ag Al 4 [] O ⟨O,O,AH,AG,Af⟩
    (try simp only[sd,se] at g3);exact Ag Al 4 [] O ⟨O,O,AH,AG,Af⟩
   (try simp only[sd,se] at g2);exact Ag Al 9 [] O ⟨O,O,AH,AG,Af⟩
  (try simp only[sd,se] at g);refine Aq Al 7 [] O (A5 12 O (fun g1=>?_) (fun g1=>?_))
  ·(try simp only[sd,se] at g1);refine Aq Al 5 [] O (A5 17 O (fun g2=>?_) (fun g2=>?_))
   ·(try simp only[sd,se] at g2);exact Ag Al 4 [] O ⟨O,O,AH,AG,Af⟩
   (try simp only[sd,se] at g2);exact Ag Al 4 [] O ⟨O,O,AH,AG,Af⟩
  (try simp only[sd,se] at g1);exact Ag Al 9 [] O ⟨O,O,AH,AG,Af⟩
 rintro _ rfl;refine Am (⟨O,_,_,⟨_,_,O,O,O⟩,(List.nil_sublist _),?_⟩)
 all_goals exact⟨⟨_,rfl⟩,rfl⟩
theorem _root_.Go.AM {α:Prop}(h:α:=by first | trivial | omega | simp | (simp;omega)):α:=h
theorem Ws:∀(s:ByteArray),(s.size<Ci)→D1 Tryz.prog 136 [.p (.str s)] (Hr):=by
 intro s h1;simp only[Ci] at h1;refine Ar Tryz.func136 O Zl (n:=45) O O (Ah Al 1 [] O (Ai (Ai (BL [0] 12 Hr ?_ ?_))))
 ·refine Ap (Ba O (Aj O (Lm O O) (Ba O (A5 8 O (fun g=>?_) (fun g=>?_)))))
  ·(try simp only[sd,se] at g);exact Ag Al 4 [] O (⟨O,O,AH,⟨_,O⟩,⟨O,Af⟩⟩)
  (try simp only[sd,se] at g);exact BP O (B8 O) (BP O (F9 Z1 O) (Ag Al 2 [] O (⟨O,O,AH,⟨_,O⟩,⟨O,Af⟩⟩)))
 rintro _ ⟨q,rfl⟩;refine Ak O (fun c=>?_) (fun c=>?_)
 ·(try simp only[sd,se] at c);refine Ah Al 1 [] O (Am (⟨O,_,_,⟨_,_,O,O,O⟩,(List.nil_sublist _),?_⟩))
  all_goals exact⟨⟨_,rfl⟩,rfl⟩
 (try simp only[sd,se] at c);refine An (Ah Al 1 [] O (Ai (Ah Al 1 [] O (Aw (BR (α:=Nat×Bool) (fun(i,f)=>⟨45,mk [(0,.p (.str s)),(3,.p (.bool f)),(4,.p (I (i:Int)))],[],[]⟩) (fun(i,f)=>s.size - i) (fun(i,f)=>i≤s.size) ⟨0,true⟩ AM ?_ ?_)))))
 ·exact BM ⟨we O,we O,we O,Af⟩ (leH (is:=[]) O (Cv))
 rintro⟨i,f⟩ hC
 try simp only at hC
 have hi:=hC;refine Ai (Ao (Aq Al 2 [] O (Aj O (F9 Z1 O) (Ag Al 1 [] O (Ak O (fun c1=>?_) (fun c1=>?_))))))
 ·(try simp only[sd,se] at c1);refine An (Ai (Aw (Ao (Aq Al 2 [] O ?_))));obtain⟨ch,hch⟩:∃c,(s)[i]?=some c:=⟨_,getElem?_pos s i Ad⟩;refine Aj O (LK Z1 O O Ad (by simpa using hch)) (Ag Al 1 [] O (Ai (Ah Al 1 [] O (Ak O (fun c2=>?_) (fun c2=>?_)))))
  ·(try simp only[sd,se] at c2);refine Ai (Ao (Ba O (DB O O (Bo O O (Nt ch.toNat) (.inl O)) ?_)));rintro _ ⟨q1,rfl⟩;refine Ag Al 1 [] O (Ak O (fun c3=>?_) (fun c3=>?_))
   ·(try simp only[sd,se] at c3);refine Ah Al 1 [] O (Am (⟨O,_,_,⟨_,_,O,O,O⟩,(List.nil_sublist _),?_⟩))
    all_goals exact⟨⟨_,rfl⟩,rfl⟩
   (try simp only[sd,se] at c3);refine An (Ah Al 1 [] O (BQ (Ap (Ag Al 3 [] O ?_))));refine⟨⟨i+1,false⟩,AN,by omega,BM ⟨we rfl,we rfl,we rfl,trivial⟩ (leH (is:=[]) rfl (Cv))⟩
  (try simp only[sd,se] at c2);refine An (Ai (Ah Al 2 [] O (Ak O (fun c3=>?_) (fun c3=>?_))))
  ·(try simp only[sd,se] at c3);refine Ah Al 1 [] O (BQ (Ap (Ag Al 3 [] O ?_)));refine⟨⟨i+1,true⟩,AN,by omega,BM ⟨we rfl,we rfl,we rfl,trivial⟩ (leH (is:=[]) rfl (Cv))⟩
  (try simp only[sd,se] at c3);refine An (Ai (BL [0,3,4] 42 Hr ?_ ?_))
  ·refine Ap (Ba O (DB O O (Bo O O (Nt ch.toNat) (.inl O)) ?_));rintro _ ⟨q1,rfl⟩;refine Aq Al 2 [] O (A5 31 O (fun g=>?_) (fun g=>?_))
   ·(try simp only[sd,se] at g);refine Aq Al 4 [] O (A5 35 O (fun g1=>?_) (fun g1=>?_))
    ·(try simp only[sd,se] at g1);refine Aq Al 3 [] O (A5 38 O (fun g2=>?_) (fun g2=>?_))
     ·(try simp only[sd,se] at g2);exact Ag Al 4 [] O (⟨O,O,AH,⟨_,O⟩,⟨O,O,O,Af⟩⟩)
     (try simp only[sd,se] at g2);exact Ag Al 4 [] O (⟨O,O,AH,⟨_,O⟩,⟨O,O,O,Af⟩⟩)
    (try simp only[sd,se] at g1);exact Ag Al 7 [] O (⟨O,O,AH,⟨_,O⟩,⟨O,O,O,Af⟩⟩)
   (try simp only[sd,se] at g);exact Ag Al 11 [] O (⟨O,O,AH,⟨_,O⟩,⟨O,O,O,Af⟩⟩)
  rintro _ ⟨r,rfl⟩;refine Ak O (fun c4=>?_) (fun c4=>?_)
  ·(try simp only[sd,se] at c4);refine Ah Al 1 [] O (Am (⟨O,_,_,⟨_,_,O,O,O⟩,(List.nil_sublist _),?_⟩))
   all_goals exact⟨⟨_,rfl⟩,rfl⟩
  (try simp only[sd,se] at c4);refine An (Ap (Ag Al 3 [] O ?_));refine⟨⟨i+1,f⟩,AN,by omega,BM ⟨we rfl,we rfl,we rfl,trivial⟩ (leH (is:=[]) rfl (Cv))⟩
 (try simp only[sd,se] at c1);refine BQ (Ah Al 3 [] O (Am (⟨O,_,_,⟨_,_,O,O,O⟩,(List.nil_sublist _),?_⟩)))
 all_goals exact⟨⟨_,rfl⟩,rfl⟩
theorem _root_.Go.AU {α:Prop}(h:α:=by simp_all [arity]):α:=h
theorem W8:∀(k:Int),Dp Tryz.prog 165 [.p (I k)] (.p (I (arity k))):=by
 intro k;refine Ar Tryz.func165 O X6 (n:=15) O O (Ah Al 1 [] O (Ai (Ah Al 1 [] O (Aw (Ai (Ah Al 2 [] O (Ak O (fun c=>?_) (fun c=>?_))))))))
 ·(try simp only[sd,se] at c);refine An (Ak O (fun c1=>?_) (fun c1=>?_))
  ·(try simp only[sd,se] at c1);refine Ah Al 1 [] O (Am (⟨O,_,_,⟨_,_,O,O,O⟩,(List.nil_sublist _),?_⟩))
   all_goals exact⟨pI AU,rfl⟩
  (try simp only[sd,se] at c1);refine Ai (Ah Al 2 [] O (Ak O (fun c2=>?_) (fun c2=>?_)))
  ·(try simp only[sd,se] at c2);refine An (Ak O (fun c3=>?_) (fun c3=>?_))
   ·(try simp only[sd,se] at c3);refine Ah Al 1 [] O (Am (⟨O,_,_,⟨_,_,O,O,O⟩,(List.nil_sublist _),?_⟩))
    all_goals exact⟨pI AU,rfl⟩
   (try simp only[sd,se] at c3);refine Ai (Ah Al 2 [] O (Ak O (fun c4=>?_) (fun c4=>?_)))
   ·(try simp only[sd,se] at c4);refine An (Ak O (fun c5=>?_) (fun c5=>?_))
    ·(try simp only[sd,se] at c5);refine Ah Al 1 [] O (Am (⟨O,_,_,⟨_,_,O,O,O⟩,(List.nil_sublist _),?_⟩))
     all_goals exact⟨pI AU,rfl⟩
    (try simp only[sd,se] at c5);refine An (Ah Al 1 [] O (Am (⟨O,_,_,⟨_,_,O,O,O⟩,(List.nil_sublist _),?_⟩)))
    all_goals exact⟨pI AU,rfl⟩
   (try simp only[sd,se] at c4);refine Ap (Ag Al 2 [] O (Ak O (fun c5=>?_) (fun c5=>?_)))
   ·(try simp only[sd,se] at c5);refine Ah Al 1 [] O (Am (⟨O,_,_,⟨_,_,O,O,O⟩,(List.nil_sublist _),?_⟩))
    all_goals exact⟨pI AU,rfl⟩
   (try simp only[sd,se] at c5);refine An (Ah Al 1 [] O (Am (⟨O,_,_,⟨_,_,O,O,O⟩,(List.nil_sublist _),?_⟩)))
   all_goals exact⟨pI AU,rfl⟩
  (try simp only[sd,se] at c2);refine Ap (Ag Al 2 [] O (Ak O (fun c3=>?_) (fun c3=>?_)))
  ·(try simp only[sd,se] at c3);refine Ah Al 1 [] O (Am (⟨O,_,_,⟨_,_,O,O,O⟩,(List.nil_sublist _),?_⟩))
   all_goals exact⟨pI AU,rfl⟩
  (try simp only[sd,se] at c3);refine Ai (Ah Al 2 [] O (Ak O (fun c4=>?_) (fun c4=>?_)))
  ·(try simp only[sd,se] at c4);refine An (Ak O (fun c5=>?_) (fun c5=>?_))
   ·(try simp only[sd,se] at c5);refine Ah Al 1 [] O (Am (⟨O,_,_,⟨_,_,O,O,O⟩,(List.nil_sublist _),?_⟩))
    all_goals exact⟨pI AU,rfl⟩
   (try simp only[sd,se] at c5);refine An (Ah Al 1 [] O (Am (⟨O,_,_,⟨_,_,O,O,O⟩,(List.nil_sublist _),?_⟩)))
   all_goals exact⟨pI AU,rfl⟩
  (try simp only[sd,se] at c4);refine Ap (Ag Al 2 [] O (Ak O (fun c5=>?_) (fun c5=>?_)))
  ·(try simp only[sd,se] at c5);refine Ah Al 1 [] O (Am (⟨O,_,_,⟨_,_,O,O,O⟩,(List.nil_sublist _),?_⟩))
   all_goals exact⟨pI AU,rfl⟩
  (try simp only[sd,se] at c5);refine An (Ah Al 1 [] O (Am (⟨O,_,_,⟨_,_,O,O,O⟩,(List.nil_sublist _),?_⟩)))
  all_goals exact⟨pI AU,rfl⟩
 (try simp only[sd,se] at c);refine Ah Al 2 [] O (Ak O (fun c1=>?_) (fun c1=>?_))
 ·(try simp only[sd,se] at c1);refine An (Ak O (fun c2=>?_) (fun c2=>?_))
  ·(try simp only[sd,se] at c2);refine Ah Al 1 [] O (Am (⟨O,_,_,⟨_,_,O,O,O⟩,(List.nil_sublist _),?_⟩))
   all_goals exact⟨pI AU,rfl⟩
  (try simp only[sd,se] at c2);refine Ai (Ah Al 2 [] O (Ak O (fun c3=>?_) (fun c3=>?_)))
  ·(try simp only[sd,se] at c3);refine An (Ak O (fun c4=>?_) (fun c4=>?_))
   ·(try simp only[sd,se] at c4);refine Ah Al 1 [] O (Am (⟨O,_,_,⟨_,_,O,O,O⟩,(List.nil_sublist _),?_⟩))
    all_goals exact⟨pI AU,rfl⟩
   (try simp only[sd,se] at c4);refine Ai (Ah Al 2 [] O (Ak O (fun c5=>?_) (fun c5=>?_)))
   ·(try simp only[sd,se] at c5);refine An (Ak O (fun c6=>?_) (fun c6=>?_))
    ·(try simp only[sd,se] at c6);refine Ah Al 1 [] O (Am (⟨O,_,_,⟨_,_,O,O,O⟩,(List.nil_sublist _),?_⟩))
     all_goals exact⟨pI AU,rfl⟩
    (try simp only[sd,se] at c6);refine An (Ah Al 1 [] O (Am (⟨O,_,_,⟨_,_,O,O,O⟩,(List.nil_sublist _),?_⟩)))
    all_goals exact⟨pI AU,rfl⟩
   (try simp only[sd,se] at c5);refine Ap (Ag Al 2 [] O (Ak O (fun c6=>?_) (fun c6=>?_)))
   ·(try simp only[sd,se] at c6);refine Ah Al 1 [] O (Am (⟨O,_,_,⟨_,_,O,O,O⟩,(List.nil_sublist _),?_⟩))
    all_goals exact⟨pI AU,rfl⟩
   (try simp only[sd,se] at c6);refine An (Ah Al 1 [] O (Am (⟨O,_,_,⟨_,_,O,O,O⟩,(List.nil_sublist _),?_⟩)))
   all_goals exact⟨pI AU,rfl⟩
  (try simp only[sd,se] at c3);refine Ap (Ag Al 2 [] O (Ak O (fun c4=>?_) (fun c4=>?_)))
  ·(try simp only[sd,se] at c4);refine Ah Al 1 [] O (Am (⟨O,_,_,⟨_,_,O,O,O⟩,(List.nil_sublist _),?_⟩))
   all_goals exact⟨pI AU,rfl⟩
  (try simp only[sd,se] at c4);refine Ai (Ah Al 2 [] O (Ak O (fun c5=>?_) (fun c5=>?_)))
  ·(try simp only[sd,se] at c5);refine An (Ak O (fun c6=>?_) (fun c6=>?_))
   ·(try simp only[sd,se] at c6);refine Ah Al 1 [] O (Am (⟨O,_,_,⟨_,_,O,O,O⟩,(List.nil_sublist _),?_⟩))
    all_goals exact⟨pI AU,rfl⟩
   (try simp only[sd,se] at c6);refine An (Ah Al 1 [] O (Am (⟨O,_,_,⟨_,_,O,O,O⟩,(List.nil_sublist _),?_⟩)))
   all_goals exact⟨pI AU,rfl⟩
  (try simp only[sd,se] at c5);refine Ap (Ag Al 2 [] O (Ak O (fun c6=>?_) (fun c6=>?_)))
  ·(try simp only[sd,se] at c6);refine Ah Al 1 [] O (Am (⟨O,_,_,⟨_,_,O,O,O⟩,(List.nil_sublist _),?_⟩))
   all_goals exact⟨pI AU,rfl⟩
  (try simp only[sd,se] at c6);refine An (Ah Al 1 [] O (Am (⟨O,_,_,⟨_,_,O,O,O⟩,(List.nil_sublist _),?_⟩)))
  all_goals exact⟨pI AU,rfl⟩
 (try simp only[sd,se] at c1);refine Ah Al 2 [] O (Ak O (fun c2=>?_) (fun c2=>?_))
 ·(try simp only[sd,se] at c2);refine An (Ak O (fun c3=>?_) (fun c3=>?_))
  ·(try simp only[sd,se] at c3);refine Ah Al 1 [] O (Am (⟨O,_,_,⟨_,_,O,O,O⟩,(List.nil_sublist _),?_⟩))
   all_goals exact⟨pI AU,rfl⟩
  (try simp only[sd,se] at c3);refine Ai (Ah Al 2 [] O (Ak O (fun c4=>?_) (fun c4=>?_)))
  ·(try simp only[sd,se] at c4);refine An (Ak O (fun c5=>?_) (fun c5=>?_))
   ·(try simp only[sd,se] at c5);refine Ah Al 1 [] O (Am (⟨O,_,_,⟨_,_,O,O,O⟩,(List.nil_sublist _),?_⟩))
    all_goals exact⟨pI AU,rfl⟩
   (try simp only[sd,se] at c5);refine Ai (Ah Al 2 [] O (Ak O (fun c6=>?_) (fun c6=>?_)))
   ·(try simp only[sd,se] at c6);refine An (Ak O (fun c7=>?_) (fun c7=>?_))
    ·(try simp only[sd,se] at c7);refine Ah Al 1 [] O (Am (⟨O,_,_,⟨_,_,O,O,O⟩,(List.nil_sublist _),?_⟩))
     all_goals exact⟨pI AU,rfl⟩
    (try simp only[sd,se] at c7);refine An (Ah Al 1 [] O (Am (⟨O,_,_,⟨_,_,O,O,O⟩,(List.nil_sublist _),?_⟩)))
    all_goals exact⟨pI AU,rfl⟩
   (try simp only[sd,se] at c6);refine Ap (Ag Al 2 [] O (Ak O (fun c7=>?_) (fun c7=>?_)))
   ·(try simp only[sd,se] at c7);refine Ah Al 1 [] O (Am (⟨O,_,_,⟨_,_,O,O,O⟩,(List.nil_sublist _),?_⟩))
    all_goals exact⟨pI AU,rfl⟩
   (try simp only[sd,se] at c7);refine An (Ah Al 1 [] O (Am (⟨O,_,_,⟨_,_,O,O,O⟩,(List.nil_sublist _),?_⟩)))
   all_goals exact⟨pI AU,rfl⟩
  (try simp only[sd,se] at c4);refine Ap (Ag Al 2 [] O (Ak O (fun c5=>?_) (fun c5=>?_)))
  ·(try simp only[sd,se] at c5);refine Ah Al 1 [] O (Am (⟨O,_,_,⟨_,_,O,O,O⟩,(List.nil_sublist _),?_⟩))
   all_goals exact⟨pI AU,rfl⟩
  (try simp only[sd,se] at c5);refine Ai (Ah Al 2 [] O (Ak O (fun c6=>?_) (fun c6=>?_)))
  ·(try simp only[sd,se] at c6);refine An (Ak O (fun c7=>?_) (fun c7=>?_))
   ·(try simp only[sd,se] at c7);refine Ah Al 1 [] O (Am (⟨O,_,_,⟨_,_,O,O,O⟩,(List.nil_sublist _),?_⟩))
    all_goals exact⟨pI AU,rfl⟩
   (try simp only[sd,se] at c7);refine An (Ah Al 1 [] O (Am (⟨O,_,_,⟨_,_,O,O,O⟩,(List.nil_sublist _),?_⟩)))
   all_goals exact⟨pI AU,rfl⟩
  (try simp only[sd,se] at c6);refine Ap (Ag Al 2 [] O (Ak O (fun c7=>?_) (fun c7=>?_)))
  ·(try simp only[sd,se] at c7);refine Ah Al 1 [] O (Am (⟨O,_,_,⟨_,_,O,O,O⟩,(List.nil_sublist _),?_⟩))
   all_goals exact⟨pI AU,rfl⟩
  (try simp only[sd,se] at c7);refine An (Ah Al 1 [] O (Am (⟨O,_,_,⟨_,_,O,O,O⟩,(List.nil_sublist _),?_⟩)))
  all_goals exact⟨pI AU,rfl⟩
 (try simp only[sd,se] at c2);refine Ap (Ag Al 2 [] O (Ak O (fun c3=>?_) (fun c3=>?_)))
 ·(try simp only[sd,se] at c3);refine Ah Al 1 [] O (Am (⟨O,_,_,⟨_,_,O,O,O⟩,(List.nil_sublist _),?_⟩))
  all_goals exact⟨pI AU,rfl⟩
 (try simp only[sd,se] at c3);refine Ai (Ah Al 2 [] O (Ak O (fun c4=>?_) (fun c4=>?_)))
 ·(try simp only[sd,se] at c4);refine An (Ak O (fun c5=>?_) (fun c5=>?_))
  ·(try simp only[sd,se] at c5);refine Ah Al 1 [] O (Am (⟨O,_,_,⟨_,_,O,O,O⟩,(List.nil_sublist _),?_⟩))
   all_goals exact⟨pI AU,rfl⟩
  (try simp only[sd,se] at c5);refine Ai (Ah Al 2 [] O (Ak O (fun c6=>?_) (fun c6=>?_)))
  ·(try simp only[sd,se] at c6);refine An (Ak O (fun c7=>?_) (fun c7=>?_))
   ·(try simp only[sd,se] at c7);refine Ah Al 1 [] O (Am (⟨O,_,_,⟨_,_,O,O,O⟩,(List.nil_sublist _),?_⟩))
    all_goals exact⟨pI AU,rfl⟩
   (try simp only[sd,se] at c7);refine An (Ah Al 1 [] O (Am (⟨O,_,_,⟨_,_,O,O,O⟩,(List.nil_sublist _),?_⟩)))
   all_goals exact⟨pI AU,rfl⟩
  (try simp only[sd,se] at c6);refine Ap (Ag Al 2 [] O (Ak O (fun c7=>?_) (fun c7=>?_)))
  ·(try simp only[sd,se] at c7);refine Ah Al 1 [] O (Am (⟨O,_,_,⟨_,_,O,O,O⟩,(List.nil_sublist _),?_⟩))
   all_goals exact⟨pI AU,rfl⟩
  (try simp only[sd,se] at c7);refine An (Ah Al 1 [] O (Am (⟨O,_,_,⟨_,_,O,O,O⟩,(List.nil_sublist _),?_⟩)))
  all_goals exact⟨pI AU,rfl⟩
 (try simp only[sd,se] at c4);refine Ap (Ag Al 2 [] O (Ak O (fun c5=>?_) (fun c5=>?_)))
 ·(try simp only[sd,se] at c5);refine Ah Al 1 [] O (Am (⟨O,_,_,⟨_,_,O,O,O⟩,(List.nil_sublist _),?_⟩))
  all_goals exact⟨pI AU,rfl⟩
 (try simp only[sd,se] at c5);refine Ai (Ah Al 2 [] O (Ak O (fun c6=>?_) (fun c6=>?_)))
 ·(try simp only[sd,se] at c6);refine An (Ak O (fun c7=>?_) (fun c7=>?_))
  ·(try simp only[sd,se] at c7);refine Ah Al 1 [] O (Am (⟨O,_,_,⟨_,_,O,O,O⟩,(List.nil_sublist _),?_⟩))
   all_goals exact⟨pI AU,rfl⟩
  (try simp only[sd,se] at c7);refine An (Ah Al 1 [] O (Am (⟨O,_,_,⟨_,_,O,O,O⟩,(List.nil_sublist _),?_⟩)))
  all_goals exact⟨pI AU,rfl⟩
 (try simp only[sd,se] at c6);refine Ap (Ag Al 2 [] O (Ak O (fun c7=>?_) (fun c7=>?_)))
 ·(try simp only[sd,se] at c7);refine Ah Al 1 [] O (Am (⟨O,_,_,⟨_,_,O,O,O⟩,(List.nil_sublist _),?_⟩))
  all_goals exact⟨pI AU,rfl⟩
 (try simp only[sd,se] at c7);refine An (Ah Al 1 [] O (Am (⟨O,_,_,⟨_,_,O,O,O⟩,(List.nil_sublist _),?_⟩)))
 all_goals exact⟨pI AU,rfl⟩
theorem Jo : ∀ (k i : Int), Dp Tryz.prog 99 [.p (I k), .p (I i)] (.p (I (below k i))) := by
 intro k i
 refine Ar Tryz.func99 O ae (n := 27) O O ?_
 refine Ah Al 1 [] O ?_
 refine Ai ?_
 refine Ai ?_
 refine BL [] 26 (fun y => y = .p (.bool ((i == 1 && (k == 5 || k == 6 || k == 7)) || (i == 2 && k == 11)))) ?_ ?_
 ·refine Ap ?_
  refine Aq Al 3 [] O ?_
  refine A5 7 O (fun g => ?_) (fun g => ?_)
  ·(try simp only [sd, se] at g)
   refine Aq Al 3 [] O ?_
   refine A5 10 O (fun g1 => ?_) (fun g1 => ?_)
   ·(try simp only [sd, se] at g1)
    refine Ag Al 16 [] O ?_
    exact ⟨O, O, AH, pB Ab, Af⟩
   (try simp only [sd, se] at g1)
   refine Aq Al 4 [] O ?_
   refine A5 14 O (fun g2 => ?_) (fun g2 => ?_)
   ·(try simp only [sd, se] at g2)
    refine Ag Al 12 [] O ?_
    exact ⟨O, O, AH, pB Ab, Af⟩
   (try simp only [sd, se] at g2)
   refine Aq Al 5 [] O ?_
   refine A5 19 O (fun g3 => ?_) (fun g3 => ?_)
   ·(try simp only [sd, se] at g3)
    refine Ag Al 7 [] O ?_
    exact ⟨O, O, AH, pB Ab, Af⟩
   (try simp only [sd, se] at g3)
   refine Aq Al 3 [] O ?_
   refine A5 22 O (fun g4 => ?_) (fun g4 => ?_)
   ·(try simp only [sd, se] at g4)
    refine Ag Al 4 [] O ?_
    exact ⟨O, O, AH, pB Ab, Af⟩
   (try simp only [sd, se] at g4)
   refine Ag Al 4 [] O ?_
   exact ⟨O, O, AH, pB Ab, Af⟩
  (try simp only [sd, se] at g)
  refine Aq Al 15 [] O ?_
  refine A5 22 O (fun g1 => ?_) (fun g1 => ?_)
  ·(try simp only [sd, se] at g1)
   refine Ag Al 4 [] O ?_
   exact ⟨O, O, AH, pB Ab, Af⟩
  (try simp only [sd, se] at g1)
  refine Ag Al 4 [] O ?_
  exact ⟨O, O, AH, pB Ab, Af⟩
 rintro _ rfl
 refine Ak O (fun c => ?_) (fun c => ?_)
 ·(try simp only [sd, se] at c)
  refine Ah Al 1 [] O ?_
  refine Am ?_
  refine ⟨O, _, _, ⟨_, _, O, O, O⟩, (List.nil_sublist _), ?_⟩
  all_goals exact ⟨pI (by unfold below; first | (rw [if_pos (by simp only [Bool.or_eq_true, Bool.and_eq_true, beq_iff_eq]; omega)]) | (rw [if_neg (by simp only [Bool.or_eq_true, Bool.and_eq_true, beq_iff_eq]; omega)])), rfl⟩
 (try simp only [sd, se] at c)
 refine An ?_
 refine Ah Al 1 [] O ?_
 refine Am ?_
 refine ⟨O, _, _, ⟨_, _, O, O, O⟩, (List.nil_sublist _), ?_⟩
 all_goals exact ⟨pI (by unfold below; first | (rw [if_pos (by simp only [Bool.or_eq_true, Bool.and_eq_true, beq_iff_eq]; omega)]) | (rw [if_neg (by simp only [Bool.or_eq_true, Bool.and_eq_true, beq_iff_eq]; omega)])), rfl⟩
theorem UD:∀(l:CE) (a b:Int),(Ve l)→D1 Tryz.prog 137 [.agg ((B0 l).map .p),.p (I a),.p (I b)] (VY):=by
 intro l a b h1;have hl:=h1.vars;simp only[Ci] at hl;refine Ar Tryz.func137 O ZL (n:=61) O O (Ao (A6 O (BF O) fun b3=>Ag Al 1 [] O (Ai (Ao (Aj O (Bf (i:=0) ME O O (by simp[Ct])) (Aj O (A0 O O (Tb l h1) O) (Ag Al 1 [] O (Ak O (fun c=>?_) (fun c=>?_)))))))))
 ·(try simp only[sd,se] at c);refine Ah Al 1 [] O (Am (⟨O,_,_,⟨_,_,O,O,O⟩,(List.nil_sublist _),?_⟩))
  all_goals exact⟨⟨_,rfl⟩,rfl⟩
 (try simp only[sd,se] at c);refine An (Ai (Ah Al 1 [] O (Aw (BR (α:=Nat) (fun i=>⟨61,mk [(1,.p (I a)),(2,.p (I b)),(3,.ptr b3 0),(7,.p (I (i:Int)))],[.box b3 ((B0 l).map .p)],[]⟩) (fun i=>l.vars.length - i) (fun i=>i≤l.vars.length) 0 AM ?_ ?_))))
 ·exact BM ⟨we O,we O,we O,we O,Af⟩ (leH (is:=[0]) O (wl (oe O) (Cv)))
 rintro i hC
 try simp only at hC
 have hi:=hC;refine Ai (Ao (Aq Al 3 [0] O (Aj O (A8 DR O (List.length_map _)) (Ag Al 1 [] O (Ak O (fun c1=>?_) (fun c1=>?_))))))
 ·(try simp only[sd,se] at c1);refine An (Ai (Aw (Ai (BL [1,2,3,7] 35 Hr ?_ ?_))))
  ·refine Ap (Aq Al 3 [0] O ?_);obtain⟨x,hx⟩:=Av (l:=l.vars) (i:=i) Ad;refine Aj O (As DR O O Ad (DV hx) (O)) (Aq Al 4 [] O (A5 26 O (fun g=>?_) (fun g=>?_)))
   ·(try simp only[sd,se] at g);exact Aq Al 3 [0] O (BP O (As DR O O Ad (DV hx) (O)) (Ag Al 5 [] O (⟨O,O,AH,⟨_,O⟩,⟨O,O,O,O,Af⟩⟩)))
   (try simp only[sd,se] at g);exact Ag Al 9 [] O (⟨O,O,AH,⟨_,O⟩,⟨O,O,O,O,Af⟩⟩)
  rintro _ ⟨q,rfl⟩;refine Ak O (fun c2=>?_) (fun c2=>?_)
  ·(try simp only[sd,se] at c2);refine Ah Al 1 [] O (Am (⟨O,_,_,⟨_,_,O,O,O⟩,(List.nil_sublist _),?_⟩))
   all_goals exact⟨⟨_,rfl⟩,rfl⟩
  (try simp only[sd,se] at c2);refine An (Ap (Ag Al 3 [] O ?_));refine⟨(i+1),AN,by omega,BM ⟨we rfl,we rfl,we rfl,we rfl,trivial⟩ (leH (is:=[0]) rfl (wl (oe rfl) (Cv)))⟩
 (try simp only[sd,se] at c1);refine BQ (Ai (Ah Al 1 [] O (Aw (BR (α:=Nat) (fun i=>⟨61,mk [(2,.p (I b)),(3,.ptr b3 0),(8,.p (I (i:Int)))],[.box b3 [.p (I l.const),.p (.lst (List.map HK l.vars))]],[]⟩) (fun i=>l.vars.length - i) (fun i=>i≤l.vars.length) 0 AM ?_ ?_))))
 ·exact BM ⟨we O,we O,we O,Af⟩ (leH (is:=[0]) O (wl (oe O) (Cv)))
 rintro i hC1
 try simp only at hC1
 have hi:=hC1;refine Ai (Ao (Aq Al 3 [0] O (Aj O (A8 DR O (List.length_map _)) (Ag Al 1 [] O (Ak O (fun c2=>?_) (fun c2=>?_))))))
 ·(try simp only[sd,se] at c2);refine An (Ai (Aw (Ai (BL [2,3,8] 60 Hr ?_ ?_))))
  ·refine Ap (Aq Al 3 [0] O ?_);obtain⟨x,hx⟩:=Av (l:=l.vars) (i:=i) Ad;refine Aj O (As DR O O Ad (DV hx) (O)) (Aq Al 4 [] O (A5 50 O (fun g=>?_) (fun g=>?_)))
   ·(try simp only[sd,se] at g);exact Aq Al 3 [0] O (BP O (As DR O O Ad (DV hx) (O)) (Aq Al 2 [] O (BP O (FM O O) (Ag Al 3 [] O (⟨O,O,AH,⟨_,O⟩,⟨O,O,O,Af⟩⟩)))))
   (try simp only[sd,se] at g);exact Ag Al 10 [] O (⟨O,O,AH,⟨_,O⟩,⟨O,O,O,Af⟩⟩)
  rintro _ ⟨q,rfl⟩;refine Ak O (fun c3=>?_) (fun c3=>?_)
  ·(try simp only[sd,se] at c3);refine Ah Al 1 [] O (Am (⟨O,_,_,⟨_,_,O,O,O⟩,(List.nil_sublist _),?_⟩))
   all_goals exact⟨⟨_,rfl⟩,rfl⟩
  (try simp only[sd,se] at c3);refine An (Ap (Ag Al 3 [] O ?_));refine⟨(i+1),AN,by omega,BM ⟨we rfl,we rfl,we rfl,trivial⟩ (leH (is:=[0]) rfl (wl (oe rfl) (Cv)))⟩
 (try simp only[sd,se] at c2);refine BQ (Ah Al 1 [] O (Am (⟨O,_,_,⟨_,_,O,O,O⟩,(List.nil_sublist _),?_⟩)))
 all_goals exact⟨⟨_,rfl⟩,rfl⟩
theorem W6:∀(t:Tm),D1 Tryz.prog 135 [.agg ((BA t).map .p)] (fun v=>∃bb:Bool,v= .p (.bool bb)∧(bb=true→O3 t∧Vf t)):=by
 intro t;obtain⟨tk,ti,tn,tl,ts⟩:=t;refine Ar Tryz.func135 O YC (n:=57) O O (Ao (A6 O (BF O) fun b1=>Ag Al 1 [] O (Ai (Ai (BL [1] 19 (fun y=>y= .p (.bool (decide (tk<0)||decide (tk≥13)||(ts.length:Int) !=arity tk))) ?_ ?_)))))
 ·refine Bt (fun k=>false) EY (BE Al 4 [0] O (Dt 6 O (fun g=>?_) (fun g=>?_)))
  ·(try simp only[sd,se] at g);exact Bl Al 13 [] O (⟨O,O,AH,(by refine pB ?_;first | (simp_all;done) | (rw[decide_eq_false (by omega:¬tk<0),decide_eq_false (by omega:¬tk≥13)];simp[A2];done)),⟨O,Af⟩⟩)
  (try simp only[sd,se] at g);refine BE Al 5 [0] O (Dt 11 O (fun g1=>?_) (fun g1=>?_))
  ·(try simp only[sd,se] at g1);exact Bl Al 8 [] O (⟨O,O,AH,(by refine pB ?_;first | (simp_all;done) | (rw[decide_eq_false (by omega:¬tk<0),decide_eq_false (by omega:¬tk≥13)];simp[A2];done)),⟨O,Af⟩⟩)
  (try simp only[sd,se] at g1);exact BE Al 2 [0] O (Bj O (fun _=>A8 BI O (A2 _)) Af (BE Al 2 [0] O (Bj O (fun _=>A0 O O (W8 tk) O) Af (Bl Al 2 [] O (⟨O,O,AH,(by refine pB ?_;first | (simp_all;done) | (rw[decide_eq_false (by omega:¬tk<0),decide_eq_false (by omega:¬tk≥13)];simp[A2];done)),⟨O,Af⟩⟩)))))
 rintro _ rfl;refine Ak O (fun c=>?_) (fun c=>?_)
 ·(try simp only[sd,se] at c);refine Ah Al 1 [] O (Am (⟨O,_,_,⟨_,_,O,O,O⟩,(List.nil_sublist _),?_⟩))
  all_goals exact⟨⟨_,rfl,by first | exact fun h=>absurd h Ac | exact fun h=>⟨hf,hi,hn,by simp only[beq_iff_eq,decide_eq_true_eq] at *;intro _;omega,by simp only[beq_iff_eq,decide_eq_true_eq] at *;intro _ _;omega⟩⟩,rfl⟩
 (try simp only[sd,se] at c);have hf:O3 (.mk tk ti tn tl ts):=by simp only[O3];omega
 refine An (Ai (Ai (BL [1] 32 (fun y=>∃b:Bool,y= .p (.bool b)∧(b=false→ti≠0→tk=0∨tk=12)) ?_ ?_)))
 ·refine Ap (Aq Al 4 [0] O (A5 23 O (fun g=>?_) (fun g=>?_)))
  ·(try simp only[sd,se] at g);refine Aq Al 5 [0] O (A5 28 O (fun g1=>?_) (fun g1=>?_))
   ·(try simp only[sd,se] at g1);exact Ag Al 4 [0] O (⟨O,O,AH,(by refine⟨_,rfl,fun h=>?_⟩;first | omega | (simp_all;done) | (simp_all;omega)),⟨O,Af⟩⟩)
   (try simp only[sd,se] at g1);exact Ag Al 4 [] O (⟨O,O,AH,(by refine⟨_,rfl,fun h=>?_⟩;first | omega | (simp_all;done) | (simp_all;omega)),⟨O,Af⟩⟩)
  (try simp only[sd,se] at g);exact Ag Al 9 [] O (⟨O,O,AH,(by refine⟨_,rfl,fun h=>?_⟩;first | omega | (simp_all;done) | (simp_all;omega)),⟨O,Af⟩⟩)
 rintro _ ⟨q1,rfl,hq1⟩;refine Ak O (fun c1=>?_) (fun c1=>?_)
 ·(try simp only[sd,se] at c1);refine Ah Al 1 [] O (Am (⟨O,_,_,⟨_,_,O,O,O⟩,(List.nil_sublist _),?_⟩))
  all_goals exact⟨⟨_,rfl,by first | exact fun h=>absurd h Ac | exact fun h=>⟨hf,hi,hn,by simp only[beq_iff_eq,decide_eq_true_eq] at *;intro _;omega,by simp only[beq_iff_eq,decide_eq_true_eq] at *;intro _ _;omega⟩⟩,rfl⟩
 (try simp only[sd,se] at c1);have hi:=hq1 (by simpa using c1);refine An (Ai (Ai (BL [1] 40 (fun y=>∃b:Bool,y= .p (.bool b)∧(b=false→tn≠⟨#[]⟩→tk=3)) ?_ ?_)))
 ·refine Ap (Aq Al 2 [0] O (Aj O (Ij O O) (Ba O (A5 36 O (fun g=>?_) (fun g=>?_)))))
  ·(try simp only[sd,se] at g);exact Ag Al 4 [0] O (⟨O,O,AH,(by refine⟨_,rfl,fun h hne=>?_⟩;first | exact absurd (Hj g) hne | (simp only[bne_eq_false_iff_eq] at h;exact h)),⟨O,Af⟩⟩)
  (try simp only[sd,se] at g);exact Ag Al 4 [] O (⟨O,O,AH,(by refine⟨_,rfl,fun h hne=>?_⟩;first | exact absurd (Hj g) hne | (simp only[bne_eq_false_iff_eq] at h;exact h)),⟨O,Af⟩⟩)
 rintro _ ⟨q2,rfl,hq2⟩;refine Ak O (fun c2=>?_) (fun c2=>?_)
 ·(try simp only[sd,se] at c2);refine Ah Al 1 [] O (Am (⟨O,_,_,⟨_,_,O,O,O⟩,(List.nil_sublist _),?_⟩))
  all_goals exact⟨⟨_,rfl,by first | exact fun h=>absurd h Ac | exact fun h=>⟨hf,hi,hn,by simp only[beq_iff_eq,decide_eq_true_eq] at *;intro _;omega,by simp only[beq_iff_eq,decide_eq_true_eq] at *;intro _ _;omega⟩⟩,rfl⟩
 (try simp only[sd,se] at c2);have hn:=hq2 (by simpa using c2);refine An (Ai (Ah Al 3 [0] O (Ak O (fun c3=>?_) (fun c3=>?_))))
 ·(try simp only[sd,se] at c3);refine Ao (Aq Al 2 [0] O (Aj O (A8 Ee O (List.length_map _)) (Ag Al 2 [] O (Am (⟨O,_,_,⟨_,_,O,O,O⟩,(List.nil_sublist _),?_⟩)))))
  all_goals exact⟨⟨_,rfl,by first | exact fun h=>absurd h Ac | exact fun h=>⟨hf,hi,hn,by simp only[beq_iff_eq,decide_eq_true_eq] at *;intro _;omega,by simp only[beq_iff_eq,decide_eq_true_eq] at *;intro _ _;omega⟩⟩,rfl⟩
 (try simp only[sd,se] at c3);refine An (Ao (Aq Al 2 [0] O (Aj O (A8 Ee O (List.length_map _)) (Aq Al 2 [] O (A5 52 O (fun g=>?_) (fun g=>?_))))))
 ·(try simp only[sd,se] at g);refine Ag Al 5 [] O (Am (⟨O,_,_,⟨_,_,O,O,O⟩,(List.nil_sublist _),?_⟩))
  all_goals exact⟨⟨_,rfl,by first | exact fun h=>absurd h Ac | exact fun h=>⟨hf,hi,hn,by simp only[beq_iff_eq,decide_eq_true_eq] at *;intro _;omega,by simp only[beq_iff_eq,decide_eq_true_eq] at *;intro _ _;omega⟩⟩,rfl⟩
 (try simp only[sd,se] at g);refine Ag Al 5 [0] O (Am (⟨O,_,_,⟨_,_,O,O,O⟩,(List.nil_sublist _),?_⟩))
 all_goals exact⟨⟨_,rfl,by first | exact fun h=>absurd h Ac | exact fun h=>⟨hf,hi,hn,by simp only[beq_iff_eq,decide_eq_true_eq] at *;intro _;omega,by simp only[beq_iff_eq,decide_eq_true_eq] at *;intro _ _;omega⟩⟩,rfl⟩
theorem _root_.Go.AB {α:Prop}(h:α:=by repeat' first | exact trivial | refine And.intro ?_ ?_ | ((refine Or.inr (And.intro ?_ ?_)<;>repeat (first | exact List.Mem.head _ | apply List.Mem.tail));done) | exact Or.inl (by kernel_rfl)):α:=h
theorem _root_.Go.Aa {α:Prop}(h:α:=by assumption):α:=h
theorem Uu:∀(n:Nat) (t:Tm) (d vars params metas levels:Int),(size t≤n)→(Nd t)→(0≤d)→(d+n<Ci)→D1 Tryz.prog 102 [.agg ((BA t).map .p),.p (I d),.p (I vars),.p (I params),.p (I metas),.p (I levels)] (fun v=>∃ee:Int,v= .p (I ee)∧(ee=0→wf vars metas d t∧Cw t)):=by
 intro n
 induction n with
 | zero=>intro t d vars params metas levels h;cases t;simp[size] at h
 | succ n ih =>
  intro t d vars params metas levels h1 h2 h3 h4;simp only[Ci] at h4;obtain⟨tk,ti,tn,tl,ts⟩:=t;simp only[size] at h1;simp only[Nd,HD,Ci] at h2;have hks:=DQ ts;refine Ar Tryz.func102 O Yg (n:=107) O O (Ao (A6 O (BF O) fun b6=>Ag Al 1 [] O (Ai (Ao (Aj O (Bf (i:=0) Be O O O) (DB O O (Bo O O (W6 (.mk tk ti tn tl ts:Tm)) (.inl O)) ?_))))));rintro _ ⟨q,rfl,hq⟩;refine Ag Al 1 [] O (Ak O (fun c=>?_) (fun c=>?_))
  ·(try simp only[sd,se] at c);refine Ah Al 1 [] O (Am (⟨O,_,_,⟨_,_,O,O,O⟩,(List.nil_sublist _),?_⟩))
   all_goals exact⟨⟨_,rfl,by first | exact fun h=>absurd h Ac | exact fun h=>absurd h Aa | exact fun _=>⟨⟨hf.1,hf.2.1,hf.2.2,hv1,hv2,Fp fun j x hx=>by have h9:=(hC j (by have:=(List.getElem?_eq_some_iff.1 hx).1;omega) x hx).1;simpa using h9⟩,hcn,Ff fun x hx=>by obtain⟨j,hj⟩:=List.mem_iff_getElem?.1 hx;exact(hC j (by have:=(List.getElem?_eq_some_iff.1 hj).1;omega) x hj).2⟩⟩,rfl⟩
  (try simp only[sd,se] at c);obtain⟨hf,hcn⟩:=hq (by simpa using c);refine An (Ai (Ai (BL [1,2,3,4,5,6] 28 Hr ?_ ?_)))
  ·refine Ap (Aq Al 4 [0] O (A5 23 O (fun g=>?_) (fun g=>?_)))
   ·(try simp only[sd,se] at g);refine Aq Al 2 [0] O (Fa O O O O (Bo O O (Ws tn h2.1) (.inl O)) ?_);rintro _ ⟨q1,rfl⟩;exact Ag Al 2 [] O (⟨O,O,AH,⟨_,O⟩,⟨O,O,O,O,O,O,Af⟩⟩)
   (try simp only[sd,se] at g);exact Ag Al 5 [] O (⟨O,O,AH,⟨_,O⟩,⟨O,O,O,O,O,O,Af⟩⟩)
  rintro _ ⟨q1,rfl⟩;refine Ak O (fun c1=>?_) (fun c1=>?_)
  ·(try simp only[sd,se] at c1);refine Ah Al 1 [] O (Am (⟨O,_,_,⟨_,_,O,O,O⟩,(List.nil_sublist _),?_⟩))
   all_goals exact⟨⟨_,rfl,by first | exact fun h=>absurd h Ac | exact fun h=>absurd h Aa | exact fun _=>⟨⟨hf.1,hf.2.1,hf.2.2,hv1,hv2,Fp fun j x hx=>by have h9:=(hC j (by have:=(List.getElem?_eq_some_iff.1 hx).1;omega) x hx).1;simpa using h9⟩,hcn,Ff fun x hx=>by obtain⟨j,hj⟩:=List.mem_iff_getElem?.1 hx;exact(hC j (by have:=(List.getElem?_eq_some_iff.1 hj).1;omega) x hj).2⟩⟩,rfl⟩
  (try simp only[sd,se] at c1);refine An (Ai (Ao (Aq Al 2 [0] O (Aj O (A8 Ee O (List.length_map _)) (Ag Al 1 [] O (Ak O (fun c2=>?_) (fun c2=>?_)))))))
  ·(try simp only[sd,se] at c2);refine Ah Al 1 [] O (Am (⟨O,_,_,⟨_,_,O,O,O⟩,(List.nil_sublist _),?_⟩))
   all_goals exact⟨⟨_,rfl,by first | exact fun h=>absurd h Ac | exact fun h=>absurd h Aa | exact fun _=>⟨⟨hf.1,hf.2.1,hf.2.2,hv1,hv2,Fp fun j x hx=>by have h9:=(hC j (by have:=(List.getElem?_eq_some_iff.1 hx).1;omega) x hx).1;simpa using h9⟩,hcn,Ff fun x hx=>by obtain⟨j,hj⟩:=List.mem_iff_getElem?.1 hx;exact(hC j (by have:=(List.getElem?_eq_some_iff.1 hj).1;omega) x hj).2⟩⟩,rfl⟩
  (try simp only[sd,se] at c2);refine An (Ai (Ah Al 1 [] O (Aw (BR (α:=Nat) (fun i=>⟨107,mk [(1,.p (I d)),(2,.p (I vars)),(3,.p (I params)),(4,.p (I metas)),(5,.p (I levels)),(6,.ptr b6 0),(13,.p (I (i:Int)))],[.box b6 [.p (I tk),.p (I ti),.p (.str tn),.p (.lst (List.map B0 tl)),.p (.lst (A1 ts))]],[]⟩) (fun i=>tl.length - i) (fun i=>i≤tl.length) 0 AM ?_ ?_))))
  ·exact BM ⟨we O,we O,we O,we O,we O,we O,we O,Af⟩ (leH (is:=[0]) O (wl (oe O) (Cv)))
  rintro i hC
  try simp only at hC
  have hi:=hC;refine Ai (Ao (Aq Al 3 [0] O (Aj O (A8 Ee O (List.length_map _)) (Ag Al 1 [] O (Ak O (fun c3=>?_) (fun c3=>?_))))))
  ·(try simp only[sd,se] at c3);refine An (Ai (Aw (Ao (Aq Al 3 [0] O ?_))));obtain⟨x,hx⟩:=Av (l:=tl) (i:=i) Ad;refine Aj O (As Ee O O Ad (Ek hx) (Ct _)) (Aq Al 3 [] O (DB O O (Bo O O (UD x params levels (h2.2.2.1 _ (List.mem_of_getElem? hx))) (.inl O)) ?_));rintro _ ⟨le,rfl⟩;refine Ag Al 1 [] O (Ah Al 2 [] O (Ak O (fun c4=>?_) (fun c4=>?_)))
   ·(try simp only[sd,se] at c4);refine Ah Al 2 [] O (Am (⟨O,_,_,⟨_,_,O,O,O⟩,(List.nil_sublist _),?_⟩))
    all_goals exact⟨⟨_,rfl,by first | exact fun h=>absurd h Ac | exact fun h=>absurd h Aa | exact fun _=>⟨⟨hf.1,hf.2.1,hf.2.2,hv1,hv2,Fp fun j x hx=>by have h9:=(hC j (by have:=(List.getElem?_eq_some_iff.1 hx).1;omega) x hx).1;simpa using h9⟩,hcn,Ff fun x hx=>by obtain⟨j,hj⟩:=List.mem_iff_getElem?.1 hx;exact(hC j (by have:=(List.getElem?_eq_some_iff.1 hj).1;omega) x hj).2⟩⟩,rfl⟩
   (try simp only[sd,se] at c4);refine An (Ap (Ag Al 3 [] O ?_));refine⟨(i+1),AN,by omega,BM ⟨we rfl,we rfl,we rfl,we rfl,we rfl,we rfl,we rfl,trivial⟩ (leH (is:=[0]) rfl (wl (oe rfl) (Cv)))⟩
  (try simp only[sd,se] at c3);refine BQ (Ai (Ai (BL [1,2,3,4,5,6] 66 (fun y=>∃b:Bool,y= .p (.bool b)∧(b=false→tk=0→0≤ti∧ti - d<vars)) ?_ ?_)))
  ·refine Ap (Aq Al 4 [0] O (A5 54 O (fun g=>?_) (fun g=>?_)))
   ·(try simp only[sd,se] at g);refine Aq Al 4 [0] O (A5 58 O (fun g1=>?_) (fun g1=>?_))
    ·(try simp only[sd,se] at g1);refine Ag Al 8 [] O ?_;exact⟨rfl,rfl,AH,(by refine⟨_,rfl,fun h=>?_⟩;first | (simp_all;done) | (simp_all<;>omega)),⟨rfl,rfl,rfl,rfl,rfl,rfl,trivial⟩⟩
    (try simp only[sd,se] at g1);refine Ag Al 8 [0] O ?_;exact⟨rfl,rfl,AH,(by refine⟨_,rfl,fun h=>?_⟩;first | (simp_all;done) | (simp_all<;>omega)),⟨rfl,rfl,rfl,rfl,rfl,rfl,trivial⟩⟩
   (try simp only[sd,se] at g);refine Ag Al 12 [] O ?_;exact⟨rfl,rfl,AH,(by refine⟨_,rfl,fun h=>?_⟩;first | (simp_all;done) | (simp_all<;>omega)),⟨rfl,rfl,rfl,rfl,rfl,rfl,trivial⟩⟩
  rintro _ ⟨r,rfl,hr⟩;refine Ak O (fun c4=>?_) (fun c4=>?_)
  ·(try simp only[sd,se] at c4);refine Ah Al 1 [] O (Am (⟨O,_,_,⟨_,_,O,O,O⟩,(List.nil_sublist _),?_⟩))
   all_goals exact⟨⟨_,rfl,by first | exact fun h=>absurd h Ac | exact fun h=>absurd h Aa | exact fun _=>⟨⟨hf.1,hf.2.1,hf.2.2,hv1,hv2,Fp fun j x hx=>by have h9:=(hC j (by have:=(List.getElem?_eq_some_iff.1 hx).1;omega) x hx).1;simpa using h9⟩,hcn,Ff fun x hx=>by obtain⟨j,hj⟩:=List.mem_iff_getElem?.1 hx;exact(hC j (by have:=(List.getElem?_eq_some_iff.1 hj).1;omega) x hj).2⟩⟩,rfl⟩
  (try simp only[sd,se] at c4);have hv1:=hr (by simpa using c4);refine An (Ai (Ai (BL [1,2,3,4,5,6] 80 (fun y=>∃b:Bool,y= .p (.bool b)∧(b=false→tk=12→0≤ti∧ti<metas)) ?_ ?_)))
  ·refine Ap (Aq Al 4 [0] O (A5 70 O (fun g=>?_) (fun g=>?_)))
   ·(try simp only[sd,se] at g);refine Aq Al 4 [0] O (A5 74 O (fun g1=>?_) (fun g1=>?_))
    ·(try simp only[sd,se] at g1);refine Ag Al 6 [] O ?_;exact⟨rfl,rfl,AH,(by refine⟨_,rfl,fun h=>?_⟩;first | (simp_all;done) | (simp_all<;>omega)),⟨rfl,rfl,rfl,rfl,rfl,rfl,trivial⟩⟩
    (try simp only[sd,se] at g1);refine Ag Al 6 [0] O ?_;exact⟨rfl,rfl,AH,(by refine⟨_,rfl,fun h=>?_⟩;first | (simp_all;done) | (simp_all<;>omega)),⟨rfl,rfl,rfl,rfl,rfl,rfl,trivial⟩⟩
   (try simp only[sd,se] at g);refine Ag Al 10 [] O ?_;exact⟨rfl,rfl,AH,(by refine⟨_,rfl,fun h=>?_⟩;first | (simp_all;done) | (simp_all<;>omega)),⟨rfl,rfl,rfl,rfl,rfl,rfl,trivial⟩⟩
  rintro _ ⟨r2,rfl,hr2⟩;refine Ak O (fun c5=>?_) (fun c5=>?_)
  ·(try simp only[sd,se] at c5);refine Ah Al 1 [] O (Am (⟨O,_,_,⟨_,_,O,O,O⟩,(List.nil_sublist _),?_⟩))
   all_goals exact⟨⟨_,rfl,by first | exact fun h=>absurd h Ac | exact fun h=>absurd h Aa | exact fun _=>⟨⟨hf.1,hf.2.1,hf.2.2,hv1,hv2,Fp fun j x hx=>by have h9:=(hC j (by have:=(List.getElem?_eq_some_iff.1 hx).1;omega) x hx).1;simpa using h9⟩,hcn,Ff fun x hx=>by obtain⟨j,hj⟩:=List.mem_iff_getElem?.1 hx;exact(hC j (by have:=(List.getElem?_eq_some_iff.1 hj).1;omega) x hj).2⟩⟩,rfl⟩
  (try simp only[sd,se] at c5);have hv2:=hr2 (by simpa using c5);refine An (Ai (Ah Al 1 [] O (Aw ?_)));refine BR (α:=Nat) (fun i=>⟨107,mk [(1,.p (I d)),(2,.p (I vars)),(3,.p (I params)),(4,.p (I metas)),(5,.p (I levels)),(6,.ptr b6 0),(15,.p (I (i:Int)))],[.box b6 [.p (I tk),.p (I ti),.p (.str tn),.p (.lst (List.map B0 tl)),.p (.lst (A1 ts))]],[]⟩) (fun i=>ts.length - i) (fun i=>i≤ts.length∧(∀j,j<i→∀x,ts[j]?=some x→wf vars metas (d+below tk j) x∧Cw x)) 0 (⟨by omega,fun j h=>by omega⟩) ?_ ?_
  ·exact BM ⟨we O,we O,we O,we O,we O,we O,we O,Af⟩ (leH (is:=[0]) O (wl (oe O) (Cv)))
  rintro i hC1
  try simp only at hC1
  obtain⟨hi,hC⟩:=hC1;have hbl:=Bp tk i;refine Ai (Ao (Aq Al 3 [0] O (Aj O (A8 BI O (A2 _)) (Ag Al 1 [] O (Ak O (fun c6=>?_) (fun c6=>?_))))))
  ·(try simp only[sd,se] at c6);refine An (Ai (Aw (Ai (Bt (fun k=>Nat.beq k 15) EY (BE Al 3 [0] O ?_)))));obtain⟨x,hx⟩:=Av (l:=ts) (i:=i) Ad;refine A7 O (fun _=>As BI O O Ad (BB hx) (Ay _)) Af (BE Al 5 [0] O (A7 O (fun _=>A0 O O (Jo tk (i:Int)) O) Af (BE Al 5 [] O (On [] O O (Bo O O (ih x ((d:Int)+(below tk (i:Int):Int)) vars params metas levels (by have:=Bg hx;omega) (B2 h2.2.2.2.2.1 hx) (by have:=Bp tk i;omega) (by have:=Bp tk i;simp only[Ci];omega)) (.inl O)) AZ (⟨_,1,O,fun h=>absurd h Ac⟩) AB ?_))));rintro _ ⟨e,rfl,he⟩;refine⟨Af,?_⟩;refine Bl Al 1 [] O (Ah Al 2 [] O (Ak O (fun c7=>?_) (fun c7=>?_)))
   ·(try simp only[sd,se] at c7);refine Ah Al 2 [] O (Am (⟨O,_,_,⟨_,_,O,O,O⟩,(List.nil_sublist _),?_⟩))
    all_goals exact⟨⟨_,rfl,by first | exact fun h=>absurd h Ac | exact fun h=>absurd h Aa | exact fun _=>⟨⟨hf.1,hf.2.1,hf.2.2,hv1,hv2,Fp fun j x hx=>by have h9:=(hC j (by have:=(List.getElem?_eq_some_iff.1 hx).1;omega) x hx).1;simpa using h9⟩,hcn,Ff fun x hx=>by obtain⟨j,hj⟩:=List.mem_iff_getElem?.1 hx;exact(hC j (by have:=(List.getElem?_eq_some_iff.1 hj).1;omega) x hj).2⟩⟩,rfl⟩
   (try simp only[sd,se] at c7);refine An (Ap (Ag Al 3 [] O (⟨(i+1),AN,⟨by omega,Dk hC hx (he Ad)⟩,BM ⟨we rfl,we rfl,we rfl,we rfl,we rfl,we rfl,we rfl,trivial⟩ (leH (is:=[0]) rfl (wl (oe rfl) (Cv)))⟩)))
  (try simp only[sd,se] at c6);refine BQ (Ah Al 1 [] O (Am (⟨O,_,_,⟨_,_,O,O,O⟩,(List.nil_sublist _),?_⟩)))
  all_goals exact⟨⟨_,rfl,by first | exact fun h=>absurd h Ac | exact fun h=>absurd h Aa | exact fun _=>⟨⟨hf.1,hf.2.1,hf.2.2,hv1,hv2,Fp fun j x hx=>by have h9:=(hC j (by have:=(List.getElem?_eq_some_iff.1 hx).1;omega) x hx).1;simpa using h9⟩,hcn,Ff fun x hx=>by obtain⟨j,hj⟩:=List.mem_iff_getElem?.1 hx;exact(hC j (by have:=(List.getElem?_eq_some_iff.1 hj).1;omega) x hj).2⟩⟩,rfl⟩
theorem S7:∀(b:Nat) (er nd e:Int),BK Tryz.prog 97 [.ptr b 0,.p (I e)] [.box b [.p (I er),.p (I nd)]] (GV (.tup []) [.box b [.p (I (Ew er e)),.p (I nd)]]):=by
 intro b er nd e;refine Ar Tryz.func97 O aD (n:=13) O O (Ah Al 5 [0] O (Ak O (fun c=>?_) (fun c=>?_)))
 ·(try simp only[sd,se] at c);refine Ap (Ag Al 5 [0,0] O ⟨O,_,_,O,(Ca (is:=[0]) O),?_⟩);refine⟨O,?_⟩;show ([.box b [.p (I e),.p (I nd)]]:List Au)=_;simp[Ew,c]
 (try simp only[sd,se] at c);refine An ⟨O,_,_,O,(Ca (is:=[0]) O),?_⟩;refine⟨O,?_⟩;show ([.box b [.p (I er),.p (I nd)]]:List Au)=_;simp[Ew,c]
theorem Oe:∀(b:Nat) (er nd i:Int),BK Tryz.prog 98 [.ptr b 0,.p (I i)] [.box b [.p (I er),.p (I nd)]] (GV (.agg ((BA (Bm i)).map .p)) [.box b [.p (I (K2 er i)),.p (I nd)]]):=by
 intro b er nd i;refine Ar Tryz.func98 O cr (n:=11) O O (Ao (A6 O (Ax Bh O) fun b4=>Bb O (Ai (Ah Al 2 [] O (Ak O (fun c=>?_) (fun c=>?_))))))
 ·(try simp only[sd,se] at c);refine Ap (Ba O (Aj O (CI [1] O (.inl ⟨O,O,O⟩) (S7 b er nd 24) ⟨_,_,O,O,O⟩ Ac O (.inl O)) (Bb O (Ah Al 3 [0,0] O (BO (By (i:=0) O) (Am (⟨O,_,_,⟨_,_,O,(BD (i:=0) Be O O O),O⟩,(Ca (is:=[1]) O),?_⟩)))))));refine⟨O,?_⟩;show ([.box b [.p (I (Ew er 24)),.p (I nd)]]:List Au)=_;simp[K2,show i > 65535 by omega]
 (try simp only[sd,se] at c);refine An (Ah Al 3 [0,0] O (BO (By (i:=0) O) (Am (⟨O,_,_,⟨_,_,O,(BD (i:=0) Be O O O),O⟩,(Ca (is:=[1]) O),?_⟩))));refine⟨O,?_⟩;show ([.box b [.p (I er),.p (I nd)]]:List Au)=_;simp[K2,show ¬i > 65535 by omega]
theorem _root_.Go.AD {α:Prop}(h:α:=by simp only[A2,List.length_map,List.length_cons,List.length_nil,List.nil_append,List.length_append];omega):α:=h
theorem _root_.Go.AW {α:Prop}(h:α:=by simp[Ay]):α:=h
theorem U0:∀(n:Nat) (t:Tm) (b:Nat) (by' fr d er nd:Int),(size t≤n)→(Nd t)→(0≤d)→(d+n<2 ^ 62)→BK Tryz.prog 49 [.ptr b 0,.agg ((BA t).map .p),.p (I by'),.p (I fr),.p (I d)] [.box b [.p (I er),.p (I nd)]] (GV (.agg ((BA ((Bk by' fr d er t).1)).map .p)) [.box b [.p (I ((Bk by' fr d er t).2)),.p (I nd)]]):=by
 intro n
 induction n with
 | zero=>intro t b by' fr d er nd h;cases t;simp[size] at h
 | succ n ih =>
  intro t b by' fr d er nd h1 h2 h3 h4
  obtain⟨tk,ti,tn,tl,ts⟩:=t;simp only[size] at h1;simp only[Nd,Ci] at h2;refine Ar Tryz.func49 O aI (n:=68) O O (Ao (A6 O (BF O) fun b6=>A6 O (Ax Bh O) fun b10=>Bb O (Ai (Ah Al 3 [1] O (Ak O (fun c=>?_) (fun c=>?_))))))
  ·(try simp only[sd,se] at c);refine Ai (Ao (Aq Al 4 [1] O (Aj O (DU O O) (Ag Al 1 [] O (Ak O (fun c1=>?_) (fun c1=>?_))))))
   ·(try simp only[sd,se] at c1);refine Ah Al 2 [1,0,0] O (Am (⟨O,_,_,⟨_,_,O,(BD (i:=0) Be O O O),O⟩,(Ca (is:=[2]) O),?_⟩));refine⟨by show (.agg [.p (I tk),.p (I ti),.p (.str tn),.p (.lst (List.map B0 tl)),.p (.lst (A1 ts))]:AV)=_;rw[Bk,if_pos c,if_pos c1];rfl,?_⟩;show ([.box b [.p (I er),.p (I nd)]]:List Au)=_;rw[Bk,if_pos c,if_pos c1]
   (try simp only[sd,se] at c1);refine An (Ai (Ao (Aq Al 3 [1] O (Aj O (DU O O) (Aq Al 2 [] O (Aj O (DU O O) (Ag Al 1 [] O (Ak O (fun c2=>?_) (fun c2=>?_)))))))))
   ·(try simp only[sd,se] at c2);refine Ao (Ba O (Aj O (CI [2] O (.inl ⟨O,O,O⟩) (S7 b er nd 24) ⟨_,_,O,O,O⟩ Ac O (.inl O)) (Bb O (Ah Al 2 [1,0,0] O (Am (⟨O,_,_,⟨_,_,O,(BD (i:=0) Be O O O),O⟩,(Ca (is:=[2]) O),?_⟩))))));refine⟨by show (.agg [.p (I tk),.p (I ti),.p (.str tn),.p (.lst (List.map B0 tl)),.p (.lst (A1 ts))]:AV)=_;rw[Bk,if_pos c,if_neg Ad,if_pos c2];rfl,?_⟩;show ([.box b [.p (I (Ew er 24)),.p (I nd)]]:List Au)=_;rw[Bk,if_pos c,if_neg Ad,if_pos c2]
   (try simp only[sd,se] at c2);refine An (Ao (Aq Al 4 [1] O (Aj O (DU O O) (Aj O (CI [2] O (.inl ⟨O,O,O⟩) (Oe b er nd (wr ((ti:Int)+(by':Int)))) ⟨_,_,rfl,rfl,rfl⟩ Ac rfl (.inl rfl)) (Ag Al 1 [0,1] O (Am (⟨O,_,_,⟨_,_,O,(BD (i:=0) Be O O AW),O⟩,(Ca (is:=[2]) O),?_⟩)))))));refine⟨by show (.agg ((BA (Bm (wr ((ti:Int)+(by':Int))))).map .p):AV)=_;rw[Bk,if_pos c,if_neg Ad,if_neg Ad],?_⟩;show ([.box b [.p (I (K2 er (wr ((ti:Int)+(by':Int))))),.p (I nd)]]:List Au)=_;rw[Bk,if_pos c,if_neg Ad,if_neg Ad]
  (try simp only[sd,se] at c);refine An (Ah Al 1 [] O (Ai (Ah Al 1 [] O (Aw (BO (FV (t:=11) (sz:=5) O) (BR (α:=Nat×List Tm×Int×Option Nat×Nat) (fun(i,ys,e,o,cp)=>⟨68,mk [(0,.ptr b 0),(2,.p (I by')),(3,.p (I fr)),(4,.p (I d)),(6,.ptr b6 0),(10,.ptr b10 0),(11,.vs o (A1 ys).length cp),(12,.p (I (i:Int)))],[.vec o 5 (A1 ys) cp,.box b10 [.p (I 0),.p (I 0),.p (.str ⟨#[]⟩),.p (.nils),.p (.nils)],.box b6 [.p (I tk),.p (I ti),.p (.str tn),.p (.lst (List.map B0 tl)),.p (.lst (A1 ts))],.box b [.p (I e),.p (I nd)]],[]⟩) (fun(i,ys,e,o,cp)=>ts.length - i) (fun(i,ys,e,o,cp)=>i≤ts.length∧(ys.length=i∧(ys++(Bw by' fr tk d i e (ts.drop i)).1,(Bw by' fr tk d i e (ts.drop i)).2)=Bw by' fr tk d 0 er ts)) ⟨0,[],er,none,0⟩ Ae ?_ ?_))))))
  ·exact BM ⟨we O,we O,we O,we O,we O,we O,we O,we O,Af⟩ (leH (is:=[0,1,2,3]) O (wl (oe O) (wl (oe O) (wl (oe O) (wl (oe O) (Cv))))))
  rintro⟨i,ys,e,o,cp⟩ hC
  try simp only at hC
  obtain⟨hi,hl,hC⟩:=hC;refine Ai (Ao (Aq Al 3 [2] O (Aj O (A8 BI O (A2 _)) (Ag Al 1 [] O (Ak O (fun c1=>?_) (fun c1=>?_))))))
  ·(try simp only[sd,se] at c1);refine An (Ai (Aw (Bt (fun k=>Nat.beq k 17) EY (BE Al 5 [2] O ?_))));obtain⟨x,hx⟩:=Av (l:=ts) (i:=i) Ad;refine A7 O (fun _=>As BI O O Ad (BB hx) (Ay _)) Af (BE Al 7 [2] O (A7 O (fun _=>A0 O O (Jo tk (i:Int)) O) Af (A7 O (fun _=>Gh O O (by have:=Bp tk i;omega) (by have:=Bp tk i;omega)) Af (HF O O (CI [3] O (.inl ⟨O,O,O⟩) (ih x b by' fr ((d:Int)+(below tk (i:Int):Int)) e nd (by have:=Bg hx;omega) (B2 h2.2.2.2.2.1 hx) (by have:=Bp tk i;omega) (by have:=Bp tk i;omega)) ⟨_,_,rfl,rfl,rfl⟩ Ac rfl (.inl rfl)) AB trivial ?_))));generalize hz:(Bk by' fr ((d:Int)+(below tk (i:Int):Int)) e x).1=z;obtain⟨zk,zi,zn,zl,zs⟩:=z;refine A7 O (fun _=>Bi BI Bh O O O O O) Af (O8 [] O O (CZ (i:=0) (rows':=A1 [(.mk zk zi zn zl zs:Tm)]) BI BI Bh O O O O O O (Bu _) AD (Ni ys [(.mk zk zi zn zl zs:Tm)])) AZ fun o1 cp1=>⟨AB,Af,?_⟩);refine Bl Al 1 [] O (Ap (Ag Al 3 [] O ?_));refine⟨⟨i+1,ys++[(Bk by' fr (d+below tk i) e x).1],(Bk by' fr (d+below tk i) e x).2,o1,cp1⟩,AN,⟨by omega,⟨by simp[hl],by rw[←hC,B3 hx];simp[Bw]⟩⟩,BM ⟨we rfl,we rfl,we rfl,we rfl,we rfl,we rfl,we (M9 (ys++[(.mk zk zi zn zl zs:Tm)]) (by rw[hz])),we rfl,trivial⟩ (leH (is:=[0,1,2,3]) rfl (wl (HB (ys++[(.mk zk zi zn zl zs:Tm)]) (by rw[hz])) (wl (oe rfl) (wl (oe rfl) (wl (oe rfl) (Cv))))))⟩
  (try simp only[sd,se] at c1);refine BQ (Ao (Aq Al 2 [] O (Bv (Cm (i:=0) [11,65] O (Cq ⟨O,O,Af⟩)) (Ag Al 1 [1,0] O (Ah Al 2 [1,0,0] O (Am (⟨O,_,_,⟨_,_,O,(BD (i:=0) Be O O O),O⟩,(Ca (is:=[2]) O),?_⟩)))))));refine⟨by show (.agg [.p (I tk),.p (I ti),.p (.str tn),.p (.lst (List.map B0 tl)),.p (.lst (A1 ys))]:AV)=_;rw[Bk,if_neg c];rw[show i=ts.length by omega,List.drop_length] at hC;rw[←hC];simp[Bw];rfl,?_⟩;show ([.box b [.p (I e),.p (I nd)]]:List Au)=_;rw[Bk,if_neg c];rw[show i=ts.length by omega,List.drop_length] at hC;rw[←hC];simp[Bw]
theorem Ul:∀{σ:Type}(st:σ→Int→Tm→σ×Bool) (Inv:Nat→σ→Prop) (HP:Bool→σ→List Au→Prop) (l b2 b3 b4:Nat) (hI:∀m s d t,Inv (m+1) s→Inv m (st s d t).1) (hy:∀m s d t T,Nd t→Inv (m+1) s→HP true s T→IW Tryz.prog l [.p (I d),TV t] T (Rl (.p (.bool (st s d t).2)) (HP (st s d t).2 (st s d t).1))) (n:Nat) (t:Tm) (d:Int) (s:σ) (T0:List Au) (m:Nat),size t≤n→Nd t→0≤d→d+n<4611686018427387904→Inv (m+size t) s→HP true s T0→BK Tryz.prog 158 [TV t,.p (I d),.ptr b2 0,.ptr b3 0,.ptr b4 0] (.box b2 [.fn (.yield l) [] []]:: .box b3 Ix:: .box b4 [.fn (.func 158) [] [.ptr b2 0,.ptr b3 0,.ptr b4 0]]::T0) (Rl (.p (.bool (CT st t d s).2)) (fun H=>∃T,HP (CT st t d s).2 (CT st t d s).1 T∧H= .box b2 [.fn (.yield l) [] []]:: .box b3 Ix:: .box b4 [.fn (.func 158) [] [.ptr b2 0,.ptr b3 0,.ptr b4 0]]::T)):=by
 intro σ st Inv HP l b2 b3 b4 hI hy n
 induction n with
 | zero=>intro t d s T0 m h;cases t;simp[size] at h
 | succ n ih =>
  intro t d s T0 m h1 h2 h3 h4 h5 h6;obtain⟨tk,ti,tn,tl,ts⟩:=t;have h2':=h2;simp only[size] at h1 h5;simp only[Nd,HD,Ci] at h2;refine Ar Tryz.func158 O X7 (n:=50) O O (Ao (A6 O (BF O) fun b5=>Ag Al 1 [] O (Ai (Ao (Aq Al 3 [1,0] O (RD [_,_,_,_] O O O O (hy (m+A4 ts) _ _ _ _ h2' (by rw[Nat.add_assoc,Nat.add_comm (A4 ts)];exact h5) h6) O ?_ (fun _ _ h=>h.elim)))))));rintro _ T ⟨rfl,hT⟩;refine Ag Al 1 [] O (Ak O (fun c=>?_) (fun c=>?_))
  ·(try simp only[sd,se] at c);refine Ah Al 1 [] O (Am (⟨O,_,_,⟨_,_,O,O,O⟩,(Cu [1,2,3] [_,_,_,_] O),?_⟩));rw[N3 c];rw[c] at hT;exact⟨O,_,hT,O⟩
  (try simp only[sd,se] at c);rw[c] at hT;refine An (Ah Al 1 [] O (Ai (Ai (BL [1,3,4,5,8] 24 (fun y=>y= .p (.bool ((decide ((tk:Int)≥(0:Int)))&&(decide ((tk:Int)<(13:Int)))))) ?_ ?_))))
  ·refine Ap (Aq Al 4 [0] O (A5 20 O (fun g=>?_) (fun g=>?_)))
   ·(try simp only[sd,se] at g);exact Ag Al 4 [0] O (⟨O,O,AH,AG,⟨O,O,O,O,O,Af⟩⟩)
   (try simp only[sd,se] at g);exact Ag Al 4 [] O (⟨O,O,AH,AG,⟨O,O,O,O,O,Af⟩⟩)
  rintro _ rfl;refine Ak O (fun c1=>?_) (fun c1=>?_)
  ·(try simp only[sd,se] at c1);refine Ap (Aq Al 2 [0] O (Aj O (KG VU V3 O O Ad Ad) (Aj O (BH YF O O) (Aj O (BT (i:=2) VV O O (SE Ad)) (Ag Al 1 [] O (Ai (Ao (Aq Al 2 [0] O (Aj O (A8 BI O (A2 _)) (Ag Al 1 [] O (Aw ?_)))))))))));refine BR (α:=Nat×σ×List Au) (fun(i,q,U)=>⟨50,mk [(1,.p (I d)),(4,.ptr b4 0),(8,.p (I (Ev tk))),(31,.p (.lst (A1 ts))),(32,.p (I (ts.length:Nat))),(33,.p (I (i:Int)))],(.box b2 [.fn (.yield l) [] []]:: .box b3 Ix:: .box b4 [.fn (.func 158) [] [.ptr b2 0,.ptr b3 0,.ptr b4 0]]::U),[]⟩) (fun(i,q,U)=>ts.length - i) (fun(i,q,U)=>i≤ts.length∧(CY st tk d i q (ts.drop i)=CY st tk d 0 (st s d (.mk tk ti tn tl ts)).1 ts∧Inv (m+A4 (ts.drop i)) q∧HP true q U)) ⟨0,(st s d (.mk tk ti tn tl ts)).1,T⟩ (⟨by omega,by simp,by simpa using hI _ _ _ _ (by rw[Nat.add_assoc,Nat.add_comm (A4 ts)];exact h5),by assumption⟩) ?_ ?_
   ·exact BM ⟨we O,we O,we O,we O,we O,we O,Af⟩ (Od [1,2,3] [_,_,_,_] (l':=[_,_,_]) O (wl (oe O) (wl (oe O) (wl (oe O) (Cv)))))
   rintro⟨i,q,U⟩ hC
   try simp only at hC
   obtain⟨hi,hC,hJ,hK⟩:=hC;refine Ah Al 1 [] O (Ai (Ak O (fun c2=>?_) (fun c2=>?_)))
   ·(try simp only[sd,se] at c2);refine An (Ai (Aw (Ao (Ba O ?_))));obtain⟨x,hx⟩:=Av (l:=ts) (i:=i) Ad;refine Aj O (As BI O O Ad (BB hx) (Ay _)) (Aj O (BC Be O (Ay _)) (A6 O (Ax Bh O) fun b10=>Ag Al 2 [0,1] O (Ah Al 2 [] O (Ai (Ah Al 3 [] O (Ak O (fun c3=>?_) (fun c3=>?_)))))))
    ·(try simp only[sd,se] at c3);refine Ap (Ag Al 3 [] O (BO (Dx (t:=11) (x:= .p (I (d+below tk i))) (pI (by have:=Nv (k:=tk) (i:=i) Ad Ad;omega))) (Ao (Aq Al 3 [3,0] O (Ep [_] O O O (.inr O) (ih x (d+below tk i) q _ (m+A4 (ts.drop (i+1))) (by have:=Bg hx;omega) (B2 h2.2.2.2.2.1 hx) (by have:=Bp tk i;omega) (by have:=Bp tk i;omega) (by rw[B3 hx,A4] at hJ;rw[Nat.add_assoc,Nat.add_comm (A4 _)];exact hJ) hK) (aw (we O) (aw (we O) (aw (we O) (aw (we O) (aw (we O) (Gy)))))) ?_ (fun _ _ h=>h.elim))))));rintro _ _ ⟨rfl,T1,hT1,rfl⟩;refine Ag Al 1 [] O (Ak O (fun c4=>?_) (fun c4=>?_))
     ·(try simp only[sd,se] at c4);refine Ah Al 1 [] O (Am (⟨O,_,_,⟨_,_,O,O,O⟩,(Cu [1,2,3] [_,_,_,_] O),?_⟩));rw[D0 Aa,←hC,ES hx c4];rw[c4] at hT1;exact⟨O,_,hT1,O⟩
     (try simp only[sd,se] at c4);rw[c4] at hT1;refine An (Ap (Ag Al 2 [] O ?_));refine⟨⟨i+1,(CT st x (d+below tk i) q).1,T1⟩,AN,⟨by omega,⟨by rw[←hC];exact(Fm hx Aa).symm,by rw[B3 hx,A4] at hJ;exact El hI x _ _ _ (by rw[Nat.add_assoc,Nat.add_comm (A4 _)];exact hJ) Aa,by assumption⟩⟩,BM ⟨we rfl,we rfl,we rfl,we rfl,we rfl,we rfl,trivial⟩ (Od [1,2,3] [_,_,_,_] (l':=[_,_,_]) rfl (wl (oe rfl) (wl (oe rfl) (wl (oe rfl) (Cv)))))⟩
    (try simp only[sd,se] at c3);refine An (BO (Dx (t:=11) (x:= .p (I (d+below tk i))) (pI (by have:=LZ (k:=tk) (i:=i) Ad;omega))) (Ao (Aq Al 3 [3,0] O (Ep [_] O O O (.inr O) (ih x (d+below tk i) q _ (m+A4 (ts.drop (i+1))) (by have:=Bg hx;omega) (B2 h2.2.2.2.2.1 hx) (by have:=Bp tk i;omega) (by have:=Bp tk i;omega) (by rw[B3 hx,A4] at hJ;rw[Nat.add_assoc,Nat.add_comm (A4 _)];exact hJ) hK) (aw (we O) (aw (we O) (aw (we O) (aw (we O) (aw (we O) (Gy)))))) ?_ (fun _ _ h=>h.elim)))));rintro _ _ ⟨rfl,T1,hT1,rfl⟩;refine Ag Al 1 [] O (Ak O (fun c4=>?_) (fun c4=>?_))
    ·(try simp only[sd,se] at c4);refine Ah Al 1 [] O (Am (⟨O,_,_,⟨_,_,O,O,O⟩,(Cu [1,2,3] [_,_,_,_] O),?_⟩));rw[D0 Aa,←hC,ES hx c4];rw[c4] at hT1;exact⟨O,_,hT1,O⟩
    (try simp only[sd,se] at c4);rw[c4] at hT1;refine An (Ap (Ag Al 2 [] O ?_));refine⟨⟨i+1,(CT st x (d+below tk i) q).1,T1⟩,AN,⟨by omega,⟨by rw[←hC];exact(Fm hx Aa).symm,by rw[B3 hx,A4] at hJ;exact El hI x _ _ _ (by rw[Nat.add_assoc,Nat.add_comm (A4 _)];exact hJ) Aa,by assumption⟩⟩,BM ⟨we rfl,we rfl,we rfl,we rfl,we rfl,we rfl,trivial⟩ (Od [1,2,3] [_,_,_,_] (l':=[_,_,_]) rfl (wl (oe rfl) (wl (oe rfl) (wl (oe rfl) (Cv)))))⟩
   (try simp only[sd,se] at c2);refine BQ (Ah Al 1 [] O (Am (⟨O,_,_,⟨_,_,O,O,O⟩,(Cu [0,1,2] [_,_,_] O),?_⟩)));rw[D0 Aa,←hC,show i=ts.length by omega,List.drop_length];exact⟨O,_,hK,O⟩
  (try simp only[sd,se] at c1);have hbx:=NM (k:=tk) Ad;refine An (Ai (Ao (Aq Al 2 [0] O (Aj O (A8 BI O (A2 _)) (Ag Al 1 [] O (Aw ?_))))));refine BR (α:=Nat×σ×List Au) (fun(i,q,U)=>⟨50,mk [(1,.p (I d)),(4,.ptr b4 0),(8,.p (I (-1))),(31,.p (.lst (A1 ts))),(32,.p (I (ts.length:Nat))),(33,.p (I (i:Int)))],(.box b2 [.fn (.yield l) [] []]:: .box b3 Ix:: .box b4 [.fn (.func 158) [] [.ptr b2 0,.ptr b3 0,.ptr b4 0]]::U),[]⟩) (fun(i,q,U)=>ts.length - i) (fun(i,q,U)=>i≤ts.length∧(CY st tk d i q (ts.drop i)=CY st tk d 0 (st s d (.mk tk ti tn tl ts)).1 ts∧Inv (m+A4 (ts.drop i)) q∧HP true q U)) ⟨0,(st s d (.mk tk ti tn tl ts)).1,T⟩ (⟨by omega,by simp,by simpa using hI _ _ _ _ (by rw[Nat.add_assoc,Nat.add_comm (A4 ts)];exact h5),by assumption⟩) ?_ ?_
  ·exact BM ⟨we O,we O,we O,we O,we O,we O,Af⟩ (Od [1,2,3] [_,_,_,_] (l':=[_,_,_]) O (wl (oe O) (wl (oe O) (wl (oe O) (Cv)))))
  rintro⟨i,q,U⟩ hC
  try simp only at hC
  obtain⟨hi,hC,hJ,hK⟩:=hC;refine Ah Al 1 [] O (Ai (Ak O (fun c2=>?_) (fun c2=>?_)))
  ·(try simp only[sd,se] at c2);refine An (Ai (Aw (Ao (Ba O ?_))));obtain⟨x,hx⟩:=Av (l:=ts) (i:=i) Ad;refine Aj O (As BI O O Ad (BB hx) (Ay _)) (Aj O (BC Be O (Ay _)) (A6 O (Ax Bh O) fun b10=>Ag Al 2 [0,1] O (Ah Al 2 [] O (Ai (Ah Al 3 [] O (Ak O (fun c3=>?_) (fun c3=>?_)))))))
   ·(try simp only[sd,se] at c3);refine Ap (Ag Al 3 [] O (BO (Dx (t:=11) (x:= .p (I (d+below tk i))) (pI (by have:=Nv (k:=tk) (i:=i) Ad Ad;omega))) (Ao (Aq Al 3 [3,0] O (Ep [_] O O O (.inr O) (ih x (d+below tk i) q _ (m+A4 (ts.drop (i+1))) (by have:=Bg hx;omega) (B2 h2.2.2.2.2.1 hx) (by have:=Bp tk i;omega) (by have:=Bp tk i;omega) (by rw[B3 hx,A4] at hJ;rw[Nat.add_assoc,Nat.add_comm (A4 _)];exact hJ) hK) (aw (we O) (aw (we O) (aw (we O) (aw (we O) (aw (we O) (Gy)))))) ?_ (fun _ _ h=>h.elim))))));rintro _ _ ⟨rfl,T1,hT1,rfl⟩;refine Ag Al 1 [] O (Ak O (fun c4=>?_) (fun c4=>?_))
    ·(try simp only[sd,se] at c4);refine Ah Al 1 [] O (Am (⟨O,_,_,⟨_,_,O,O,O⟩,(Cu [1,2,3] [_,_,_,_] O),?_⟩));rw[D0 Aa,←hC,ES hx c4];rw[c4] at hT1;exact⟨O,_,hT1,O⟩
    (try simp only[sd,se] at c4);rw[c4] at hT1;refine An (Ap (Ag Al 2 [] O ?_));refine⟨⟨i+1,(CT st x (d+below tk i) q).1,T1⟩,AN,⟨by omega,⟨by rw[←hC];exact(Fm hx Aa).symm,by rw[B3 hx,A4] at hJ;exact El hI x _ _ _ (by rw[Nat.add_assoc,Nat.add_comm (A4 _)];exact hJ) Aa,by assumption⟩⟩,BM ⟨we rfl,we rfl,we rfl,we rfl,we rfl,we rfl,trivial⟩ (Od [1,2,3] [_,_,_,_] (l':=[_,_,_]) rfl (wl (oe rfl) (wl (oe rfl) (wl (oe rfl) (Cv)))))⟩
   (try simp only[sd,se] at c3);refine An (BO (Dx (t:=11) (x:= .p (I (d+below tk i))) (pI (by have:=LZ (k:=tk) (i:=i) Ad;omega))) (Ao (Aq Al 3 [3,0] O (Ep [_] O O O (.inr O) (ih x (d+below tk i) q _ (m+A4 (ts.drop (i+1))) (by have:=Bg hx;omega) (B2 h2.2.2.2.2.1 hx) (by have:=Bp tk i;omega) (by have:=Bp tk i;omega) (by rw[B3 hx,A4] at hJ;rw[Nat.add_assoc,Nat.add_comm (A4 _)];exact hJ) hK) (aw (we O) (aw (we O) (aw (we O) (aw (we O) (aw (we O) (Gy)))))) ?_ (fun _ _ h=>h.elim)))));rintro _ _ ⟨rfl,T1,hT1,rfl⟩;refine Ag Al 1 [] O (Ak O (fun c4=>?_) (fun c4=>?_))
   ·(try simp only[sd,se] at c4);refine Ah Al 1 [] O (Am (⟨O,_,_,⟨_,_,O,O,O⟩,(Cu [1,2,3] [_,_,_,_] O),?_⟩));rw[D0 Aa,←hC,ES hx c4];rw[c4] at hT1;exact⟨O,_,hT1,O⟩
   (try simp only[sd,se] at c4);rw[c4] at hT1;refine An (Ap (Ag Al 2 [] O ?_));refine⟨⟨i+1,(CT st x (d+below tk i) q).1,T1⟩,AN,⟨by omega,⟨by rw[←hC];exact(Fm hx Aa).symm,by rw[B3 hx,A4] at hJ;exact El hI x _ _ _ (by rw[Nat.add_assoc,Nat.add_comm (A4 _)];exact hJ) Aa,by assumption⟩⟩,BM ⟨we rfl,we rfl,we rfl,we rfl,we rfl,we rfl,trivial⟩ (Od [1,2,3] [_,_,_,_] (l':=[_,_,_]) rfl (wl (oe rfl) (wl (oe rfl) (wl (oe rfl) (Cv)))))⟩
  (try simp only[sd,se] at c2);refine BQ (Ah Al 1 [] O (Am (⟨O,_,_,⟨_,_,O,O,O⟩,(Cu [0,1,2] [_,_,_] O),?_⟩)));rw[D0 Aa,←hC,show i=ts.length by omega,List.drop_length];exact⟨O,_,hK,O⟩
theorem XO:Dp Tryz.prog 157 [] (.agg Ix):=by
 refine Ar Tryz.func157 O ZI (n:=15) O O (Ao (A6 O (Ax S5 O) fun b0=>Bb O (Ao (Aq Al 13 [] O (Aj O (KF VU V3 S5 O) (Ag Al 1 [0,0] O (Am (⟨O,_,_,⟨_,_,O,(BD (i:=0) YL O O O),O⟩,(List.nil_sublist _),?_⟩))))))))
 all_goals exact⟨rfl,rfl⟩
theorem Ri:∀(t:Tm),BK Tryz.prog 116 [.agg ((BA t).map .p)] [] (fun r H'=>∃b,r= .val (.fn (.func 156) [] [.ptr b 0])∧H'=[.box b ((BA t).map .p)]):=by
 intro t;refine Ar Tryz.func116 O YN (n:=4) O O (Ao (A6 O (BF O) fun b1=>Ag Al 1 [] O (Ah Al 2 [] O (Am (⟨O,_,_,⟨_,_,O,O,O⟩,(Ca (is:=[0]) O),?_⟩)))));exact⟨_,O,O⟩
theorem R5:∀{σ:Type}(st:σ→Int→Tm→σ×Bool) (Inv:Nat→σ→Prop) (HP:Bool→σ→List Au→Prop) (l b1:Nat) (hI:∀m s d t,Inv (m+1) s→Inv m (st s d t).1) (hy:∀m s d t T,Nd t→Inv (m+1) s→HP true s T→IW Tryz.prog l [.p (I d),TV t] T (Rl (.p (.bool (st s d t).2)) (HP (st s d t).2 (st s d t).1))) (t:Tm) (s:σ) (T0:List Au) (m:Nat),Nd t→size t<4611686018427387904→Inv (m+size t) s→HP true s T0→BK Tryz.prog 156 [.fn (.yield l) [] [],.ptr b1 0] (.box b1 ((BA t).map .p)::T0) (Rl (.tup []) (fun H=>∃T,HP (CT st t 0 s).2 (CT st t 0 s).1 T∧H= .box b1 ((BA t).map .p)::T)):=by
 intro σ st Inv HP l b1 hI hy t s T0 m h1 h2 h3 h4;refine Ar Tryz.func156 O Y6 (n:=10) O O (Ao (A6 O (BF O) fun b2=>Bb O (Ao (Aj O (A0 O O (XO ) O) (A6 O (Ax S5 O) fun b3=>Ag Al 1 [0,0] O (Ao (A6 O (Ax bP O) fun b4=>Bb O (Ah Al 2 [0,0] O (Ap (Aq Al 2 [0,3] O (FK ((List.reverse_perm [_,_,_,_]).symm.append_right _) (Ep [_] O O O (.inr O) (Ul st Inv HP l b2 b3 b4 hI hy _ t 0 s T0 m (Nat.le_refl _) h1 Ad Ad h3 h4) (aw (we O) (aw (we O) (aw (we O) (aw (we O) (aw (we O) (Gy)))))) ?_ (fun _ _ h=>h.elim)))))))))))));rintro _ _ ⟨rfl,T,hT,rfl⟩;refine Bb O ⟨O,_,_,O,(Cu [0] [_,_,_,_] O),?_⟩;exact⟨O,_,hT,O⟩
theorem Pb:∀(t:Tm),(Nd t)→(size t<1152921504606846976)→Dp Tryz.prog 68 [.agg ((BA t).map .p)] (.p (I (size t:Nat))):=by
 intro t h1 h2;refine Cr Tryz.func68 O aY (n:=11) O O (Ao (A6 O (BF O) fun b1=>Ag Al 1 [] O (Ao (A6 O (Ax Td O) fun b3=>Ag Al 1 [0,0] O (Ai (Ao (Aj O (Bf (i:=1) Be O O AW) ?_)))))));refine Ta [] O O O (.inl ⟨O,O,O⟩) (Ri t) O Ae (aw (we O) Gy) ?_ (fun _ _ ⟨_,h,_⟩=>by cases h);rintro _ _ ⟨bn,h,rfl⟩;cases h;refine Bb O (Aw (Oh (.inr O) fun dd l L hL=>⟨_,_,CF (is:=[2,0,3]) Ac ⟨_,_,O,O,⟨_,_,O,O,⟨_,_,O,O,O⟩⟩⟩,?_⟩));have hy:∀(m:Nat) (s:Int) (d:Int) (t:Tm) (T:List Au),Nd t→(fun _ _=>True) (m+1) s→(fun(_:Bool) (s:Int) (T:List Au)=>T=[.loop l L,.box b3 [.p (I s)]]) true s T→IW Tryz.prog l [.p (I d),TV t] T (Rl (.p (.bool (Oq s d t).2)) ((fun(_:Bool) (s:Int) (T:List Au)=>T=[.loop l L,.box b3 [.p (I s)]]) (Oq s d t).2 (Oq s d t).1)):=by
  rintro m s d tt T hnd hinv rfl;subst hL;refine Qw (i:=0) O O O O (An ⟨O,0,O,?_⟩);refine Aw (Ap (Aj O (BT (i:=1) VV O O O) (Aj O (DU O O) (Ag Al 1 [1,0] O ⟨0,_,O,Ca (is:=[0,1]) O,?_⟩))));exact⟨O,O⟩
 refine(R5 Oq (fun _ _=>True) (fun(_:Bool) (s:Int) (T:List Au)=>T=[.loop l L,.box b3 [.p (I s)]]) l bn (fun _ _ _ _ _=>Af) hy t 0 _ 0 (h1) Ad (Af) O).mono ?_;rintro(v | v) H' hR
 rotate_left
 ·exact hR.elim
 obtain⟨rfl,_,rfl,rfl⟩:=hR;subst hL;refine⟨1,_,O,Ae,?_⟩;refine Ah Al 2 [1] O (Am (⟨2,O,_,_,⟨_,_,O,O,O⟩,(List.nil_sublist _),?_⟩))
 all_goals exact⟨pI (by rw[N2 4611686018427387904 (Int.le_refl _) t 0 0 Ad Ad];simp),rfl⟩
theorem ON:∀(n:Nat) (t:Tm),(size t≤n)→(Nd t)→Dp Tryz.prog 69 [.agg ((BA t).map .p)] (.p (I (Dc t))):=by
 intro n
 induction n with
 | zero=>intro t h;cases t;simp[size] at h
 | succ n ih =>
  intro t h1 h2;obtain⟨tk,ti,tn,tl,ts⟩:=t;simp only[size] at h1;simp only[Nd,Ci] at h2;refine Ar Tryz.func69 O cO (n:=20) O O (Ao (A6 O (BF O) fun b1=>Ag Al 1 [] O (Ah Al 1 [] O (Ai (Ao (Aq Al 2 [0] O (Aj O (A8 BI O (A2 _)) (Ag Al 1 [] O (Aw (BR (α:=Nat×Int) (fun(i,m)=>⟨20,mk [(3,.p (I m)),(7,.p (.lst (A1 ts))),(8,.p (I (ts.length:Nat))),(9,.p (I (i:Int)))],[],[]⟩) (fun(i,m)=>ts.length - i) (fun(i,m)=>i≤ts.length∧(IF m (ts.drop i)=IF 0 ts)) ⟨0,0⟩ Ae ?_ ?_))))))))))
  ·exact BM ⟨we O,we O,we O,we O,Af⟩ (leH (is:=[]) O (Cv))
  rintro⟨i,m⟩ hC
  try simp only at hC
  obtain⟨hi,hC⟩:=hC;refine Ah Al 1 [] O (Ai (Ak O (fun c=>?_) (fun c=>?_)))
  ·(try simp only[sd,se] at c);refine An (Ai (Aw (Ao ?_)));obtain⟨x,hx⟩:=Av (l:=ts) (i:=i) Ad;refine Aj O (As BI O O Ad (BB hx) (Ay _)) (Aj O (BC Be O (Ay _)) (A6 O (Ax Bh O) fun b5=>Ag Al 1 [0,1] O (Ap (Aq Al 2 [0] O (Aj O (A0 O O (ih x (by have:=Bg hx;omega) (B2 h2.2.2.2.2.1 hx)) O) (Aj O (Mk O O) (Ag Al 1 [] O (Ap (Ag Al 2 [] O ?_)))))))));refine⟨⟨i+1,max m (Dc x)⟩,AN,⟨by omega,by rw[←hC,B3 hx];rfl⟩,BM ⟨we rfl,we rfl,we rfl,we rfl,trivial⟩ (leH (is:=[]) rfl (Cv))⟩
  (try simp only[sd,se] at c);refine BQ (Ao (Ba O (Aj O (DU O O) (Ag Al 1 [] O (Am (⟨O,_,_,⟨_,_,O,O,O⟩,(List.nil_sublist _),?_⟩))))))
  all_goals exact⟨pI (by rw[show Dc (.mk tk ti tn tl ts)=wr (IF 0 ts+1) from rfl,←hC,show i=ts.length by omega,List.drop_length];rfl),rfl⟩
theorem Jz:∀(f:Tm) (xs:List Tm),(xs.length<Ci)→Dp Tryz.prog 112 [.agg ((BA f).map .p),.p (.lst (A1 xs))] (.agg ((BA (apply f xs)).map .p)):=by
 intro f xs h1;simp only[Ci] at h1;refine Ar Tryz.func112 O Y8 (n:=19) O O (Ao (A6 O (BF O) fun b2=>A6 O (Ax Bh O) fun b4=>Bb O (Ai (Ao (Ba O (Aj O (A8 BI O (A2 _)) (Ag Al 1 [] O (Aw (BR (α:=Nat) (fun i=>⟨19,mk [(2,.ptr b2 0),(4,.ptr b4 0),(7,.p (.lst (A1 xs))),(8,.p (I (xs.length:Nat))),(9,.p (I (i:Int)))],[.box b4 [.p (I 0),.p (I 0),.p (.str ⟨#[]⟩),.p (.nils),.p (.nils)],.box b2 ((BA (apply f (xs.take i))).map .p)],[]⟩) (fun i=>xs.length - i) (fun i=>i≤xs.length) 0 AM ?_ ?_)))))))))
 ·exact BM ⟨we O,we O,we O,we O,we O,Af⟩ (leH (is:=[0,1]) O (wl (oe O) (wl (oe O) (Cv))))
 rintro i hC
 try simp only at hC
 have hi:=hC;refine Ah Al 1 [] O (Ai (Ak O (fun c=>?_) (fun c=>?_)))
 ·(try simp only[sd,se] at c);refine An (Ai (Aw (Ao ?_)));obtain⟨x,hx⟩:=Av (l:=xs) (i:=i) Ad;refine Aj O (As BI O O Ad (BB hx) (Ay _)) (Aj O (BC Be O (Ay _)) (A6 O (Ax Bh O) fun b6=>Ag Al 1 [0,1] O (Ap (Aq Al 2 [2,0] O ?_))));generalize hz:(apply f (xs.take i))=z;obtain⟨zk,zi,zn,zl,zs⟩:=z;obtain⟨xk,xi,xn,xl,xs1⟩:=x;refine Aj O (Bi BI Bh O O O O O) (Ag Al 2 [2,0] O (Ap (Ag Al 2 [] O ?_)));refine⟨(i+1),AN,by omega,BM ⟨we rfl,we rfl,we rfl,we rfl,we rfl,trivial⟩ (leH (is:=[1,2]) rfl (wl (oe rfl) (wl (on (by rw[PH hx,hz];rfl)) (Cv))))⟩
 (try simp only[sd,se] at c);refine BQ (Ah Al 2 [1,0,1] O (Am (⟨O,_,_,⟨_,_,O,(BD (i:=0) Be O O AW),O⟩,(List.nil_sublist _),?_⟩)))
 all_goals exact⟨by show (.agg ((BA (apply f (xs.take i))).map .p):AV)=_;rw[show i=xs.length by omega,List.take_length],rfl⟩
theorem _root_.Go.AI {α:Prop}(h:α:=by simp only[A2,List.length_map,List.length_set];omega):α:=h
theorem _root_.Go.AR {α:Prop}(h:α:=by simp only[A2];omega):α:=h
theorem Wo:∀(xs:List Tm) (o0:Option Nat) (c0:Nat),(xs.length<Ci)→BK Tryz.prog 70 [.vs o0 (A1 xs).length c0] [.vec o0 5 (A1 xs) c0] (GV (.tup []) [.vec o0 5 (A1 xs.reverse) c0]):=by
 intro xs o0 c0 h1;simp only[Ci] at h1;refine Ar Tryz.func70 O cz (n:=28) O O (Ao (Ba O (Aj O (GM BI O (A2 _)) (Ag Al 3 [] O (Aw (BR (α:=Nat×List Tm×Option Nat×Nat) (fun(i,ys,o,cp)=>⟨28,mk [(0,.vs o (A1 ys).length cp),(2,.p (I (i:Int))),(3,.p (I ((xs.length:Int) - 1 - (i:Int))))],[.vec o 5 (A1 ys) cp],[]⟩) (fun(i,ys,o,cp)=>xs.length - i) (fun(i,ys,o,cp)=>i≤xs.length∧Ng xs ys i∧o=o0∧cp=c0) ⟨0,xs,o0,c0⟩ (⟨by omega,Of xs,rfl,rfl⟩) ?_ ?_))))))
 ·exact BM ⟨we O,we O,we (pI Ad),Af⟩ (leH (is:=[0]) O (wl (oe O) (Cv)))
 rintro⟨i,ys,o,cp⟩ hC
 try simp only at hC
 obtain⟨hi,hR,ho,hcp⟩:=hC;have hyl:=hR.1;have hjn:((xs.length:Int) - 1 - (i:Int)).toNat=xs.length - 1 - i:=by omega
 refine Ai (Ah Al 3 [] O (Ak O (fun c=>?_) (fun c=>?_)))
 ·(try simp only[sd,se] at c);refine An (Ai (Aw (Kw (i:=0) O (by simp[A2];omega) fun b hb=>?_)));subst hb;refine Bt (fun k=>false) EY (BE Al 6 [] O (A7 O (fun _=>CB BI O O Ad AR) Af ?_));obtain⟨y,hy⟩:=Av (l:=ys) (i:=((xs.length:Int) - 1 - (i:Int):Int).toNat) Ad;refine Gl (j:=0) O O O (fun H i hi=>H5 (i:=i) Be O hi (BB hy)) AB Af (BE Al 2 [] O (A7 O (fun _=>CB BI O O Ad AR) Af ?_));obtain⟨y1,hy1⟩:=Av (l:=ys) (i:=i) Ad;refine Gl (j:=0) O O O (fun H i hi=>H5 (i:=i) Be O hi (BB hy1)) AB Af (A7 O (fun _=>CB BI O O Ad AR) Af (HF O O (CC (i:=0) (j:=i) Be O O O AI O (FO _) (Ay _) (Ed _) (JB ys i y)) AB Af (A7 O (fun _=>CB BI O O Ad AR) Af (HF O O (CC (i:=0) (j:=(((xs.length:Int) - 1 - (i:Int):Int).toNat)) Be O O O AI O (FO _) (Ay _) (Ed _) (JB ((ys).set i y) (((xs.length:Int) - 1 - (i:Int):Int).toNat) y1)) AB Af (F5 O AZ (Ap (Ag Al 6 [] O ?_)))))));refine⟨⟨i+1,(ys.set i y).set (xs.length - 1 - i) y1,(some b),cp⟩,AN,⟨by omega,Og hR Ad hy1 (hjn▸hy),ho,hcp⟩,BM ⟨we (Ef ys Ae),we rfl,we (pI Ad),trivial⟩ (leH (is:=[0]) rfl (wl (HB (((ys).set i y).set (((xs.length:Int) - 1 - (i:Int):Int).toNat) y1) (by rw[hjn])) (Cv)))⟩
 (try simp only[sd,se] at c);refine BQ ⟨O,_,_,O,(Ca (is:=[0]) O),?_⟩;refine⟨O,?_⟩;show ([.vec o 5 (A1 ys) cp]:List Au)=_;rw[Ov hR Ad,ho,hcp]
theorem _root_.Go.AS {α:Prop}(h:α:=by simp only[Ci];omega):α:=h
theorem NZ:∀(t:Tm),(Nd t)→(size t<Ci)→Dp Tryz.prog 38 [.agg ((BA t).map .p)] (.tup [.agg ((BA ((A3 t).1)).map .p),.p (.lst (A1 ((A3 t).2)))]):=by
 intro t h1 h2;simp only[Ci] at h2;refine Ar Tryz.func38 O cW (n:=29) O O (Ao (A6 O (BF O) fun b1=>A6 O (Ax Bh O) fun b2=>Ag Al 1 [] O (Ah Al 1 [] O (Ai (Aw (BO (FV (t:=4) (sz:=5) O) ?_))))));refine BR (α:=Tm×List Tm×Option Nat×Nat) (fun(tt,ys,o,cp)=>⟨29,mk [(1,.ptr b1 0),(2,.ptr b2 0),(4,.vs o (A1 ys).length cp)],[.vec o 5 (A1 ys) cp,.box b2 [.p (I 0),.p (I 0),.p (.str ⟨#[]⟩),.p (.nils),.p (.nils)],.box b1 ((BA tt).map .p)],[]⟩) (fun(tt,ys,o,cp)=>size tt) (fun(tt,ys,o,cp)=>A3 t=((A3 tt).1,(A3 tt).2++ys.reverse)∧Nd tt∧size tt+ys.length≤size t) ⟨t,[],none,0⟩ (⟨by simp,h1,by simp⟩) ?_ ?_
 ·exact BM ⟨we O,we O,we O,Af⟩ (leH (is:=[0,1,2]) O (wl (oe O) (wl (oe O) (wl (oe O) (Cv)))))
 rintro⟨tt,ys,o,cp⟩ hC
 try simp only at hC
 obtain⟨hS,hN,hL⟩:=hC;refine Ai (Ai ?_);obtain⟨ttk,tti,ttn,ttl,tts⟩:=tt;simp only[size] at hL;refine BL [1,2,4] 13 (fun y=>y= .p (.bool (((ttk:Int)==(4:Int))&&(((tts.length:Nat):Int)==(2:Int))))) ?_ ?_
 ·refine Ap (Aq Al 4 [2] O (A5 8 O (fun g=>?_) (fun g=>?_)))
  ·(try simp only[sd,se] at g);exact Aq Al 2 [2] O (BP O (A8 BI O (A2 _)) (Ag Al 2 [] O (⟨O,O,AH,AG,⟨O,O,O,Af⟩⟩)))
  (try simp only[sd,se] at g);exact Ag Al 5 [] O (⟨O,O,AH,AG,⟨O,O,O,Af⟩⟩)
 rintro _ rfl;refine Ak O (fun c=>?_) (fun c=>?_)
 ·(try simp only[sd,se] at c);refine An (Aw (Ao (Aq Al 3 [2] O ?_)));obtain⟨x,hx⟩:=Av (l:=tts) (i:=1) Ad;refine Aj O (As BI O O Ad (BB hx) (Ay _)) (Aj O (BC Be O (Ay _)) ?_);obtain⟨xk,xi,xn,xl,xs⟩:=x;refine Aj O (Bi BI Bh O O O O O) (G8 O O (CZ (i:=0) (rows':=A1 [(.mk xk xi xn xl xs:Tm)]) BI BI Bh O O O O O O (Bu _) AD (Ni ys [(.mk xk xi xn xl xs:Tm)])) fun o1 cp1=>Ag Al 1 [] O (Ap (Aq Al 2 [2] O ?_)));obtain⟨x1,hx1⟩:=Av (l:=tts) (i:=0) Ad;refine Aj O (As BI O O Ad (BB hx1) (Ay _)) (Ag Al 2 [2,1] O ?_);refine⟨⟨x1,ys++[.mk xk xi xn xl xs],o1,cp1⟩,(by have:=Bg hx1;simp only[size];omega),⟨by rw[hS,RC c hx1 hx];simp,B2 hN.2.2.2.2.1 hx1,by have:=Bg hx1;simp;omega⟩,BM ⟨we rfl,we rfl,we rfl,trivial⟩ (leH (is:=[0,1,2]) rfl (wl (oe rfl) (wl (oe rfl) (wl (oe rfl) (Cv)))))⟩
 (try simp only[sd,se] at c);refine BQ (Ao (Ba O (Aj O (CI [0] O (.inl ⟨O,O,O⟩) (Wo ys o cp AS) ⟨_,_,O,O,O⟩ Ac O (.inl O)) (Bb O (Ah Al 4 [2,1,0] O (BO (Dx (t:=4) (x:= .vs o (A1 ys.reverse).length cp) (Ef ys (l':=ys.reverse) Ae)) (BO (Dx (t:=25) (x:= .vs o (A1 ys.reverse).length cp) (Ef ys (l':=ys.reverse) Ae)) (BO (Dx (t:=28) (x:= .vs o (A1 ys.reverse).length cp) (Ef ys (l':=ys.reverse) Ae)) (BO (Dx (t:=3) (x:= .vs o (A1 ys.reverse).length cp) (Ef ys (l':=ys.reverse) Ae)) (BO (Cm (i:=0) [4,25,28,3] O (Cq ⟨O,O,O,O,Af⟩)) (Am (⟨O,_,_,⟨_,_,O,(BD (i:=0) Be O O O),⟨_,_,O,O,O⟩⟩,(List.nil_sublist _),?_⟩))))))))))));rw[hS,O5 (Classical.or_iff_not_imp_left.2 fun h=>by simp at h;exact fun e=>absurd (c h) (by simp[e]))]
 all_goals exact⟨rfl,rfl⟩
theorem MO:∀(e:Int),BK Tryz.prog 129 [.p (I e)] [] (M1 (.p (.iface 207 (I e))) []):=by
 intro e;exact Ar Tryz.func129 O Yy (n:=4) O O (Ap (Ba O (Aj O (LG Vv (by intro ms h;cases h) O) (Rh O O (RE O) (⟨O,_,List.nil_sublist _,⟨O,O⟩⟩)))))
theorem MF:∀(e:Int),Dp Tryz.prog 80 [.p (.iface 207 (I e))] (.p (I e)):=by
 intro e;refine Ar Tryz.func80 O au (n:=14) O O (Ah Al 1 [] O (Ao (Ba O (Aj O (Oo Vv O O) (Ag Al 5 [] O (Ai (Ah Al 2 [] O ?_)))))));refine Ak O (fun c=>by cases c) (fun c=>?_);refine An (Ah Al 2 [] O (Am (⟨O,_,_,⟨_,_,O,O,O⟩,(List.nil_sublist _),?_⟩)))
 all_goals exact⟨rfl,rfl⟩
theorem R8:∀(k i:Int),Dp Tryz.prog 132 [.p (I k),.p (I i)] (.p (I (below k i))):=by
 intro k i;refine Ar Tryz.func132 O Ym (n:=26) O O (Ah Al 1 [] O (Ai (Aw (Ai (Ai (BL [0,1] 5 (fun y=>y= .p (.bool (((i:Int)==(1:Int))&&((((k:Int)==(5:Int))||((k:Int)==(6:Int)))||((k:Int)==(7:Int)))))) ?_ ?_))))))
 ·refine Ap (Aq Al 3 [] O (A5 8 O (fun g=>?_) (fun g=>?_)))
  ·(try simp only[sd,se] at g);refine Aq Al 3 [] O (A5 11 O (fun g1=>?_) (fun g1=>?_))
   ·(try simp only[sd,se] at g1);exact Ag Al 9 [] O (⟨O,O,AH,AG,⟨O,O,Af⟩⟩)
   (try simp only[sd,se] at g1);refine Aq Al 4 [] O (A5 15 O (fun g2=>?_) (fun g2=>?_))
   ·(try simp only[sd,se] at g2);exact Ag Al 5 [] O (⟨O,O,AH,AG,⟨O,O,Af⟩⟩)
   (try simp only[sd,se] at g2);exact Ag Al 5 [] O (⟨O,O,AH,AG,⟨O,O,Af⟩⟩)
  (try simp only[sd,se] at g);exact Ag Al 12 [] O (⟨O,O,AH,AG,⟨O,O,Af⟩⟩)
 rintro _ rfl;refine Ak O (fun c=>?_) (fun c=>?_)
 ·(try simp only[sd,se] at c);refine An (Ak O (fun c1=>?_) (fun c1=>?_))
  ·(try simp only[sd,se] at c1);refine Ah Al 1 [] O (Am (⟨O,_,_,⟨_,_,O,O,O⟩,(List.nil_sublist _),?_⟩))
   all_goals exact⟨pI (by unfold below;simp_all),rfl⟩
  (try simp only[sd,se] at c1);refine An (Ah Al 1 [] O (Am (⟨O,_,_,⟨_,_,O,O,O⟩,(List.nil_sublist _),?_⟩)))
  all_goals exact⟨pI (by unfold below;simp_all),rfl⟩
 (try simp only[sd,se] at c);refine BL [] 5 (fun y=>y= .p (.bool (((i:Int)==(2:Int))&&((k:Int)==(11:Int))))) ?_ ?_
 ·refine Ap (Aq Al 3 [] O (A5 22 O (fun g=>?_) (fun g=>?_)))
  ·(try simp only[sd,se] at g);exact Ag Al 4 [] O ⟨O,O,AH,AG,Af⟩
  (try simp only[sd,se] at g);exact Ag Al 4 [] O ⟨O,O,AH,AG,Af⟩
 rintro _ rfl;refine Ak O (fun c1=>?_) (fun c1=>?_)
 ·(try simp only[sd,se] at c1);refine Ah Al 1 [] O (Am (⟨O,_,_,⟨_,_,O,O,O⟩,(List.nil_sublist _),?_⟩))
  all_goals exact⟨pI (by unfold below;simp_all),rfl⟩
 (try simp only[sd,se] at c1);refine An (Ah Al 1 [] O (Am (⟨O,_,_,⟨_,_,O,O,O⟩,(List.nil_sublist _),?_⟩)))
 all_goals exact⟨pI (by unfold below;simp_all),rfl⟩
theorem NY:∀(i:Int),BK Tryz.prog 96 [.p (I i)] [] (OZ (fun(r:Tm)=>TV r) (fun e=> .p (.iface 207 (I e))) (fun r H'=>H'=[]) (E9 i)):=by
 intro i;refine Ar Tryz.func96 O aK (n:=8) O O (Ao (A6 O (Ax Bh O) fun b2=>Bb O (Ai (Ah Al 2 [] O (Ak O (fun c=>?_) (fun c=>?_))))))
 ·(try simp only[sd,se] at c);refine Ap (Kk O O O (.inl ⟨O,O,O⟩) (MO 24) (aw (we O) (Gy)) ?_);exact⟨O,_,List.nil_sublist _,⟨_,by unfold E9;rw[if_pos Ad],rfl⟩⟩
 (try simp only[sd,se] at c);refine An (Ah Al 3 [0,0] O (BO (By (i:=0) O) (Am (⟨O,_,_,⟨_,_,O,(BD (i:=0) Be O O O),O⟩,(List.nil_sublist _),?_⟩))));exact⟨(.mk 0 i ⟨#[]⟩ [] []:Tm),by unfold E9;rw[if_neg Ad];rfl,rfl,rfl⟩
theorem TZ:∀(bc:Nat) (n m:Int),BK Tryz.prog 91 [.ptr bc 0,.p (I m)] [.box bc [.p (I n)]] (OZ (fun(r:Int)=> .tup []) (fun e=> .p (.iface 207 (I e))) (fun r H'=>H'=[.box bc [.p (I r)]]) (Qp n m)):=by
 intro bc n m;refine Ar Tryz.func91 O bD (n:=18) O O (Ao (Aq Al 5 [0] O (Aj O (DU O O) (Ag Al 3 [0,0] O (Ah Al 5 [0] O (Ak O (fun c=>?_) (fun c=>?_)))))))
 ·(try simp only[sd,se] at c);refine Ap (Kk O O O (.inl ⟨O,O,O⟩) (MO 5) (aw (we O) (Gy)) ?_);exact⟨O,_,List.nil_sublist _,⟨_,by unfold Qp;rw[if_pos Ad],rfl⟩⟩
 (try simp only[sd,se] at c);refine An ⟨O,_,_,O,(Ca (is:=[0]) O),?_⟩;exact⟨(wr (n+m)),by unfold Qp;rw[if_neg Ad],rfl,rfl⟩
theorem J8:∀(t:Tm),(Nd t)→Dp Tryz.prog 95 [.agg ((BA t).map .p)] (.agg ((BA (Ib t)).map .p)):=by
 intro t h1;obtain⟨tk,ti,tn,tl,ts⟩:=t;simp only[Nd,Ci] at h1;refine Ar Tryz.func95 O ay (n:=33) O O (Ao (A6 O (BF O) fun b1=>A6 O (Ax Bh O) fun b2=>Bb O (Ao (Aq Al 7 [1,1,1] O (A6 O (Ax Bh O) fun b3=>Ag Al 1 [0,0] O (Ai (Ao (Bv (C9 (i:=0) O (SF (aw (we O) (aw (we O) (aw (we O) (aw (LS) (aw (we O) (Gy)))))))) (Bv (KY (sz:=2)) (Aq Al 2 [3] O (Aj O (A8 Ee O (List.length_map _)) (Ag Al 1 [] O (Aw ?_)))))))))))));refine BR (α:=Nat×Option Nat×Nat) (fun(i,o,cp)=>⟨33,mk [(2,.ptr b2 0),(3,.ptr b3 0),(14,.p (.lst (List.map B0 tl))),(15,.p (I (tl.length:Nat))),(16,.p (I (i:Int)))],[.vec o 2 (List.map B0 (tl.take i)) cp,.box b3 [.p (I tk),.p (I ti),.p (.str tn),.vs o (List.map B0 (tl.take i)).length cp,.p (.nils)],.box b2 [.p (I 0),.p (I 0),.p (.str ⟨#[]⟩),.p (.nils),.p (.nils)]],[]⟩) (fun(i,o,cp)=>tl.length - i) (fun(i,o,cp)=>i≤tl.length) ⟨0,none,0⟩ AM ?_ ?_
 ·exact BM ⟨we O,we O,we O,we O,we O,Af⟩ (leH (is:=[0,1,2]) O (wl (oe O) (wl (oe O) (wl (oe O) (Cv)))))
 rintro⟨i,o,cp⟩ hC
 try simp only at hC
 have hi:=hC;refine Ah Al 1 [] O (Ai (Ak O (fun c=>?_) (fun c=>?_)))
 ·(try simp only[sd,se] at c);refine An (Ai (Aw (Ao ?_)));obtain⟨x,hx⟩:=Av (l:=tl) (i:=i) Ad;refine Aj O (As Ee O O Ad (Ek hx) (Ct _)) (Aj O (BC ME O (Ct _)) (A6 O (Ax Li O) fun b5=>Ag Al 1 [0,0] O (Bt (fun k=>Nat.beq k 9) EY (BE Al 6 [2,0,0] O (A7 O (fun _=>KV (rows':=List.map HK x.vars) DR DR WA O O (fun _ _ _ h=>QH h) O (O9 _) (by have:=h1.2.2.1 x (List.mem_of_getElem? hx);have:=this.1;simp only[Ci] at this;simp only[List.length_map];omega)) Af (A7 O (fun _=>D7 Ye Li O) Af (A7 O (fun _=>Bi Ee Li O O O O O) Af ?_)))))));refine O8 [] O O (CZ (i:=1) (rows':=List.map B0 [(CE.mk x.const x.vars)]) Ee Ee Li O O O O O O (Q0 _) (by simp only[List.length_map,List.length_take,List.length_cons,List.length_nil];omega) (KO (f:=B0) (tl.take i) [(CE.mk x.const x.vars)])) AZ fun o1 cp1=>⟨AB,Af,?_⟩;refine Bl Al 2 [2,0] O (Ap (Ag Al 2 [] O ?_));refine⟨⟨i+1,o1,cp1⟩,AN,by omega,BM ⟨we rfl,we rfl,we rfl,we rfl,we rfl,trivial⟩ (leH (is:=[1,2,3]) rfl (wl (M7 (f:=B0) (tl.take i++[(CE.mk x.const x.vars)]) (by rw[List.take_add_one,hx];rfl)) (wl (SF (aw (we rfl) (aw (we rfl) (aw (we rfl) (aw (we (Qd (f:=B0) (tl.take i++[(CE.mk x.const x.vars)]) (by rw[List.take_add_one,hx];rfl))) (aw (we rfl) (Gy))))))) (wl (oe rfl) (Cv)))))⟩
 (try simp only[sd,se] at c);refine BQ (Ao (Bv (Bz (i:=0) (j:=1) (q:=3) [] O O O (Cq Af)) (Ag Al 2 [0,1,0] O (BO (By (i:=1) O) (Am (⟨O,_,_,⟨_,_,O,(BD (i:=1) Be O O O),O⟩,(List.nil_sublist _),?_⟩))))))
 all_goals exact⟨by show (.agg [.p (I tk),.p (I ti),.p (.str tn),.p (.lst (List.map B0 (tl.take i))),.p (.lst [])]:AV)=_;rw[show i=tl.length by omega,List.take_length];rfl,rfl⟩
theorem Kr:∀{σ:Type}(vis:σ→Tm→Int→Except Int ((Tm×Bool)×σ)) (HP:σ→List Au→Prop) (fid:Nat) (caps:List AV) (hv:∀(s:σ) (t:Tm) (d:Int) (T:List Au),Nd t→Vp t→0≤d→d<Ci→HP s T→BK Tryz.prog fid ([TV t,.p (I d)]++caps) T (OZ (fun(r:(Tm×Bool)×σ)=> .tup [TV r.1.1,.p (.bool r.1.2)]) (fun e=> .p (.iface 207 (I e))) (fun r=>HP r.2) (vis s t d))) (n:Nat) (t:Tm) (d:Int) (s:σ) (T0:List Au),size t≤n→Nd t→Vp t→0≤d→d+size t<Ci→HP s T0→BK Tryz.prog 92 [.agg [.fn (.func fid) [] caps],TV t,.p (I d)] T0 (OZ (fun(r:Tm×σ)=>TV r.1) (fun e=> .p (.iface 207 (I e))) (fun r=>HP r.2) (CW vis t d s)):=by
 intro σ vis HP fid caps hv n
 induction n with
 | zero=>intro t d s T0 h1;exact absurd h1 (by have:=size_pos t;omega)
 | succ n ih =>
  intro t d s T0 h1 h2 h3 h4 h5 h6;simp only[Ci] at h5;refine Ar Tryz.func92 O aH (n:=54) O O (Ao (A6 O (BF O) fun b3=>A6 O (BF O) fun b4=>A6 O (Ax Bh O) fun b6=>Bb O (Ao (Aq Al 4 [2,1] O (VP [_,_,_] O O O (.inr O) (hv s t d T0 h2 h3 h4 (by simp only[Ci];have:=size_pos t;omega) h6) (DH _) ?_ ?_)))))
  rotate_left
  ·intro e _ he;exact⟨O,_,List.nil_sublist _,⟨_,HX he,O⟩⟩
  rintro⟨⟨z,dn⟩,q⟩ T hz hT;refine Aq Al 3 [] O (A6 O (Ax Bh O) fun b7=>Ag Al 2 [0,1] O (Ai (Ah Al 1 [] O (Ak O (fun c=>?_) (fun c=>?_)))))
  ·(try simp only[sd,se] at c);refine Ah Al 2 [0,1,1] O (Am (⟨O,_,_,⟨_,_,O,(BD (i:=1) Be O O AW),O⟩,(Cu [] [_,_,_,_] O),?_⟩));exact⟨⟨z,q⟩,GW (by rw[hz,c]),O,hT⟩
  (try simp only[sd,se] at c);refine An (Ao (Aj O (BH HE O O) ?_));obtain⟨zk,zi,zn,zl,zs⟩:=z;refine Ag Al 1 [0,0] O (Ai (Ao (Aj O (BH HE O O) ?_)));obtain⟨tk,ti,tn,tl,ts⟩:=t;simp only[size] at h1 h5;have hn2:=h2;simp only[Nd,Ci] at hn2;refine Aj O (BT (i:=2) PO O O O) (Aj O (A8 BI O (A2 _)) (Ag Al 1 [] O (Ak O (fun c1=>?_) (fun c1=>?_))))
  ·(try simp only[sd,se] at c1);refine Ao (Aq Al 2 [2] O (Aj O (A8 BI O (A2 _)) (PQ O O (Em BI Bh O O Ac O O O Ad Ad Ad (Va (((ts.length:Nat):Int).toNat) (.mk 0 0 ⟨#[]⟩ [] []:Tm))) fun b29 cp=>Ag Al 2 [1,0] O (Ao (Aq Al 2 [3] O (Aj O (A8 BI O (A2 _)) (Ag Al 1 [] O (Aw ?_))))))));refine BR (α:=Nat×List Tm×σ×List Au×Option Nat×Nat) (fun(i,ys,q1,U,o,cp1)=>⟨54,mk [(2,.p (I d)),(3,.ptr b3 0),(4,.ptr b4 0),(6,.ptr b6 0),(7,.ptr b7 0),(32,.p (.lst (A1 ts))),(33,.p (I (ts.length:Nat))),(34,.p (I (i:Int)))],(.vec o 5 (A1 (ys++List.replicate (ts.length - i) BN)) cp1:: .box b7 [.p (I zk),.p (I zi),.p (.str zn),.p (.lst (List.map B0 zl)),.vs o (A1 (ys++List.replicate (ts.length - i) BN)).length cp1]:: .box b6 [.p (I 0),.p (I 0),.p (.str ⟨#[]⟩),.p (.nils),.p (.nils)]:: .box b4 [.p (I tk),.p (I ti),.p (.str tn),.p (.lst (List.map B0 tl)),.p (.lst (A1 ts))]:: .box b3 [.fn (.func fid) [] caps]::U),[]⟩) (fun(i,ys,q1,U,o,cp1)=>ts.length - i) (fun(i,ys,q1,U,o,cp1)=>i≤ts.length∧(KU vis tk ts d q i ys q1∧HP q1 U)) ⟨0,[],q,T,(some b29),cp⟩ (⟨by omega,KU.zero _ _ _ _,hT⟩) ?_ ?_
   ·exact BM ⟨we O,we O,we O,we O,we O,we O,we O,we O,Af⟩ (Od [0,1,2,3,4] [_,_,_,_,_] (l':=[_,_,_,_,_]) O (wl (oe O) (wl (oe O) (wl (oe O) (wl (oe O) (wl (oe O) (Cv)))))))
   rintro⟨i,ys,q1,U,o,cp1⟩ hC
   try simp only at hC
   obtain⟨hi,hB,hU⟩:=hC;have hbl:=Bp tk i;refine Ah Al 1 [] O (Ai (Ak O (fun c2=>?_) (fun c2=>?_)))
   ·(try simp only[sd,se] at c2);refine An (Ai (Aw (Ao (Ba O ?_))));obtain⟨x,hx⟩:=Av (l:=ts) (i:=i) Ad;refine Aj O (As BI O O Ad (BB hx) (Ay _)) (Aj O (BC Be O (Ay _)) (A6 O (Ax Bh O) fun b10=>Ag Al 2 [0,1] O (Kw (i:=1) O (by simp[A2];omega) fun b hb=>?_)));subst hb;refine Bt (fun k=>Nat.beq k 11) EY (BE Al 9 [2,5,0,4] O (A7 O (fun _=>A0 O O (R8 tk (i:Int)) O) Af (BE Al 1 [] O (ZM [_,_,_,_,_,_] O O O (.inl ⟨O,O,O⟩) (ih x (d+below tk i) q1 U (by have:=Bg hx;omega) (B2 h2.2.2.2.2.1 hx) (Ji h3.2 hx) (by have:=(Bp tk i).1;omega) (by have:=Bg hx;have:=Bp tk i;simp only[Ci];omega) hU) (DH _) AZ AZ O AB ?_ ?_))))
    rotate_left
    ·intro e he _ _ hτ;exact⟨O,_,List.nil_sublist _,⟨_,I0 (by rw[hz,c]) (hB.err hx he),O⟩⟩
    rintro⟨y,q2⟩ T1 hz1 hT1;refine⟨AB,Af,?_⟩;refine A7 O (fun _=>CB BI O O Ad (by simp only[A2,List.length_append,List.length_replicate,hB.1];omega)) Af (HF O O (CC (i:=1) (j:=i) Be O O O (by simp only[A2,List.length_append,List.length_replicate,hB.1];omega) O (FO _) (Ay _) (Ed _) (JB (ys++List.replicate (ts.length - i) BN) i y)) AB Af (F5 O AZ (Ap (Ag Al 2 [] O ?_))));refine⟨⟨i+1,ys++[y],q2,T1,(some b),cp1⟩,AN,⟨by omega,⟨hB.succ hx hz1,hT1⟩⟩,BM ⟨we rfl,we rfl,we rfl,we rfl,we rfl,we rfl,we rfl,we rfl,trivial⟩ (Od [1,2,3,4,5] [_,_,_,_,_,_] (l':=[_,_,_,_,_]) rfl (wl (HB ((ys++List.replicate (ts.length - i) BN).set i y) (by rw[Nl hB.1 Ad];congr 2)) (wl (SF (aw (we rfl) (aw (we rfl) (aw (we rfl) (aw (we rfl) (aw (we (Ef (ys++List.replicate (ts.length - i) BN) AY)) (Gy))))))) (wl (oe rfl) (wl (oe rfl) (wl (oe rfl) (Cv)))))))⟩
   (try simp only[sd,se] at c2);refine BQ (Ao (Bv (Bz (i:=0) (j:=1) (q:=4) [] O O O (Cq Af)) (Ag Al 2 [0,1,0] O (Am (⟨O,_,_,⟨_,_,O,(BD (i:=1) Be O O O),O⟩,(Cu [] [_,_,_,_] O),?_⟩)))));rw[show ts.length - i=0 by omega,List.replicate_zero,List.append_nil];exact⟨⟨.mk zk zi zn zl ys,q1⟩,F6 (by rw[hz,c]) (hB.fin Ad),O,hU⟩
  (try simp only[sd,se] at c1);refine An (Ah Al 2 [0,1,0] O (BO (By (i:=1) O) (Am (⟨O,_,_,⟨_,_,O,(BD (i:=1) Be O O O),O⟩,(Cu [] [_,_,_,_] O),?_⟩))));exact⟨⟨.mk zk zi zn zl [],q⟩,F6 (o:= .mk zk zi zn zl zs) (q:=q) (ys:=[]) (by rw[hz,c]) (by rw[show ts=[] by (cases ts with | nil=>rfl | cons a b=>simp at c1;omega)];rfl),O,hT⟩
theorem QE:∀(fid:Nat) (caps:List AV),BK Tryz.prog 93 [.fn (.func fid) [] caps] [] (PJ (fun b=> .agg [.fn (.func 133) [] [.ptr b 0]]) [.fn (.func fid) [] caps]):=by
 intro fid caps;refine Ar Tryz.func93 O Z8 (n:=5) O O (Ao (A6 O (BF O) fun b1=>A6 O (Ax Ya O) fun b2=>Bb O (Ah Al 3 [0,0] O (Am (⟨O,_,_,⟨_,_,O,(BD (i:=0) X9 O O O),O⟩,(Ca (is:=[1]) O),?_⟩)))));exact⟨_,O,O⟩
theorem Ns:∀(rep:Tm→Int→Except Int Tm) (fid:Nat) (caps:List AV) (T:List Au) (hr:∀(t:Tm) (d:Int),Nd t→Vp t→t.kind=0→0≤d→d<Ci→BK Tryz.prog fid ([TV t,.p (I d)]++caps) T (OZ (fun(r:Tm)=>TV r) (fun e=> .p (.iface 207 (I e))) (fun r H'=>H'=T) (rep t d))) (bR:Nat) (s:Unit) (t:Tm) (d:Int),Nd t→Vp t→0≤d→d<Ci→BK Tryz.prog 133 [TV t,.p (I d),.ptr bR 0] (.box bR [.fn (.func fid) [] caps]::T) (OZ (fun(r:(Tm×Bool)×Unit)=> .tup [TV r.1.1,.p (.bool r.1.2)]) (fun e=> .p (.iface 207 (I e))) (fun r H'=>H'= .box bR [.fn (.func fid) [] caps]::T) (F3 rep s t d)):=by
 intro rep fid caps T hr bR s t d h1 h2 h3 h4;refine Ar Tryz.func133 O Y0 (n:=16) O O (Ao (A6 O (BF O) fun b3=>A6 O (Ax Bh O) fun b5=>Ag Al 1 [] O (Ai (Ao (Aj O (BH HE O O) ?_)))));obtain⟨tk,ti,tn,tl,ts⟩:=t;refine Ag Al 2 [1] O (Ak O (fun c=>?_) (fun c=>?_))
 ·(try simp only[sd,se] at c);refine Ao (Aq Al 3 [2,1] O (VP [_,_,_] O O O (.inr O) (hr (.mk tk ti tn tl ts) d h1 h2 c h3 h4) (DH _) ?_ ?_))
  rotate_left
  ·intro e _ he;exact⟨O,_,List.nil_sublist _,⟨_,J5 c he,O⟩⟩
  rintro z _ hz rfl;refine Ag Al 2 [0,1] O (Am (⟨O,_,_,⟨_,_,O,(BD (i:=0) Be O O AW),⟨_,_,O,O,O⟩⟩,(Cu [2] [_,_,_] O),?_⟩));exact⟨⟨⟨z,true⟩,()⟩,Mm c hz,O,O⟩
 (try simp only[sd,se] at c);refine An (Ao (Aj O (Bf (i:=1) Be O O O) (Aj O (A0 O O (J8 (.mk tk ti tn tl ts:Tm) h1) O) (Ag Al 2 [0,1] O (Am (⟨O,_,_,⟨_,_,O,(BD (i:=0) Be O O AW),⟨_,_,O,O,O⟩⟩,(Cu [2] [_,_,_] O),?_⟩))))));exact⟨⟨⟨.mk tk ti tn tl [],false⟩,()⟩,M6 c,O,O⟩
theorem RU:∀(t:Tm) (d:Int) (bf bb:Nat) (fr b:Int),(Nd t)→(Vp t)→(t.kind=0)→(0≤d)→(d<Ci)→(-4611686018427387904≤b∧b≤4611686018427387904)→(-2305843009213693952≤fr∧fr≤2305843009213693952)→BK Tryz.prog 128 [.agg ((BA t).map .p),.p (I d),.ptr bf 0,.ptr bb 0] [.box bf [.p (I fr)],.box bb [.p (I b)]] (OZ (fun(r:Tm)=>TV r) (fun e=> .p (.iface 207 (I e))) (fun r H'=>H'=[.box bf [.p (I fr)],.box bb [.p (I b)]]) (Pn b fr t d)):=by
 intro t d bf bb fr b h1 h2 h3 h4 h5 h6 h7;obtain⟨tk,ti,tn,tl,ts⟩:=t;have hi:=h2.1 h3;simp only[Ci] at h5;refine Ar Tryz.func128 O ZV (n:=32) O O (Ao (A6 O (BF O) fun b4=>A6 O (Ax Bh O) fun b6=>Bb O (Ah Al 5 [1] O (Ai (Ah Al 3 [2] O (Ak O (fun c=>?_) (fun c=>?_)))))))
 ·(try simp only[sd,se] at c);refine Ao (Aj O (Bf (i:=1) Be O O O) (Aj O (A0 O O (J8 (.mk tk ti tn tl ts:Tm) h1) O) (Ag Al 1 [0,1] O (Am (⟨O,_,_,⟨_,_,O,(BD (i:=0) Be O O AW),O⟩,(Ca (is:=[2,3]) O),?_⟩)))));exact⟨(.mk tk ti tn tl []),P3 c,O,O⟩
 (try simp only[sd,se] at c);refine An (Ai (Ai (BL [3,4,6] 25 (fun y=>y= .p (.bool ((decide ((b:Int)<(0:Int)))&&(decide (((ti:Int) - (d:Int):Int)<((fr:Int) - (b:Int):Int)))))) ?_ ?_)))
 ·refine Ap (Aq Al 3 [3] O (A5 19 O (fun g=>?_) (fun g=>?_)))
  ·(try simp only[sd,se] at g);exact Ag Al 6 [2,3] O (⟨O,O,AH,AG,⟨O,O,O,Af⟩⟩)
  (try simp only[sd,se] at g);exact Ag Al 6 [] O (⟨O,O,AH,AG,⟨O,O,O,Af⟩⟩)
 rintro _ rfl;refine Ak O (fun c1=>?_) (fun c1=>?_)
 ·(try simp only[sd,se] at c1);exact Ap (Kk O O O (.inl ⟨O,O,O⟩) (MO 24) (aw (we O) (Gy)) (⟨O,_,List.nil_sublist _,⟨_,P0 Ad Ad Ad,O⟩⟩))
 (try simp only[sd,se] at c1);refine An (Ao (Aq Al 4 [1,3] O (KL [] O O O (.inl ⟨O,O,O⟩) (NY ((ti:Int)+(b:Int))) O Ac (aw (we O) (Gy)) (fun _ _ h=>(congrArg List.length h).trans O) ?_ ?_)))
 rotate_left
 ·intro e _ he;exact⟨O,_,List.nil_sublist _,⟨_,by rw[PC Ad Ad,he],rfl⟩⟩
 rintro z _ hz rfl;refine Ag Al 1 [0,1] O (Am (⟨O,_,_,⟨_,_,O,(BD (i:=0) Be O O AW),O⟩,(Ca (is:=[2,3]) O),?_⟩));exact⟨z,by rw[PC Ad Ad,hz],rfl,rfl⟩
theorem _root_.Go.AJ {α:Prop}(h:α:=by repeat' first | exact trivial | rfl | refine And.intro ?_ ?_):α:=h
theorem Kt:∀(t:Tm) (b fr:Int),(Nd t)→(Vp t)→(size t<Ci)→(-4611686018427387904≤b∧b≤4611686018427387904)→(-2305843009213693952≤fr∧fr≤2305843009213693952)→BK Tryz.prog 81 [.agg ((BA t).map .p),.p (I b),.p (I fr)] [] (OZ (fun(r:Tm)=>TV r) (fun e=> .p (.iface 207 (I e))) (fun r H'=>H'=[]) (FB b fr t)):=by
 intro t b fr h1 h2 h3 h4 h5;refine Ar Tryz.func81 O aB (n:=11) O O (Ao (A6 O (BF O) fun b3=>A6 O (BF O) fun b4=>A6 O (BF O) fun b5=>A6 O (Ax Bh O) fun b6=>Bb O (Ai (Bt (fun k=>Nat.beq k 1||Nat.beq k 3) EY (A7 O (fun _=>CU O O) Af (ID [(2,.read [.box b3 ((BA t).map .p)] (.agg ((BA t).map .p)))] O O O (.inl ⟨O,O,O⟩) (QE 128 [.ptr b5 0,.ptr b4 0]) (.inl O) AZ fun bn=>⟨AB,Af,?_⟩))))));refine BE Al 1 [4] O ?_;refine ML [0,2,3] O O O (.inl ⟨O,O,O⟩) (Kr (F3 (Pn b fr)) (fun _ T=>T=[.box bn [.fn (.func 128) [] [.ptr b5 0,.ptr b4 0]],.box b5 [.p (I fr)],.box b4 [.p (I b)]]) 133 [.ptr bn 0] (fun s t d T hn hp h0 hb hT=>by subst hT;exact Ns (Pn b fr) 128 [.ptr b5 0,.ptr b4 0] _ (fun t d g1 g2 g3 g4 g5=>RU t d b5 b4 fr b g1 g2 g3 g4 g5 h4 h5) bn s t d hn hp h0 hb) _ t 0 () _ (Nat.le_refl _) h1 h2 Ad Ad rfl) ⟨_,_,rfl,rfl,⟨_,_,rfl,rfl,⟨_,_,rfl,rfl,rfl⟩⟩⟩ Ac (DH _) (fun _ _ h=>(congrArg List.length h).trans rfl) AZ AZ rfl AB ?_ ?_
 rotate_left
 ·intro e he _ _ hτ;exact⟨O,_,List.nil_sublist _,⟨_,IS he,O⟩⟩
 rintro⟨z,_⟩ _ hz rfl;refine⟨AB,AJ,?_⟩;refine Bl Al 1 [1,1] O (Am (⟨O,_,_,⟨_,_,O,(BD (i:=1) Be O O AW),O⟩,(List.nil_sublist _),?_⟩));exact⟨z,K0 hz,O,O⟩
theorem Lx:∀(bo be:Nat) (co ce:List AV),CX Tryz.prog 88 [.ptr bo 0,.ptr be 0] (.ret) [.box bo co,.box be ce] (fun H'=>H'=[.box bo co,.box be ce]):=by
 intro bo be co ce;refine D2 (ty2:=0) Tryz.func88 O ZN (n:=9) O O O O O O (Ao (Ba O (Aj O (Dj Qs O O O) (Bb O ?_))));refine Ak O (fun c=>by cases c) (fun c=>?_);exact An ⟨.inl O,O,_,(Ca (is:=[0,1]) O),O⟩
theorem L4:∀(bo be:Nat) (e:Int),CX Tryz.prog 88 [.ptr bo 0,.ptr be 0] (.pan (.p (.iface 207 (I e)))) [.box bo [.p (I 0),.p (I 0),.p (.str ⟨#[]⟩),.p (.nils),.p (.nils)],.box be [.p (I 0)]] (fun H'=>H'=[.box bo [.p (I 0),.p (I 0),.p (.str ⟨#[]⟩),.p (.lst []),.p (.lst [])],.box be [.p (I e)]]):=by
 intro bo be e;refine D2 (ty2:=0) Tryz.func88 O ZN (n:=9) O O O O O O (Ao (Ba O (Aj O (Dj Qs O O O) (Bv (By (i:=0) O) (Bb O ?_)))));refine Ak O (fun c=>?_) (fun c=>by cases c);exact Ap (Aq Al 2 [] O (Aj O (A0 O O (MF _) O) (Aq Al 2 [0,0,1,0] O (Bv (By (i:=0) O) (Bb O ⟨.inl O,O,_,(Ca (is:=[0,1]) O),O⟩)))))
theorem LW:∀(t:Tm) (d:Int) (bd bv:Nat) (dp:Int) (vs:List Tm),BK Tryz.prog 89 [.agg ((BA t).map .p),.p (I d),.ptr bd 0,.ptr bv 0] [.box bd [.p (I dp)],.box bv [.p (.lst (A1 vs))]] (GV (.p (I (FC vs dp t.index d))) [.box bd [.p (I dp)],.box bv [.p (.lst (A1 vs))]]):=by
 intro t d bd bv dp vs;obtain⟨tk,ti,tn,tl,ts⟩:=t;refine Ar Tryz.func89 O bS (n:=23) O O (Ao (A6 O (BF O) fun b4=>Ag Al 1 [] O (Ai (Ao (Aq Al 3 [0] O (Aj O (FM O O) (Aj O (BT (i:=1) VV O O O) (Aj O (FM O O) (Ag Al 1 [] O (Ai (BL [7] 21 (fun y=>y= .p (.bool ((decide ((wr ((wr ((ti:Int) - (d:Int)):Int) - (dp:Int)):Int)≥(0:Int)))&&(decide ((wr ((wr ((ti:Int) - (d:Int)):Int) - (dp:Int)):Int)<((vs.length:Nat):Int)))))) ?_ ?_)))))))))))
 ·refine Ap (Aq Al 3 [] O (A5 16 O (fun g=>?_) (fun g=>?_)))
  ·(try simp only[sd,se] at g);exact Aq Al 2 [2] O (BP O (A8 BI O (A2 _)) (Ag Al 2 [] O (⟨O,O,AH,AG,⟨O,Af⟩⟩)))
  (try simp only[sd,se] at g);exact Ag Al 5 [] O (⟨O,O,AH,AG,⟨O,Af⟩⟩)
 rintro _ rfl;refine Ak O (fun c=>?_) (fun c=>?_)
 ·(try simp only[sd,se] at c);refine Ah Al 2 [] O (Am (⟨O,_,_,⟨_,_,O,O,O⟩,(Ca (is:=[1,2]) O),?_⟩))
  all_goals exact⟨pI (Rf Ad Ad).symm,rfl⟩
 (try simp only[sd,se] at c);refine An (Ah Al 1 [] O (Am (⟨O,_,_,⟨_,_,O,O,O⟩,(Ca (is:=[1,2]) O),?_⟩)))
 all_goals exact⟨pI (Tz (ti:=ti) Ad).symm,rfl⟩
theorem RI:∀(t:Tm) (d:Int) (bv bc bs bd bvs cb:Nat) (dp n:Int) (vs:List Tm) (sz:List Int),(sz.length=vs.length)→BK Tryz.prog 90 [.agg ((BA t).map .p),.p (I d),.ptr bv 0,.ptr bc 0,.ptr bs 0] [.box bv [.fn (.func 89) [] [.ptr bd 0,.ptr bvs 0]],.box bc [.ptr cb 0],.box bs [.p (.lst (List.map DD sz))],.box bd [.p (I dp)],.box bvs [.p (.lst (A1 vs))],.box cb [.p (I n)]] (OZ (fun(r:(Tm×Bool)×Int)=> .tup [TV r.1.1,.p (.bool r.1.2)]) (fun e=> .p (.iface 207 (I e))) (fun r H'=>H'=[.box bv [.fn (.func 89) [] [.ptr bd 0,.ptr bvs 0]],.box bc [.ptr cb 0],.box bs [.p (.lst (List.map DD sz))],.box bd [.p (I dp)],.box bvs [.p (.lst (A1 vs))],.box cb [.p (I r.2)]]) (Nz vs sz dp n t d)):=by
 intro t d bv bc bs bd bvs cb dp n vs sz h1;obtain⟨tk,ti,tn,tl,ts⟩:=t;refine Ar Tryz.func90 O bz (n:=33) O O (Ao (A6 O (BF O) fun b5=>A6 O (Ax Bh O) fun b7=>Ag Al 1 [] O (Ai (Ao (Aq Al 3 [2,1] O (Aj O (CI [5,6] O (.inr O) (LW (.mk tk ti tn tl ts:Tm) d bd bvs dp vs) ⟨_,_,O,O,⟨_,_,O,O,O⟩⟩ Ac O (.inl O)) (Ag Al 1 [] O (Ai (BL [3,4,5,7,9] 20 (fun y=>y= .p (.bool (((tk:Int)==(0:Int))&&(decide ((FC vs dp (.mk tk ti tn tl ts:Tm).index d:Int)≥(0:Int)))))) ?_ ?_)))))))))
 ·refine Ap (Aq Al 4 [1] O (A5 17 O (fun g=>?_) (fun g=>?_)))
  ·(try simp only[sd,se] at g);exact Ag Al 3 [] O (⟨O,O,AH,AG,⟨O,O,O,O,O,Af⟩⟩)
  (try simp only[sd,se] at g);exact Ag Al 3 [] O (⟨O,O,AH,AG,⟨O,O,O,O,O,Af⟩⟩)
 rintro _ rfl;refine Ak O (fun c=>?_) (fun c=>?_)
 ·(try simp only[sd,se] at c);have hvl:=MW (vs:=vs) (dp:=dp) (ti:=(Tm.mk tk ti tn tl ts).index) (d:=d) c.2;refine Bt (fun k=>Nat.beq k 5) EY (BE Al 3 [3,4] O ?_);obtain⟨x,hx⟩:=Av (l:=sz) (i:=(FC vs dp (.mk tk ti tn tl ts:Tm).index d:Int).toNat) Ad;refine A7 O (fun _=>As DS O O Ad (FJ hx) (O)) Af (A7 O (fun _=>EA VV O) Af (ML [7] O O O (.inl ⟨O,O,O⟩) (TZ cb n x) ⟨_,_,O,O,O⟩ Ac (aw (we O) (aw (we O) (Gy))) (fun _ _ h=>(congrArg List.length h).trans O) AZ AZ O AB ?_ ?_))
  rotate_left
  ·intro e he _ _ hτ;exact⟨O,_,List.nil_sublist _,⟨_,NR (NJ c hx) he,O⟩⟩
  rintro r _ hz rfl;refine⟨AB,Af,?_⟩;refine F5 O AZ (Ai (Bt (fun k=>false) EY (Bl Al 6 [1,0,0] O (BO (By (i:=0) O) (Am (⟨O,_,_,⟨_,_,O,(BD (i:=0) Be O O O),⟨_,_,O,O,O⟩⟩,(Ca (is:=[2,3,4,5,6,7]) O),?_⟩))))));exact⟨⟨⟨BN,decide (tk=0)⟩,r⟩,QS (NJ c hx) hz,O,O⟩
 (try simp only[sd,se] at c);refine Ap (Aj O (BT (i:=3) YJ O O O) (KL [7] O O O (.inl ⟨O,O,O⟩) (TZ cb n 1) ⟨_,_,O,O,O⟩ Ac (aw (we O) (aw (we O) (Gy))) (fun _ _ h=>(congrArg List.length h).trans O) ?_ ?_))
 rotate_left
 ·intro e _ he;exact⟨O,_,List.nil_sublist _,⟨_,NR (Qa (by simp_all [Tm.index])) he,O⟩⟩
 rintro r _ hz rfl;refine Bb O (Ai (Bt (fun k=>false) EY (Bl Al 6 [1,0,0] O (BO (By (i:=0) O) (Am (⟨O,_,_,⟨_,_,O,(BD (i:=0) Be O O O),⟨_,_,O,O,O⟩⟩,(Ca (is:=[2,3,4,5,6,7]) O),?_⟩))))));exact⟨⟨⟨BN,decide (tk=0)⟩,r⟩,QS (Qa (by simp_all [Tm.index])) hz,O,O⟩
theorem Ra:∀(t:Tm) (d:Int) (bv bvs bd:Nat) (dp:Int) (vs:List Tm),(Nd t)→(Vp t)→(t.kind=0)→(0≤d)→(d<Ci)→(IX vs)→(Oc vs)→(∀v∈vs,size v<Ci)→(0≤dp∧dp≤65536)→(vs.length<Ci)→BK Tryz.prog 94 [.agg ((BA t).map .p),.p (I d),.ptr bv 0,.ptr bvs 0,.ptr bd 0] [.box bv [.fn (.func 89) [] [.ptr bd 0,.ptr bvs 0]],.box bvs [.p (.lst (A1 vs))],.box bd [.p (I dp)]] (OZ (fun(r:Tm)=>TV r) (fun e=> .p (.iface 207 (I e))) (fun r H'=>H'=[.box bv [.fn (.func 89) [] [.ptr bd 0,.ptr bvs 0]],.box bvs [.p (.lst (A1 vs))],.box bd [.p (I dp)]]) (Hc vs dp t d)):=by
 intro t d bv bvs bd dp vs h1 h2 h3 h4 h5 h6 h7 h8 h9 h10;obtain⟨tk,ti,tn,tl,ts⟩:=t;have hti:=h2.1 h3;simp only[Ci] at h5;have hw:wr (dp+d)=dp+d:=EH (by unfold HD;omega);refine Ar Tryz.func94 O bY (n:=37) O O (Ao (A6 O (BF O) fun b5=>A6 O (Ax Bh O) fun b7=>Bb O (Ai (Ao (Aq Al 3 [2,1] O (Aj O (CI [4,3] O (.inr O) (LW (.mk tk ti tn tl ts:Tm) d bd bvs dp vs) ⟨_,_,O,O,⟨_,_,O,O,O⟩⟩ Ac O (.inl O)) (Ag Al 1 [] O (Ah Al 2 [] O (Ak O (fun c=>?_) (fun c=>?_))))))))))
 ·(try simp only[sd,se] at c);have hvl:=MW (vs:=vs) (dp:=dp) (ti:=(Tm.mk tk ti tn tl ts).index) (d:=d) c;refine Ai (Bt (fun k=>Nat.beq k 7) EY (BE Al 2 [3] O ?_));obtain⟨x,hx⟩:=Av (l:=vs) (i:=(FC vs dp (.mk tk ti tn tl ts:Tm).index d:Int).toNat) Ad;refine A7 O (fun _=>As BI O O Ad (BB hx) (Ay _)) Af (BE Al 3 [4] O (A7 O (fun _=>DU O O) Af (ML [] O O O (.inl ⟨O,O,O⟩) (Kt x (wr ((dp:Int)+(d:Int))) 0 (B2 h6 hx) (Ji h7 hx) (h8 x (List.mem_of_getElem? hx)) (by rw[hw];omega) Ad) O Ac (aw (we O) (aw (we O) (aw (we O) (Gy)))) (fun _ _ h=>(congrArg List.length h).trans O) AZ AZ O AB ?_ ?_)))
  rotate_left
  ·intro e he _ _ hτ;exact⟨O,_,List.nil_sublist _,⟨_,(NT (i:=ti) c hx).trans he,O⟩⟩
  rintro z _ hz rfl;refine⟨AB,Af,?_⟩;refine Bl Al 1 [0,1] O (Am (⟨O,_,_,⟨_,_,O,(BD (i:=0) Be O O AW),O⟩,(Ca (is:=[2,3,4]) O),?_⟩));exact⟨z,(NT (i:=ti) c hx).trans hz,O,O⟩
 (try simp only[sd,se] at c);refine An (Ai (Ao (Aq Al 3 [1] O (Aj O (FM O O) (Ag Al 2 [4] O (Ak O (fun c1=>?_) (fun c1=>?_)))))))
 ·(try simp only[sd,se] at c1);refine Ao (Aj O (Bf (i:=1) Be O O O) (Aj O (A0 O O (J8 (.mk tk ti tn tl ts:Tm) h1) O) (Ag Al 1 [0,1] O (Am (⟨O,_,_,⟨_,_,O,(BD (i:=0) Be O O AW),O⟩,(Ca (is:=[2,3,4]) O),?_⟩)))));exact⟨(.mk tk ti tn tl []),Su (by simpa [Tm.index] using c) Ad,O,O⟩
 (try simp only[sd,se] at c1);refine An (Ao (Aq Al 3 [1,3] O (Aj O (A8 BI O (A2 _)) (Aj O (FM O O) (KL [] O O O (.inl ⟨O,O,O⟩) (NY (wr ((ti:Int) - ((vs.length:Nat):Int)))) O Ac (aw (we O) (Gy)) (fun _ _ h=>(congrArg List.length h).trans O) ?_ ?_)))))
 rotate_left
 ·intro e _ he;exact⟨O,_,List.nil_sublist _,⟨_,by rw[P2 (by simpa [Tm.index] using c) Ad,he],rfl⟩⟩
 rintro z _ hz rfl;refine Ag Al 1 [0,1] O (Am (⟨O,_,_,⟨_,_,O,(BD (i:=0) Be O O AW),O⟩,(Ca (is:=[2,3,4]) O),?_⟩));exact⟨z,by rw[P2 (by simpa [Tm.index] using c) Ad,hz],rfl,rfl⟩
theorem _root_.Go.AE {α:Prop}(h:α:=by simp only[List.length_append,List.length_map,List.length_take,List.length_replicate];omega):α:=h
set_option maxHeartbeats 2000000 in
theorem RR:∀(t:Tm) (vs:List Tm) (dp:Int),(Nd t)→(Vp t)→(size t<1099511627776)→(IX vs)→(Oc vs)→(∀v∈vs,size v<Ci)→(0≤dp∧dp≤65536)→(vs.length<Ci)→Dp Tryz.prog 48 [.agg ((BA t).map .p),.p (.lst (A1 vs)),.p (I dp)] (.tup [.agg ((BA ((Cs t vs dp).1)).map .p),.p (I ((Cs t vs dp).2))]):=by
 intro t vs dp h1 h2 h3 h4 h5 h6 h7 h8;have h8b:=h8;simp only[Ci] at h8b;refine Cr Tryz.func48 O cK (n:=49) O O (Ao (A6 O (BF O) fun b3=>A6 O (BF O) fun b4=>A6 O (BF O) fun b5=>A6 O (Ax Bh O) fun b6=>A6 O (Ax Sl O) fun b7=>Bb O (Ai (Ah Al 2 [2] O (Ak O (fun c=>?_) (fun c=>?_))))))
 ·(try simp only[sd,se] at c);exact absurd c Ad
 (try simp only[sd,se] at c);refine An (Ao (Aj O (CU O O) (Hk O O O O (Bb O (Ao (Aj O (CU O O) (A6 O (Ax Yu O) fun b8=>Ag Al 1 [0,0] O (Ao (Aj O (BT (i:=4) PO O O O) (Aj O (A8 BI O (A2 _)) (PQ O O (Em DS Td O O Ac O O O Ad Ad Ad (WI (f:=DD) (((vs.length:Nat):Int).toNat) 0)) fun b20 cp=>A6 O (Ax ZP O) fun b9=>Ag Al 1 [0,0] O (Ai (Ao (Aj O (BT (i:=6) PO O O O) (Aj O (A8 BI O (A2 _)) (Ag Al 1 [] O (Aw ?_)))))))))))))))));refine BR (α:=Nat×Option Nat×Nat) (fun(i,o,cp1)=>⟨49,mk [(3,.ptr b3 0),(4,.ptr b4 0),(5,.ptr b5 0),(6,.ptr b6 0),(7,.ptr b7 0),(8,.ptr b8 0),(9,.ptr b9 0),(21,.p (.lst (A1 vs))),(22,.p (I (vs.length:Nat))),(23,.p (I (i:Int)))],[.box b9 [.vs o (List.map DD (((vs.take i).map fun v=>(size v:Int))++List.replicate (vs.length - i) 0)).length cp1],.vec o 1 (List.map DD (((vs.take i).map fun v=>(size v:Int))++List.replicate (vs.length - i) 0)) cp1,.box b8 [.fn (.func 89) [] [.ptr b5 0,.ptr b4 0]],.box b7 [.p (I 0)],.box b6 [.p (I 0),.p (I 0),.p (.str ⟨#[]⟩),.p (.nils),.p (.nils)],.box b5 [.p (I dp)],.box b4 [.p (.lst (A1 vs))],.box b3 ((BA t).map .p)],[.clo (.func 88) [.ptr b6 0,.ptr b7 0]]⟩) (fun(i,o,cp1)=>vs.length - i) (fun(i,o,cp1)=>i≤vs.length) ⟨0,(some b20),cp⟩ AM ?_ ?_
 ·exact BM ⟨we O,we O,we O,we O,we O,we O,we O,we O,we O,we O,Af⟩ (leH (is:=[0,1,2,3,4,5,6,7]) O (wl (SF (aw (we (Qd (f:=DD) (List.replicate (((vs.length:Nat):Int).toNat) 0) Ae)) (Gy))) (wl (M7 (f:=DD) (List.replicate (((vs.length:Nat):Int).toNat) 0) Ae) (wl (oe O) (wl (oe O) (wl (oe O) (wl (oe O) (wl (oe O) (wl (oe O) (Cv))))))))))
 rintro⟨i,o,cp1⟩ hC
 try simp only at hC
 have hi:=hC;refine Ah Al 1 [] O (Ai (Ak O (fun c1=>?_) (fun c1=>?_)))
 ·(try simp only[sd,se] at c1);refine An (Ai (Aw (Ao (Ba O ?_))));obtain⟨x,hx⟩:=Av (l:=vs) (i:=i) Ad;refine Aj O (As BI O O Ad (BB hx) (Ay _)) (Aj O (BC Be O (Ay _)) (A6 O (Ax Bh O) fun b11=>Ag Al 2 [0,1] O (Kw (i:=2) O (by simp[A2];omega) fun b hb=>?_)));subst hb;refine Bt (fun k=>false) EY (BE Al 3 [1,0] O (A7 O (fun _=>A0 O O (Pb x (B2 h4 hx) (by have:=h6 x (List.mem_of_getElem? hx);simp only[Ci] at this;omega)) O) Af (A7 O (fun _=>CB DS O O Ad AE) Af (HF O O (CC (i:=2) (j:=i) VV O O O AE O O O O (XU (f:=DD) (((vs.take i).map fun v=>(size v:Int))++List.replicate (vs.length - i) 0) i (size x:Nat))) AB Af (F5 O AZ (Ap (Ag Al 2 [] O ?_)))))));refine⟨⟨i+1,(some b),cp1⟩,AN,by omega,BM ⟨we rfl,we rfl,we rfl,we rfl,we rfl,we rfl,we rfl,we rfl,we rfl,we rfl,trivial⟩ (leH (is:=[1,2,3,4,5,6,7,8]) rfl (wl (SF (aw (we (RL (f:=DD) (((vs.take i).map fun v=>(size v:Int))++List.replicate (vs.length - i) 0) AY)) (Gy))) (wl (M7 (f:=DD) ((((vs.take i).map fun v=>(size v:Int))++List.replicate (vs.length - i) 0).set i (size x:Nat)) (Xa hx)) (wl (oe rfl) (wl (oe rfl) (wl (oe rfl) (wl (oe rfl) (wl (oe rfl) (wl (oe rfl) (Cv))))))))))⟩
 (try simp only[sd,se] at c1);refine BQ (Ao ?_);rw[Zm (vs:=vs) (i:=i) Ad];refine Bv (Bz (i:=1) (j:=0) (q:=0) [] O O O (Cq Af)) (Aj O (D7 ZJ ZE O) (A6 O (BF O) fun b35=>A6 O (Ax Yj O) fun b12=>Ag Al 1 [0,0] O (Ao (Aq Al 3 [8] O ?_))));refine KL [3,0,2,6,7,1] O O O (.inl ⟨O,O,O⟩) (Kr (Nz vs (vs.map fun v=>(size v:Int)) dp) (fun n T=>T=[.box b8 [.fn (.func 89) [] [.ptr b5 0,.ptr b4 0]],.box b12 [.ptr b35 0],.box b9 [.p (.lst (List.map DD (vs.map fun v=>(size v:Int))))],.box b5 [.p (I dp)],.box b4 [.p (.lst (A1 vs))],.box b35 [.p (I n)]]) 90 [.ptr b8 0,.ptr b12 0,.ptr b9 0] (fun n t d T hn hp h0 hb hT=>by subst hT;exact RI t d b8 b12 b9 b5 b4 b35 dp n vs (vs.map fun v=>(size v:Int)) Ae) _ t 0 0 _ (Nat.le_refl _) h1 h2 Ad AS rfl) ⟨_,_,rfl,rfl,⟨_,_,rfl,rfl,⟨_,_,rfl,rfl,⟨_,_,rfl,rfl,⟨_,_,rfl,rfl,⟨_,_,rfl,rfl,rfl⟩⟩⟩⟩⟩⟩ Ac (DH _) (fun _ _ h=>(congrArg List.length h).trans rfl) ?_ ?_
 rotate_left
 ·intro e _ he;refine⟨_,_,_,O,Ii (is:=[1,0]) _ Ac ⟨_,_,O,O,⟨_,_,O,O,O⟩⟩,CX.eq (L4 b6 b7 _) ?_⟩;refine⟨_,[],⟨_,_,O,(BD (i:=0) Be O O O),⟨_,_,O,(Dq (i:=1) Mi O O),O⟩⟩,(List.nil_sublist _),?_⟩;rw[IC (OR he)];exact⟨O,O⟩
 rintro⟨z,n1⟩ _ hz rfl;refine Bb O (Ai (Bt (fun k=>Nat.beq k 1||Nat.beq k 3) EY (A7 O (fun _=>CU O O) Af (ID [(2,.read [.box b3 ((BA t).map .p)] (.agg ((BA t).map .p)))] O O O (.inl ⟨O,O,O⟩) (QE 94 [.ptr b8 0,.ptr b4 0,.ptr b5 0]) (.inl O) AZ fun bn=>⟨AB,Af,?_⟩))));refine BE Al 1 [9] O ?_;refine ML [0,4,8,7] O O O (.inl ⟨O,O,O⟩) (Kr (F3 (Hc vs dp)) (fun _ T=>T=[.box bn [.fn (.func 94) [] [.ptr b8 0,.ptr b4 0,.ptr b5 0]],.box b8 [.fn (.func 89) [] [.ptr b5 0,.ptr b4 0]],.box b4 [.p (.lst (A1 vs))],.box b5 [.p (I dp)]]) 133 [.ptr bn 0] (fun s t d T hn hp h0 hb hT=>by subst hT;exact Ns (Hc vs dp) 94 [.ptr b8 0,.ptr b4 0,.ptr b5 0] [.box b8 [.fn (.func 89) [] [.ptr b5 0,.ptr b4 0]],.box b4 [.p (.lst (A1 vs))],.box b5 [.p (I dp)]] (fun t d g1 g2 g3 g4 g5=>Ra t d b8 b4 b5 dp vs g1 g2 g3 g4 g5 h4 h5 h6 h7 h8) bn s t d hn hp h0 hb) _ t 0 () _ (Nat.le_refl _) h1 h2 Ad AS rfl) ⟨_,_,rfl,rfl,⟨_,_,rfl,rfl,⟨_,_,rfl,rfl,⟨_,_,rfl,rfl,rfl⟩⟩⟩⟩ Ac (DH _) (fun _ _ h=>(congrArg List.length h).trans rfl) AZ AZ rfl AB ?_ ?_
 rotate_left
 ·intro e he _ _ hτ;refine⟨_,_,_,O,Ii (is:=[4,3]) _ Ac ⟨_,_,O,O,⟨_,_,O,O,O⟩⟩,CX.eq (L4 b6 b7 _) ?_⟩;refine⟨_,[],⟨_,_,O,(BD (i:=0) Be (hτ 6 (J9 AZ)) O O),⟨_,_,O,(Dq (i:=1) Mi (hτ 7 (J9 AZ)) O),O⟩⟩,(List.nil_sublist _),?_⟩;rw[IC (OU hz he)];exact⟨O,O⟩
 rintro⟨z1,_⟩ _ hz1 rfl;refine⟨AB,AJ,?_⟩;refine Bl Al 1 [6,1] O (Ai (Ao (Aj O (Bf (i:=6) Be O O AW) (Aj O (A0 O O (ON _ z1 (Nat.le_refl _) (Ts h4 h5 h1 h2 hz1)) O) (Ag Al 1 [] O (Ak O (fun c2=>?_) (fun c2=>?_)))))))
 ·(try simp only[sd,se] at c2);refine Ao (Aj O (D7 HE Bh O) ?_);obtain⟨z1k,z1i,z1n,z1l,z1s⟩:=z1;refine Ag Al 2 [6,0,5,0] O (BO (By (i:=6) O) (Am (⟨_,_,_,O,CF (is:=[6,5]) Ac ⟨_,_,O,O,⟨_,_,O,O,O⟩⟩,CX.eq (Lx b6 b7 _ _) ?_⟩)));refine⟨_,_,⟨_,_,O,(BD (i:=0) Be O O O),⟨_,_,O,(Dq (i:=1) Mi O O),O⟩⟩,(List.nil_sublist _),?_⟩;rw[NU (L1 hz hz1) Ad]
  all_goals exact⟨rfl,rfl⟩
 (try simp only[sd,se] at c2);refine An (Ah Al 3 [6,6,1,5,0] O (Am (⟨_,_,_,O,CF (is:=[6,5]) Ac ⟨_,_,O,O,⟨_,_,O,O,O⟩⟩,CX.eq (Lx b6 b7 _ _) ?_⟩)));refine⟨_,_,⟨_,_,O,(BD (i:=0) Be O O AW),⟨_,_,O,(Dq (i:=1) Mi O O),O⟩⟩,(List.nil_sublist _),?_⟩;rw[Qq (L1 hz hz1) Ad]
 all_goals exact⟨rfl,rfl⟩
theorem Qm:∀(t:Tm) (vs:List Tm),(Nd t)→(Vp t)→(size t<1099511627776)→(IX vs)→(Oc vs)→(∀v∈vs,size v<Ci)→(vs.length<Ci)→Dp Tryz.prog 22 [.agg ((BA t).map .p),.p (.lst (A1 vs))] (.tup [.agg ((BA ((Cs t vs 0).1)).map .p),.p (I ((Cs t vs 0).2))]):=by
 intro t vs h1 h2 h3 h4 h5 h6 h7;refine Ar Tryz.func22 O bp (n:=11) O O (Ao (A6 O (BF O) fun b2=>A6 O (Ax Bh O) fun b4=>Ag Al 1 [] O (Ao (Aq Al 2 [1] O (Aj O (A0 O O (RR t vs 0 h1 h2 h3 h4 h5 h6 Ad h7) O) (Ag Al 4 [0,1] O (Am (⟨O,_,_,⟨_,_,O,(BD (i:=0) Be O O AW),⟨_,_,O,O,O⟩⟩,(List.nil_sublist _),?_⟩))))))))
 all_goals exact⟨rfl,rfl⟩
end Go.Proofs.YtldfmjoncbjldaaGreat
namespace Go.Eu
open Go.Abs
mutual
def MT (x d:Int):Tm→Bool
 | .mk k i n l ks=>(decide (k=0)&&decide (d≤i)&&decide (i - d=x))||Fy x d k 0 ks
def Fy (x d k:Int) (j:Nat):List Tm→Bool
 | []=>false
 | t::ts=>MT x (d+below k j) t||Fy x d k (j+1) ts
end
def Qx (l:List Int) (n:Int) (l2:List Int):Prop:=(∀x,x∈l2↔x=n∨x∈l)∧l2.length≤l.length+1
theorem Qx.same {l:List Int}{n:Int}(h:n∈l):Qx l n l:=⟨fun x=>⟨.inr,fun e=>e.elim (fun e=>e▸h) id⟩,by omega⟩
structure JM (l:List Int) (n:Int) (i:Nat) (f:Bool) (out:List Int):Prop where
 mem:∀x,x∈out↔(f=true∧x=n)∨x∈l.take i
 len:out.length≤i+(if f=true then 1 else 0)
theorem JM.zero (l:List Int) (n:Int):JM l n 0 false []:=⟨by simp,by simp⟩
theorem JM.step {l:List Int}{n:Int}{i:Nat}{f:Bool}{out:List Int}{y:Int}(h:JM l n i f out) (hy:l[i]?=some y):JM l n (i+1) f (out++[y]):=by
 refine⟨fun x=>?_,by have:=h.len;simp;omega⟩;rw[List.mem_append,h.mem,List.take_add_one,hy];simp only[List.mem_singleton,Option.toList_some,List.mem_append];constructor
 ·rintro((h | h) | h)
  ·exact .inl h
  ·exact .inr (.inl h)
  exact .inr (.inr h)
 rintro(h | h | h)
 ·exact .inl (.inl h)
 ·exact .inl (.inr h)
 exact .inr h
theorem JM.put {l:List Int}{n:Int}{i:Nat}{out:List Int}(h:JM l n i false out):JM l n i true (out++[n]):=by
 refine⟨fun x=>?_,by have:=h.len;simp at *;omega⟩;rw[List.mem_append,h.mem];simp only[List.mem_singleton,true_and,Bool.false_eq_true,false_and,false_or];constructor
 ·rintro(h | h)
  ·exact .inr h
  exact .inl h
 rintro(h | h)
 ·exact .inr h
 exact .inl h
theorem JM.done {l:List Int}{n:Int}{i:Nat}{out:List Int}(h:JM l n i true out) (hi:l.length≤i) (hi2:i≤l.length):Qx l n out:=by
 refine⟨fun x=>?_,by have:=h.len;simp at this;omega⟩;rw[h.mem,List.take_of_length_le hi];simp
def Te (l:List Int) (d:Int) (t:Tm) (l2:List Int):Prop:=(∀x,x∈l2↔x∈l∨MT x d t=true)∧l2.length≤l.length+size t
structure RT (l:List Int) (d:Int) (k i0:Int) (ts:List Tm) (i:Nat) (l2:List Int):Prop where
 mem:∀x,x∈l2↔x∈l∨(k=0∧d≤i0∧i0 - d=x)∨Fy x d k 0 (ts.take i)=true
 len:l2.length≤l.length+1+A4 (ts.take i)
theorem Nj (x d k:Int):∀(ts us:List Tm) (j:Nat),Fy x d k j (ts++us)=(Fy x d k j ts||Fy x d k (j+ts.length) us)
 | [],us,j=>by simp[Fy]
 | t::ts,us,j=>by
  simp only[List.cons_append,Fy,Nj x d k ts us (j+1),List.length_cons];rw[show j+1+ts.length=j+(ts.length+1) by omega,Bool.or_assoc]
theorem L2:∀(ts us:List Tm),A4 (ts++us)=A4 ts+A4 us
 | [],us=>by simp[A4]
 | t::ts,us=>by simp only[List.cons_append,A4,L2 ts us];omega
theorem RT.start {l:List Int}{d k i:Int}{ts:List Tm}(h:¬(k=0∧d≤i)):RT l d k i ts 0 l:=⟨fun x=>by simp[Fy];intro e1 e2;exact absurd ⟨e1,e2⟩ h,by simp[A4]⟩
theorem RT.startA {l l2:List Int}{d k i:Int}{ts:List Tm}(h:k=0∧d≤i) (ha:Qx l (i - d) l2):RT l d k i ts 0 l2:=by
 refine⟨fun x=>?_,by have:=ha.2;simp[A4];omega⟩;rw[ha.1];simp only[List.take_zero,Fy,Bool.false_eq_true,or_false,h.1,h.2,true_and];constructor
 ·rintro(e | e)
  ·exact .inr e.symm
  exact .inl e
 rintro(e | e)
 ·exact .inr e
 exact .inl e.symm
theorem RT.step {l l2 l3:List Int}{d k i0:Int}{ts:List Tm}{i:Nat}{y:Tm}(h:RT l d k i0 ts i l2) (hy:ts[i]?=some y) (hf:Te l2 (d+below k i) y l3):RT l d k i0 ts (i+1) l3:=by
 have hi:i<ts.length:=(List.getElem?_eq_some_iff.1 hy).1;have ht:ts.take (i+1)=ts.take i++[y]:=by rw[List.take_add_one,hy];rfl
 refine⟨fun x=>?_,?_⟩
 ·rw[hf.1,h.mem,ht,Nj];have hl:(ts.take i).length=i:=by simp;omega
  simp only[Fy,hl,Nat.zero_add,Bool.or_false,Bool.or_eq_true];constructor
  ·rintro((h | h | h) | h)
   ·exact .inl h
   ·exact .inr (.inl h)
   ·exact .inr (.inr (.inl h))
   exact .inr (.inr (.inr h))
  rintro(h | h | h | h)
  ·exact .inl (.inl h)
  ·exact .inl (.inr (.inl h))
  ·exact .inl (.inr (.inr h))
  exact .inr h
 have:=h.len;have:=hf.2;rw[ht,L2];simp only[A4];omega
theorem RT.done {l l2:List Int}{d k i0:Int}{n:ByteArray}{ls:List CE}{ts:List Tm}{i:Nat}(h:RT l d k i0 ts i l2) (hi:ts.length≤i):Te l d (.mk k i0 n ls ts) l2:=by
 refine⟨fun x=>?_,?_⟩
 ·rw[h.mem,List.take_of_length_le hi];simp[MT,and_assoc]
 have:=h.len;rw[List.take_of_length_le hi] at this;simp only[size];omega
mutual
def Y3 (d:Int):Tm→List Int
 | .mk k i n l ks=>(if k=0∧d≤i then [i - d] else [])++Q2 d k 0 ks
def Q2 (d k:Int) (j:Nat):List Tm→List Int
 | []=>[]
 | t::ts=>Y3 (d+below k j) t++Q2 d k (j+1) ts
end
mutual
theorem Jp:∀(t:Tm) (d:Int),(∀x,x∈Y3 d t↔MT x d t=true)∧(Y3 d t).length≤size t
 | .mk k i n l ks,d=>by
  obtain⟨h1,h2⟩:=LR ks d k 0;simp only[Y3,MT,size];refine⟨fun x=>?_,?_⟩
  ·rw[List.mem_append,h1];split
   ·rename_i h;simp only[h.1,h.2,List.mem_singleton,decide_true,Bool.true_and,Bool.or_eq_true,decide_eq_true_eq];exact or_congr eq_comm Iff.rfl
   rename_i h;simp;intro e1 e2;exact absurd ⟨e1,e2⟩ h
  rw[List.length_append];split<;>simp<;>omega
theorem LR:∀(ts:List Tm) (d k:Int) (j:Nat),(∀x,x∈Q2 d k j ts↔Fy x d k j ts=true)∧(Q2 d k j ts).length≤A4 ts
 | [],d,k,j=>by simp[Q2,Fy]
 | t::ts,d,k,j=>by
  obtain⟨h1,h2⟩:=Jp t (d+below k j);obtain⟨h3,h4⟩:=LR ts d k (j+1);simp only[Q2,Fy,A4];exact⟨fun x=>by rw[List.mem_append,h1,h3];simp,by rw[List.length_append];omega⟩
end
theorem Te.ex (l:List Int) (d:Int) (t:Tm):Te l d t (l++Y3 d t):=⟨fun x=>by rw[List.mem_append,(Jp t d).1],by rw[List.length_append];have:=(Jp t d).2;omega⟩
theorem SH {ts:List Tm}{i:Nat}{x:Tm}(h:ts[i]?=some x):A4 (ts.take i)+size x≤A4 ts:=by
 have:=Ei h;have:=FP (ts:=ts) (i+1);omega
theorem Uj {l2:List Int}{t:Tm}{x:Int}(h:Te [] 0 t l2) (hm:x∈l2):MT x 0 t=true:=by simpa using (h.1 x).1 hm
theorem W3 {l2:List Int}{t:Tm}{x:Int}(h:Te [] 0 t l2) (hm:x ∉ l2):MT x 0 t=false:=by
 cases hq:MT x 0 t with
 | false=>rfl
 | true=>exact absurd ((h.1 x).2 (.inr hq)) hm
end Go.Eu
namespace Go.Abs
theorem UN (b:Nat):Fz (.p (.addr b)) (.ptr b 0):=fun F w v h=>by simpa only[BU,BY] using h
theorem QG (b:Nat):Fz (.ptr b 0) (.p (.addr b)):=fun F w v h=>by simpa only[BU,BY] using h
section
variable {P:Program}{o:Oper}{ρ:Operand→AV}{H H':List Au}{v v':AV}
end
section
variable {P:Program}{dst:Option Tmp}{ty:TypeId}{pos:String}{aft:Array Edge}{g:Option (Nat×Bool)}{ρ:Operand→AV}{H:List Au}{x y z:Operand}{v:AV}
theorem Dn {T:TypeId}{b:Nat}(hc:Wr P T=true) (hx:ρ x= .ptr b 0):CK P ⟨dst,.makeInterface T x,ty,pos,aft,g⟩ ρ H (.p (.iface T (.addr b))) H:=by
 obtain⟨d,hu,hd⟩:=RK hc;refine BS fun F w E hH hE=>?_;have h1:=hE x AT;rw[hx] at h1;refine⟨.iface T (E x),?_,by simp only[BU,BY];exact⟨_,rfl,by simpa only[BU] using h1⟩⟩;cases d<;>simp_all [execOp,Instr.makeInterface,Sem.run_bind,run_underlying hu]
def RO (P:Program) (T:TypeId) (name:String):Option FuncId:=match P.info? T,P.underlying T with
 | some i,some (.pointer _)=>match i.methods.find? (·.name==name) with
  | some m=>match m.path.toList,m.func with
   | [],some (f,true)=>some f
   | _,_=>none
  | none=>none
 | _,_=>none
theorem PA {T:TypeId}{name:String}{f:FuncId}(h:RO P T name=some f) (n:Nat) (u:Value) (w:World):(method (n+1) T u name).run P w= .ok (f,u) w:=by
 unfold RO at h;split at h
 ·rename_i i e hi hu;split at h
  ·rename_i m hm;split at h
   ·rename_i f' hp hf;injection h with h;subst h;simp[method,typeInfo,hi,hm,hp,hf,follow,receiverAt,run_underlying hu,Place.get,Sem.run_bind]
   cases h
  cases h
 cases h
theorem Fi {c:Call}{fid:FuncId}{recv:Operand}{name:String}{T:TypeId}{p:PV}{Hs Hf:List Au}{A:List AV}{R:CG→List Au→Prop}
  (hc:c.callee= .invoke recv name) (hf:ρ recv= .p (.iface T p)) (hm:RO P T name=some fid)
  (hp:H.Perm (Hs++Hf)) (h:BK P fid A Hs R) (hA:C5 (.p p::c.args.toList.map ρ) A) :
  B4 P ⟨dst,.call c,ty,pos,aft,g⟩ ρ H (fun r H'=>∃Hs',R r Hs'∧H'=Hs'++Hf):=by
 intro r F S a w hs hH hρ hd;subst hH;refine Fq O ?_;have hev:∀x∈(recv::c.args.toList),BU F w (ρ x) (a.eval x):=by
  intro x hx;rw[←hρ x (by simp[Op.operands,Call.operands,hc];simpa using hx)];exact hs.eval x
 obtain⟨u,hu,hpu⟩:∃u,a.eval recv= .iface T u∧BY F w p u:=by
  have:=hev recv Ae;rw[hf] at this;simpa only[BU,BY] using this
 have hargs:BG F w (c.args.toList.map ρ) (c.args.toList.map a.eval):=BG.mapEval _ fun x hx=>hev x (by simp[hx]);have hn:∃n,P.types.size+Made.depth=n+1:=⟨P.types.size+Made.depth - 1,by have:0<Made.depth:=Ac;omega⟩;obtain⟨n,hn⟩:=hn;have hrun:(execOp a.eval ⟨dst,.call c,ty,pos,aft,g⟩).run P w= .ok (.enter fid ⟨u::c.args.toList.map a.eval⟩) w:=by
  have e:(#[u]++c.args.map a.eval:Array Value)=⟨u::c.args.toList.map a.eval⟩:=by
   apply Array.ext';simp
  have e1:(c.args.map a.eval).extract 0 c.args.size=c.args.map a.eval:=by
   apply Array.ext';simp[List.extract];exact List.take_of_length_le Ae
  have e0:(#[Value.iface T u]++c.args.map a.eval)[0]?=some (Value.iface T u):=by simp[Array.getElem?_append]
  simp[execOp,resolve,hc,Sem.run_bind,hu,invoke,callMethod,e0,hn,PA hm,ET h.1,e,e1]
 simp only[hrun,Oper.uponIn];have hH':=hs.heap.perm hp;have hHs:HRel F Hs w:=hH'.sublist (List.sublist_append_left _ _);have hrep:BG F w A (u::c.args.toList.map a.eval):=Gb hA ⟨u,_,rfl,by simpa only[BU] using hpu,hargs⟩;refine⟨fun h=>(by cases h),CallsIn.mono (aV r (h.2 F w _ hHs hrep)) ?_⟩;rintro e w' ⟨r,H',F',hR,he,hH2,ht⟩;have htf:=ht.frame (H:=S.H) hp;cases r with
 | val v =>
  obtain⟨u,rfl,hu⟩:=he;exact⟨v,H'++Hf,F',⟨H',hR,O⟩,hs.put hd (htf.stable hs.heap.sub) (hH'.frame hH2 ht) hu,htf⟩
 | panic v =>
  obtain⟨u,rfl,hu⟩:=he;have:=hs.put (d:=none) (fun _ h=>by cases h) (htf.stable hs.heap.sub) (hH'.frame hH2 ht) (Fe undef);exact⟨v,H'++Hf,F',u,⟨H',hR,O⟩,O,hu,this,htf⟩
end
end Go.Abs
