/- Part of the proofs: an abstract program logic, plain models and contracts of functions. -/
import Derived.Test.YtifphifongokcaaGreatPb
import Derived.Shelf.Sort.Plain
import Derived.Shelf.Slices.In.SortNone
import Derived.Test.YtifphifongokcaaGreatPc
import Derived.Test.YtifphifongokcaaGreatPd
set_option linter.unusedVariables false
set_option linter.unusedSimpArgs false
set_option maxRecDepth 100000
namespace Go.Eu
open Go.Abs Go.Sort
def SV (zs:List Int):List Int:=zs.mergeSort fun x y=>decide (x≤y)
theorem Vc (zs:List Int):(SV zs).length=zs.length:=List.length_mergeSort _
end Go.Eu
namespace Go.Eu
open Go.Abs
def Tv (c:Int) (v:Bv):Bool:=decide (-65536≤v.index)&&decide (v.index<8)&&decide (0≤v.plus)&&decide (v.plus≤100)&&(decide (c≤0)||decide (v.plus<c))
def J7 (p:Option Int) (i:Int):Bool:=match p with
 | none=>true
 | some j=>decide (j<i)
def Hg (c:Int):Option Int→List Bv→Bool
 | _,[]=>true
 | p,v::vs=>Tv c v&&J7 p v.index&&Hg c (some v.index) vs
def Dm (l:CN):Bool:=decide (0≤l.const)&&decide (l.const≤100)&&Hg l.const none l.vars
def Ht:CN:=⟨0,[]⟩
def j4 (l:CN):Bool:=l.vars.any fun v=>decide (l.const≤v.plus)
def e7 (vs:List Bv):Int:=(vs.getD (vs.length - 1) default).index
def UP (l:CN):Int:=if Dm l=true∧l.vars≠[] then max 0 (e7 l.vars+1) else 0
def Jp (x:Bv) (rec:List Bv→List Bv):List Bv→List Bv
 | []=>x::rec []
 | y::b=>if x.index<y.index then x::rec (y::b) else if y.index<x.index then y::Jp x rec b else ⟨x.index,max x.plus y.plus⟩::rec b
def Fz:List Bv→List Bv→List Bv
 | [],b=>b
 | x::a,b=>Jp x (Fz a) b
def PG (vs:List Bv):Int:=vs.foldl (fun m v=>max m v.plus) 0
def fH (c:Int) (vs:List Bv):CN:=⟨if vs≠[]∧c≤PG vs then 0 else c,vs⟩
def bV (a b:CN):CN:=fH (max a.const b.const) (Fz a.vars b.vars)
def eV (n:Int) (v:Bv):Bv:=⟨v.index,v.plus+n⟩
def PT (l:CN) (n:Int):Int:=if l.const > 0∨l.vars=[] then l.const+n else 0
def MM (l:CN) (n:Int):CN×Int :=
 if Dm l=false then (Ht,3) else if n<0 then (Ht,2) else if n > 100 then (Ht,15)
 else if PT l n > 100 then (Ht,15)
 else if (l.vars.any fun v=>decide (v.plus+n > 100))=true then (Ht,15)
 else (⟨PT l n,l.vars.map (eV n)⟩,0)
def YD (ps:List CN):CN→List Bv→CN×Int
 | out,[]=>(out,0)
 | out,v::vs =>
  if 0≤v.index∧v.index<ps.length then
   (if (MM (ps.getD v.index.toNat default) v.plus).2≠0 then (Ht,(MM (ps.getD v.index.toNat default) v.plus).2)
    else YD ps (bV out (MM (ps.getD v.index.toNat default) v.plus).1) vs)
  else YD ps (bV out ⟨0,[v]⟩) vs
def Lo (l:CN) (ps:List CN):CN×Int :=
 if Dm l=false∨ps.all Dm=false then (Ht,3)
 else if UP l > ps.length then (Ht,24)
 else YD ps ⟨l.const,[]⟩ l.vars
-- the program's way
def mg (k:Int):List (Int×Int)→Option Int
 | []=>none
 | (j,x)::r=>if j=k then some x else mg k r
def ms (k v:Int):List (Int×Int)→List (Int×Int)
 | []=>[(k,v)]
 | (j,x)::r=>if j=k then (j,v)::r else (j,x)::ms k v r
def JH (m:List (Int×Int)) (i p:Int):List (Int×Int):=match mg i m with
 | some old=>if p > old then ms i p m else m
 | none=>ms i p m
def JJ (n:Int) (m:List (Int×Int)) (v:Bv):List (Int×Int):=JH m v.index (v.plus+n)
def dw (s:List (Int×Int)×Int) (l:CN) (n:Int):List (Int×Int)×Int:=(l.vars.foldl (JJ n) s.1,max s.2 (l.const+n))
def OF (ps:List CN) (s:List (Int×Int)×Int) (v:Bv):List (Int×Int)×Int :=
 if v.index<0 then (JH s.1 v.index v.plus,s.2) else dw s (ps.getD v.index.toNat default) v.plus
def PK (m:List (Int×Int)):List Bv:=(SV (m.map Prod.fst)).map fun i=>⟨i,(mg i m).getD 0⟩
def jm (l:CN):CN×Int :=
 if (l.vars.any fun v=>decide (v.plus > 100))=true then (Ht,15)
 else if l.const > 100 then (Ht,15)
 else if j4 l=true then (⟨0,l.vars⟩,0) else (l,0)
def jg (l:CN) (ps:List CN):CN×Int :=
 if Dm l=false∨ps.all Dm=false then (Ht,3)
 else if UP l > ps.length then (Ht,24)
 else jm ⟨(l.vars.foldl (OF ps) ([],l.const)).2,PK (l.vars.foldl (OF ps) ([],l.const)).1⟩
-- offsets
def Qg:List Bv→Int→Int
 | [],_=> -1
 | v::vs,i=>if v.index=i then max v.plus (Qg vs i) else Qg vs i
abbrev UK (l:List Bv):Prop:=l.Pairwise fun a b=>a.index<b.index
-- merging
-- the greatest offset
def gJ (c:Int) (vs:List Bv):Int:=if (vs.any fun v=>decide (c≤v.plus))=true then 0 else c
-- the offsets of the program
def Jz (m:List (Int×Int)) (i:Int):Int:=(mg i m).getD (-1)
theorem Xk (k v:Int):∀(m:List (Int×Int)) (j:Int),mg j (ms k v m)=if k=j then some v else mg j m
 | [],j=>by simp[ms,mg]
 | (i,x)::m,j=>by
  have ih:=Xk k v m j;simp only[ms];split
  ·rename_i q;subst q;simp only[mg];split<;>rfl
  rename_i q;simp only[mg,ih];by_cases h1:i=j
  ·subst h1;rw[if_pos rfl,if_neg (Ne.symm q),if_pos rfl]
  simp[h1]
theorem Qh (k v:Int):∀(m:List (Int×Int)),(ms k v m).map Prod.fst=if k∈m.map Prod.fst then m.map Prod.fst else m.map Prod.fst++[k]
 | []=>by simp[ms]
 | (i,x)::m=>by
  have ih:=Qh k v m;simp only[ms];split
  ·rename_i q;subst q;simp
  rename_i q;simp only[List.map_cons,ih,List.mem_cons,(show (k=i)=False by simp;exact fun h=>q h.symm),false_or];split<;>simp
structure RF (m:List (Int×Int)):Prop where
 nd:(m.map Prod.fst).Nodup
 pos:∀k v,mg k m=some v→0≤v
theorem RF.nil:RF []:=⟨by simp,fun k v h=>by simp[mg] at h⟩
theorem Wr {m:List (Int×Int)}(k v:Int) (h:(m.map Prod.fst).Nodup):((ms k v m).map Prod.fst).Nodup:=by
 rw[Qh];split
 ·exact h
 rename_i q;rw[List.nodup_append];refine⟨h,by simp,fun a ha b hb=>?_⟩;simp only[List.mem_singleton] at hb;subst hb;exact fun e=>q (e▸ha)
theorem RP {m:List (Int×Int)}{i p:Int}(h:RF m) (hp:0≤p):RF (JH m i p):=by
 have hs:RF (ms i p m):=⟨Wr i p h.nd,fun k v hk=>by
  rw[Xk] at hk;split at hk
  ·cases hk;exact hp
  exact h.pos k v hk⟩
 unfold JH;split
 ·split
  ·exact hs
  exact h
 exact hs
theorem Q6 {m:List (Int×Int)}(h:RF m) (i:Int): -1≤Jz m i:=by
 unfold Jz;cases e:mg i m with
 | none=>simp
 | some v=>have:=h.pos i v e;simp;omega
theorem NI {m:List (Int×Int)}{i p:Int}(h:RF m) (hp:0≤p) (j:Int):Jz (JH m i p) j=max (Qg [⟨i,p⟩] j) (Jz m j):=by
 have h1:Jz (ms i p m) j=if i=j then p else Jz m j:=by unfold Jz;rw[Xk];split<;>rfl
 have h2:=Q6 h j;unfold JH;simp only[Qg];cases e:mg i m with
 | none =>
  simp only[h1];split
  ·rename_i q;subst q;simp only[Jz,e,Option.getD_none];omega
  ·omega
 | some old =>
  simp only;split
  ·rw[h1];split
   ·rename_i q;subst q;simp only[Jz,e,Option.getD_some];omega
   omega
  split
  ·rename_i q;subst q;simp only[Jz,e,Option.getD_some];omega
  omega
theorem Ni {n:Int}:∀(vs:List Bv) (m:List (Int×Int)),RF m→(∀v∈vs,0≤v.plus+n)→RF (vs.foldl (JJ n) m)∧∀i,Jz (vs.foldl (JJ n) m) i=max (Qg (vs.map (eV n)) i) (Jz m i)
 | [],m,h,_=>⟨h,fun i=>by have:=Q6 h i;simp only[List.foldl_nil,List.map_nil,Qg];omega⟩
 | v::vs,m,h,hv=>by
  have hp:=hv v Ao;have h1:RF (JJ n m v):=RP h hp;obtain⟨h2,h3⟩:=Ni vs (JJ n m v) h1 fun w hw=>hv w (by simp[hw]);refine⟨h2,fun i=>?_⟩;rw[List.foldl_cons,h3 i,show Jz (JJ n m v) i=max (Qg [⟨v.index,v.plus+n⟩] i) (Jz m i) from NI h hp i];have:=Q6 h i;simp only[List.map_cons,Qg,eV];split<;>omega
theorem OA (zs:List Int):(SV zs).Perm zs:=List.mergeSort_perm _ _
theorem Q4 (zs:List Int):(SV zs).Pairwise fun a b=>a≤b:=by
 have:=List.pairwise_mergeSort (le:=fun(x y:Int)=>decide (x≤y)) (fun a b c h1 h2=>by simp at *;omega) (fun a b=>by simp;omega) zs;exact this.imp fun h=>by simpa using h
theorem VS {m:List (Int×Int)}(h:RF m):UK (PK m):=by
 have hn:(SV (m.map Prod.fst)).Nodup:=(OA _).nodup_iff.2 h.nd;have hs:=Q4 (m.map Prod.fst);rw[UK,PK,List.pairwise_map];exact(hs.and hn).imp fun⟨h1,h2⟩=>by simp only;omega
-- valid levels
theorem L4:∀{c:Int}{vs:List Bv}{p:Option Int},Hg c p vs=true→∀v∈vs,Tv c v=true
 | c,w::vs,p,h,v,hv=>by
  simp only[Hg,Bool.and_eq_true] at h;rcases List.mem_cons.1 hv with rfl | hv
  ·exact h.1.1
  exact L4 h.2 v hv
theorem Ys {c:Int}{v:Bv}(h:Tv c v=true):0≤v.plus∧v.plus≤100:=by
 simp only[Tv,Bool.and_eq_true,decide_eq_true_eq] at h;exact⟨h.1.1.2,h.1.2⟩
theorem PU:∀{c:Int}{vs:List Bv}{p:Option Int},Hg c p vs=true→UK vs∧∀v∈vs,J7 p v.index=true
 | c,[],p,_=>⟨by simp[UK],by simp⟩
 | c,w::vs,p,h=>by
  simp only[Hg,Bool.and_eq_true] at h;obtain⟨h1,h2⟩:=PU h.2;simp only[J7,decide_eq_true_eq] at h2;refine⟨?_,fun v hv=>?_⟩
  ·rw[UK,List.pairwise_cons];exact⟨h2,h1⟩
  rcases List.mem_cons.1 hv with rfl | hv
  ·exact h.1.2
  have a:=h.1.2;have b:=h2 v hv;unfold J7 at a ⊢;cases p with
  | none=>rfl
  | some j=>simp only[decide_eq_true_eq] at a ⊢;omega
theorem dQ {n:Int}{vs:List Bv}(h:UK vs):UK (vs.map (eV n)):=by
 rw[UK,List.pairwise_map];exact h.imp fun h=>h
structure nC (m:List (Int×Int)) (c:Int) (out:CN):Prop where
 ok:RF m
 asc:UK out.vars
 pos:∀v∈out.vars,0≤v.plus∧v.plus≤100
 off:∀i,Qg out.vars i=Jz m i
 c0:0≤c
 c1:c≤100
 con:out.const=gJ c out.vars
-- errors stay
def iS (s:List (Int×Int)×Int):Prop:=(∃i,100<Jz s.1 i)∨100<s.2
theorem W8 {ps:List CN}(hps:∀l∈ps,Dm l=true) {s:List (Int×Int)×Int}{v:Bv}(hm:RF s.1) (hv:0≤v.plus) (hi:v.index<ps.length):RF (OF ps s v).1∧(iS s→iS (OF ps s v)):=by
 unfold OF;split
 ·refine⟨RP hm hv,fun h=>?_⟩;rcases h with ⟨i,h⟩ | h
  ·exact .inl ⟨i,by rw[NI hm hv];omega⟩
  exact .inr h
 rename_i q;have hmem:ps.getD v.index.toNat default∈ps:=by
  have hlt:v.index.toNat<ps.length:=by omega
  rw[List.getD_eq_getElem?_getD,List.getElem?_eq_getElem hlt];exact List.getElem_mem hlt
 have hl:=hps _ hmem;simp only[Dm,Bool.and_eq_true,decide_eq_true_eq] at hl;obtain⟨h1,h2⟩:=Ni (n:=v.plus) (ps.getD v.index.toNat default).vars s.1 hm fun w hw=>by have:=(Ys (L4 hl.2 w hw)).1;omega
 refine⟨h1,fun h=>?_⟩;rcases h with ⟨i,h⟩ | h
 ·exact .inl ⟨i,by simp only[dw,h2];omega⟩
 exact .inr (by simp only[dw];omega)
theorem Ri {l:CN}{n:Int}(hl:Dm l=true) (h0:0≤n) (h1:n≤100) :
  (MM l n=(Ht,15)∧(100<l.const+n∨∃v∈l.vars,100<v.plus+n)) ∨
  (MM l n=(⟨PT l n,l.vars.map (eV n)⟩,0)∧l.const+n≤100∧∀v∈l.vars,v.plus+n≤100):=by
 have hl':=hl;simp only[Dm,Bool.and_eq_true,decide_eq_true_eq] at hl';unfold MM;rw[if_neg (by simp[hl]),if_neg An,if_neg An];split
 ·rename_i q;refine .inl ⟨O,.inl ?_⟩;unfold PT at q;split at q<;>omega
 rename_i q;split
 ·rename_i q';simp only[List.any_eq_true,decide_eq_true_eq] at q';obtain⟨v,h1,h2⟩:=q';exact .inl ⟨O,.inr ⟨v,h1,by omega⟩⟩
 rename_i q';simp only[List.any_eq_true,decide_eq_true_eq,not_exists,not_and] at q';refine .inr ⟨O,?_,fun v hv=>by have:=q' v hv;omega⟩;unfold PT at q;split at q<;>omega
def Rh (ps:List CN):Int→List CN→List CN×Int
 | er,[]=>([],er)
 | er,l::ls=>((Lo l ps).1::(Rh ps (H5 er (Lo l ps).2) ls).1,(Rh ps (H5 er (Lo l ps).2) ls).2)
mutual
def VG (ps:List CN):Int→Tm→Tm×Int
 | er,.mk k i n ls ks=>(.mk k i n (Rh ps er ls).1 (Ut ps (Rh ps er ls).2 ks).1,(Ut ps (Rh ps er ls).2 ks).2)
def Ut (ps:List CN):Int→List Tm→List Tm×Int
 | er,[]=>([],er)
 | er,t::ts=>((VG ps er t).1::(Ut ps (VG ps er t).2 ts).1,(Ut ps (VG ps er t).2 ts).2)
end
def E0 (t:Tm) (ps:List CN):Tm×Int:=if (VG ps 0 t).2≠0 then (Bi,(VG ps 0 t).2) else ((VG ps 0 t).1,0)
inductive Out (α:Type) where
 | stuck
 | fail
 | ok (a:α)
def Out.bind {α β:Type}:Out α→(α→Out β)→Out β
 | .stuck,_=> .stuck
 | .fail,_=> .fail
 | .ok a,k=>k a
def N4 (n:Int):Bool:=decide (-9223372036854775808≤n)&&decide (n≤9223372036854775807)
def Vj (l:CN):Bool:=decide (l.vars.length<Cb)&&N4 l.const&&l.vars.all fun v=>N4 v.index&&N4 v.plus
mutual
def YU:Tm→Bool
 | .mk k i n ls ks=>decide (n.size<Cb)&&decide (ls.length<Cb)&&ls.all Vj&&decide (ks.length<Cb)&&N4 k&&N4 i&&decide ((ks.length:Int)=arity k)&&(decide (k≠12)||decide (0≤i))&&(decide (k≠0)||decide (0≤i)&&decide (i<1099511627776))&&MS ks
def MS:List Tm→Bool
 | []=>true
 | t::ts=>YU t&&MS ts
end
def okB (t:Tm):Bool:=YU t&&decide (size t<549755813888)
def Out.chk {σ β:Type}(o:Out (Tm×σ)) (k:Tm×σ→Out β):Out β:=o.bind fun r=>if okB r.1=true then k r else .stuck
structure Sys (σ:Type) where
 over:σ→Bool
 res:σ→Tm→Int→Option σ
 many:Nat→Bool
def Sys.put {σ α:Type}(S:Sys σ) (s:σ) (x:Tm×Int) (k:Tm→σ→Out α):Out α :=
 if okB x.1=true then (match S.res s x.1 x.2 with
  | none=> .fail
  | some s'=>k x.1 s')
 else .stuck
def IP.result (c:IP) (t:Tm) (e:Int):IP:=({ c with steps:=wr (c.steps+1),nodes:=wr (c.nodes+Dg t) }).form t e
def nS:Sys IP:=⟨IP.over,fun c t e=>some (c.result t e),fun _=>false⟩
def Z9:Sys Int:=⟨fun _=>false,fun n t e=>if n - 1<0∨e≠0 then none else some (n - 1),fun k=>decide (40960<k)⟩
def BM:Tm→List Tm×Tm
 | .mk k i n l [a,b]=>if k=6 then (a::(BM b).1,(BM b).2) else ([],.mk k i n l [a,b])
 | t=>([],t)
section
variable (E:List Ck)
def CT (i:Int):Ck:=E.getD i.toNat default
def Ln (d:Ck) (j:Int):HZ:=d.ctors.getD j.toNat default
def GB (d:Ck) (j:Int):OY:=d.funs.getD j.toNat default
def dV (t:Tm):Int:=((BM t).1.length:Int)
def Mz (d:Ck) (j:Int):Int:=max 0 (dV (Ln d j).type - d.fixed)
def Ko (nm:ByteArray):Option (Ck×Int) :=
 if (EF E nm).2≠0 then none
 else if (EF E nm).1.kind=3 then some (CT E (EF E nm).1.decl,-1)
 else if (EF E nm).1.kind=4 then some (CT E (EF E nm).1.decl,(EF E nm).1.item)
 else if (EF E nm).1.kind=5 then some (CT E (EF E nm).1.decl,-2)
 else none
def II (t:Tm):Option (Ck×Int×List Tm) :=
 if (BI t).1.kind≠3 then none
 else match Ko E (BI t).1.name with
  | none=>none
  | some (d,j)=>if j<0 then none else if ((BI t).2.length:Int)≠d.fixed+Mz d j then none else some (d,j,(BI t).2.drop d.fixed.toNat)
def V3 (d:Ck):Int:=max 0 (dV d.type - d.fixed)
def Ft (d:Ck):Int:=d.fixed+1+d.ctors.length+V3 d
def Ec (nm:ByteArray):List Hx→Option Ge
 | []=>none
 | b::l=>if b.ctor=nm then (if b.absurd=true then none else some b.tree) else Ec nm l
def Jo (h:Tm):Option Ka:=if (EF E h.name).2=0∧(h.levels.length:Int)=(EF E h.name).1.params then some (EF E h.name).1 else none
variable {σ:Type}(S:Sys σ)
def Pn (W:σ→Tm→Out (Tm×σ)):Nat→Ge→List Tm→Tm→σ→Out ((Option (Tm×List Tm)×Tm)×σ)
 | 0,_,_,_,_=> .stuck
 | n+1,t,vars,last,s =>
  if t.kind=1 then
   if t.var<0∨t.var≥(vars.length:Int)∨S.over s=true then .ok ((none,last),s)
   else (W s (vars.getD t.var.toNat default)).chk fun r=>match II E r.1 with
    | none=> .ok ((none,r.1),r.2)
    | some (d,j,fields)=>match Ec (Ln d j).name t.branches with
     | none=> .ok ((none,r.1),r.2)
     | some t'=>Pn W n t' (vars++fields) r.1 r.2
  else .ok ((some (t.body,vars),Bi),s)
def Sz (d:Ck) (h:Tm) (a:List Tm) (s:σ):Out (Option Tm×σ) :=
 if (E0 d.value h.levels).2≠0 then .ok (none,s)
 else S.put s ((E0 d.value h.levels).1,0) fun t s'=> .ok (some (apply t a),s')
def QN (d:Ck) (j:Int):Tm:=d.recs.rules.getD j.toNat default
def Xi (d:Ck) (h:Tm) (a:List Tm) (m:Tm) (s:σ):Out (Option Tm×σ):=match II E m with
 | none=> .ok (none,s)
 | some (e,j,fields) =>
  if e.name≠d.name∨j≥(d.recs.rules.length:Int) then .ok (none,s)
  else if (E0 (QN d j) h.levels).2≠0 then .ok (none,s)
  else S.put s (apply (apply (E0 (QN d j) h.levels).1 (a.take (d.fixed+1+d.ctors.length).toNat)) fields,0) fun t s'=> .ok (some (apply t (a.drop (Ft d+1).toNat)),s')
def XS (h:Tm) (b:Tm) (vars:List Tm) (rest:List Tm) (s:σ):Out (Option Tm×σ) :=
 if (E0 b h.levels).2≠0 then .ok (none,s)
 else if okB (E0 b h.levels).1=false∨vars.all okB=false∨1125899906842624≤Bb vars then .stuck
 else S.put s (Gn (E0 b h.levels).1 vars.reverse 0) fun t s'=> .ok (some (apply t rest),s')
def di (W:σ→Tm→Out (Tm×σ)) (n:Nat) (f:OY) (h:Tm) (a:List Tm) (s:σ):Out (Option Tm×σ) :=
 if (a.length:Int)<f.arity then .ok (none,s)
 else (Pn E S W n f.tree (a.take f.arity.toNat) Bi s).bind fun q=>match q.1.1 with
  | none=> .ok (none,q.2)
  | some (b,vars)=>if S.over q.2=true then .ok (none,q.2) else XS S h b vars (a.drop f.arity.toNat) q.2
def jt (W:σ→Tm→Out (Tm×σ)) (d:Ck) (h:Tm) (a:List Tm) (s:σ):Out (Option Tm×σ) :=
 if (a.length:Int)≤Ft d then .ok (none,s)
 else (W s (a.getD (Ft d).toNat default)).chk fun r=>Xi E S d h a r.1 r.2
def YB (W:σ→Tm→Out (Tm×σ)) (n:Nat) (h:Tm) (a:List Tm) (s:σ):Out (Option Tm×σ):=match Jo E h with
 | none=> .ok (none,s)
 | some x =>
  if x.kind=1 then Sz S (CT E x.decl) h a s
  else if x.kind=5 then jt E S W (CT E x.decl) h a s
  else if x.kind=6 then di E S W n (GB (CT E x.decl) x.item) h a s
  else .ok (none,s)
def RX (k:Int) (p:Tm):Tm:= .mk k 0 ⟨#[]⟩ [] [p]
def ay (h:Tm) (a:List Tm) (s:σ) {α:Type}(k:Tm→σ→Out α):Out α:=match h.kids[1]? with
 | none=> .stuck
 | some b=>S.put s (Gn b (a.take 1) 0) fun x s'=>k (apply x (a.drop 1)) s'
def iG (h:Tm) (a:List Tm) (s:σ) {α:Type}(k:Tm→σ→Out α):Out α:=match h.kids[1]?,h.kids[2]? with
 | some v,some b=>S.put s (Gn b [v] 0) fun x s'=>k (apply x a) s'
 | _,_=> .stuck
def WX (h p:Tm) (a:List Tm) (s:σ) {α:Type}(k:Tm→σ→Out α):Out α:=match p.kids[(1+h.kind - 9).toNat]? with
 | none=> .stuck
 | some q=>S.put s (q,0) fun x s'=>k (apply x a) s'
def Uo:Nat→σ→Tm→Out (Tm×σ)
 | 0,_,_=> .stuck
 | n+1,s,t =>
  if okB t=false then .stuck
  else if S.over s=true then .ok (t,s)
  else if S.many (BI t).2.length=true then .fail
  else if (BI t).1.kind=5 then
   (if (BI t).2.length=0 then .ok (t,s) else ay S (BI t).1 (BI t).2 s fun x s'=>Uo n s' x)
  else if (BI t).1.kind=11 then iG S (BI t).1 (BI t).2 s fun x s'=>Uo n s' x
  else if (BI t).1.kind=9∨(BI t).1.kind=10 then match (BI t).1.kids[0]? with
   | none=> .stuck
   | some p=>(Uo n s p).chk fun r =>
    if r.1.kind≠8 then .ok (apply (RX (BI t).1.kind r.1) (BI t).2,r.2)
    else WX S (BI t).1 r.1 (BI t).2 r.2 fun x s'=>Uo n s' x
  else if (BI t).1.kind=3 then (YB E S (Uo n) n (BI t).1 (BI t).2 s).bind fun r=>match r.1 with
   | none=> .ok (t,r.2)
   | some x=>Uo n r.2 x
  else .ok (t,s)
noncomputable def VP:Nat→σ→Tm→Out (Option Int×σ)
 | 0,_,_=> .stuck
 | n+1,s,t=>(Uo E S n s t).chk fun r =>
  if (BI r.1).1.kind=12 then .ok (some (BI r.1).1.index,r.2)
  else if (BI r.1).1.kind=9∨(BI r.1).1.kind=10 then match (BI r.1).1.kids[0]? with
   | none=> .stuck
   | some p=>VP n r.2 p
  else if (BI r.1).1.kind=3 then match Jo E (BI r.1).1 with
   | none=> .ok (none,r.2)
   | some x =>
    if S.over r.2=true then .ok (none,r.2)
    else if x.kind=5∧((BI r.1).2.length:Int) > Ft (CT E x.decl) then VP n r.2 ((BI r.1).2.getD (Ft (CT E x.decl)).toNat default)
    else if x.kind=6∧((BI r.1).2.length:Int)≥(GB (CT E x.decl) x.item).arity then
     (Pn E S (Uo E S n) n (GB (CT E x.decl) x.item).tree ((BI r.1).2.take (GB (CT E x.decl) x.item).arity.toNat) Bi r.2).bind fun q=>match q.1.1 with
      | some _=> .ok (none,q.2)
      | none=>if S.over q.2=false∧Iy q.1.2 Bi=false then VP n q.2 q.1.2 else .ok (none,q.2)
    else .ok (none,r.2)
  else .ok (none,r.2)
def YN:Tm→List Int→Tm→Option Tm
 | _,[],x=>some x
 | t,p::ps,x=>match (BI t).2[p.toNat]? with
  | none=>none
  | some y=>(YN y ps x).map fun z=>apply (BI t).1 ((BI t).2.set p.toNat z)
def Ji (a:Int×List Int) (fx:Int) (n:Nat):List (Int×List Int):=(List.range n).map fun i:Nat=>(a.1,a.2++[fx+(i:Int)])
def eF (T:σ→Tm→Out (Option Tm×σ)) (h:Tm) (ar:Int) (a:List Tm):Nat→Ge→List Tm→List (Int×List Int)→σ→Out (Option Tm×σ)
 | 0,_,_,_,_=> .stuck
 | n+1,t,vars,pl,s =>
  if t.kind=1 then
   if t.var<0∨t.var≥(vars.length:Int) then .ok (none,s)
   else match II E (vars.getD t.var.toNat default) with
    | none=>(T s (vars.getD t.var.toNat default)).bind fun r=>match r.1 with
     | none=> .ok (none,r.2)
     | some x=>match YN (a.getD (pl.getD t.var.toNat default).1.toNat default) (pl.getD t.var.toNat default).2 x with
      | none=> .stuck
      | some y=> .ok (some (apply h (a.set (pl.getD t.var.toNat default).1.toNat y)),r.2)
    | some (d,j,fields)=>match Ec (Ln d j).name t.branches with
     | none=> .ok (none,s)
     | some t'=>eF T h ar a n t' (vars++fields) (pl++Ji (pl.getD t.var.toNat default) d.fixed fields.length) s
  else XS S h t.body vars (a.drop ar.toNat) s
def Wc:Nat→σ→Tm→Out (Option Tm×σ)
 | 0,_,_=> .stuck
 | n+1,s,t =>
  if okB t=false then .stuck
  else if (BI t).1.kind=5 then
   (if (BI t).2.length=0 then .ok (none,s) else ay S (BI t).1 (BI t).2 s fun x s'=> .ok (some x,s'))
  else if (BI t).1.kind=11 then iG S (BI t).1 (BI t).2 s fun x s'=> .ok (some x,s')
  else if (BI t).1.kind=9∨(BI t).1.kind=10 then match (BI t).1.kids[0]? with
   | none=> .stuck
   | some p =>
    if p.kind=8 then WX S (BI t).1 p (BI t).2 s fun x s'=> .ok (some x,s')
    else (Wc n s p).bind fun r=>match r.1 with
     | none=> .ok (none,r.2)
     | some x=> .ok (some (apply (RX (BI t).1.kind x) (BI t).2),r.2)
  else if (BI t).1.kind=3 then match Jo E (BI t).1 with
   | none=> .ok (none,s)
   | some x =>
    if x.kind=1 then Sz S (CT E x.decl) (BI t).1 (BI t).2 s
    else if x.kind=5∧((BI t).2.length:Int) > Ft (CT E x.decl) then match II E ((BI t).2.getD (Ft (CT E x.decl)).toNat default) with
     | some _=>Xi E S (CT E x.decl) (BI t).1 (BI t).2 ((BI t).2.getD (Ft (CT E x.decl)).toNat default) s
     | none=>(Wc n s ((BI t).2.getD (Ft (CT E x.decl)).toNat default)).bind fun r=>match r.1 with
      | none=> .ok (none,r.2)
      | some y=> .ok (some (apply (BI t).1 ((BI t).2.set (Ft (CT E x.decl)).toNat y)),r.2)
    else if x.kind=6∧((BI t).2.length:Int)≥(GB (CT E x.decl) x.item).arity then
     eF E S (Wc n) (BI t).1 (GB (CT E x.decl) x.item).arity (BI t).2 n (GB (CT E x.decl) x.item).tree ((BI t).2.take (GB (CT E x.decl) x.item).arity.toNat) ((List.range (GB (CT E x.decl) x.item).arity.toNat).map fun i:Nat=>((i:Int),[])) s
    else .ok (none,s)
  else .ok (none,s)
def mm (n:Nat) (t:Ge) (a:List Tm) (s:σ):Out (Option Tm×σ) :=
 (Pn E S (Uo E S n) n t a Bi s).bind fun q=>match q.1.1 with
  | none=> .ok (none,q.2)
  | some (b,vars)=>if okB b=false∨vars.all okB=false∨1125899906842624≤Bb vars then .stuck else S.put q.2 (Gn b vars.reverse 0) fun x s'=> .ok (some x,s')
end
def iv (k i:Int) (n:ByteArray) (ls:List CN) (ks:Nat):Bool:=decide (n.size<Cb)&&decide (ls.length<Cb)&&ls.all Vj&&decide (ks<Cb)&&N4 k&&N4 i&&decide ((ks:Int)=arity k)&&(decide (k≠12)||decide (0≤i))&&(decide (k≠0)||decide (0≤i)&&decide (i<1099511627776))
theorem TJ (k i:Int) (n:ByteArray) (ls:List CN) (ks:List Tm):YU (.mk k i n ls ks)=(iv k i n ls ks.length&&MS ks):=by rw[YU,iv]
theorem Kv:∀{ts:List Tm},MS ts=true↔∀t∈ts,YU t=true
 | []=>by simp[MS]
 | t::ts=>by simp only[MS,Bool.and_eq_true,Kv (ts:=ts),List.mem_cons,forall_eq_or_imp]
theorem ZI {l:CN}(h:Vj l=true):Vt l:=by
 simp only[Vj,N4,Bool.and_eq_true,decide_eq_true_eq,List.all_eq_true] at h;exact⟨h.1.1,h.1.2,fun v hv=>h.2 v hv⟩
theorem ZF {l:CN}(h:Vt l):Vj l=true:=by
 simp only[Vj,N4,Bool.and_eq_true,decide_eq_true_eq,List.all_eq_true];exact⟨⟨h.vars,h.c⟩,fun v hv=>h.v v hv⟩
mutual
theorem Pz:∀(t:Tm),YU t=true→Nd t∧Wt t∧Vp t
 | .mk k i n ls ks,h=>by
  rw[TJ,Bool.and_eq_true] at h;obtain⟨h1,h2⟩:=h;simp only[iv,N4,Bool.and_eq_true,Bool.or_eq_true,decide_eq_true_eq,List.all_eq_true] at h1;obtain⟨a,b,c⟩:=NN ks h2;obtain⟨⟨⟨⟨⟨⟨⟨⟨g1,g2⟩,g3⟩,g4⟩,g5⟩,g6⟩,g7⟩,g8⟩,g9⟩:=h1;refine⟨⟨g1,g2,fun l hl=>ZI (g3 l hl),g4,a,g5,g6⟩,⟨g7,fun e=>?_,b⟩,fun e=>?_,c⟩
  ·rcases g8 with g | g
   ·exact absurd e g
   exact g
  rcases g9 with g | g
  ·exact absurd e g
  exact g
theorem NN:∀(ts:List Tm),MS ts=true→D7 ts∧SQ ts∧I8 ts
 | [],_=>⟨trivial,trivial,trivial⟩
 | t::ts,h=>by
  simp only[MS,Bool.and_eq_true] at h;obtain⟨a,b,c⟩:=Pz t h.1;obtain⟨a',b',c'⟩:=NN ts h.2;exact⟨⟨a,a'⟩,⟨b,b'⟩,⟨c,c'⟩⟩
end
mutual
theorem P9:∀(t:Tm),Nd t→Wt t→Vp t→YU t=true
 | .mk k i n ls ks,h1,h2,h3=>by
  rw[TJ,Bool.and_eq_true];simp only[Nd] at h1;simp only[Wt] at h2;simp only[Vp] at h3;obtain⟨a1,a2,a3,a4,a5,a6,a7⟩:=h1;refine⟨?_,OL ks a5 h2.2.2 h3.2⟩;simp only[iv,N4,Bool.and_eq_true,Bool.or_eq_true,decide_eq_true_eq,List.all_eq_true];refine⟨⟨⟨⟨⟨⟨⟨⟨a1,a2⟩,fun l hl=>ZF (a3 l hl)⟩,a4⟩,a6⟩,a7⟩,h2.1⟩,?_⟩,?_⟩
  ·by_cases e:k=12
   ·exact .inr (h2.2.1 e)
   exact .inl e
  by_cases e:k=0
  ·exact .inr (h3.1 e)
  exact .inl e
theorem OL:∀(ts:List Tm),D7 ts→SQ ts→I8 ts→MS ts=true
 | [],_,_,_=>rfl
 | t::ts,h1,h2,h3=>by
  simp only[MS,Bool.and_eq_true];exact⟨P9 t h1.1 h2.1 h3.1,OL ts h1.2 h2.2 h3.2⟩
end
structure nk (t:Tm):Prop where
 nd:Nd t
 wt:Wt t
 vp:Vp t
 sz:size t<549755813888
theorem GR {t:Tm}:okB t=true↔nk t:=by
 simp only[okB,Bool.and_eq_true,decide_eq_true_eq];exact⟨fun h=>by obtain⟨a,b,c⟩:=Pz t h.1;exact⟨a,b,c,h.2⟩,fun h=>⟨P9 t h.nd h.wt h.vp,h.sz⟩⟩
theorem Pv:∀(t:Tm),YU t=true→YU (BI t).1=true∧MS (BI t).2=true
 | .mk k i n l [f,a],h=>by
  unfold BI;split
  ·rw[TJ,Bool.and_eq_true] at h;simp only[MS,Bool.and_eq_true] at h;obtain⟨h1,h2⟩:=Pv f h.2.1;refine⟨h1,Kv.2 fun x hx=>?_⟩;rcases List.mem_append.1 hx with hx | hx
   ·exact Kv.1 h2 x hx
   rw[List.mem_singleton.1 hx];exact h.2.2.1
  ·exact⟨h,O⟩
 | .mk k i n l [],h=>⟨h,rfl⟩
 | .mk k i n l [_],h=>⟨h,rfl⟩
 | .mk k i n l (_::_::_::_),h=>⟨h,rfl⟩
theorem U7 {t:Tm}(h:okB t=true):okB (BI t).1=true∧∀x∈(BI t).2,okB x=true:=by
 simp only[okB,Bool.and_eq_true,decide_eq_true_eq] at h ⊢;obtain⟨h1,h2⟩:=Pv t h.1;have hs:=Gs t;refine⟨⟨h1,by omega⟩,fun x hx=>⟨Kv.1 h2 x hx,?_⟩⟩;obtain⟨i,hi⟩:=List.mem_iff_getElem?.1 hx;have:=B5 hi;omega
def J1 (l:List Bv) (i:Nat):Option Int:=if i=0 then none else (l[i - 1]?).map Bv.index
def C7 (c:Int) (l:List Bv) (i:Nat):Bool:=Hg c (J1 l i) (l.drop i)
theorem Q8 {c:Int}{l:List Bv}{i:Nat}{v:Bv}(h:l[i]?=some v):C7 c l i=(Tv c v&&J7 (J1 l i) v.index&&C7 c l (i+1)):=by
 have e:J1 l (i+1)=some v.index:=by simp[J1,h]
 rw[C7,Cm h,Hg,C7,e]
theorem ct {c:Int}{l:List Bv}{i:Nat}(h:l.length≤i):C7 c l i=true:=by
 rw[C7,List.drop_eq_nil_of_le h];rfl
theorem RA (l:CN):Dm l=(decide (0≤l.const)&&decide (l.const≤100)&&C7 l.const l.vars 0):=rfl
theorem X6 {c:Int}{l:List Bv}{i:Nat}{v:Bv}(h:l[i]?=some v) (hb:Tv c v=false):C7 c l i=false:=by rw[Q8 h,hb];rfl
theorem aU {c:Int}{l:List Bv}{i:Nat}{v:Bv}(h:l[i]?=some v) (h1:Tv c v=true) (h2:J7 (J1 l i) v.index=true):C7 c l i=C7 c l (i+1):=by rw[Q8 h,h1,h2];simp
theorem dO {l:CN}(h:l.const<0∨100<l.const):false=Dm l:=by
 rw[RA];rcases h with h | h
 ·rw[decide_eq_false An];rfl
 rw[decide_eq_false (p:=l.const≤100) An];simp
theorem Qq {l:CN}{i:Nat}(h:C7 l.const l.vars 0=C7 l.const l.vars i) (hb:C7 l.const l.vars i=false):false=Dm l:=by
 rw[RA,h,hb];simp
theorem ZV {l:CN}{i:Nat}(h0:0≤l.const) (h1:l.const≤100) (h:C7 l.const l.vars 0=C7 l.const l.vars i) (hb:l.vars.length≤i):true=Dm l:=by
 rw[RA,h,ct hb,decide_eq_true h0,decide_eq_true h1];rfl
theorem cX {c:Int}{v:Bv}(h:((v.index < -65536∨8≤v.index)∨v.plus<0)∨100<v.plus):Tv c v=false:=by
 simp only[Tv,Bool.and_eq_false_iff,decide_eq_false_iff_not];omega
theorem Z2 {c:Int}{v:Bv}(h1:0<c) (h:c≤v.plus):Tv c v=false:=by
 simp only[Tv,Bool.and_eq_false_iff,Bool.or_eq_false_iff,decide_eq_false_iff_not];omega
theorem Zj {c:Int}{v:Bv}(h: -65536≤v.index∧v.index<8∧0≤v.plus∧v.plus≤100) (h1:0<c→v.plus<c):Tv c v=true:=by
 simp only[Tv,Bool.and_eq_true,Bool.or_eq_true,decide_eq_true_eq];refine⟨⟨⟨⟨h.1,h.2.1⟩,h.2.2.1⟩,h.2.2.2⟩,?_⟩;by_cases q:c≤0
 ·exact .inl q
 exact .inr (h1 An)
theorem YL {l:CN}(h:Dm l=true):0≤l.const∧l.const≤100:=by
 simp only[Dm,Bool.and_eq_true,decide_eq_true_eq] at h;exact h.1
theorem dc {l:CN}{i:Nat}{x:Bv}(h:Dm l=true) (hx:l.vars[i]?=some x):(0≤x.plus∧x.plus≤100)∧ -65536≤x.index∧x.index<8:=by
 simp only[Dm,Bool.and_eq_true,decide_eq_true_eq] at h;have:=L4 h.2 x (List.mem_of_getElem? hx);simp only[Tv,Bool.and_eq_true,decide_eq_true_eq] at this;exact⟨⟨this.1.1.2,this.1.2⟩,this.1.1.1⟩
theorem Ow {l:List Bv}{i j:Nat}{u:Bv}{x:Int}(hj:l[j]?=some u) (he:i=j+1):(!J7 (J1 l i) x)=decide (u.index≥x):=by
 subst he;have e:J1 l (j+1)=some u.index:=by simp[J1,hj]
 rw[e];simp only[J7];rw[←decide_not,decide_eq_decide];omega
theorem OK {l:List Bv}{i:Nat}{x:Int}(h:¬(i:Int) > 0):(!J7 (J1 l i) x)=false:=by
 have:i=0:=by omega
 subst this;rfl
theorem YP {x y:Bv}{a b:List Bv}(h:y.index<x.index):Fz (x::a) (y::b)=y::Fz (x::a) b:=by
 rw[Fz,Jp,if_neg An,if_pos h];rfl
def WT (a b:List Bv) (i k:Nat):Bool:=(k==b.length)||(match a[i]?,b[k]? with
 | some x,some y=>decide (x.index<y.index)
 | _,_=>false)
def Z5 (a b:List Bv) (i k:Nat):Bool:=(i==a.length)||(match a[i]?,b[k]? with
 | some x,some y=>decide (y.index<x.index)
 | _,_=>false)
section
variable {a b:List Bv}{i k:Nat}{vs:List Bv}{m:Int}{x y:Bv}
theorem US (hx:a[i]?=some x) (hy:b[k]?=some y):decide (x.index<y.index)=WT a b i k:=by
 have:=(List.getElem?_eq_some_iff.1 hy).1;simp only[WT,hx,hy];rw[show (k==b.length)=false by simp;omega,Bool.false_or]
theorem UH (hx:a[i]?=some x) (hy:b[k]?=some y):decide (y.index<x.index)=Z5 a b i k:=by
 have:=(List.getElem?_eq_some_iff.1 hx).1;simp only[Z5,hx,hy];rw[show (i==a.length)=false by simp;omega,Bool.false_or]
structure Lq (a b:List Bv) (i k:Nat) (vs:List Bv) (m:Int):Prop where
 hi:i≤a.length
 hk:k≤b.length
 eq:vs++Fz (a.drop i) (b.drop k)=Fz a b
 mo:m=PG vs
 ln:vs.length≤i+k
theorem La (vs:List Bv) (v:Bv):PG (vs++[v])=max (PG vs) v.plus:=by simp[PG]
theorem Lq.zero:Lq a b 0 0 [] 0:=⟨by omega,by omega,by simp,rfl,by simp⟩
theorem Lq.left (h:Lq a b i k vs m) (hx:a[i]?=some x) (hs:WT a b i k=true):Lq a b (i+1) k (vs++[x]) (max m x.plus):=by
 have hl:=(List.getElem?_eq_some_iff.1 hx).1;have:=h.ln;refine⟨hl,h.hk,?_,by rw[La,←h.mo],by simp;omega⟩;rw[←h.eq,Cm hx,List.append_assoc];congr 1;by_cases q:k<b.length
 ·obtain⟨y,hy⟩:∃y,b[k]?=some y:=⟨_,List.getElem?_eq_getElem q⟩;rw[←US hx hy,decide_eq_true_eq] at hs;rw[Cm hy,Fz,Jp,if_pos hs];rfl
 rw[List.drop_eq_nil_of_le (show b.length≤k by omega),Fz,Jp];rfl
theorem Lq.right (h:Lq a b i k vs m) (hy:b[k]?=some y) (hs:WT a b i k=false) (h2:Z5 a b i k=true):Lq a b i (k+1) (vs++[y]) (max m y.plus):=by
 have hl:=(List.getElem?_eq_some_iff.1 hy).1;have:=h.ln;refine⟨h.hi,hl,?_,by rw[La,←h.mo],by simp;omega⟩;rw[←h.eq,Cm hy,List.append_assoc];congr 1;by_cases q:i<a.length
 ·obtain⟨x,hx⟩:∃x,a[i]?=some x:=⟨_,List.getElem?_eq_getElem q⟩;rw[←UH hx hy,decide_eq_true_eq] at h2;rw[Cm hx,YP h2];rfl
 rw[List.drop_eq_nil_of_le (show a.length≤i by omega),Fz,Fz];rfl
theorem Lq.both (h:Lq a b i k vs m) (hx:a[i]?=some x) (hy:b[k]?=some y) (hs:WT a b i k=false) (h2:Z5 a b i k=false):Lq a b (i+1) (k+1) (vs++[⟨x.index,max x.plus y.plus⟩]) (max m (max x.plus y.plus)):=by
 have hl:=(List.getElem?_eq_some_iff.1 hx).1;have hl':=(List.getElem?_eq_some_iff.1 hy).1;have:=h.ln;rw[←US hx hy,decide_eq_false_iff_not] at hs;rw[←UH hx hy,decide_eq_false_iff_not] at h2;refine⟨hl,hl',?_,by rw[La,←h.mo],by simp;omega⟩;rw[←h.eq,Cm hx,Cm hy,List.append_assoc,Fz,Jp,if_neg hs,if_neg h2];rfl
theorem Lq.fin (h:Lq a b i k vs m) (hc:¬(i<a.length∨k<b.length)):vs=Fz a b∧m=PG vs:=by
 refine⟨?_,h.mo⟩;rw[←h.eq,List.drop_eq_nil_of_le An,List.drop_eq_nil_of_le An];simp[Fz]
end
theorem Q0:∀{vs:List Bv}{lo:Int},UK vs→(∀v∈vs,lo≤v.index∧v.index<8)→lo≤8→(vs.length:Int)≤8 - lo
 | [],lo,_,_,h=>by simp;omega
 | x::vs,lo,ha,hv,h=>by
  rw[UK,List.pairwise_cons] at ha;have hx:=hv x Ao;have:=Q0 (vs:=vs) (lo:=x.index+1) ha.2 (fun v hv'=>⟨by have:=ha.1 v hv';omega,(hv v (by simp[hv'])).2⟩) An;simp only[List.length_cons];omega
structure R3 (l:CN):Prop where
 c:0≤l.const∧l.const≤100
 asc:UK l.vars
 rg:∀v∈l.vars,(0≤v.plus∧v.plus≤100)∧ -65536≤v.index∧v.index<8
theorem R3.len {l:CN}(h:R3 l):l.vars.length≤65544:=by
 have:=Q0 (lo:= -65536) h.asc (fun v hv=>(h.rg v hv).2) An;omega
theorem R3.nd {l:CN}(h:R3 l):Vt l :=
 ⟨by have:=h.len;simp only[Cb];omega,by have:=h.c;unfold I3;omega,fun v hv=>by have:=h.rg v hv;unfold I3;omega⟩
theorem R3.of {l:CN}(h:Dm l=true):R3 l:=by
 have h0:=YL h;have h':=h;simp only[Dm,Bool.and_eq_true,decide_eq_true_eq] at h';exact⟨h0,(PU h'.2).1,fun v hv=>by obtain⟨i,hi⟩:=List.mem_iff_getElem?.1 hv;exact dc h hi⟩
theorem R3.one {v:Bv}(h:(0≤v.plus∧v.plus≤100)∧ -65536≤v.index∧v.index<8):R3 ⟨0,[v]⟩:=⟨by simp,by simp[UK],by simpa using h⟩
theorem R3.num {n:Int}(h:0≤n∧n≤100):R3 ⟨n,[]⟩:=⟨h,by simp[UK],by simp⟩
theorem R3.plus {l:CN}{n:Int}(hl:Dm l=true) (h0:0≤n) (h1:n≤100) (he:(MM l n).2=0):R3 (MM l n).1:=by
 rcases Ri hl h0 h1 with ⟨e,_⟩ | ⟨e,q1,q2⟩
 ·rw[e] at he;simp at he
 have h:=R3.of hl;have hc:=h.c;rw[e];refine⟨?_,dQ h.asc,fun w hw=>?_⟩
 ·simp only[PT];split<;>omega
 simp only[List.mem_map] at hw;obtain⟨u,hu,rfl⟩:=hw;have:=h.rg u hu;have:=q2 u hu;simp only[eV];omega
section
variable {ps:List CN}{q p:CN}{vs:List Bv}{v:Bv}{i:Nat}
theorem Uy {α:Type} [Inhabited α] {l:List α}{i:Nat}{x:α}(h:l[i]?=some x):l.getD i default=x:=by rw[List.getD_eq_getElem?_getD,h];rfl
end
end Go.Eu
namespace Go.Proofs.YtifphifongokcaaGreat
open Go.Abs Go.Eu
theorem _root_.Go.AQ {α:Prop}(h:α:=by first | omega | (simp only;omega)):α:=h
theorem _root_.Go.AH {α:Prop}(h:α:=by first | rfl | (refine pB ?_;simp_all;done) | (refine pB ?_;simp_all<;>(intros;omega))):α:=h
theorem Wo:∀(l:CN),(Vt l)→D3 Tryz.prog 123 [.agg ((B6 l).map .p)] (.p (.bool (Dm l))):=by
 intro l h1;have hl:=h1.vars;simp only[Cb] at hl;refine A1 Tryz.func123 O eZ (n:=67) O O (Ay (BE O (BT O) fun b1=>Aq Az 1 [] O (As (As (Bj [1] 12 (fun y=>y= .p (.bool ((decide ((l.const:Int)<(0:Int)))||(decide ((l.const:Int) > (100:Int)))))) ?_ ?_)))))
 ·refine Ax (A0 Az 4 [0] O (BS 8 O (fun g=>?_) (fun g=>?_)))
  ·(try simp only[sd,se] at g);exact Aq Az 4 [] O (⟨O,O,AK,AH,⟨O,Ap⟩⟩)
  (try simp only[sd,se] at g);exact Aq Az 4 [0] O (⟨O,O,AK,AH,⟨O,Ap⟩⟩)
 rintro _ rfl;refine A2 O (fun c=>?_) (fun c=>?_)
 ·(try simp only[sd,se] at c);refine Au Az 1 [] O (A4 (⟨O,_,_,⟨_,_,O,O,O⟩,(List.nil_sublist _),?_⟩))
  all_goals exact⟨pB (dO c),rfl⟩
 (try simp only[sd,se] at c);refine A5 (As (Au Az 1 [] O (BA (Bh (α:=Nat) (fun i=>⟨67,mk [(1,.ptr b1 0),(3,.p (I (i:Int)))],[.box b1 [.p (I l.const),.p (.lst (List.map FT l.vars))]],[]⟩) (fun i=>l.vars.length - i) (fun i=>i≤l.vars.length∧(C7 l.const l.vars 0=C7 l.const l.vars i)) 0 (⟨by omega,rfl⟩) ?_ ?_))))
 ·exact BZ ⟨we O,we O,Ap⟩ (leH (is:=[0]) O (wl (oe O) (DF)))
 rintro i hC
 try simp only at hC
 obtain⟨hi,hC⟩:=hC;refine As (Ay (A0 Az 3 [0] O (Ar O (BH GY O (List.length_map _)) (Aq Az 1 [] O (A2 O (fun c1=>?_) (fun c1=>?_))))))
 ·(try simp only[sd,se] at c1);refine A5 (As (BA (Ay (A0 Az 3 [0] O ?_))));obtain⟨x,hx⟩:=A9 (l:=l.vars) (i:=i) An;refine Ar O (BC GY O O An (FJ hx) (O)) (Ar O (Bg dk O (O)) (BE O (A7 Qf O) fun b4=>Aq Az 1 [0,1] O (As (As (Bj [1,3,4] 42 (fun y=>y= .p (.bool ((((decide ((x.index:Int)<(-65536:Int)))||(decide ((x.index:Int)≥(8:Int))))||(decide ((x.plus:Int)<(0:Int))))||(decide ((x.plus:Int) > (100:Int)))))) ?_ ?_)))))
  ·refine Ax (A0 Az 4 [0] O (BS 28 O (fun g=>?_) (fun g=>?_)))
   ·(try simp only[sd,se] at g);exact Aq Az 14 [] O (⟨O,O,AK,AH,⟨O,O,O,Ap⟩⟩)
   (try simp only[sd,se] at g);refine A0 Az 5 [0] O (BS 33 O (fun g1=>?_) (fun g1=>?_))
   ·(try simp only[sd,se] at g1);exact Aq Az 9 [] O (⟨O,O,AK,AH,⟨O,O,O,Ap⟩⟩)
   (try simp only[sd,se] at g1);refine A0 Az 5 [0] O (BS 38 O (fun g2=>?_) (fun g2=>?_))
   ·(try simp only[sd,se] at g2);exact Aq Az 4 [] O (⟨O,O,AK,AH,⟨O,O,O,Ap⟩⟩)
   (try simp only[sd,se] at g2);exact Aq Az 4 [0] O (⟨O,O,AK,AH,⟨O,O,O,Ap⟩⟩)
  rintro _ rfl;refine A2 O (fun c2=>?_) (fun c2=>?_)
  ·(try simp only[sd,se] at c2);refine Au Az 1 [] O (A4 (⟨O,_,_,⟨_,_,O,O,O⟩,(List.nil_sublist _),?_⟩))
   all_goals exact⟨pB (Qq hC (X6 hx (cX c2))),rfl⟩
  (try simp only[sd,se] at c2);refine A5 (As (As (Bj [1,3,4] 56 (fun y=>y= .p (.bool (!(J7 (J1 l.vars i) x.index)))) ?_ ?_)))
  ·refine CK (fun k=>false) Eb (Bf Az 3 [] O (Fo 45 O (fun g=>?_) (fun g=>?_)))
   ·(try simp only[sd,se] at g);refine Bf Az 4 [1] O ?_;obtain⟨x1,hx1⟩:=A9 (l:=l.vars) (i:=(((i:Int):Int) - (1:Int):Int).toNat) An;exact Cp O (fun _=>BC GY O O An (FJ hx1) (O)) Ap (CE Az 6 [0] O (⟨O,O,AK,(by first | (refine pB ?_;exact(OK An).symm) | (refine pB ?_;exact(Ow hx1 An).symm)),⟨O,O,O,Ap⟩⟩))
   (try simp only[sd,se] at g);exact CE Az 11 [] O (⟨O,O,AK,(by first | (refine pB ?_;exact(OK An).symm) | (refine pB ?_;exact(Ow hx1 An).symm)),⟨O,O,O,Ap⟩⟩)
  rintro _ rfl;refine A2 O (fun c3=>?_) (fun c3=>?_)
  ·(try simp only[sd,se] at c3);refine Au Az 1 [] O (A4 (⟨O,_,_,⟨_,_,O,O,O⟩,(List.nil_sublist _),?_⟩))
   all_goals exact⟨pB (Qq hC (by rw[Q8 hx];rw[c3];simp)),rfl⟩
  (try simp only[sd,se] at c3);refine A5 (As (Bj [1,3] 66 (fun y=>y= .p (.bool ((decide ((l.const:Int) > (0:Int)))&&(decide ((x.plus:Int)≥(l.const:Int)))))) ?_ ?_))
  ·refine Ax (A0 Az 4 [1] O (BS 60 O (fun g=>?_) (fun g=>?_)))
   ·(try simp only[sd,se] at g);exact Aq Az 6 [0,1] O (⟨O,O,AK,AH,⟨O,O,Ap⟩⟩)
   (try simp only[sd,se] at g);exact Aq Az 6 [] O (⟨O,O,AK,AH,⟨O,O,Ap⟩⟩)
  rintro _ rfl;refine A2 O (fun c4=>?_) (fun c4=>?_)
  ·(try simp only[sd,se] at c4);refine Au Az 1 [] O (A4 (⟨O,_,_,⟨_,_,O,O,O⟩,(List.nil_sublist _),?_⟩))
   all_goals exact⟨pB (Qq hC (X6 hx (Z2 c4.1 c4.2))),rfl⟩
  (try simp only[sd,se] at c4);refine A5 (Ax (Aq Az 3 [] O (⟨(i+1),AQ,⟨by omega,(hC.trans (aU hx (Zj An (by simpa using c4)) (by simpa using c3)))⟩,BZ ⟨we rfl,we rfl,trivial⟩ (leH (is:=[1]) rfl (wl (oe rfl) (DF)))⟩)))
 (try simp only[sd,se] at c1);refine Bk (Au Az 1 [] O (A4 (⟨O,_,_,⟨_,_,O,O,O⟩,(List.nil_sublist _),?_⟩)))
 all_goals exact⟨pB (ZV An An hC An),rfl⟩
end Go.Proofs.YtifphifongokcaaGreat
namespace Go.Eu
def cP:Tm→Prop
 | .mk k i n l _=>(i≠0→k=0∨k=12)∧(n≠⟨#[]⟩→k=3)∧(k=2→l.length=1)∧(k≠2→k≠3→l.length=0)
mutual
def Cw:Tm→Prop
 | .mk k i n l ks=>cP (.mk k i n l ks)∧YY ks
def YY:List Tm→Prop
 | []=>True
 | t::ts=>Cw t∧YY ts
end
theorem IY:∀{ts:List Tm},(∀t∈ts,Cw t)→YY ts
 | [],_=>trivial
 | t::ts,h=>⟨h t List.mem_cons_self,IY fun x hx=>h x (List.mem_cons_of_mem _ hx)⟩
end Go.Eu
namespace Go.Proofs.YtifphifongokcaaGreat
open Go.Abs Go.Eu
theorem Rj:∀(c:Int),Lj Tryz.prog 63 [.p (.int .u8 c)] (J5):=by
 intro c;refine A1 Tryz.func63 O kX (n:=21) O O (Au Az 1 [] O (As (Bj [] 2 (fun y=>y= .p (.bool ((((decide ((c:Int)≥(97:Int)))&&(decide ((c:Int)≤(122:Int))))||((decide ((c:Int)≥(65:Int)))&&(decide ((c:Int)≤(90:Int)))))||((c:Int)==(95:Int))))) ?_ ?_)))
 ·refine Ax (A0 Az 3 [] O (BS 5 O (fun g=>?_) (fun g=>?_)))
  ·(try simp only[sd,se] at g);refine A0 Az 4 [] O (BS 9 O (fun g1=>?_) (fun g1=>?_))
   ·(try simp only[sd,se] at g1);exact Aq Az 12 [] O ⟨O,O,AK,AH,Ap⟩
   (try simp only[sd,se] at g1);refine A0 Az 3 [] O (BS 12 O (fun g2=>?_) (fun g2=>?_))
   ·(try simp only[sd,se] at g2);refine A0 Az 5 [] O (BS 17 O (fun g3=>?_) (fun g3=>?_))
    ·(try simp only[sd,se] at g3);exact Aq Az 4 [] O ⟨O,O,AK,AH,Ap⟩
    (try simp only[sd,se] at g3);exact Aq Az 4 [] O ⟨O,O,AK,AH,Ap⟩
   (try simp only[sd,se] at g2);exact Aq Az 9 [] O ⟨O,O,AK,AH,Ap⟩
  (try simp only[sd,se] at g);refine A0 Az 7 [] O (BS 12 O (fun g1=>?_) (fun g1=>?_))
  ·(try simp only[sd,se] at g1);refine A0 Az 5 [] O (BS 17 O (fun g2=>?_) (fun g2=>?_))
   ·(try simp only[sd,se] at g2);exact Aq Az 4 [] O ⟨O,O,AK,AH,Ap⟩
   (try simp only[sd,se] at g2);exact Aq Az 4 [] O ⟨O,O,AK,AH,Ap⟩
  (try simp only[sd,se] at g1);exact Aq Az 9 [] O ⟨O,O,AK,AH,Ap⟩
 rintro _ rfl;refine A4 (⟨O,_,_,⟨_,_,O,O,O⟩,(List.nil_sublist _),?_⟩)
 all_goals exact⟨⟨_,rfl⟩,rfl⟩
theorem _root_.Go.AO {α:Prop}(h:α:=by first | trivial | omega | simp | (simp;omega)):α:=h
theorem XJ:∀(s:ByteArray),(s.size<Cb)→Lj Tryz.prog 22 [.p (.str s)] (J5):=by
 intro s h1;simp only[Cb] at h1;refine A1 Tryz.func22 O kh (n:=45) O O (Au Az 1 [] O (As (As (Bj [0] 12 J5 ?_ ?_))))
 ·refine Ax (CA O (Ar O (P6 O O) (CA O (BS 8 O (fun g=>?_) (fun g=>?_)))))
  ·(try simp only[sd,se] at g);exact Aq Az 4 [] O (⟨O,O,AK,⟨_,O⟩,⟨O,Ap⟩⟩)
  (try simp only[sd,se] at g);exact BK O (Bm O) (BK O (Fc dX O) (Aq Az 2 [] O (⟨O,O,AK,⟨_,O⟩,⟨O,Ap⟩⟩)))
 rintro _ ⟨q,rfl⟩;refine A2 O (fun c=>?_) (fun c=>?_)
 ·(try simp only[sd,se] at c);refine Au Az 1 [] O (A4 (⟨O,_,_,⟨_,_,O,O,O⟩,(List.nil_sublist _),?_⟩))
  all_goals exact⟨⟨_,rfl⟩,rfl⟩
 (try simp only[sd,se] at c);refine A5 (Au Az 1 [] O (As (Au Az 1 [] O (BA (Bh (α:=Nat×Bool) (fun(i,f)=>⟨45,mk [(0,.p (.str s)),(3,.p (.bool f)),(4,.p (I (i:Int)))],[],[]⟩) (fun(i,f)=>s.size - i) (fun(i,f)=>i≤s.size) ⟨0,true⟩ AO ?_ ?_)))))
 ·exact BZ ⟨we O,we O,we O,Ap⟩ (leH (is:=[]) O (DF))
 rintro⟨i,f⟩ hC
 try simp only at hC
 have hi:=hC;refine As (Ay (A0 Az 2 [] O (Ar O (Fc dX O) (Aq Az 1 [] O (A2 O (fun c1=>?_) (fun c1=>?_))))))
 ·(try simp only[sd,se] at c1);refine A5 (As (BA (Ay (A0 Az 2 [] O ?_))));obtain⟨ch,hch⟩:∃c,(s)[i]?=some c:=⟨_,getElem?_pos s i An⟩;refine Ar O (Om dX O O An (by simpa using hch)) (Aq Az 1 [] O (As (Au Az 1 [] O (A2 O (fun c2=>?_) (fun c2=>?_)))))
  ·(try simp only[sd,se] at c2);refine As (Ay (CA O (I6 O O (Dl O O (Rj ch.toNat) (.inl O)) ?_)));rintro _ ⟨q1,rfl⟩;refine Aq Az 1 [] O (A2 O (fun c3=>?_) (fun c3=>?_))
   ·(try simp only[sd,se] at c3);refine Au Az 1 [] O (A4 (⟨O,_,_,⟨_,_,O,O,O⟩,(List.nil_sublist _),?_⟩))
    all_goals exact⟨⟨_,rfl⟩,rfl⟩
   (try simp only[sd,se] at c3);refine A5 (Au Az 1 [] O (Bk (Ax (Aq Az 3 [] O ?_))));refine⟨⟨i+1,false⟩,AQ,by omega,BZ ⟨we rfl,we rfl,we rfl,trivial⟩ (leH (is:=[]) rfl (DF))⟩
  (try simp only[sd,se] at c2);refine A5 (As (Au Az 2 [] O (A2 O (fun c3=>?_) (fun c3=>?_))))
  ·(try simp only[sd,se] at c3);refine Au Az 1 [] O (Bk (Ax (Aq Az 3 [] O ?_)));refine⟨⟨i+1,true⟩,AQ,by omega,BZ ⟨we rfl,we rfl,we rfl,trivial⟩ (leH (is:=[]) rfl (DF))⟩
  (try simp only[sd,se] at c3);refine A5 (As (Bj [0,3,4] 42 J5 ?_ ?_))
  ·refine Ax (CA O (I6 O O (Dl O O (Rj ch.toNat) (.inl O)) ?_));rintro _ ⟨q1,rfl⟩;refine A0 Az 2 [] O (BS 31 O (fun g=>?_) (fun g=>?_))
   ·(try simp only[sd,se] at g);refine A0 Az 4 [] O (BS 35 O (fun g1=>?_) (fun g1=>?_))
    ·(try simp only[sd,se] at g1);refine A0 Az 3 [] O (BS 38 O (fun g2=>?_) (fun g2=>?_))
     ·(try simp only[sd,se] at g2);exact Aq Az 4 [] O (⟨O,O,AK,⟨_,O⟩,⟨O,O,O,Ap⟩⟩)
     (try simp only[sd,se] at g2);exact Aq Az 4 [] O (⟨O,O,AK,⟨_,O⟩,⟨O,O,O,Ap⟩⟩)
    (try simp only[sd,se] at g1);exact Aq Az 7 [] O (⟨O,O,AK,⟨_,O⟩,⟨O,O,O,Ap⟩⟩)
   (try simp only[sd,se] at g);exact Aq Az 11 [] O (⟨O,O,AK,⟨_,O⟩,⟨O,O,O,Ap⟩⟩)
  rintro _ ⟨r,rfl⟩;refine A2 O (fun c4=>?_) (fun c4=>?_)
  ·(try simp only[sd,se] at c4);refine Au Az 1 [] O (A4 (⟨O,_,_,⟨_,_,O,O,O⟩,(List.nil_sublist _),?_⟩))
   all_goals exact⟨⟨_,rfl⟩,rfl⟩
  (try simp only[sd,se] at c4);refine A5 (Ax (Aq Az 3 [] O ?_));refine⟨⟨i+1,f⟩,AQ,by omega,BZ ⟨we rfl,we rfl,we rfl,trivial⟩ (leH (is:=[]) rfl (DF))⟩
 (try simp only[sd,se] at c1);refine Bk (Au Az 3 [] O (A4 (⟨O,_,_,⟨_,_,O,O,O⟩,(List.nil_sublist _),?_⟩)))
 all_goals exact⟨⟨_,rfl⟩,rfl⟩
theorem _root_.Go.Aa {α:Prop}(h:α:=by simp_all [arity]):α:=h
theorem df:∀(k:Int),D3 Tryz.prog 122 [.p (I k)] (.p (I (arity k))):=by
 intro k;refine A1 Tryz.func122 O gM (n:=15) O O (Au Az 1 [] O (As (Au Az 1 [] O (BA (As (Au Az 2 [] O (A2 O (fun c=>?_) (fun c=>?_))))))))
 ·(try simp only[sd,se] at c);refine A5 (A2 O (fun c1=>?_) (fun c1=>?_))
  ·(try simp only[sd,se] at c1);refine Au Az 1 [] O (A4 (⟨O,_,_,⟨_,_,O,O,O⟩,(List.nil_sublist _),?_⟩))
   all_goals exact⟨pI Aa,rfl⟩
  (try simp only[sd,se] at c1);refine As (Au Az 2 [] O (A2 O (fun c2=>?_) (fun c2=>?_)))
  ·(try simp only[sd,se] at c2);refine A5 (A2 O (fun c3=>?_) (fun c3=>?_))
   ·(try simp only[sd,se] at c3);refine Au Az 1 [] O (A4 (⟨O,_,_,⟨_,_,O,O,O⟩,(List.nil_sublist _),?_⟩))
    all_goals exact⟨pI Aa,rfl⟩
   (try simp only[sd,se] at c3);refine As (Au Az 2 [] O (A2 O (fun c4=>?_) (fun c4=>?_)))
   ·(try simp only[sd,se] at c4);refine A5 (A2 O (fun c5=>?_) (fun c5=>?_))
    ·(try simp only[sd,se] at c5);refine Au Az 1 [] O (A4 (⟨O,_,_,⟨_,_,O,O,O⟩,(List.nil_sublist _),?_⟩))
     all_goals exact⟨pI Aa,rfl⟩
    (try simp only[sd,se] at c5);refine A5 (Au Az 1 [] O (A4 (⟨O,_,_,⟨_,_,O,O,O⟩,(List.nil_sublist _),?_⟩)))
    all_goals exact⟨pI Aa,rfl⟩
   (try simp only[sd,se] at c4);refine Ax (Aq Az 2 [] O (A2 O (fun c5=>?_) (fun c5=>?_)))
   ·(try simp only[sd,se] at c5);refine Au Az 1 [] O (A4 (⟨O,_,_,⟨_,_,O,O,O⟩,(List.nil_sublist _),?_⟩))
    all_goals exact⟨pI Aa,rfl⟩
   (try simp only[sd,se] at c5);refine A5 (Au Az 1 [] O (A4 (⟨O,_,_,⟨_,_,O,O,O⟩,(List.nil_sublist _),?_⟩)))
   all_goals exact⟨pI Aa,rfl⟩
  (try simp only[sd,se] at c2);refine Ax (Aq Az 2 [] O (A2 O (fun c3=>?_) (fun c3=>?_)))
  ·(try simp only[sd,se] at c3);refine Au Az 1 [] O (A4 (⟨O,_,_,⟨_,_,O,O,O⟩,(List.nil_sublist _),?_⟩))
   all_goals exact⟨pI Aa,rfl⟩
  (try simp only[sd,se] at c3);refine As (Au Az 2 [] O (A2 O (fun c4=>?_) (fun c4=>?_)))
  ·(try simp only[sd,se] at c4);refine A5 (A2 O (fun c5=>?_) (fun c5=>?_))
   ·(try simp only[sd,se] at c5);refine Au Az 1 [] O (A4 (⟨O,_,_,⟨_,_,O,O,O⟩,(List.nil_sublist _),?_⟩))
    all_goals exact⟨pI Aa,rfl⟩
   (try simp only[sd,se] at c5);refine A5 (Au Az 1 [] O (A4 (⟨O,_,_,⟨_,_,O,O,O⟩,(List.nil_sublist _),?_⟩)))
   all_goals exact⟨pI Aa,rfl⟩
  (try simp only[sd,se] at c4);refine Ax (Aq Az 2 [] O (A2 O (fun c5=>?_) (fun c5=>?_)))
  ·(try simp only[sd,se] at c5);refine Au Az 1 [] O (A4 (⟨O,_,_,⟨_,_,O,O,O⟩,(List.nil_sublist _),?_⟩))
   all_goals exact⟨pI Aa,rfl⟩
  (try simp only[sd,se] at c5);refine A5 (Au Az 1 [] O (A4 (⟨O,_,_,⟨_,_,O,O,O⟩,(List.nil_sublist _),?_⟩)))
  all_goals exact⟨pI Aa,rfl⟩
 (try simp only[sd,se] at c);refine Au Az 2 [] O (A2 O (fun c1=>?_) (fun c1=>?_))
 ·(try simp only[sd,se] at c1);refine A5 (A2 O (fun c2=>?_) (fun c2=>?_))
  ·(try simp only[sd,se] at c2);refine Au Az 1 [] O (A4 (⟨O,_,_,⟨_,_,O,O,O⟩,(List.nil_sublist _),?_⟩))
   all_goals exact⟨pI Aa,rfl⟩
  (try simp only[sd,se] at c2);refine As (Au Az 2 [] O (A2 O (fun c3=>?_) (fun c3=>?_)))
  ·(try simp only[sd,se] at c3);refine A5 (A2 O (fun c4=>?_) (fun c4=>?_))
   ·(try simp only[sd,se] at c4);refine Au Az 1 [] O (A4 (⟨O,_,_,⟨_,_,O,O,O⟩,(List.nil_sublist _),?_⟩))
    all_goals exact⟨pI Aa,rfl⟩
   (try simp only[sd,se] at c4);refine As (Au Az 2 [] O (A2 O (fun c5=>?_) (fun c5=>?_)))
   ·(try simp only[sd,se] at c5);refine A5 (A2 O (fun c6=>?_) (fun c6=>?_))
    ·(try simp only[sd,se] at c6);refine Au Az 1 [] O (A4 (⟨O,_,_,⟨_,_,O,O,O⟩,(List.nil_sublist _),?_⟩))
     all_goals exact⟨pI Aa,rfl⟩
    (try simp only[sd,se] at c6);refine A5 (Au Az 1 [] O (A4 (⟨O,_,_,⟨_,_,O,O,O⟩,(List.nil_sublist _),?_⟩)))
    all_goals exact⟨pI Aa,rfl⟩
   (try simp only[sd,se] at c5);refine Ax (Aq Az 2 [] O (A2 O (fun c6=>?_) (fun c6=>?_)))
   ·(try simp only[sd,se] at c6);refine Au Az 1 [] O (A4 (⟨O,_,_,⟨_,_,O,O,O⟩,(List.nil_sublist _),?_⟩))
    all_goals exact⟨pI Aa,rfl⟩
   (try simp only[sd,se] at c6);refine A5 (Au Az 1 [] O (A4 (⟨O,_,_,⟨_,_,O,O,O⟩,(List.nil_sublist _),?_⟩)))
   all_goals exact⟨pI Aa,rfl⟩
  (try simp only[sd,se] at c3);refine Ax (Aq Az 2 [] O (A2 O (fun c4=>?_) (fun c4=>?_)))
  ·(try simp only[sd,se] at c4);refine Au Az 1 [] O (A4 (⟨O,_,_,⟨_,_,O,O,O⟩,(List.nil_sublist _),?_⟩))
   all_goals exact⟨pI Aa,rfl⟩
  (try simp only[sd,se] at c4);refine As (Au Az 2 [] O (A2 O (fun c5=>?_) (fun c5=>?_)))
  ·(try simp only[sd,se] at c5);refine A5 (A2 O (fun c6=>?_) (fun c6=>?_))
   ·(try simp only[sd,se] at c6);refine Au Az 1 [] O (A4 (⟨O,_,_,⟨_,_,O,O,O⟩,(List.nil_sublist _),?_⟩))
    all_goals exact⟨pI Aa,rfl⟩
   (try simp only[sd,se] at c6);refine A5 (Au Az 1 [] O (A4 (⟨O,_,_,⟨_,_,O,O,O⟩,(List.nil_sublist _),?_⟩)))
   all_goals exact⟨pI Aa,rfl⟩
  (try simp only[sd,se] at c5);refine Ax (Aq Az 2 [] O (A2 O (fun c6=>?_) (fun c6=>?_)))
  ·(try simp only[sd,se] at c6);refine Au Az 1 [] O (A4 (⟨O,_,_,⟨_,_,O,O,O⟩,(List.nil_sublist _),?_⟩))
   all_goals exact⟨pI Aa,rfl⟩
  (try simp only[sd,se] at c6);refine A5 (Au Az 1 [] O (A4 (⟨O,_,_,⟨_,_,O,O,O⟩,(List.nil_sublist _),?_⟩)))
  all_goals exact⟨pI Aa,rfl⟩
 (try simp only[sd,se] at c1);refine Au Az 2 [] O (A2 O (fun c2=>?_) (fun c2=>?_))
 ·(try simp only[sd,se] at c2);refine A5 (A2 O (fun c3=>?_) (fun c3=>?_))
  ·(try simp only[sd,se] at c3);refine Au Az 1 [] O (A4 (⟨O,_,_,⟨_,_,O,O,O⟩,(List.nil_sublist _),?_⟩))
   all_goals exact⟨pI Aa,rfl⟩
  (try simp only[sd,se] at c3);refine As (Au Az 2 [] O (A2 O (fun c4=>?_) (fun c4=>?_)))
  ·(try simp only[sd,se] at c4);refine A5 (A2 O (fun c5=>?_) (fun c5=>?_))
   ·(try simp only[sd,se] at c5);refine Au Az 1 [] O (A4 (⟨O,_,_,⟨_,_,O,O,O⟩,(List.nil_sublist _),?_⟩))
    all_goals exact⟨pI Aa,rfl⟩
   (try simp only[sd,se] at c5);refine As (Au Az 2 [] O (A2 O (fun c6=>?_) (fun c6=>?_)))
   ·(try simp only[sd,se] at c6);refine A5 (A2 O (fun c7=>?_) (fun c7=>?_))
    ·(try simp only[sd,se] at c7);refine Au Az 1 [] O (A4 (⟨O,_,_,⟨_,_,O,O,O⟩,(List.nil_sublist _),?_⟩))
     all_goals exact⟨pI Aa,rfl⟩
    (try simp only[sd,se] at c7);refine A5 (Au Az 1 [] O (A4 (⟨O,_,_,⟨_,_,O,O,O⟩,(List.nil_sublist _),?_⟩)))
    all_goals exact⟨pI Aa,rfl⟩
   (try simp only[sd,se] at c6);refine Ax (Aq Az 2 [] O (A2 O (fun c7=>?_) (fun c7=>?_)))
   ·(try simp only[sd,se] at c7);refine Au Az 1 [] O (A4 (⟨O,_,_,⟨_,_,O,O,O⟩,(List.nil_sublist _),?_⟩))
    all_goals exact⟨pI Aa,rfl⟩
   (try simp only[sd,se] at c7);refine A5 (Au Az 1 [] O (A4 (⟨O,_,_,⟨_,_,O,O,O⟩,(List.nil_sublist _),?_⟩)))
   all_goals exact⟨pI Aa,rfl⟩
  (try simp only[sd,se] at c4);refine Ax (Aq Az 2 [] O (A2 O (fun c5=>?_) (fun c5=>?_)))
  ·(try simp only[sd,se] at c5);refine Au Az 1 [] O (A4 (⟨O,_,_,⟨_,_,O,O,O⟩,(List.nil_sublist _),?_⟩))
   all_goals exact⟨pI Aa,rfl⟩
  (try simp only[sd,se] at c5);refine As (Au Az 2 [] O (A2 O (fun c6=>?_) (fun c6=>?_)))
  ·(try simp only[sd,se] at c6);refine A5 (A2 O (fun c7=>?_) (fun c7=>?_))
   ·(try simp only[sd,se] at c7);refine Au Az 1 [] O (A4 (⟨O,_,_,⟨_,_,O,O,O⟩,(List.nil_sublist _),?_⟩))
    all_goals exact⟨pI Aa,rfl⟩
   (try simp only[sd,se] at c7);refine A5 (Au Az 1 [] O (A4 (⟨O,_,_,⟨_,_,O,O,O⟩,(List.nil_sublist _),?_⟩)))
   all_goals exact⟨pI Aa,rfl⟩
  (try simp only[sd,se] at c6);refine Ax (Aq Az 2 [] O (A2 O (fun c7=>?_) (fun c7=>?_)))
  ·(try simp only[sd,se] at c7);refine Au Az 1 [] O (A4 (⟨O,_,_,⟨_,_,O,O,O⟩,(List.nil_sublist _),?_⟩))
   all_goals exact⟨pI Aa,rfl⟩
  (try simp only[sd,se] at c7);refine A5 (Au Az 1 [] O (A4 (⟨O,_,_,⟨_,_,O,O,O⟩,(List.nil_sublist _),?_⟩)))
  all_goals exact⟨pI Aa,rfl⟩
 (try simp only[sd,se] at c2);refine Ax (Aq Az 2 [] O (A2 O (fun c3=>?_) (fun c3=>?_)))
 ·(try simp only[sd,se] at c3);refine Au Az 1 [] O (A4 (⟨O,_,_,⟨_,_,O,O,O⟩,(List.nil_sublist _),?_⟩))
  all_goals exact⟨pI Aa,rfl⟩
 (try simp only[sd,se] at c3);refine As (Au Az 2 [] O (A2 O (fun c4=>?_) (fun c4=>?_)))
 ·(try simp only[sd,se] at c4);refine A5 (A2 O (fun c5=>?_) (fun c5=>?_))
  ·(try simp only[sd,se] at c5);refine Au Az 1 [] O (A4 (⟨O,_,_,⟨_,_,O,O,O⟩,(List.nil_sublist _),?_⟩))
   all_goals exact⟨pI Aa,rfl⟩
  (try simp only[sd,se] at c5);refine As (Au Az 2 [] O (A2 O (fun c6=>?_) (fun c6=>?_)))
  ·(try simp only[sd,se] at c6);refine A5 (A2 O (fun c7=>?_) (fun c7=>?_))
   ·(try simp only[sd,se] at c7);refine Au Az 1 [] O (A4 (⟨O,_,_,⟨_,_,O,O,O⟩,(List.nil_sublist _),?_⟩))
    all_goals exact⟨pI Aa,rfl⟩
   (try simp only[sd,se] at c7);refine A5 (Au Az 1 [] O (A4 (⟨O,_,_,⟨_,_,O,O,O⟩,(List.nil_sublist _),?_⟩)))
   all_goals exact⟨pI Aa,rfl⟩
  (try simp only[sd,se] at c6);refine Ax (Aq Az 2 [] O (A2 O (fun c7=>?_) (fun c7=>?_)))
  ·(try simp only[sd,se] at c7);refine Au Az 1 [] O (A4 (⟨O,_,_,⟨_,_,O,O,O⟩,(List.nil_sublist _),?_⟩))
   all_goals exact⟨pI Aa,rfl⟩
  (try simp only[sd,se] at c7);refine A5 (Au Az 1 [] O (A4 (⟨O,_,_,⟨_,_,O,O,O⟩,(List.nil_sublist _),?_⟩)))
  all_goals exact⟨pI Aa,rfl⟩
 (try simp only[sd,se] at c4);refine Ax (Aq Az 2 [] O (A2 O (fun c5=>?_) (fun c5=>?_)))
 ·(try simp only[sd,se] at c5);refine Au Az 1 [] O (A4 (⟨O,_,_,⟨_,_,O,O,O⟩,(List.nil_sublist _),?_⟩))
  all_goals exact⟨pI Aa,rfl⟩
 (try simp only[sd,se] at c5);refine As (Au Az 2 [] O (A2 O (fun c6=>?_) (fun c6=>?_)))
 ·(try simp only[sd,se] at c6);refine A5 (A2 O (fun c7=>?_) (fun c7=>?_))
  ·(try simp only[sd,se] at c7);refine Au Az 1 [] O (A4 (⟨O,_,_,⟨_,_,O,O,O⟩,(List.nil_sublist _),?_⟩))
   all_goals exact⟨pI Aa,rfl⟩
  (try simp only[sd,se] at c7);refine A5 (Au Az 1 [] O (A4 (⟨O,_,_,⟨_,_,O,O,O⟩,(List.nil_sublist _),?_⟩)))
  all_goals exact⟨pI Aa,rfl⟩
 (try simp only[sd,se] at c6);refine Ax (Aq Az 2 [] O (A2 O (fun c7=>?_) (fun c7=>?_)))
 ·(try simp only[sd,se] at c7);refine Au Az 1 [] O (A4 (⟨O,_,_,⟨_,_,O,O,O⟩,(List.nil_sublist _),?_⟩))
  all_goals exact⟨pI Aa,rfl⟩
 (try simp only[sd,se] at c7);refine A5 (Au Az 1 [] O (A4 (⟨O,_,_,⟨_,_,O,O,O⟩,(List.nil_sublist _),?_⟩)))
 all_goals exact⟨pI Aa,rfl⟩
theorem Tt : ∀ (k i : Int), D3 Tryz.prog 100 [.p (I k), .p (I i)] (.p (I (below k i))) := by
 intro k i
 refine A1 Tryz.func100 O fj (n := 27) O O ?_
 refine Au Az 1 [] O ?_
 refine As ?_
 refine As ?_
 refine Bj [] 26 (fun y => y = .p (.bool ((i == 1 && (k == 5 || k == 6 || k == 7)) || (i == 2 && k == 11)))) ?_ ?_
 ·refine Ax ?_
  refine A0 Az 3 [] O ?_
  refine BS 7 O (fun g => ?_) (fun g => ?_)
  ·(try simp only [sd, se] at g)
   refine A0 Az 3 [] O ?_
   refine BS 10 O (fun g1 => ?_) (fun g1 => ?_)
   ·(try simp only [sd, se] at g1)
    refine Aq Az 16 [] O ?_
    exact ⟨O, O, AK, pB Al, Ap⟩
   (try simp only [sd, se] at g1)
   refine A0 Az 4 [] O ?_
   refine BS 14 O (fun g2 => ?_) (fun g2 => ?_)
   ·(try simp only [sd, se] at g2)
    refine Aq Az 12 [] O ?_
    exact ⟨O, O, AK, pB Al, Ap⟩
   (try simp only [sd, se] at g2)
   refine A0 Az 5 [] O ?_
   refine BS 19 O (fun g3 => ?_) (fun g3 => ?_)
   ·(try simp only [sd, se] at g3)
    refine Aq Az 7 [] O ?_
    exact ⟨O, O, AK, pB Al, Ap⟩
   (try simp only [sd, se] at g3)
   refine A0 Az 3 [] O ?_
   refine BS 22 O (fun g4 => ?_) (fun g4 => ?_)
   ·(try simp only [sd, se] at g4)
    refine Aq Az 4 [] O ?_
    exact ⟨O, O, AK, pB Al, Ap⟩
   (try simp only [sd, se] at g4)
   refine Aq Az 4 [] O ?_
   exact ⟨O, O, AK, pB Al, Ap⟩
  (try simp only [sd, se] at g)
  refine A0 Az 15 [] O ?_
  refine BS 22 O (fun g1 => ?_) (fun g1 => ?_)
  ·(try simp only [sd, se] at g1)
   refine Aq Az 4 [] O ?_
   exact ⟨O, O, AK, pB Al, Ap⟩
  (try simp only [sd, se] at g1)
  refine Aq Az 4 [] O ?_
  exact ⟨O, O, AK, pB Al, Ap⟩
 rintro _ rfl
 refine A2 O (fun c => ?_) (fun c => ?_)
 ·(try simp only [sd, se] at c)
  refine Au Az 1 [] O ?_
  refine A4 ?_
  refine ⟨O, _, _, ⟨_, _, O, O, O⟩, (List.nil_sublist _), ?_⟩
  all_goals exact ⟨pI (by unfold below; first | (rw [if_pos (by simp only [Bool.or_eq_true, Bool.and_eq_true, beq_iff_eq]; omega)]) | (rw [if_neg (by simp only [Bool.or_eq_true, Bool.and_eq_true, beq_iff_eq]; omega)])), rfl⟩
 (try simp only [sd, se] at c)
 refine A5 ?_
 refine Au Az 1 [] O ?_
 refine A4 ?_
 refine ⟨O, _, _, ⟨_, _, O, O, O⟩, (List.nil_sublist _), ?_⟩
 all_goals exact ⟨pI (by unfold below; first | (rw [if_pos (by simp only [Bool.or_eq_true, Bool.and_eq_true, beq_iff_eq]; omega)]) | (rw [if_neg (by simp only [Bool.or_eq_true, Bool.and_eq_true, beq_iff_eq]; omega)])), rfl⟩
theorem Y9:∀(l:CN) (a b:Int),(Vt l)→Lj Tryz.prog 99 [.agg ((B6 l).map .p),.p (I a),.p (I b)] (fU):=by
 intro l a b h1;have hl:=h1.vars;simp only[Cb] at hl;refine A1 Tryz.func99 O kP (n:=61) O O (Ay (BE O (BT O) fun b3=>Aq Az 1 [] O (As (Ay (Ar O (BR (i:=0) Qn O O (by simp[Ep])) (Ar O (BB O O (Wo l h1) O) (Aq Az 1 [] O (A2 O (fun c=>?_) (fun c=>?_)))))))))
 ·(try simp only[sd,se] at c);refine Au Az 1 [] O (A4 (⟨O,_,_,⟨_,_,O,O,O⟩,(List.nil_sublist _),?_⟩))
  all_goals exact⟨⟨_,rfl⟩,rfl⟩
 (try simp only[sd,se] at c);refine A5 (As (Au Az 1 [] O (BA (Bh (α:=Nat) (fun i=>⟨61,mk [(1,.p (I a)),(2,.p (I b)),(3,.ptr b3 0),(7,.p (I (i:Int)))],[.box b3 ((B6 l).map .p)],[]⟩) (fun i=>l.vars.length - i) (fun i=>i≤l.vars.length) 0 AO ?_ ?_))))
 ·exact BZ ⟨we O,we O,we O,we O,Ap⟩ (leH (is:=[0]) O (wl (oe O) (DF)))
 rintro i hC
 try simp only at hC
 have hi:=hC;refine As (Ay (A0 Az 3 [0] O (Ar O (BH GY O (List.length_map _)) (Aq Az 1 [] O (A2 O (fun c1=>?_) (fun c1=>?_))))))
 ·(try simp only[sd,se] at c1);refine A5 (As (BA (As (Bj [1,2,3,7] 35 J5 ?_ ?_))))
  ·refine Ax (A0 Az 3 [0] O ?_);obtain⟨x,hx⟩:=A9 (l:=l.vars) (i:=i) An;refine Ar O (BC GY O O An (FJ hx) (O)) (A0 Az 4 [] O (BS 26 O (fun g=>?_) (fun g=>?_)))
   ·(try simp only[sd,se] at g);exact A0 Az 3 [0] O (BK O (BC GY O O An (FJ hx) (O)) (Aq Az 5 [] O (⟨O,O,AK,⟨_,O⟩,⟨O,O,O,O,Ap⟩⟩)))
   (try simp only[sd,se] at g);exact Aq Az 9 [] O (⟨O,O,AK,⟨_,O⟩,⟨O,O,O,O,Ap⟩⟩)
  rintro _ ⟨q,rfl⟩;refine A2 O (fun c2=>?_) (fun c2=>?_)
  ·(try simp only[sd,se] at c2);refine Au Az 1 [] O (A4 (⟨O,_,_,⟨_,_,O,O,O⟩,(List.nil_sublist _),?_⟩))
   all_goals exact⟨⟨_,rfl⟩,rfl⟩
  (try simp only[sd,se] at c2);refine A5 (Ax (Aq Az 3 [] O ?_));refine⟨(i+1),AQ,by omega,BZ ⟨we rfl,we rfl,we rfl,we rfl,trivial⟩ (leH (is:=[0]) rfl (wl (oe rfl) (DF)))⟩
 (try simp only[sd,se] at c1);refine Bk (As (Au Az 1 [] O (BA (Bh (α:=Nat) (fun i=>⟨61,mk [(2,.p (I b)),(3,.ptr b3 0),(8,.p (I (i:Int)))],[.box b3 [.p (I l.const),.p (.lst (List.map FT l.vars))]],[]⟩) (fun i=>l.vars.length - i) (fun i=>i≤l.vars.length) 0 AO ?_ ?_))))
 ·exact BZ ⟨we O,we O,we O,Ap⟩ (leH (is:=[0]) O (wl (oe O) (DF)))
 rintro i hC1
 try simp only at hC1
 have hi:=hC1;refine As (Ay (A0 Az 3 [0] O (Ar O (BH GY O (List.length_map _)) (Aq Az 1 [] O (A2 O (fun c2=>?_) (fun c2=>?_))))))
 ·(try simp only[sd,se] at c2);refine A5 (As (BA (As (Bj [2,3,8] 60 J5 ?_ ?_))))
  ·refine Ax (A0 Az 3 [0] O ?_);obtain⟨x,hx⟩:=A9 (l:=l.vars) (i:=i) An;refine Ar O (BC GY O O An (FJ hx) (O)) (A0 Az 4 [] O (BS 50 O (fun g=>?_) (fun g=>?_)))
   ·(try simp only[sd,se] at g);exact A0 Az 3 [0] O (BK O (BC GY O O An (FJ hx) (O)) (A0 Az 2 [] O (BK O (Wp O O) (Aq Az 3 [] O (⟨O,O,AK,⟨_,O⟩,⟨O,O,O,Ap⟩⟩)))))
   (try simp only[sd,se] at g);exact Aq Az 10 [] O (⟨O,O,AK,⟨_,O⟩,⟨O,O,O,Ap⟩⟩)
  rintro _ ⟨q,rfl⟩;refine A2 O (fun c3=>?_) (fun c3=>?_)
  ·(try simp only[sd,se] at c3);refine Au Az 1 [] O (A4 (⟨O,_,_,⟨_,_,O,O,O⟩,(List.nil_sublist _),?_⟩))
   all_goals exact⟨⟨_,rfl⟩,rfl⟩
  (try simp only[sd,se] at c3);refine A5 (Ax (Aq Az 3 [] O ?_));refine⟨(i+1),AQ,by omega,BZ ⟨we rfl,we rfl,we rfl,trivial⟩ (leH (is:=[0]) rfl (wl (oe rfl) (DF)))⟩
 (try simp only[sd,se] at c2);refine Bk (Au Az 1 [] O (A4 (⟨O,_,_,⟨_,_,O,O,O⟩,(List.nil_sublist _),?_⟩)))
 all_goals exact⟨⟨_,rfl⟩,rfl⟩
theorem eM:∀(t:Tm),Lj Tryz.prog 98 [.agg ((Bc t).map .p)] (fun v=>∃bb:Bool,v= .p (.bool bb)∧(bb=true→TO t∧cP t)):=by
 intro t;obtain⟨tk,ti,tn,tl,ts⟩:=t;refine A1 Tryz.func98 O kk (n:=57) O O (Ay (BE O (BT O) fun b1=>Aq Az 1 [] O (As (As (Bj [1] 19 (fun y=>y= .p (.bool (decide (tk<0)||decide (tk≥13)||(ts.length:Int) !=arity tk))) ?_ ?_)))))
 ·refine CK (fun k=>false) Eb (Bf Az 4 [0] O (Fo 6 O (fun g=>?_) (fun g=>?_)))
  ·(try simp only[sd,se] at g);exact CE Az 13 [] O (⟨O,O,AK,(by refine pB ?_;first | (simp_all;done) | (rw[decide_eq_false (by omega:¬tk<0),decide_eq_false (by omega:¬tk≥13)];simp[BD];done)),⟨O,Ap⟩⟩)
  (try simp only[sd,se] at g);refine Bf Az 5 [0] O (Fo 11 O (fun g1=>?_) (fun g1=>?_))
  ·(try simp only[sd,se] at g1);exact CE Az 8 [] O (⟨O,O,AK,(by refine pB ?_;first | (simp_all;done) | (rw[decide_eq_false (by omega:¬tk<0),decide_eq_false (by omega:¬tk≥13)];simp[BD];done)),⟨O,Ap⟩⟩)
  (try simp only[sd,se] at g1);exact Bf Az 2 [0] O (Cp O (fun _=>BH BY O (BD _)) Ap (Bf Az 2 [0] O (Cp O (fun _=>BB O O (df tk) O) Ap (CE Az 2 [] O (⟨O,O,AK,(by refine pB ?_;first | (simp_all;done) | (rw[decide_eq_false (by omega:¬tk<0),decide_eq_false (by omega:¬tk≥13)];simp[BD];done)),⟨O,Ap⟩⟩)))))
 rintro _ rfl;refine A2 O (fun c=>?_) (fun c=>?_)
 ·(try simp only[sd,se] at c);refine Au Az 1 [] O (A4 (⟨O,_,_,⟨_,_,O,O,O⟩,(List.nil_sublist _),?_⟩))
  all_goals exact⟨⟨_,rfl,by first | exact fun h=>absurd h Am | exact fun h=>⟨hf,hi,hn,by simp only[beq_iff_eq,decide_eq_true_eq] at *;intro _;omega,by simp only[beq_iff_eq,decide_eq_true_eq] at *;intro _ _;omega⟩⟩,rfl⟩
 (try simp only[sd,se] at c);have hf:TO (.mk tk ti tn tl ts):=by simp only[TO];omega
 refine A5 (As (As (Bj [1] 32 (fun y=>∃b:Bool,y= .p (.bool b)∧(b=false→ti≠0→tk=0∨tk=12)) ?_ ?_)))
 ·refine Ax (A0 Az 4 [0] O (BS 23 O (fun g=>?_) (fun g=>?_)))
  ·(try simp only[sd,se] at g);refine A0 Az 5 [0] O (BS 28 O (fun g1=>?_) (fun g1=>?_))
   ·(try simp only[sd,se] at g1);exact Aq Az 4 [0] O (⟨O,O,AK,(by refine⟨_,rfl,fun h=>?_⟩;first | omega | (simp_all;done) | (simp_all;omega)),⟨O,Ap⟩⟩)
   (try simp only[sd,se] at g1);exact Aq Az 4 [] O (⟨O,O,AK,(by refine⟨_,rfl,fun h=>?_⟩;first | omega | (simp_all;done) | (simp_all;omega)),⟨O,Ap⟩⟩)
  (try simp only[sd,se] at g);exact Aq Az 9 [] O (⟨O,O,AK,(by refine⟨_,rfl,fun h=>?_⟩;first | omega | (simp_all;done) | (simp_all;omega)),⟨O,Ap⟩⟩)
 rintro _ ⟨q1,rfl,hq1⟩;refine A2 O (fun c1=>?_) (fun c1=>?_)
 ·(try simp only[sd,se] at c1);refine Au Az 1 [] O (A4 (⟨O,_,_,⟨_,_,O,O,O⟩,(List.nil_sublist _),?_⟩))
  all_goals exact⟨⟨_,rfl,by first | exact fun h=>absurd h Am | exact fun h=>⟨hf,hi,hn,by simp only[beq_iff_eq,decide_eq_true_eq] at *;intro _;omega,by simp only[beq_iff_eq,decide_eq_true_eq] at *;intro _ _;omega⟩⟩,rfl⟩
 (try simp only[sd,se] at c1);have hi:=hq1 (by simpa using c1);refine A5 (As (As (Bj [1] 40 (fun y=>∃b:Bool,y= .p (.bool b)∧(b=false→tn≠⟨#[]⟩→tk=3)) ?_ ?_)))
 ·refine Ax (A0 Az 2 [0] O (Ar O (LY O O) (CA O (BS 36 O (fun g=>?_) (fun g=>?_)))))
  ·(try simp only[sd,se] at g);exact Aq Az 4 [0] O (⟨O,O,AK,(by refine⟨_,rfl,fun h hne=>?_⟩;first | exact absurd (Kw g) hne | (simp only[bne_eq_false_iff_eq] at h;exact h)),⟨O,Ap⟩⟩)
  (try simp only[sd,se] at g);exact Aq Az 4 [] O (⟨O,O,AK,(by refine⟨_,rfl,fun h hne=>?_⟩;first | exact absurd (Kw g) hne | (simp only[bne_eq_false_iff_eq] at h;exact h)),⟨O,Ap⟩⟩)
 rintro _ ⟨q2,rfl,hq2⟩;refine A2 O (fun c2=>?_) (fun c2=>?_)
 ·(try simp only[sd,se] at c2);refine Au Az 1 [] O (A4 (⟨O,_,_,⟨_,_,O,O,O⟩,(List.nil_sublist _),?_⟩))
  all_goals exact⟨⟨_,rfl,by first | exact fun h=>absurd h Am | exact fun h=>⟨hf,hi,hn,by simp only[beq_iff_eq,decide_eq_true_eq] at *;intro _;omega,by simp only[beq_iff_eq,decide_eq_true_eq] at *;intro _ _;omega⟩⟩,rfl⟩
 (try simp only[sd,se] at c2);have hn:=hq2 (by simpa using c2);refine A5 (As (Au Az 3 [0] O (A2 O (fun c3=>?_) (fun c3=>?_))))
 ·(try simp only[sd,se] at c3);refine Ay (A0 Az 2 [0] O (Ar O (BH E1 O (List.length_map _)) (Aq Az 2 [] O (A4 (⟨O,_,_,⟨_,_,O,O,O⟩,(List.nil_sublist _),?_⟩)))))
  all_goals exact⟨⟨_,rfl,by first | exact fun h=>absurd h Am | exact fun h=>⟨hf,hi,hn,by simp only[beq_iff_eq,decide_eq_true_eq] at *;intro _;omega,by simp only[beq_iff_eq,decide_eq_true_eq] at *;intro _ _;omega⟩⟩,rfl⟩
 (try simp only[sd,se] at c3);refine A5 (Ay (A0 Az 2 [0] O (Ar O (BH E1 O (List.length_map _)) (A0 Az 2 [] O (BS 52 O (fun g=>?_) (fun g=>?_))))))
 ·(try simp only[sd,se] at g);refine Aq Az 5 [] O (A4 (⟨O,_,_,⟨_,_,O,O,O⟩,(List.nil_sublist _),?_⟩))
  all_goals exact⟨⟨_,rfl,by first | exact fun h=>absurd h Am | exact fun h=>⟨hf,hi,hn,by simp only[beq_iff_eq,decide_eq_true_eq] at *;intro _;omega,by simp only[beq_iff_eq,decide_eq_true_eq] at *;intro _ _;omega⟩⟩,rfl⟩
 (try simp only[sd,se] at g);refine Aq Az 5 [0] O (A4 (⟨O,_,_,⟨_,_,O,O,O⟩,(List.nil_sublist _),?_⟩))
 all_goals exact⟨⟨_,rfl,by first | exact fun h=>absurd h Am | exact fun h=>⟨hf,hi,hn,by simp only[beq_iff_eq,decide_eq_true_eq] at *;intro _;omega,by simp only[beq_iff_eq,decide_eq_true_eq] at *;intro _ _;omega⟩⟩,rfl⟩
theorem _root_.Go.AB {α:Prop}(h:α:=by repeat' first | exact trivial | refine And.intro ?_ ?_ | ((refine Or.inr (And.intro ?_ ?_)<;>repeat (first | exact List.Mem.head _ | apply List.Mem.tail));done) | exact Or.inl (by kernel_rfl)):α:=h
theorem _root_.Go.Aj {α:Prop}(h:α:=by assumption):α:=h
theorem aC:∀(n:Nat) (t:Tm) (d vars params metas levels:Int),(size t≤n)→(Nd t)→(0≤d)→(d+n<Cb)→Lj Tryz.prog 49 [.agg ((Bc t).map .p),.p (I d),.p (I vars),.p (I params),.p (I metas),.p (I levels)] (fun v=>∃ee:Int,v= .p (I ee)∧(ee=0→wf vars metas d t∧Cw t)):=by
 intro n
 induction n with
 | zero=>intro t d vars params metas levels h;cases t;simp[size] at h
 | succ n ih =>
  intro t d vars params metas levels h1 h2 h3 h4;simp only[Cb] at h4;obtain⟨tk,ti,tn,tl,ts⟩:=t;simp only[size] at h1;simp only[Nd,I3,Cb] at h2;have hks:=G2 ts;refine A1 Tryz.func49 O jy (n:=107) O O (Ay (BE O (BT O) fun b6=>Aq Az 1 [] O (As (Ay (Ar O (BR (i:=0) Bx O O O) (I6 O O (Dl O O (eM (.mk tk ti tn tl ts:Tm)) (.inl O)) ?_))))));rintro _ ⟨q,rfl,hq⟩;refine Aq Az 1 [] O (A2 O (fun c=>?_) (fun c=>?_))
  ·(try simp only[sd,se] at c);refine Au Az 1 [] O (A4 (⟨O,_,_,⟨_,_,O,O,O⟩,(List.nil_sublist _),?_⟩))
   all_goals exact⟨⟨_,rfl,by first | exact fun h=>absurd h Am | exact fun h=>absurd h Aj | exact fun _=>⟨⟨hf.1,hf.2.1,hf.2.2,hv1,hv2,Il fun j x hx=>by have h9:=(hC j (by have:=(List.getElem?_eq_some_iff.1 hx).1;omega) x hx).1;simpa using h9⟩,hcn,IY fun x hx=>by obtain⟨j,hj⟩:=List.mem_iff_getElem?.1 hx;exact(hC j (by have:=(List.getElem?_eq_some_iff.1 hj).1;omega) x hj).2⟩⟩,rfl⟩
  (try simp only[sd,se] at c);obtain⟨hf,hcn⟩:=hq (by simpa using c);refine A5 (As (As (Bj [1,2,3,4,5,6] 28 J5 ?_ ?_)))
  ·refine Ax (A0 Az 4 [0] O (BS 23 O (fun g=>?_) (fun g=>?_)))
   ·(try simp only[sd,se] at g);refine A0 Az 2 [0] O (LM O O O O (Dl O O (XJ tn h2.1) (.inl O)) ?_);rintro _ ⟨q1,rfl⟩;exact Aq Az 2 [] O (⟨O,O,AK,⟨_,O⟩,⟨O,O,O,O,O,O,Ap⟩⟩)
   (try simp only[sd,se] at g);exact Aq Az 5 [] O (⟨O,O,AK,⟨_,O⟩,⟨O,O,O,O,O,O,Ap⟩⟩)
  rintro _ ⟨q1,rfl⟩;refine A2 O (fun c1=>?_) (fun c1=>?_)
  ·(try simp only[sd,se] at c1);refine Au Az 1 [] O (A4 (⟨O,_,_,⟨_,_,O,O,O⟩,(List.nil_sublist _),?_⟩))
   all_goals exact⟨⟨_,rfl,by first | exact fun h=>absurd h Am | exact fun h=>absurd h Aj | exact fun _=>⟨⟨hf.1,hf.2.1,hf.2.2,hv1,hv2,Il fun j x hx=>by have h9:=(hC j (by have:=(List.getElem?_eq_some_iff.1 hx).1;omega) x hx).1;simpa using h9⟩,hcn,IY fun x hx=>by obtain⟨j,hj⟩:=List.mem_iff_getElem?.1 hx;exact(hC j (by have:=(List.getElem?_eq_some_iff.1 hj).1;omega) x hj).2⟩⟩,rfl⟩
  (try simp only[sd,se] at c1);refine A5 (As (Ay (A0 Az 2 [0] O (Ar O (BH E1 O (List.length_map _)) (Aq Az 1 [] O (A2 O (fun c2=>?_) (fun c2=>?_)))))))
  ·(try simp only[sd,se] at c2);refine Au Az 1 [] O (A4 (⟨O,_,_,⟨_,_,O,O,O⟩,(List.nil_sublist _),?_⟩))
   all_goals exact⟨⟨_,rfl,by first | exact fun h=>absurd h Am | exact fun h=>absurd h Aj | exact fun _=>⟨⟨hf.1,hf.2.1,hf.2.2,hv1,hv2,Il fun j x hx=>by have h9:=(hC j (by have:=(List.getElem?_eq_some_iff.1 hx).1;omega) x hx).1;simpa using h9⟩,hcn,IY fun x hx=>by obtain⟨j,hj⟩:=List.mem_iff_getElem?.1 hx;exact(hC j (by have:=(List.getElem?_eq_some_iff.1 hj).1;omega) x hj).2⟩⟩,rfl⟩
  (try simp only[sd,se] at c2);refine A5 (As (Au Az 1 [] O (BA (Bh (α:=Nat) (fun i=>⟨107,mk [(1,.p (I d)),(2,.p (I vars)),(3,.p (I params)),(4,.p (I metas)),(5,.p (I levels)),(6,.ptr b6 0),(13,.p (I (i:Int)))],[.box b6 [.p (I tk),.p (I ti),.p (.str tn),.p (.lst (List.map B6 tl)),.p (.lst (Av ts))]],[]⟩) (fun i=>tl.length - i) (fun i=>i≤tl.length) 0 AO ?_ ?_))))
  ·exact BZ ⟨we O,we O,we O,we O,we O,we O,we O,Ap⟩ (leH (is:=[0]) O (wl (oe O) (DF)))
  rintro i hC
  try simp only at hC
  have hi:=hC;refine As (Ay (A0 Az 3 [0] O (Ar O (BH E1 O (List.length_map _)) (Aq Az 1 [] O (A2 O (fun c3=>?_) (fun c3=>?_))))))
  ·(try simp only[sd,se] at c3);refine A5 (As (BA (Ay (A0 Az 3 [0] O ?_))));obtain⟨x,hx⟩:=A9 (l:=tl) (i:=i) An;refine Ar O (BC E1 O O An (IH hx) (Ep _)) (A0 Az 3 [] O (I6 O O (Dl O O (Y9 x params levels (h2.2.2.1 _ (List.mem_of_getElem? hx))) (.inl O)) ?_));rintro _ ⟨le,rfl⟩;refine Aq Az 1 [] O (Au Az 2 [] O (A2 O (fun c4=>?_) (fun c4=>?_)))
   ·(try simp only[sd,se] at c4);refine Au Az 2 [] O (A4 (⟨O,_,_,⟨_,_,O,O,O⟩,(List.nil_sublist _),?_⟩))
    all_goals exact⟨⟨_,rfl,by first | exact fun h=>absurd h Am | exact fun h=>absurd h Aj | exact fun _=>⟨⟨hf.1,hf.2.1,hf.2.2,hv1,hv2,Il fun j x hx=>by have h9:=(hC j (by have:=(List.getElem?_eq_some_iff.1 hx).1;omega) x hx).1;simpa using h9⟩,hcn,IY fun x hx=>by obtain⟨j,hj⟩:=List.mem_iff_getElem?.1 hx;exact(hC j (by have:=(List.getElem?_eq_some_iff.1 hj).1;omega) x hj).2⟩⟩,rfl⟩
   (try simp only[sd,se] at c4);refine A5 (Ax (Aq Az 3 [] O ?_));refine⟨(i+1),AQ,by omega,BZ ⟨we rfl,we rfl,we rfl,we rfl,we rfl,we rfl,we rfl,trivial⟩ (leH (is:=[0]) rfl (wl (oe rfl) (DF)))⟩
  (try simp only[sd,se] at c3);refine Bk (As (As (Bj [1,2,3,4,5,6] 66 (fun y=>∃b:Bool,y= .p (.bool b)∧(b=false→tk=0→0≤ti∧ti - d<vars)) ?_ ?_)))
  ·refine Ax (A0 Az 4 [0] O (BS 54 O (fun g=>?_) (fun g=>?_)))
   ·(try simp only[sd,se] at g);refine A0 Az 4 [0] O (BS 58 O (fun g1=>?_) (fun g1=>?_))
    ·(try simp only[sd,se] at g1);refine Aq Az 8 [] O ?_;exact⟨rfl,rfl,AK,(by refine⟨_,rfl,fun h=>?_⟩;first | (simp_all;done) | (simp_all<;>omega)),⟨rfl,rfl,rfl,rfl,rfl,rfl,trivial⟩⟩
    (try simp only[sd,se] at g1);refine Aq Az 8 [0] O ?_;exact⟨rfl,rfl,AK,(by refine⟨_,rfl,fun h=>?_⟩;first | (simp_all;done) | (simp_all<;>omega)),⟨rfl,rfl,rfl,rfl,rfl,rfl,trivial⟩⟩
   (try simp only[sd,se] at g);refine Aq Az 12 [] O ?_;exact⟨rfl,rfl,AK,(by refine⟨_,rfl,fun h=>?_⟩;first | (simp_all;done) | (simp_all<;>omega)),⟨rfl,rfl,rfl,rfl,rfl,rfl,trivial⟩⟩
  rintro _ ⟨r,rfl,hr⟩;refine A2 O (fun c4=>?_) (fun c4=>?_)
  ·(try simp only[sd,se] at c4);refine Au Az 1 [] O (A4 (⟨O,_,_,⟨_,_,O,O,O⟩,(List.nil_sublist _),?_⟩))
   all_goals exact⟨⟨_,rfl,by first | exact fun h=>absurd h Am | exact fun h=>absurd h Aj | exact fun _=>⟨⟨hf.1,hf.2.1,hf.2.2,hv1,hv2,Il fun j x hx=>by have h9:=(hC j (by have:=(List.getElem?_eq_some_iff.1 hx).1;omega) x hx).1;simpa using h9⟩,hcn,IY fun x hx=>by obtain⟨j,hj⟩:=List.mem_iff_getElem?.1 hx;exact(hC j (by have:=(List.getElem?_eq_some_iff.1 hj).1;omega) x hj).2⟩⟩,rfl⟩
  (try simp only[sd,se] at c4);have hv1:=hr (by simpa using c4);refine A5 (As (As (Bj [1,2,3,4,5,6] 80 (fun y=>∃b:Bool,y= .p (.bool b)∧(b=false→tk=12→0≤ti∧ti<metas)) ?_ ?_)))
  ·refine Ax (A0 Az 4 [0] O (BS 70 O (fun g=>?_) (fun g=>?_)))
   ·(try simp only[sd,se] at g);refine A0 Az 4 [0] O (BS 74 O (fun g1=>?_) (fun g1=>?_))
    ·(try simp only[sd,se] at g1);refine Aq Az 6 [] O ?_;exact⟨rfl,rfl,AK,(by refine⟨_,rfl,fun h=>?_⟩;first | (simp_all;done) | (simp_all<;>omega)),⟨rfl,rfl,rfl,rfl,rfl,rfl,trivial⟩⟩
    (try simp only[sd,se] at g1);refine Aq Az 6 [0] O ?_;exact⟨rfl,rfl,AK,(by refine⟨_,rfl,fun h=>?_⟩;first | (simp_all;done) | (simp_all<;>omega)),⟨rfl,rfl,rfl,rfl,rfl,rfl,trivial⟩⟩
   (try simp only[sd,se] at g);refine Aq Az 10 [] O ?_;exact⟨rfl,rfl,AK,(by refine⟨_,rfl,fun h=>?_⟩;first | (simp_all;done) | (simp_all<;>omega)),⟨rfl,rfl,rfl,rfl,rfl,rfl,trivial⟩⟩
  rintro _ ⟨r2,rfl,hr2⟩;refine A2 O (fun c5=>?_) (fun c5=>?_)
  ·(try simp only[sd,se] at c5);refine Au Az 1 [] O (A4 (⟨O,_,_,⟨_,_,O,O,O⟩,(List.nil_sublist _),?_⟩))
   all_goals exact⟨⟨_,rfl,by first | exact fun h=>absurd h Am | exact fun h=>absurd h Aj | exact fun _=>⟨⟨hf.1,hf.2.1,hf.2.2,hv1,hv2,Il fun j x hx=>by have h9:=(hC j (by have:=(List.getElem?_eq_some_iff.1 hx).1;omega) x hx).1;simpa using h9⟩,hcn,IY fun x hx=>by obtain⟨j,hj⟩:=List.mem_iff_getElem?.1 hx;exact(hC j (by have:=(List.getElem?_eq_some_iff.1 hj).1;omega) x hj).2⟩⟩,rfl⟩
  (try simp only[sd,se] at c5);have hv2:=hr2 (by simpa using c5);refine A5 (As (Au Az 1 [] O (BA ?_)));refine Bh (α:=Nat) (fun i=>⟨107,mk [(1,.p (I d)),(2,.p (I vars)),(3,.p (I params)),(4,.p (I metas)),(5,.p (I levels)),(6,.ptr b6 0),(15,.p (I (i:Int)))],[.box b6 [.p (I tk),.p (I ti),.p (.str tn),.p (.lst (List.map B6 tl)),.p (.lst (Av ts))]],[]⟩) (fun i=>ts.length - i) (fun i=>i≤ts.length∧(∀j,j<i→∀x,ts[j]?=some x→wf vars metas (d+below tk j) x∧Cw x)) 0 (⟨by omega,fun j h=>by omega⟩) ?_ ?_
  ·exact BZ ⟨we O,we O,we O,we O,we O,we O,we O,Ap⟩ (leH (is:=[0]) O (wl (oe O) (DF)))
  rintro i hC1
  try simp only at hC1
  obtain⟨hi,hC⟩:=hC1;have hbl:=Cd tk i;refine As (Ay (A0 Az 3 [0] O (Ar O (BH BY O (BD _)) (Aq Az 1 [] O (A2 O (fun c6=>?_) (fun c6=>?_))))))
  ·(try simp only[sd,se] at c6);refine A5 (As (BA (As (CK (fun k=>Nat.beq k 15) Eb (Bf Az 3 [0] O ?_)))));obtain⟨x,hx⟩:=A9 (l:=ts) (i:=i) An;refine BG O (fun _=>BC BY O O An (B0 hx) (BF _)) Ap (Bf Az 5 [0] O (BG O (fun _=>BB O O (Tt tk (i:Int)) O) Ap (Bf Az 5 [] O (WE [] O O (Dl O O (ih x ((d:Int)+(below tk (i:Int):Int)) vars params metas levels (by have:=B5 hx;omega) (Cq h2.2.2.2.2.1 hx) (by have:=Cd tk i;omega) (by have:=Cd tk i;simp only[Cb];omega)) (.inl O)) Ai (⟨_,1,O,fun h=>absurd h Am⟩) AB ?_))));rintro _ ⟨e,rfl,he⟩;refine⟨Ap,?_⟩;refine CE Az 1 [] O (Au Az 2 [] O (A2 O (fun c7=>?_) (fun c7=>?_)))
   ·(try simp only[sd,se] at c7);refine Au Az 2 [] O (A4 (⟨O,_,_,⟨_,_,O,O,O⟩,(List.nil_sublist _),?_⟩))
    all_goals exact⟨⟨_,rfl,by first | exact fun h=>absurd h Am | exact fun h=>absurd h Aj | exact fun _=>⟨⟨hf.1,hf.2.1,hf.2.2,hv1,hv2,Il fun j x hx=>by have h9:=(hC j (by have:=(List.getElem?_eq_some_iff.1 hx).1;omega) x hx).1;simpa using h9⟩,hcn,IY fun x hx=>by obtain⟨j,hj⟩:=List.mem_iff_getElem?.1 hx;exact(hC j (by have:=(List.getElem?_eq_some_iff.1 hj).1;omega) x hj).2⟩⟩,rfl⟩
   (try simp only[sd,se] at c7);refine A5 (Ax (Aq Az 3 [] O (⟨(i+1),AQ,⟨by omega,GN hC hx (he An)⟩,BZ ⟨we rfl,we rfl,we rfl,we rfl,we rfl,we rfl,we rfl,trivial⟩ (leH (is:=[0]) rfl (wl (oe rfl) (DF)))⟩)))
  (try simp only[sd,se] at c6);refine Bk (Au Az 1 [] O (A4 (⟨O,_,_,⟨_,_,O,O,O⟩,(List.nil_sublist _),?_⟩)))
  all_goals exact⟨⟨_,rfl,by first | exact fun h=>absurd h Am | exact fun h=>absurd h Aj | exact fun _=>⟨⟨hf.1,hf.2.1,hf.2.2,hv1,hv2,Il fun j x hx=>by have h9:=(hC j (by have:=(List.getElem?_eq_some_iff.1 hx).1;omega) x hx).1;simpa using h9⟩,hcn,IY fun x hx=>by obtain⟨j,hj⟩:=List.mem_iff_getElem?.1 hx;exact(hC j (by have:=(List.getElem?_eq_some_iff.1 hj).1;omega) x hj).2⟩⟩,rfl⟩
theorem _root_.Go.Ad {α:Prop}(h:α:=by simp[BF]):α:=h
theorem FF:∀(f:Tm) (xs:List Tm),(xs.length<Cb)→D3 Tryz.prog 39 [.agg ((Bc f).map .p),.p (.lst (Av xs))] (.agg ((Bc (apply f xs)).map .p)):=by
 intro f xs h1;simp only[Cb] at h1;refine A1 Tryz.func39 O ki (n:=20) O O (Ay (BE O (BT O) fun b2=>BE O (A7 Bq O) fun b4=>Bo O (As (Au Az 1 [] O (BA (Bh (α:=Nat) (fun i=>⟨20,mk [(1,.p (.lst (Av xs))),(2,.ptr b2 0),(4,.ptr b4 0),(5,.p (I (i:Int)))],[.box b4 [.p (I 0),.p (I 0),.p (.str ⟨#[]⟩),.p (.nils),.p (.nils)],.box b2 ((Bc (apply f (xs.take i))).map .p)],[]⟩) (fun i=>xs.length - i) (fun i=>i≤xs.length) 0 AO ?_ ?_))))))
 ·exact BZ ⟨we O,we O,we O,we O,Ap⟩ (leH (is:=[0,1]) O (wl (oe O) (wl (oe O) (DF))))
 rintro i hC
 try simp only at hC
 have hi:=hC;refine As (Ay (A0 Az 2 [] O (Ar O (BH BY O (BD _)) (Aq Az 1 [] O (A2 O (fun c=>?_) (fun c=>?_))))))
 ·(try simp only[sd,se] at c);refine A5 (As (BA (CK (fun k=>false) Eb (Bf Az 3 [1] O ?_))));obtain⟨x,hx⟩:=A9 (l:=xs) (i:=i) An;refine BG O (fun _=>BC BY O O An (B0 hx) (BF _)) Ap (BG O (fun _=>Bg Bx O (BF _)) Ap ?_);generalize hz:(apply f (xs.take i))=z;obtain⟨zk,zi,zn,zl,zs⟩:=z;obtain⟨xk,xi,xn,xl,xs1⟩:=x;refine BG O (fun _=>Bz BY Bq O O O O O) Ap (CE Az 2 [1,0] O (Ax (Aq Az 3 [] O ?_)));refine⟨(i+1),AQ,by omega,BZ ⟨we rfl,we rfl,we rfl,we rfl,trivial⟩ (leH (is:=[0,1]) rfl (wl (oe rfl) (wl (on (by rw[OC hx,hz];rfl)) (DF))))⟩
 (try simp only[sd,se] at c);refine Bk (Au Az 2 [1,0,1] O (A4 (⟨O,_,_,⟨_,_,O,(BO (i:=0) Bx O O Ad),O⟩,(List.nil_sublist _),?_⟩)))
 all_goals exact⟨by show (.agg ((Bc (apply f (xs.take i))).map .p):AV)=_;rw[show i=xs.length by omega,List.take_length],rfl⟩
theorem _root_.Go.AW {α:Prop}(h:α:=by simp only[Cb];omega):α:=h
theorem Vl:∀(n:Nat) (t:Tm),(size t≤n)→(n<Cb)→Br Tryz.prog 120 [.agg ((Bc t).map .p)] [] (Yj (fun v=> .tup [.agg ((Bc ((BI t).1)).map .p),v]) 5 (Av ((BI t).2))):=by
 intro n
 induction n with
 | zero=>intro t h;cases t;simp[size] at h
 | succ n ih =>
  intro t h1 h2;simp only[Cb] at h2;refine A1 Tryz.func120 O iH (n:=32) O O (Ay (BE O (BT O) fun b1=>BE O (A7 Bq O) fun b2=>Aq Az 1 [] O (As (As ?_))));obtain⟨tk,ti,tn,tl,ts⟩:=t;simp only[size] at h1;refine Bj [1,2] 14 (fun y=>y= .p (.bool (((tk:Int) !=(4:Int))||(((ts.length:Nat):Int) !=(2:Int))))) ?_ ?_
  ·refine Ax (A0 Az 4 [1] O (BS 9 O (fun g=>?_) (fun g=>?_)))
   ·(try simp only[sd,se] at g);exact Aq Az 5 [] O (⟨O,O,AK,AH,⟨O,O,Ap⟩⟩)
   (try simp only[sd,se] at g);exact A0 Az 2 [1] O (BK O (BH BY O (BD _)) (Aq Az 2 [] O (⟨O,O,AK,AH,⟨O,O,Ap⟩⟩)))
  rintro _ rfl;refine A2 O (fun c=>?_) (fun c=>?_)
  ·(try simp only[sd,se] at c);refine Au Az 3 [1,0,0] O (BU (DZ (t:=3) (sz:=5) O) (A4 (⟨O,_,_,⟨_,_,O,(BO (i:=1) Bx O O O),⟨_,_,O,O,O⟩⟩,(Dn (is:=[0]) O),?_⟩)));rw[OI c]
   all_goals exact⟨_,_,rfl,rfl⟩
  (try simp only[sd,se] at c);refine A5 (Ay (A0 Az 2 [1] O ?_));obtain⟨x,hx⟩:=A9 (l:=ts) (i:=0) An;refine Ar O (BC BY O O An (B0 hx) (BF _)) (Ar O (Bg Bx O (BF _)) (Xq O O O (.inl ⟨O,O,O⟩) (ih x (by have:=B5 hx;omega) AW) (.inl O) fun o cp=>A0 Az 3 [] O (BE O (A7 Bq O) fun b4=>Aq Az 2 [0,1] O (As (CK (fun k=>Nat.beq k 7) Eb (Bf Az 4 [0,3] O ?_))))));obtain⟨x1,hx1⟩:=A9 (l:=ts) (i:=1) An;refine BG O (fun _=>BC BY O O An (B0 hx1) (BF _)) Ap (BG O (fun _=>Bg Bx O (BF _)) Ap ?_);obtain⟨x1k,x1i,x1n,x1l,x1s⟩:=x1;refine BG O (fun _=>Bz BY Bq O O O O O) Ap (Sm [] O O (B3 (i:=1) (rows':=Av [(.mk x1k x1i x1n x1l x1s:Tm)]) BY BY Bq O O O O O O (Bn _) (by have:=L6 x;have:=B5 hx;simp[BD];omega) (Fe ((BI x).2) [(.mk x1k x1i x1n x1l x1s:Tm)])) Ai fun o1 cp1=>⟨AB,Ap,?_⟩);refine CE Az 2 [2,1] O (A4 (⟨O,_,_,⟨_,_,O,(BO (i:=2) Bx O O Ad),⟨_,_,O,O,O⟩⟩,(Dn (is:=[1]) O),?_⟩));rw[PH c hx hx1]
  all_goals exact⟨_,_,rfl,rfl⟩
theorem XN:∀(n:Nat) (t:Tm),size t≤n→n<Cb→D3 Tryz.prog 120 [TV t] (.tup [TV (BI t).1,iu (BI t).2]) :=
 fun n t h1 h2=>S8 (pre:=[_]) (post:=[]) (Vl n t h1 h2) (fun x _=>SF x)
theorem Tu:∀(n:Nat) (t:Tm),(size t≤n)→(Nd t)→D3 Tryz.prog 50 [.agg ((Bc t).map .p)] (.p (I (Dg t))):=by
 intro n
 induction n with
 | zero=>intro t h;cases t;simp[size] at h
 | succ n ih =>
  intro t h1 h2;obtain⟨tk,ti,tn,tl,ts⟩:=t;simp only[size] at h1;simp only[Nd,Cb] at h2;refine A1 Tryz.func50 O kx (n:=21) O O (Ay (BE O (BT O) fun b1=>Aq Az 1 [] O (Au Az 1 [] O (As (Au Az 1 [] O (BA (Bh (α:=Nat×Int) (fun(i,m)=>⟨21,mk [(1,.ptr b1 0),(3,.p (I m)),(4,.p (I (i:Int)))],[.box b1 [.p (I tk),.p (I ti),.p (.str tn),.p (.lst (List.map B6 tl)),.p (.lst (Av ts))]],[]⟩) (fun(i,m)=>ts.length - i) (fun(i,m)=>i≤ts.length∧(IS m (ts.drop i)=IS 1 ts)) ⟨0,1⟩ Ao ?_ ?_)))))))
  ·exact BZ ⟨we O,we O,we O,Ap⟩ (leH (is:=[0]) O (wl (oe O) (DF)))
  rintro⟨i,m⟩ hC
  try simp only at hC
  obtain⟨hi,hC⟩:=hC;refine As (Ay (A0 Az 3 [0] O (Ar O (BH BY O (BD _)) (Aq Az 1 [] O (A2 O (fun c=>?_) (fun c=>?_))))))
  ·(try simp only[sd,se] at c);refine A5 (As (BA (Ax (A0 Az 4 [0] O ?_))));obtain⟨x,hx⟩:=A9 (l:=ts) (i:=i) An;refine Ar O (BC BY O O An (B0 hx) (BF _)) (Ar O (Bg Bx O (BF _)) (Ar O (BB O O (ih x (by have:=B5 hx;omega) (Cq h2.2.2.2.2.1 hx)) O) (Ar O (GZ O O) (Aq Az 1 [] O (Ax (Aq Az 3 [] O ?_))))));refine⟨⟨i+1,wr (m+Dg x)⟩,AQ,⟨by omega,by rw[←hC,Cm hx];rfl⟩,BZ ⟨we rfl,we rfl,we rfl,trivial⟩ (leH (is:=[0]) rfl (wl (oe rfl) (DF)))⟩
  (try simp only[sd,se] at c);refine Bk (Au Az 2 [] O (A4 (⟨O,_,_,⟨_,_,O,O,O⟩,(List.nil_sublist _),?_⟩)))
  all_goals exact⟨pI (by rw[show Dg (.mk tk ti tn tl ts)=IS 1 ts from rfl,←hC,show i=ts.length by omega,List.drop_length];rfl),rfl⟩
theorem SA:∀(n:Nat) (t:Tm),(size t≤n)→(Nd t)→D3 Tryz.prog 51 [.agg ((Bc t).map .p)] (.p (I (Dq t))):=by
 intro n
 induction n with
 | zero=>intro t h;cases t;simp[size] at h
 | succ n ih =>
  intro t h1 h2;obtain⟨tk,ti,tn,tl,ts⟩:=t;simp only[size] at h1;simp only[Nd,Cb] at h2;refine A1 Tryz.func51 O kD (n:=22) O O (Ay (BE O (BT O) fun b1=>Aq Az 1 [] O (Au Az 1 [] O (As (Au Az 1 [] O (BA (Bh (α:=Nat×Int) (fun(i,m)=>⟨22,mk [(1,.ptr b1 0),(3,.p (I m)),(4,.p (I (i:Int)))],[.box b1 [.p (I tk),.p (I ti),.p (.str tn),.p (.lst (List.map B6 tl)),.p (.lst (Av ts))]],[]⟩) (fun(i,m)=>ts.length - i) (fun(i,m)=>i≤ts.length∧(Hh m (ts.drop i)=Hh 0 ts)) ⟨0,0⟩ Ao ?_ ?_)))))))
  ·exact BZ ⟨we O,we O,we O,Ap⟩ (leH (is:=[0]) O (wl (oe O) (DF)))
  rintro⟨i,m⟩ hC
  try simp only at hC
  obtain⟨hi,hC⟩:=hC;refine As (Ay (A0 Az 3 [0] O (Ar O (BH BY O (BD _)) (Aq Az 1 [] O (A2 O (fun c=>?_) (fun c=>?_))))))
  ·(try simp only[sd,se] at c);refine A5 (As (BA (Ax (A0 Az 4 [0] O ?_))));obtain⟨x,hx⟩:=A9 (l:=ts) (i:=i) An;refine Ar O (BC BY O O An (B0 hx) (BF _)) (Ar O (Bg Bx O (BF _)) (Ar O (BB O O (ih x (by have:=B5 hx;omega) (Cq h2.2.2.2.2.1 hx)) O) (Ar O (QP O O) (Aq Az 1 [] O (Ax (Aq Az 3 [] O ?_))))));refine⟨⟨i+1,max m (Dq x)⟩,AQ,⟨by omega,by rw[←hC,Cm hx];rfl⟩,BZ ⟨we rfl,we rfl,we rfl,trivial⟩ (leH (is:=[0]) rfl (wl (oe rfl) (DF)))⟩
  (try simp only[sd,se] at c);refine Bk (Ay (CA O (Ar O (GZ O O) (Aq Az 1 [] O (A4 (⟨O,_,_,⟨_,_,O,O,O⟩,(List.nil_sublist _),?_⟩))))))
  all_goals exact⟨pI (by rw[show Dq (.mk tk ti tn tl ts)=wr (Hh 0 ts+1) from rfl,←hC,show i=ts.length by omega,List.drop_length];rfl),rfl⟩
theorem Xj:∀(b:Nat) (er nd e:Int),Br Tryz.prog 145 [.ptr b 0,.p (I e)] [.box b [.p (I er),.p (I nd)]] (FV (.tup []) [.box b [.p (I (H5 er e)),.p (I nd)]]):=by
 intro b er nd e;refine A1 Tryz.func145 O iY (n:=13) O O (Au Az 5 [0] O (A2 O (fun c=>?_) (fun c=>?_)))
 ·(try simp only[sd,se] at c);refine Ax (Aq Az 5 [0,0] O ⟨O,_,_,O,(Dn (is:=[0]) O),?_⟩);refine⟨O,?_⟩;show ([.box b [.p (I e),.p (I nd)]]:List A8)=_;simp[H5,c]
 (try simp only[sd,se] at c);refine A5 ⟨O,_,_,O,(Dn (is:=[0]) O),?_⟩;refine⟨O,?_⟩;show ([.box b [.p (I er),.p (I nd)]]:List A8)=_;simp[H5,c]
theorem Tc:∀(b:Nat) (er nd i:Int),Br Tryz.prog 146 [.ptr b 0,.p (I i)] [.box b [.p (I er),.p (I nd)]] (FV (.agg ((Bc (BP i)).map .p)) [.box b [.p (I (Lb er i)),.p (I nd)]]):=by
 intro b er nd i;refine A1 Tryz.func146 O gn (n:=11) O O (Ay (BE O (A7 Bq O) fun b4=>Bo O (As (Au Az 2 [] O (A2 O (fun c=>?_) (fun c=>?_))))))
 ·(try simp only[sd,se] at c);refine Ax (CA O (Ar O (Cg [1] O (.inl ⟨O,O,O⟩) (Xj b er nd 24) ⟨_,_,O,O,O⟩ Am O (.inl O)) (Bo O (Au Az 3 [0,0] O (BU (CB (i:=0) O) (A4 (⟨O,_,_,⟨_,_,O,(BO (i:=0) Bx O O O),O⟩,(Dn (is:=[1]) O),?_⟩)))))));refine⟨O,?_⟩;show ([.box b [.p (I (H5 er 24)),.p (I nd)]]:List A8)=_;simp[Lb,show i > 65535 by omega]
 (try simp only[sd,se] at c);refine A5 (Au Az 3 [0,0] O (BU (CB (i:=0) O) (A4 (⟨O,_,_,⟨_,_,O,(BO (i:=0) Bx O O O),O⟩,(Dn (is:=[1]) O),?_⟩))));refine⟨O,?_⟩;show ([.box b [.p (I er),.p (I nd)]]:List A8)=_;simp[Lb,show ¬i > 65535 by omega]
theorem _root_.Go.AF {α:Prop}(h:α:=by simp only[BD,List.length_map,List.length_cons,List.length_nil,List.nil_append,List.length_append];omega):α:=h
theorem ZT:∀(n:Nat) (t:Tm) (b:Nat) (by' fr d er nd:Int),(size t≤n)→(Nd t)→(0≤d)→(d+n<2 ^ 62)→Br Tryz.prog 121 [.ptr b 0,.agg ((Bc t).map .p),.p (I by'),.p (I fr),.p (I d)] [.box b [.p (I er),.p (I nd)]] (FV (.agg ((Bc ((CP by' fr d er t).1)).map .p)) [.box b [.p (I ((CP by' fr d er t).2)),.p (I nd)]]):=by
 intro n
 induction n with
 | zero=>intro t b by' fr d er nd h;cases t;simp[size] at h
 | succ n ih =>
  intro t b by' fr d er nd h1 h2 h3 h4
  obtain⟨tk,ti,tn,tl,ts⟩:=t;simp only[size] at h1;simp only[Nd,Cb] at h2;refine A1 Tryz.func121 O hO (n:=68) O O (Ay (BE O (BT O) fun b6=>BE O (A7 Bq O) fun b10=>Bo O (As (Au Az 3 [1] O (A2 O (fun c=>?_) (fun c=>?_))))))
  ·(try simp only[sd,se] at c);refine As (Ay (A0 Az 4 [1] O (Ar O (GZ O O) (Aq Az 1 [] O (A2 O (fun c1=>?_) (fun c1=>?_))))))
   ·(try simp only[sd,se] at c1);refine Au Az 2 [1,0,0] O (A4 (⟨O,_,_,⟨_,_,O,(BO (i:=0) Bx O O O),O⟩,(Dn (is:=[2]) O),?_⟩));refine⟨by show (.agg [.p (I tk),.p (I ti),.p (.str tn),.p (.lst (List.map B6 tl)),.p (.lst (Av ts))]:AV)=_;rw[CP,if_pos c,if_pos c1];rfl,?_⟩;show ([.box b [.p (I er),.p (I nd)]]:List A8)=_;rw[CP,if_pos c,if_pos c1]
   (try simp only[sd,se] at c1);refine A5 (As (Ay (A0 Az 3 [1] O (Ar O (GZ O O) (A0 Az 2 [] O (Ar O (GZ O O) (Aq Az 1 [] O (A2 O (fun c2=>?_) (fun c2=>?_)))))))))
   ·(try simp only[sd,se] at c2);refine Ay (CA O (Ar O (Cg [2] O (.inl ⟨O,O,O⟩) (Xj b er nd 24) ⟨_,_,O,O,O⟩ Am O (.inl O)) (Bo O (Au Az 2 [1,0,0] O (A4 (⟨O,_,_,⟨_,_,O,(BO (i:=0) Bx O O O),O⟩,(Dn (is:=[2]) O),?_⟩))))));refine⟨by show (.agg [.p (I tk),.p (I ti),.p (.str tn),.p (.lst (List.map B6 tl)),.p (.lst (Av ts))]:AV)=_;rw[CP,if_pos c,if_neg An,if_pos c2];rfl,?_⟩;show ([.box b [.p (I (H5 er 24)),.p (I nd)]]:List A8)=_;rw[CP,if_pos c,if_neg An,if_pos c2]
   (try simp only[sd,se] at c2);refine A5 (Ay (A0 Az 4 [1] O (Ar O (GZ O O) (Ar O (Cg [2] O (.inl ⟨O,O,O⟩) (Tc b er nd (wr ((ti:Int)+(by':Int)))) ⟨_,_,rfl,rfl,rfl⟩ Am rfl (.inl rfl)) (Aq Az 1 [0,1] O (A4 (⟨O,_,_,⟨_,_,O,(BO (i:=0) Bx O O Ad),O⟩,(Dn (is:=[2]) O),?_⟩)))))));refine⟨by show (.agg ((Bc (BP (wr ((ti:Int)+(by':Int))))).map .p):AV)=_;rw[CP,if_pos c,if_neg An,if_neg An],?_⟩;show ([.box b [.p (I (Lb er (wr ((ti:Int)+(by':Int))))),.p (I nd)]]:List A8)=_;rw[CP,if_pos c,if_neg An,if_neg An]
  (try simp only[sd,se] at c);refine A5 (Au Az 1 [] O (As (Au Az 1 [] O (BA (BU (DZ (t:=11) (sz:=5) O) (Bh (α:=Nat×List Tm×Int×Option Nat×Nat) (fun(i,ys,e,o,cp)=>⟨68,mk [(0,.ptr b 0),(2,.p (I by')),(3,.p (I fr)),(4,.p (I d)),(6,.ptr b6 0),(10,.ptr b10 0),(11,.vs o (Av ys).length cp),(12,.p (I (i:Int)))],[.vec o 5 (Av ys) cp,.box b10 [.p (I 0),.p (I 0),.p (.str ⟨#[]⟩),.p (.nils),.p (.nils)],.box b6 [.p (I tk),.p (I ti),.p (.str tn),.p (.lst (List.map B6 tl)),.p (.lst (Av ts))],.box b [.p (I e),.p (I nd)]],[]⟩) (fun(i,ys,e,o,cp)=>ts.length - i) (fun(i,ys,e,o,cp)=>i≤ts.length∧(ys.length=i∧(ys++(C0 by' fr tk d i e (ts.drop i)).1,(C0 by' fr tk d i e (ts.drop i)).2)=C0 by' fr tk d 0 er ts)) ⟨0,[],er,none,0⟩ Ao ?_ ?_))))))
  ·exact BZ ⟨we O,we O,we O,we O,we O,we O,we O,we O,Ap⟩ (leH (is:=[0,1,2,3]) O (wl (oe O) (wl (oe O) (wl (oe O) (wl (oe O) (DF))))))
  rintro⟨i,ys,e,o,cp⟩ hC
  try simp only at hC
  obtain⟨hi,hl,hC⟩:=hC;refine As (Ay (A0 Az 3 [2] O (Ar O (BH BY O (BD _)) (Aq Az 1 [] O (A2 O (fun c1=>?_) (fun c1=>?_))))))
  ·(try simp only[sd,se] at c1);refine A5 (As (BA (CK (fun k=>Nat.beq k 17) Eb (Bf Az 5 [2] O ?_))));obtain⟨x,hx⟩:=A9 (l:=ts) (i:=i) An;refine BG O (fun _=>BC BY O O An (B0 hx) (BF _)) Ap (Bf Az 7 [2] O (BG O (fun _=>BB O O (Tt tk (i:Int)) O) Ap (BG O (fun _=>EK O O (by have:=Cd tk i;omega) (by have:=Cd tk i;omega)) Ap (Jc O O (Cg [3] O (.inl ⟨O,O,O⟩) (ih x b by' fr ((d:Int)+(below tk (i:Int):Int)) e nd (by have:=B5 hx;omega) (Cq h2.2.2.2.2.1 hx) (by have:=Cd tk i;omega) (by have:=Cd tk i;omega)) ⟨_,_,rfl,rfl,rfl⟩ Am rfl (.inl rfl)) AB trivial ?_))));generalize hz:(CP by' fr ((d:Int)+(below tk (i:Int):Int)) e x).1=z;obtain⟨zk,zi,zn,zl,zs⟩:=z;refine BG O (fun _=>Bz BY Bq O O O O O) Ap (Sm [] O O (B3 (i:=0) (rows':=Av [(.mk zk zi zn zl zs:Tm)]) BY BY Bq O O O O O O (Bn _) AF (Fe ys [(.mk zk zi zn zl zs:Tm)])) Ai fun o1 cp1=>⟨AB,Ap,?_⟩);refine CE Az 1 [] O (Ax (Aq Az 3 [] O ?_));refine⟨⟨i+1,ys++[(CP by' fr (d+below tk i) e x).1],(CP by' fr (d+below tk i) e x).2,o1,cp1⟩,AQ,⟨by omega,⟨by simp[hl],by rw[←hC,Cm hx];simp[C0]⟩⟩,BZ ⟨we rfl,we rfl,we rfl,we rfl,we rfl,we rfl,we (DM (ys++[(.mk zk zi zn zl zs:Tm)]) (by rw[hz])),we rfl,trivial⟩ (leH (is:=[0,1,2,3]) rfl (wl (C5 (ys++[(.mk zk zi zn zl zs:Tm)]) (by rw[hz])) (wl (oe rfl) (wl (oe rfl) (wl (oe rfl) (DF))))))⟩
  (try simp only[sd,se] at c1);refine Bk (Ay (A0 Az 2 [] O (B7 (CM (i:=0) [11,65] O (C6 ⟨O,O,Ap⟩)) (Aq Az 1 [1,0] O (Au Az 2 [1,0,0] O (A4 (⟨O,_,_,⟨_,_,O,(BO (i:=0) Bx O O O),O⟩,(Dn (is:=[2]) O),?_⟩)))))));refine⟨by show (.agg [.p (I tk),.p (I ti),.p (.str tn),.p (.lst (List.map B6 tl)),.p (.lst (Av ys))]:AV)=_;rw[CP,if_neg c];rw[show i=ts.length by omega,List.drop_length] at hC;rw[←hC];simp[C0];rfl,?_⟩;show ([.box b [.p (I e),.p (I nd)]]:List A8)=_;rw[CP,if_neg c];rw[show i=ts.length by omega,List.drop_length] at hC;rw[←hC];simp[C0]
theorem Ye:∀{σ:Type}(st:σ→Int→Tm→σ×Bool) (Inv:Nat→σ→Prop) (HP:Bool→σ→List A8→Prop) (l b2 b3 b4:Nat) (hI:∀m s d t,Inv (m+1) s→Inv m (st s d t).1) (hy:∀m s d t T,Nd t→Inv (m+1) s→HP true s T→JK Tryz.prog l [.p (I d),TV t] T (Se (.p (.bool (st s d t).2)) (HP (st s d t).2 (st s d t).1))) (n:Nat) (t:Tm) (d:Int) (s:σ) (T0:List A8) (m:Nat),size t≤n→Nd t→0≤d→d+n<4611686018427387904→Inv (m+size t) s→HP true s T0→Br Tryz.prog 144 [TV t,.p (I d),.ptr b2 0,.ptr b3 0,.ptr b4 0] (.box b2 [.fn (.yield l) [] []]:: .box b3 Lr:: .box b4 [.fn (.func 144) [] [.ptr b2 0,.ptr b3 0,.ptr b4 0]]::T0) (Se (.p (.bool (Dd st t d s).2)) (fun H=>∃T,HP (Dd st t d s).2 (Dd st t d s).1 T∧H= .box b2 [.fn (.yield l) [] []]:: .box b3 Lr:: .box b4 [.fn (.func 144) [] [.ptr b2 0,.ptr b3 0,.ptr b4 0]]::T)):=by
 intro σ st Inv HP l b2 b3 b4 hI hy n
 induction n with
 | zero=>intro t d s T0 m h;cases t;simp[size] at h
 | succ n ih =>
  intro t d s T0 m h1 h2 h3 h4 h5 h6;obtain⟨tk,ti,tn,tl,ts⟩:=t;have h2':=h2;simp only[size] at h1 h5;simp only[Nd,I3,Cb] at h2;refine A1 Tryz.func144 O e8 (n:=50) O O (Ay (BE O (BT O) fun b5=>Aq Az 1 [] O (As (Ay (A0 Az 3 [1,0] O (P7 [_,_,_,_] O O O O (hy (m+Bb ts) _ _ _ _ h2' (by rw[Nat.add_assoc,Nat.add_comm (Bb ts)];exact h5) h6) O ?_ (fun _ _ h=>h.elim)))))));rintro _ T ⟨rfl,hT⟩;refine Aq Az 1 [] O (A2 O (fun c=>?_) (fun c=>?_))
  ·(try simp only[sd,se] at c);refine Au Az 1 [] O (A4 (⟨O,_,_,⟨_,_,O,O,O⟩,(Fu [1,2,3] [_,_,_,_] O),?_⟩));rw[R1 c];rw[c] at hT;exact⟨O,_,hT,O⟩
  (try simp only[sd,se] at c);rw[c] at hT;refine A5 (Au Az 1 [] O (As (As (Bj [1,3,4,5,8] 24 (fun y=>y= .p (.bool ((decide ((tk:Int)≥(0:Int)))&&(decide ((tk:Int)<(13:Int)))))) ?_ ?_))))
  ·refine Ax (A0 Az 4 [0] O (BS 20 O (fun g=>?_) (fun g=>?_)))
   ·(try simp only[sd,se] at g);exact Aq Az 4 [0] O (⟨O,O,AK,AH,⟨O,O,O,O,O,Ap⟩⟩)
   (try simp only[sd,se] at g);exact Aq Az 4 [] O (⟨O,O,AK,AH,⟨O,O,O,O,O,Ap⟩⟩)
  rintro _ rfl;refine A2 O (fun c1=>?_) (fun c1=>?_)
  ·(try simp only[sd,se] at c1);refine Ax (A0 Az 2 [0] O (Ar O (Nj bq aj O O An An) (Ar O (A3 fQ O O) (Ar O (CJ (i:=2) Hd O O (Xv An)) (Aq Az 1 [] O (As (Ay (A0 Az 2 [0] O (Ar O (BH BY O (BD _)) (Aq Az 1 [] O (BA ?_)))))))))));refine Bh (α:=Nat×σ×List A8) (fun(i,q,U)=>⟨50,mk [(1,.p (I d)),(4,.ptr b4 0),(8,.p (I (Hl tk))),(31,.p (.lst (Av ts))),(32,.p (I (ts.length:Nat))),(33,.p (I (i:Int)))],(.box b2 [.fn (.yield l) [] []]:: .box b3 Lr:: .box b4 [.fn (.func 144) [] [.ptr b2 0,.ptr b3 0,.ptr b4 0]]::U),[]⟩) (fun(i,q,U)=>ts.length - i) (fun(i,q,U)=>i≤ts.length∧(De st tk d i q (ts.drop i)=De st tk d 0 (st s d (.mk tk ti tn tl ts)).1 ts∧Inv (m+Bb (ts.drop i)) q∧HP true q U)) ⟨0,(st s d (.mk tk ti tn tl ts)).1,T⟩ (⟨by omega,by simp,by simpa using hI _ _ _ _ (by rw[Nat.add_assoc,Nat.add_comm (Bb ts)];exact h5),by assumption⟩) ?_ ?_
   ·exact BZ ⟨we O,we O,we O,we O,we O,we O,Ap⟩ (YT [1,2,3] [_,_,_,_] (l':=[_,_,_]) O (wl (oe O) (wl (oe O) (wl (oe O) (DF)))))
   rintro⟨i,q,U⟩ hC
   try simp only at hC
   obtain⟨hi,hC,hJ,hK⟩:=hC;refine Au Az 1 [] O (As (A2 O (fun c2=>?_) (fun c2=>?_)))
   ·(try simp only[sd,se] at c2);refine A5 (As (BA (Ay (CA O ?_))));obtain⟨x,hx⟩:=A9 (l:=ts) (i:=i) An;refine Ar O (BC BY O O An (B0 hx) (BF _)) (Ar O (Bg Bx O (BF _)) (BE O (A7 Bq O) fun b10=>Aq Az 2 [0,1] O (Au Az 2 [] O (As (Au Az 3 [] O (A2 O (fun c3=>?_) (fun c3=>?_)))))))
    ·(try simp only[sd,se] at c3);refine Ax (Aq Az 3 [] O (BU (Ga (t:=11) (x:= .p (I (d+below tk i))) (pI (by have:=SI (k:=tk) (i:=i) An An;omega))) (Ay (A0 Az 3 [3,0] O (Eo [_] O O O (.inr O) (ih x (d+below tk i) q _ (m+Bb (ts.drop (i+1))) (by have:=B5 hx;omega) (Cq h2.2.2.2.2.1 hx) (by have:=Cd tk i;omega) (by have:=Cd tk i;omega) (by rw[Cm hx,Bb] at hJ;rw[Nat.add_assoc,Nat.add_comm (Bb _)];exact hJ) hK) (aw (we O) (aw (we O) (aw (we O) (aw (we O) (aw (we O) (FE)))))) ?_ (fun _ _ h=>h.elim))))));rintro _ _ ⟨rfl,T1,hT1,rfl⟩;refine Aq Az 1 [] O (A2 O (fun c4=>?_) (fun c4=>?_))
     ·(try simp only[sd,se] at c4);refine Au Az 1 [] O (A4 (⟨O,_,_,⟨_,_,O,O,O⟩,(Fu [1,2,3] [_,_,_,_] O),?_⟩));rw[GD Aj,←hC,G5 hx c4];rw[c4] at hT1;exact⟨O,_,hT1,O⟩
     (try simp only[sd,se] at c4);rw[c4] at hT1;refine A5 (Ax (Aq Az 2 [] O ?_));refine⟨⟨i+1,(Dd st x (d+below tk i) q).1,T1⟩,AQ,⟨by omega,⟨by rw[←hC];exact(IQ hx Aj).symm,by rw[Cm hx,Bb] at hJ;exact HO hI x _ _ _ (by rw[Nat.add_assoc,Nat.add_comm (Bb _)];exact hJ) Aj,by assumption⟩⟩,BZ ⟨we rfl,we rfl,we rfl,we rfl,we rfl,we rfl,trivial⟩ (YT [1,2,3] [_,_,_,_] (l':=[_,_,_]) rfl (wl (oe rfl) (wl (oe rfl) (wl (oe rfl) (DF)))))⟩
    (try simp only[sd,se] at c3);refine A5 (BU (Ga (t:=11) (x:= .p (I (d+below tk i))) (pI (by have:=O6 (k:=tk) (i:=i) An;omega))) (Ay (A0 Az 3 [3,0] O (Eo [_] O O O (.inr O) (ih x (d+below tk i) q _ (m+Bb (ts.drop (i+1))) (by have:=B5 hx;omega) (Cq h2.2.2.2.2.1 hx) (by have:=Cd tk i;omega) (by have:=Cd tk i;omega) (by rw[Cm hx,Bb] at hJ;rw[Nat.add_assoc,Nat.add_comm (Bb _)];exact hJ) hK) (aw (we O) (aw (we O) (aw (we O) (aw (we O) (aw (we O) (FE)))))) ?_ (fun _ _ h=>h.elim)))));rintro _ _ ⟨rfl,T1,hT1,rfl⟩;refine Aq Az 1 [] O (A2 O (fun c4=>?_) (fun c4=>?_))
    ·(try simp only[sd,se] at c4);refine Au Az 1 [] O (A4 (⟨O,_,_,⟨_,_,O,O,O⟩,(Fu [1,2,3] [_,_,_,_] O),?_⟩));rw[GD Aj,←hC,G5 hx c4];rw[c4] at hT1;exact⟨O,_,hT1,O⟩
    (try simp only[sd,se] at c4);rw[c4] at hT1;refine A5 (Ax (Aq Az 2 [] O ?_));refine⟨⟨i+1,(Dd st x (d+below tk i) q).1,T1⟩,AQ,⟨by omega,⟨by rw[←hC];exact(IQ hx Aj).symm,by rw[Cm hx,Bb] at hJ;exact HO hI x _ _ _ (by rw[Nat.add_assoc,Nat.add_comm (Bb _)];exact hJ) Aj,by assumption⟩⟩,BZ ⟨we rfl,we rfl,we rfl,we rfl,we rfl,we rfl,trivial⟩ (YT [1,2,3] [_,_,_,_] (l':=[_,_,_]) rfl (wl (oe rfl) (wl (oe rfl) (wl (oe rfl) (DF)))))⟩
   (try simp only[sd,se] at c2);refine Bk (Au Az 1 [] O (A4 (⟨O,_,_,⟨_,_,O,O,O⟩,(Fu [0,1,2] [_,_,_] O),?_⟩)));rw[GD Aj,←hC,show i=ts.length by omega,List.drop_length];exact⟨O,_,hK,O⟩
  (try simp only[sd,se] at c1);have hbx:=Rf (k:=tk) An;refine A5 (As (Ay (A0 Az 2 [0] O (Ar O (BH BY O (BD _)) (Aq Az 1 [] O (BA ?_))))));refine Bh (α:=Nat×σ×List A8) (fun(i,q,U)=>⟨50,mk [(1,.p (I d)),(4,.ptr b4 0),(8,.p (I (-1))),(31,.p (.lst (Av ts))),(32,.p (I (ts.length:Nat))),(33,.p (I (i:Int)))],(.box b2 [.fn (.yield l) [] []]:: .box b3 Lr:: .box b4 [.fn (.func 144) [] [.ptr b2 0,.ptr b3 0,.ptr b4 0]]::U),[]⟩) (fun(i,q,U)=>ts.length - i) (fun(i,q,U)=>i≤ts.length∧(De st tk d i q (ts.drop i)=De st tk d 0 (st s d (.mk tk ti tn tl ts)).1 ts∧Inv (m+Bb (ts.drop i)) q∧HP true q U)) ⟨0,(st s d (.mk tk ti tn tl ts)).1,T⟩ (⟨by omega,by simp,by simpa using hI _ _ _ _ (by rw[Nat.add_assoc,Nat.add_comm (Bb ts)];exact h5),by assumption⟩) ?_ ?_
  ·exact BZ ⟨we O,we O,we O,we O,we O,we O,Ap⟩ (YT [1,2,3] [_,_,_,_] (l':=[_,_,_]) O (wl (oe O) (wl (oe O) (wl (oe O) (DF)))))
  rintro⟨i,q,U⟩ hC
  try simp only at hC
  obtain⟨hi,hC,hJ,hK⟩:=hC;refine Au Az 1 [] O (As (A2 O (fun c2=>?_) (fun c2=>?_)))
  ·(try simp only[sd,se] at c2);refine A5 (As (BA (Ay (CA O ?_))));obtain⟨x,hx⟩:=A9 (l:=ts) (i:=i) An;refine Ar O (BC BY O O An (B0 hx) (BF _)) (Ar O (Bg Bx O (BF _)) (BE O (A7 Bq O) fun b10=>Aq Az 2 [0,1] O (Au Az 2 [] O (As (Au Az 3 [] O (A2 O (fun c3=>?_) (fun c3=>?_)))))))
   ·(try simp only[sd,se] at c3);refine Ax (Aq Az 3 [] O (BU (Ga (t:=11) (x:= .p (I (d+below tk i))) (pI (by have:=SI (k:=tk) (i:=i) An An;omega))) (Ay (A0 Az 3 [3,0] O (Eo [_] O O O (.inr O) (ih x (d+below tk i) q _ (m+Bb (ts.drop (i+1))) (by have:=B5 hx;omega) (Cq h2.2.2.2.2.1 hx) (by have:=Cd tk i;omega) (by have:=Cd tk i;omega) (by rw[Cm hx,Bb] at hJ;rw[Nat.add_assoc,Nat.add_comm (Bb _)];exact hJ) hK) (aw (we O) (aw (we O) (aw (we O) (aw (we O) (aw (we O) (FE)))))) ?_ (fun _ _ h=>h.elim))))));rintro _ _ ⟨rfl,T1,hT1,rfl⟩;refine Aq Az 1 [] O (A2 O (fun c4=>?_) (fun c4=>?_))
    ·(try simp only[sd,se] at c4);refine Au Az 1 [] O (A4 (⟨O,_,_,⟨_,_,O,O,O⟩,(Fu [1,2,3] [_,_,_,_] O),?_⟩));rw[GD Aj,←hC,G5 hx c4];rw[c4] at hT1;exact⟨O,_,hT1,O⟩
    (try simp only[sd,se] at c4);rw[c4] at hT1;refine A5 (Ax (Aq Az 2 [] O ?_));refine⟨⟨i+1,(Dd st x (d+below tk i) q).1,T1⟩,AQ,⟨by omega,⟨by rw[←hC];exact(IQ hx Aj).symm,by rw[Cm hx,Bb] at hJ;exact HO hI x _ _ _ (by rw[Nat.add_assoc,Nat.add_comm (Bb _)];exact hJ) Aj,by assumption⟩⟩,BZ ⟨we rfl,we rfl,we rfl,we rfl,we rfl,we rfl,trivial⟩ (YT [1,2,3] [_,_,_,_] (l':=[_,_,_]) rfl (wl (oe rfl) (wl (oe rfl) (wl (oe rfl) (DF)))))⟩
   (try simp only[sd,se] at c3);refine A5 (BU (Ga (t:=11) (x:= .p (I (d+below tk i))) (pI (by have:=O6 (k:=tk) (i:=i) An;omega))) (Ay (A0 Az 3 [3,0] O (Eo [_] O O O (.inr O) (ih x (d+below tk i) q _ (m+Bb (ts.drop (i+1))) (by have:=B5 hx;omega) (Cq h2.2.2.2.2.1 hx) (by have:=Cd tk i;omega) (by have:=Cd tk i;omega) (by rw[Cm hx,Bb] at hJ;rw[Nat.add_assoc,Nat.add_comm (Bb _)];exact hJ) hK) (aw (we O) (aw (we O) (aw (we O) (aw (we O) (aw (we O) (FE)))))) ?_ (fun _ _ h=>h.elim)))));rintro _ _ ⟨rfl,T1,hT1,rfl⟩;refine Aq Az 1 [] O (A2 O (fun c4=>?_) (fun c4=>?_))
   ·(try simp only[sd,se] at c4);refine Au Az 1 [] O (A4 (⟨O,_,_,⟨_,_,O,O,O⟩,(Fu [1,2,3] [_,_,_,_] O),?_⟩));rw[GD Aj,←hC,G5 hx c4];rw[c4] at hT1;exact⟨O,_,hT1,O⟩
   (try simp only[sd,se] at c4);rw[c4] at hT1;refine A5 (Ax (Aq Az 2 [] O ?_));refine⟨⟨i+1,(Dd st x (d+below tk i) q).1,T1⟩,AQ,⟨by omega,⟨by rw[←hC];exact(IQ hx Aj).symm,by rw[Cm hx,Bb] at hJ;exact HO hI x _ _ _ (by rw[Nat.add_assoc,Nat.add_comm (Bb _)];exact hJ) Aj,by assumption⟩⟩,BZ ⟨we rfl,we rfl,we rfl,we rfl,we rfl,we rfl,trivial⟩ (YT [1,2,3] [_,_,_,_] (l':=[_,_,_]) rfl (wl (oe rfl) (wl (oe rfl) (wl (oe rfl) (DF)))))⟩
  (try simp only[sd,se] at c2);refine Bk (Au Az 1 [] O (A4 (⟨O,_,_,⟨_,_,O,O,O⟩,(Fu [0,1,2] [_,_,_] O),?_⟩)));rw[GD Aj,←hC,show i=ts.length by omega,List.drop_length];exact⟨O,_,hK,O⟩
theorem dI:D3 Tryz.prog 143 [] (.agg Lr):=by
 refine A1 Tryz.func143 O fk (n:=15) O O (Ay (BE O (A7 Wn O) fun b0=>Bo O (Ay (A0 Az 13 [] O (Ar O (NM bq aj Wn O) (Aq Az 1 [0,0] O (A4 (⟨O,_,_,⟨_,_,O,(BO (i:=0) gS O O O),O⟩,(List.nil_sublist _),?_⟩))))))))
 all_goals exact⟨rfl,rfl⟩
theorem Xp:∀(t:Tm),Br Tryz.prog 118 [.agg ((Bc t).map .p)] [] (fun r H'=>∃b,r= .val (.fn (.func 142) [] [.ptr b 0])∧H'=[.box b ((Bc t).map .p)]):=by
 intro t;refine A1 Tryz.func118 O gP (n:=4) O O (Ay (BE O (BT O) fun b1=>Aq Az 1 [] O (Au Az 2 [] O (A4 (⟨O,_,_,⟨_,_,O,O,O⟩,(Dn (is:=[0]) O),?_⟩)))));exact⟨_,O,O⟩
theorem W5:∀{σ:Type}(st:σ→Int→Tm→σ×Bool) (Inv:Nat→σ→Prop) (HP:Bool→σ→List A8→Prop) (l b1:Nat) (hI:∀m s d t,Inv (m+1) s→Inv m (st s d t).1) (hy:∀m s d t T,Nd t→Inv (m+1) s→HP true s T→JK Tryz.prog l [.p (I d),TV t] T (Se (.p (.bool (st s d t).2)) (HP (st s d t).2 (st s d t).1))) (t:Tm) (s:σ) (T0:List A8) (m:Nat),Nd t→size t<4611686018427387904→Inv (m+size t) s→HP true s T0→Br Tryz.prog 142 [.fn (.yield l) [] [],.ptr b1 0] (.box b1 ((Bc t).map .p)::T0) (Se (.tup []) (fun H=>∃T,HP (Dd st t 0 s).2 (Dd st t 0 s).1 T∧H= .box b1 ((Bc t).map .p)::T)):=by
 intro σ st Inv HP l b1 hI hy t s T0 m h1 h2 h3 h4;refine A1 Tryz.func142 O gp (n:=10) O O (Ay (BE O (BT O) fun b2=>Bo O (Ay (Ar O (BB O O (dI ) O) (BE O (A7 Wn O) fun b3=>Aq Az 1 [0,0] O (Ay (BE O (A7 iX O) fun b4=>Bo O (Au Az 2 [0,0] O (Ax (A0 Az 2 [0,3] O (JP ((List.reverse_perm [_,_,_,_]).symm.append_right _) (Eo [_] O O O (.inr O) (Ye st Inv HP l b2 b3 b4 hI hy _ t 0 s T0 m (Nat.le_refl _) h1 An An h3 h4) (aw (we O) (aw (we O) (aw (we O) (aw (we O) (aw (we O) (FE)))))) ?_ (fun _ _ h=>h.elim)))))))))))));rintro _ _ ⟨rfl,T,hT,rfl⟩;refine Bo O ⟨O,_,_,O,(Fu [0] [_,_,_,_] O),?_⟩;exact⟨O,_,hT,O⟩
theorem Y1:∀(t:Tm),(Nd t)→(size t<1152921504606846976)→D3 Tryz.prog 78 [.agg ((Bc t).map .p)] (.p (I (size t:Nat))):=by
 intro t h1 h2;refine HW Tryz.func78 O jG (n:=11) O O (Ay (BE O (BT O) fun b1=>Aq Az 1 [] O (Ay (BE O (A7 XC O) fun b3=>Aq Az 1 [0,0] O (As (Ay (Ar O (BR (i:=1) Bx O O Ad) ?_)))))));refine Np [] O O O (.inl ⟨O,O,O⟩) (Xp t) O Ao (aw (we O) FE) ?_ (fun _ _ ⟨_,h,_⟩=>by cases h);rintro _ _ ⟨bn,h,rfl⟩;cases h;refine Bo O (BA (M3 (.inr O) fun dd l L hL=>⟨_,_,C8 (is:=[2,0,3]) Am ⟨_,_,O,O,⟨_,_,O,O,⟨_,_,O,O,O⟩⟩⟩,?_⟩));have hy:∀(m:Nat) (s:Int) (d:Int) (t:Tm) (T:List A8),Nd t→(fun _ _=>True) (m+1) s→(fun(_:Bool) (s:Int) (T:List A8)=>T=[.loop l L,.box b3 [.p (I s)]]) true s T→JK Tryz.prog l [.p (I d),TV t] T (Se (.p (.bool (Tb s d t).2)) ((fun(_:Bool) (s:Int) (T:List A8)=>T=[.loop l L,.box b3 [.p (I s)]]) (Tb s d t).2 (Tb s d t).1)):=by
  rintro m s d tt T hnd hinv rfl;subst hL;refine Pa (i:=0) O O O O (A5 ⟨O,0,O,?_⟩);refine BA (Ax (Ar O (CJ (i:=1) Hd O O O) (Ar O (GZ O O) (Aq Az 1 [1,0] O ⟨0,_,O,Dn (is:=[0,1]) O,?_⟩))));exact⟨O,O⟩
 refine(W5 Tb (fun _ _=>True) (fun(_:Bool) (s:Int) (T:List A8)=>T=[.loop l L,.box b3 [.p (I s)]]) l bn (fun _ _ _ _ _=>Ap) hy t 0 _ 0 (h1) An (Ap) O).mono ?_;rintro(v | v) H' hR
 rotate_left
 ·exact hR.elim
 obtain⟨rfl,_,rfl,rfl⟩:=hR;subst hL;refine⟨1,_,O,Ao,?_⟩;refine Au Az 2 [1] O (A4 (⟨2,O,_,_,⟨_,_,O,O,O⟩,(List.nil_sublist _),?_⟩))
 all_goals exact⟨pI (by rw[SC 4611686018427387904 (Int.le_refl _) t 0 0 An An];simp),rfl⟩
theorem Wj:∀(n:Nat) (t:Tm),(size t≤n)→(Nd t)→D3 Tryz.prog 79 [.agg ((Bc t).map .p)] (.p (I (Dq t))):=by
 intro n
 induction n with
 | zero=>intro t h;cases t;simp[size] at h
 | succ n ih =>
  intro t h1 h2;obtain⟨tk,ti,tn,tl,ts⟩:=t;simp only[size] at h1;simp only[Nd,Cb] at h2;refine A1 Tryz.func79 O jj (n:=20) O O (Ay (BE O (BT O) fun b1=>Aq Az 1 [] O (Au Az 1 [] O (As (Ay (A0 Az 2 [0] O (Ar O (BH BY O (BD _)) (Aq Az 1 [] O (BA (Bh (α:=Nat×Int) (fun(i,m)=>⟨20,mk [(3,.p (I m)),(7,.p (.lst (Av ts))),(8,.p (I (ts.length:Nat))),(9,.p (I (i:Int)))],[],[]⟩) (fun(i,m)=>ts.length - i) (fun(i,m)=>i≤ts.length∧(Hh m (ts.drop i)=Hh 0 ts)) ⟨0,0⟩ Ao ?_ ?_))))))))))
  ·exact BZ ⟨we O,we O,we O,we O,Ap⟩ (leH (is:=[]) O (DF))
  rintro⟨i,m⟩ hC
  try simp only at hC
  obtain⟨hi,hC⟩:=hC;refine Au Az 1 [] O (As (A2 O (fun c=>?_) (fun c=>?_)))
  ·(try simp only[sd,se] at c);refine A5 (As (BA (Ay ?_)));obtain⟨x,hx⟩:=A9 (l:=ts) (i:=i) An;refine Ar O (BC BY O O An (B0 hx) (BF _)) (Ar O (Bg Bx O (BF _)) (BE O (A7 Bq O) fun b5=>Aq Az 1 [0,1] O (Ax (A0 Az 2 [0] O (Ar O (BB O O (ih x (by have:=B5 hx;omega) (Cq h2.2.2.2.2.1 hx)) O) (Ar O (QP O O) (Aq Az 1 [] O (Ax (Aq Az 2 [] O ?_)))))))));refine⟨⟨i+1,max m (Dq x)⟩,AQ,⟨by omega,by rw[←hC,Cm hx];rfl⟩,BZ ⟨we rfl,we rfl,we rfl,we rfl,trivial⟩ (leH (is:=[]) rfl (DF))⟩
  (try simp only[sd,se] at c);refine Bk (Ay (CA O (Ar O (GZ O O) (Aq Az 1 [] O (A4 (⟨O,_,_,⟨_,_,O,O,O⟩,(List.nil_sublist _),?_⟩))))))
  all_goals exact⟨pI (by rw[show Dq (.mk tk ti tn tl ts)=wr (Hh 0 ts+1) from rfl,←hC,show i=ts.length by omega,List.drop_length];rfl),rfl⟩
theorem Dz:∀(f:Tm) (xs:List Tm),(xs.length<Cb)→D3 Tryz.prog 74 [.agg ((Bc f).map .p),.p (.lst (Av xs))] (.agg ((Bc (apply f xs)).map .p)):=by
 intro f xs h1;simp only[Cb] at h1;refine A1 Tryz.func74 O jn (n:=19) O O (Ay (BE O (BT O) fun b2=>BE O (A7 Bq O) fun b4=>Bo O (As (Ay (CA O (Ar O (BH BY O (BD _)) (Aq Az 1 [] O (BA (Bh (α:=Nat) (fun i=>⟨19,mk [(2,.ptr b2 0),(4,.ptr b4 0),(7,.p (.lst (Av xs))),(8,.p (I (xs.length:Nat))),(9,.p (I (i:Int)))],[.box b4 [.p (I 0),.p (I 0),.p (.str ⟨#[]⟩),.p (.nils),.p (.nils)],.box b2 ((Bc (apply f (xs.take i))).map .p)],[]⟩) (fun i=>xs.length - i) (fun i=>i≤xs.length) 0 AO ?_ ?_)))))))))
 ·exact BZ ⟨we O,we O,we O,we O,we O,Ap⟩ (leH (is:=[0,1]) O (wl (oe O) (wl (oe O) (DF))))
 rintro i hC
 try simp only at hC
 have hi:=hC;refine Au Az 1 [] O (As (A2 O (fun c=>?_) (fun c=>?_)))
 ·(try simp only[sd,se] at c);refine A5 (As (BA (Ay ?_)));obtain⟨x,hx⟩:=A9 (l:=xs) (i:=i) An;refine Ar O (BC BY O O An (B0 hx) (BF _)) (Ar O (Bg Bx O (BF _)) (BE O (A7 Bq O) fun b6=>Aq Az 1 [0,1] O (Ax (A0 Az 2 [2,0] O ?_))));generalize hz:(apply f (xs.take i))=z;obtain⟨zk,zi,zn,zl,zs⟩:=z;obtain⟨xk,xi,xn,xl,xs1⟩:=x;refine Ar O (Bz BY Bq O O O O O) (Aq Az 2 [2,0] O (Ax (Aq Az 2 [] O ?_)));refine⟨(i+1),AQ,by omega,BZ ⟨we rfl,we rfl,we rfl,we rfl,we rfl,trivial⟩ (leH (is:=[1,2]) rfl (wl (oe rfl) (wl (on (by rw[OC hx,hz];rfl)) (DF))))⟩
 (try simp only[sd,se] at c);refine Bk (Au Az 2 [1,0,1] O (A4 (⟨O,_,_,⟨_,_,O,(BO (i:=0) Bx O O Ad),O⟩,(List.nil_sublist _),?_⟩)))
 all_goals exact⟨by show (.agg ((Bc (apply f (xs.take i))).map .p):AV)=_;rw[show i=xs.length by omega,List.take_length],rfl⟩
theorem _root_.Go.AT {α:Prop}(h:α:=by simp only[BD];omega):α:=h
theorem _root_.Go.AU {α:Prop}(h:α:=by simp[BD];omega):α:=h
theorem dm:∀(xs:List Tm) (o0:Option Nat) (c0:Nat),(xs.length<Cb)→Br Tryz.prog 182 [.vs o0 (Av xs).length c0] [.vec o0 5 (Av xs) c0] (FV (.tup []) [.vec o0 5 (Av xs.reverse) c0]):=by
 intro xs o0 c0 h1;simp only[Cb] at h1;refine A1 Tryz.func182 O iR (n:=28) O O (Ay (CA O (Ar O (EP BY O (BD _)) (Aq Az 3 [] O (BA (Bh (α:=Nat×List Tm×Option Nat×Nat) (fun(i,ys,o,cp)=>⟨28,mk [(0,.vs o (Av ys).length cp),(2,.p (I (i:Int))),(3,.p (I ((xs.length:Int) - 1 - (i:Int))))],[.vec o 5 (Av ys) cp],[]⟩) (fun(i,ys,o,cp)=>xs.length - i) (fun(i,ys,o,cp)=>i≤xs.length∧Sh xs ys i∧o=o0∧cp=c0) ⟨0,xs,o0,c0⟩ (⟨by omega,Sx xs,rfl,rfl⟩) ?_ ?_))))))
 ·exact BZ ⟨we O,we O,we (pI An),Ap⟩ (leH (is:=[0]) O (wl (oe O) (DF)))
 rintro⟨i,ys,o,cp⟩ hC
 try simp only at hC
 obtain⟨hi,hR,ho,hcp⟩:=hC;have hyl:=hR.1;have hjn:((xs.length:Int) - 1 - (i:Int)).toNat=xs.length - 1 - i:=by omega
 refine As (Au Az 3 [] O (A2 O (fun c=>?_) (fun c=>?_)))
 ·(try simp only[sd,se] at c);refine A5 (As (BA (SL (i:=0) O AU fun b hb=>?_)));subst hb;refine CK (fun k=>false) Eb (Bf Az 6 [] O (BG O (fun _=>Cv BY O O An AT) Ap ?_));obtain⟨y,hy⟩:=A9 (l:=ys) (i:=((xs.length:Int) - 1 - (i:Int):Int).toNat) An;refine Cj (j:=0) O O O (fun H i hi=>LN (i:=i) Bx O hi (B0 hy)) AB Ap (Bf Az 2 [] O (BG O (fun _=>Cv BY O O An AT) Ap ?_));obtain⟨y1,hy1⟩:=A9 (l:=ys) (i:=i) An;refine Cj (j:=0) O O O (fun H i hi=>LN (i:=i) Bx O hi (B0 hy1)) AB Ap (BG O (fun _=>Cv BY O O An AT) Ap (Jc O O (CO (i:=0) (j:=i) Bx O O O (by simp only[BD,List.length_map,List.length_set];omega) O (EE _) (BF _) (FU _) (Hq ys i y)) AB Ap (BG O (fun _=>Cv BY O O An AT) Ap (Jc O O (CO (i:=0) (j:=(((xs.length:Int) - 1 - (i:Int):Int).toNat)) Bx O O O (by simp only[BD,List.length_map,List.length_set];omega) O (EE _) (BF _) (FU _) (Hq ((ys).set i y) (((xs.length:Int) - 1 - (i:Int):Int).toNat) y1)) AB Ap (KZ O Ai (Ax (Aq Az 6 [] O ?_)))))));refine⟨⟨i+1,(ys.set i y).set (xs.length - 1 - i) y1,(some b),cp⟩,AQ,⟨by omega,S0 hR An hy1 (hjn▸hy),ho,hcp⟩,BZ ⟨we (HC ys Ao),we rfl,we (pI An),trivial⟩ (leH (is:=[0]) rfl (wl (C5 (((ys).set i y).set (((xs.length:Int) - 1 - (i:Int):Int).toNat) y1) (by rw[hjn])) (DF)))⟩
 (try simp only[sd,se] at c);refine Bk ⟨O,_,_,O,(Dn (is:=[0]) O),?_⟩;refine⟨O,?_⟩;show ([.vec o 5 (Av ys) cp]:List A8)=_;rw[TF hR An,ho,hcp]
theorem XP:∀(t:Tm),(Nd t)→(size t<Cb)→D3 Tryz.prog 151 [.agg ((Bc t).map .p)] (.tup [.agg ((Bc ((BI t).1)).map .p),.p (.lst (Av ((BI t).2)))]):=by
 intro t h1 h2;simp only[Cb] at h2;refine A1 Tryz.func151 O gk (n:=29) O O (Ay (BE O (BT O) fun b1=>BE O (A7 Bq O) fun b2=>Aq Az 1 [] O (Au Az 1 [] O (As (BA (BU (DZ (t:=4) (sz:=5) O) ?_))))));refine Bh (α:=Tm×List Tm×Option Nat×Nat) (fun(tt,ys,o,cp)=>⟨29,mk [(1,.ptr b1 0),(2,.ptr b2 0),(4,.vs o (Av ys).length cp)],[.vec o 5 (Av ys) cp,.box b2 [.p (I 0),.p (I 0),.p (.str ⟨#[]⟩),.p (.nils),.p (.nils)],.box b1 ((Bc tt).map .p)],[]⟩) (fun(tt,ys,o,cp)=>size tt) (fun(tt,ys,o,cp)=>BI t=((BI tt).1,(BI tt).2++ys.reverse)∧Nd tt∧size tt+ys.length≤size t) ⟨t,[],none,0⟩ (⟨by simp,h1,by simp⟩) ?_ ?_
 ·exact BZ ⟨we O,we O,we O,Ap⟩ (leH (is:=[0,1,2]) O (wl (oe O) (wl (oe O) (wl (oe O) (DF)))))
 rintro⟨tt,ys,o,cp⟩ hC
 try simp only at hC
 obtain⟨hS,hN,hL⟩:=hC;refine As (As ?_);obtain⟨ttk,tti,ttn,ttl,tts⟩:=tt;simp only[size] at hL;refine Bj [1,2,4] 13 (fun y=>y= .p (.bool (((ttk:Int)==(4:Int))&&(((tts.length:Nat):Int)==(2:Int))))) ?_ ?_
 ·refine Ax (A0 Az 4 [2] O (BS 8 O (fun g=>?_) (fun g=>?_)))
  ·(try simp only[sd,se] at g);exact A0 Az 2 [2] O (BK O (BH BY O (BD _)) (Aq Az 2 [] O (⟨O,O,AK,AH,⟨O,O,O,Ap⟩⟩)))
  (try simp only[sd,se] at g);exact Aq Az 5 [] O (⟨O,O,AK,AH,⟨O,O,O,Ap⟩⟩)
 rintro _ rfl;refine A2 O (fun c=>?_) (fun c=>?_)
 ·(try simp only[sd,se] at c);refine A5 (BA (Ay (A0 Az 3 [2] O ?_)));obtain⟨x,hx⟩:=A9 (l:=tts) (i:=1) An;refine Ar O (BC BY O O An (B0 hx) (BF _)) (Ar O (Bg Bx O (BF _)) ?_);obtain⟨xk,xi,xn,xl,xs⟩:=x;refine Ar O (Bz BY Bq O O O O O) (Dp O O (B3 (i:=0) (rows':=Av [(.mk xk xi xn xl xs:Tm)]) BY BY Bq O O O O O O (Bn _) AF (Fe ys [(.mk xk xi xn xl xs:Tm)])) fun o1 cp1=>Aq Az 1 [] O (Ax (A0 Az 2 [2] O ?_)));obtain⟨x1,hx1⟩:=A9 (l:=tts) (i:=0) An;refine Ar O (BC BY O O An (B0 hx1) (BF _)) (Aq Az 2 [2,1] O ?_);refine⟨⟨x1,ys++[.mk xk xi xn xl xs],o1,cp1⟩,(by have:=B5 hx1;simp only[size];omega),⟨by rw[hS,PH c hx1 hx];simp,Cq hN.2.2.2.2.1 hx1,by have:=B5 hx1;simp;omega⟩,BZ ⟨we rfl,we rfl,we rfl,trivial⟩ (leH (is:=[0,1,2]) rfl (wl (oe rfl) (wl (oe rfl) (wl (oe rfl) (DF)))))⟩
 (try simp only[sd,se] at c);refine Bk (Ay (CA O (Ar O (Cg [0] O (.inl ⟨O,O,O⟩) (dm ys o cp AW) ⟨_,_,O,O,O⟩ Am O (.inl O)) (Bo O (Au Az 4 [2,1,0] O (BU (Ga (t:=4) (x:= .vs o (Av ys.reverse).length cp) (HC ys (l':=ys.reverse) Ao)) (BU (Ga (t:=25) (x:= .vs o (Av ys.reverse).length cp) (HC ys (l':=ys.reverse) Ao)) (BU (Ga (t:=28) (x:= .vs o (Av ys.reverse).length cp) (HC ys (l':=ys.reverse) Ao)) (BU (Ga (t:=3) (x:= .vs o (Av ys.reverse).length cp) (HC ys (l':=ys.reverse) Ao)) (BU (CM (i:=0) [4,25,28,3] O (C6 ⟨O,O,O,O,Ap⟩)) (A4 (⟨O,_,_,⟨_,_,O,(BO (i:=0) Bx O O O),⟨_,_,O,O,O⟩⟩,(List.nil_sublist _),?_⟩))))))))))));rw[hS,OI (Classical.or_iff_not_imp_left.2 fun h=>by simp at h;exact fun e=>absurd (c h) (by simp[e]))]
 all_goals exact⟨rfl,rfl⟩
theorem UZ:∀(e:Int),Br Tryz.prog 176 [.p (I e)] [] (Qa (.p (.iface 245 (I e))) []):=by
 intro e;exact A1 Tryz.func176 O fe (n:=4) O O (Ax (CA O (Ar O (Of cJ (by intro ms h;cases h) O) (XO O O (Ve O) (⟨O,_,List.nil_sublist _,⟨O,O⟩⟩)))))
theorem U0:∀(e:Int),D3 Tryz.prog 157 [.p (.iface 245 (I e))] (.p (I e)):=by
 intro e;refine A1 Tryz.func157 O iV (n:=14) O O (Au Az 1 [] O (Ay (CA O (Ar O (S1 cJ O O) (Aq Az 5 [] O (As (Au Az 2 [] O ?_)))))));refine A2 O (fun c=>by cases c) (fun c=>?_);refine A5 (Au Az 2 [] O (A4 (⟨O,_,_,⟨_,_,O,O,O⟩,(List.nil_sublist _),?_⟩)))
 all_goals exact⟨rfl,rfl⟩
theorem Wu:∀(k i:Int),D3 Tryz.prog 187 [.p (I k),.p (I i)] (.p (I (below k i))):=by
 intro k i;refine A1 Tryz.func187 O gz (n:=26) O O (Au Az 1 [] O (As (BA (As (As (Bj [0,1] 5 (fun y=>y= .p (.bool (((i:Int)==(1:Int))&&((((k:Int)==(5:Int))||((k:Int)==(6:Int)))||((k:Int)==(7:Int)))))) ?_ ?_))))))
 ·refine Ax (A0 Az 3 [] O (BS 8 O (fun g=>?_) (fun g=>?_)))
  ·(try simp only[sd,se] at g);refine A0 Az 3 [] O (BS 11 O (fun g1=>?_) (fun g1=>?_))
   ·(try simp only[sd,se] at g1);exact Aq Az 9 [] O (⟨O,O,AK,AH,⟨O,O,Ap⟩⟩)
   (try simp only[sd,se] at g1);refine A0 Az 4 [] O (BS 15 O (fun g2=>?_) (fun g2=>?_))
   ·(try simp only[sd,se] at g2);exact Aq Az 5 [] O (⟨O,O,AK,AH,⟨O,O,Ap⟩⟩)
   (try simp only[sd,se] at g2);exact Aq Az 5 [] O (⟨O,O,AK,AH,⟨O,O,Ap⟩⟩)
  (try simp only[sd,se] at g);exact Aq Az 12 [] O (⟨O,O,AK,AH,⟨O,O,Ap⟩⟩)
 rintro _ rfl;refine A2 O (fun c=>?_) (fun c=>?_)
 ·(try simp only[sd,se] at c);refine A5 (A2 O (fun c1=>?_) (fun c1=>?_))
  ·(try simp only[sd,se] at c1);refine Au Az 1 [] O (A4 (⟨O,_,_,⟨_,_,O,O,O⟩,(List.nil_sublist _),?_⟩))
   all_goals exact⟨pI (by unfold below;simp_all),rfl⟩
  (try simp only[sd,se] at c1);refine A5 (Au Az 1 [] O (A4 (⟨O,_,_,⟨_,_,O,O,O⟩,(List.nil_sublist _),?_⟩)))
  all_goals exact⟨pI (by unfold below;simp_all),rfl⟩
 (try simp only[sd,se] at c);refine Bj [] 5 (fun y=>y= .p (.bool (((i:Int)==(2:Int))&&((k:Int)==(11:Int))))) ?_ ?_
 ·refine Ax (A0 Az 3 [] O (BS 22 O (fun g=>?_) (fun g=>?_)))
  ·(try simp only[sd,se] at g);exact Aq Az 4 [] O ⟨O,O,AK,AH,Ap⟩
  (try simp only[sd,se] at g);exact Aq Az 4 [] O ⟨O,O,AK,AH,Ap⟩
 rintro _ rfl;refine A2 O (fun c1=>?_) (fun c1=>?_)
 ·(try simp only[sd,se] at c1);refine Au Az 1 [] O (A4 (⟨O,_,_,⟨_,_,O,O,O⟩,(List.nil_sublist _),?_⟩))
  all_goals exact⟨pI (by unfold below;simp_all),rfl⟩
 (try simp only[sd,se] at c1);refine A5 (Au Az 1 [] O (A4 (⟨O,_,_,⟨_,_,O,O,O⟩,(List.nil_sublist _),?_⟩)))
 all_goals exact⟨pI (by unfold below;simp_all),rfl⟩
theorem X8:∀(i:Int),Br Tryz.prog 166 [.p (I i)] [] (Vu (fun(r:Tm)=>TV r) (fun e=> .p (.iface 245 (I e))) (fun r H'=>H'=[]) (FA i)):=by
 intro i;refine A1 Tryz.func166 O fA (n:=8) O O (Ay (BE O (A7 Bq O) fun b2=>Bo O (As (Au Az 2 [] O (A2 O (fun c=>?_) (fun c=>?_))))))
 ·(try simp only[sd,se] at c);refine Ax (RS O O O (.inl ⟨O,O,O⟩) (UZ 24) (aw (we O) (FE)) ?_);exact⟨O,_,List.nil_sublist _,⟨_,by unfold FA;rw[if_pos An],rfl⟩⟩
 (try simp only[sd,se] at c);refine A5 (Au Az 3 [0,0] O (BU (CB (i:=0) O) (A4 (⟨O,_,_,⟨_,_,O,(BO (i:=0) Bx O O O),O⟩,(List.nil_sublist _),?_⟩))));exact⟨(.mk 0 i ⟨#[]⟩ [] []:Tm),by unfold FA;rw[if_neg An];rfl,rfl,rfl⟩
theorem R4:∀(t:Tm),(Nd t)→D3 Tryz.prog 165 [.agg ((Bc t).map .p)] (.agg ((Bc (KP t)).map .p)):=by
 intro t h1;obtain⟨tk,ti,tn,tl,ts⟩:=t;simp only[Nd,Cb] at h1;refine A1 Tryz.func165 O gO (n:=33) O O (Ay (BE O (BT O) fun b1=>BE O (A7 Bq O) fun b2=>Bo O (Ay (A0 Az 7 [1,1,1] O (BE O (A7 Bq O) fun b3=>Aq Az 1 [0,0] O (As (Ay (B7 (Ew (i:=0) O (Mx (aw (we O) (aw (we O) (aw (we O) (aw (E3) (aw (we O) (FE)))))))) (B7 (EM (sz:=2)) (A0 Az 2 [3] O (Ar O (BH E1 O (List.length_map _)) (Aq Az 1 [] O (BA ?_)))))))))))));refine Bh (α:=Nat×Option Nat×Nat) (fun(i,o,cp)=>⟨33,mk [(2,.ptr b2 0),(3,.ptr b3 0),(14,.p (.lst (List.map B6 tl))),(15,.p (I (tl.length:Nat))),(16,.p (I (i:Int)))],[.vec o 2 (List.map B6 (tl.take i)) cp,.box b3 [.p (I tk),.p (I ti),.p (.str tn),.vs o (List.map B6 (tl.take i)).length cp,.p (.nils)],.box b2 [.p (I 0),.p (I 0),.p (.str ⟨#[]⟩),.p (.nils),.p (.nils)]],[]⟩) (fun(i,o,cp)=>tl.length - i) (fun(i,o,cp)=>i≤tl.length) ⟨0,none,0⟩ AO ?_ ?_
 ·exact BZ ⟨we O,we O,we O,we O,we O,Ap⟩ (leH (is:=[0,1,2]) O (wl (oe O) (wl (oe O) (wl (oe O) (DF)))))
 rintro⟨i,o,cp⟩ hC
 try simp only at hC
 have hi:=hC;refine Au Az 1 [] O (As (A2 O (fun c=>?_) (fun c=>?_)))
 ·(try simp only[sd,se] at c);refine A5 (As (BA (Ay ?_)));obtain⟨x,hx⟩:=A9 (l:=tl) (i:=i) An;refine Ar O (BC E1 O O An (IH hx) (Ep _)) (Ar O (Bg Qn O (Ep _)) (BE O (A7 G0 O) fun b5=>Aq Az 1 [0,0] O (CK (fun k=>Nat.beq k 9) Eb (Bf Az 6 [2,0,0] O (BG O (fun _=>Na (rows':=List.map FT x.vars) GY GY Qf O O (fun _ _ _ h=>T6 h) O (Ib _) (by have:=h1.2.2.1 x (List.mem_of_getElem? hx);have:=this.1;simp only[Cb] at this;simp only[List.length_map];omega)) Ap (BG O (fun _=>CC VC G0 O) Ap (BG O (fun _=>Bz E1 G0 O O O O O) Ap ?_)))))));refine Sm [] O O (B3 (i:=1) (rows':=List.map B6 [(CN.mk x.const x.vars)]) E1 E1 G0 O O O O O O (Fi _) (by simp only[List.length_map,List.length_take,List.length_cons,List.length_nil];omega) (HJ (f:=B6) (tl.take i) [(CN.mk x.const x.vars)])) Ai fun o1 cp1=>⟨AB,Ap,?_⟩;refine CE Az 2 [2,0] O (Ax (Aq Az 2 [] O ?_));refine⟨⟨i+1,o1,cp1⟩,AQ,by omega,BZ ⟨we rfl,we rfl,we rfl,we rfl,we rfl,trivial⟩ (leH (is:=[1,2,3]) rfl (wl (Eh (f:=B6) (tl.take i++[(CN.mk x.const x.vars)]) (by rw[List.take_add_one,hx];rfl)) (wl (Mx (aw (we rfl) (aw (we rfl) (aw (we rfl) (aw (we (FM (f:=B6) (tl.take i++[(CN.mk x.const x.vars)]) (by rw[List.take_add_one,hx];rfl))) (aw (we rfl) (FE))))))) (wl (oe rfl) (DF)))))⟩
 (try simp only[sd,se] at c);refine Bk (Ay (B7 (CR (i:=0) (j:=1) (q:=3) [] O O O (C6 Ap)) (Aq Az 2 [0,1,0] O (BU (CB (i:=1) O) (A4 (⟨O,_,_,⟨_,_,O,(BO (i:=1) Bx O O O),O⟩,(List.nil_sublist _),?_⟩))))))
 all_goals exact⟨by show (.agg [.p (I tk),.p (I ti),.p (.str tn),.p (.lst (List.map B6 (tl.take i))),.p (.lst [])]:AV)=_;rw[show i=tl.length by omega,List.take_length];rfl,rfl⟩
theorem _root_.Go.AJ {α:Prop}(h:α:=by simp only[BD,List.length_append,List.length_replicate,hB.1];omega):α:=h
theorem WR:∀{σ:Type}(vis:σ→Tm→Int→Except Int ((Tm×Bool)×σ)) (HP:σ→List A8→Prop) (fid:Nat) (caps:List AV) (hv:∀(s:σ) (t:Tm) (d:Int) (T:List A8),Nd t→Vp t→0≤d→d<Cb→HP s T→Br Tryz.prog fid ([TV t,.p (I d)]++caps) T (Vu (fun(r:(Tm×Bool)×σ)=> .tup [TV r.1.1,.p (.bool r.1.2)]) (fun e=> .p (.iface 245 (I e))) (fun r=>HP r.2) (vis s t d))) (n:Nat) (t:Tm) (d:Int) (s:σ) (T0:List A8),size t≤n→Nd t→Vp t→0≤d→d+size t<Cb→HP s T0→Br Tryz.prog 161 [.agg [.fn (.func fid) [] caps],TV t,.p (I d)] T0 (Vu (fun(r:Tm×σ)=>TV r.1) (fun e=> .p (.iface 245 (I e))) (fun r=>HP r.2) (C9 vis t d s)):=by
 intro σ vis HP fid caps hv n
 induction n with
 | zero=>intro t d s T0 h1;exact absurd h1 (by have:=size_pos t;omega)
 | succ n ih =>
  intro t d s T0 h1 h2 h3 h4 h5 h6;simp only[Cb] at h5;refine A1 Tryz.func161 O iT (n:=54) O O (Ay (BE O (BT O) fun b3=>BE O (BT O) fun b4=>BE O (A7 Bq O) fun b6=>Bo O (Ay (A0 Az 4 [2,1] O (cK [_,_,_] O O O (.inr O) (hv s t d T0 h2 h3 h4 (by simp only[Cb];have:=size_pos t;omega) h6) (CQ _) ?_ ?_)))))
  rotate_left
  ·intro e _ he;exact⟨O,_,List.nil_sublist _,⟨_,GQ he,O⟩⟩
  rintro⟨⟨z,dn⟩,q⟩ T hz hT;refine A0 Az 3 [] O (BE O (A7 Bq O) fun b7=>Aq Az 2 [0,1] O (As (Au Az 1 [] O (A2 O (fun c=>?_) (fun c=>?_)))))
  ·(try simp only[sd,se] at c);refine Au Az 2 [0,1,1] O (A4 (⟨O,_,_,⟨_,_,O,(BO (i:=1) Bx O O Ad),O⟩,(Fu [] [_,_,_,_] O),?_⟩));exact⟨⟨z,q⟩,Dy (by rw[hz,c]),O,hT⟩
  (try simp only[sd,se] at c);refine A5 (Ay (Ar O (A3 KO O O) ?_));obtain⟨zk,zi,zn,zl,zs⟩:=z;refine Aq Az 1 [0,0] O (As (Ay (Ar O (A3 KO O O) ?_)));obtain⟨tk,ti,tn,tl,ts⟩:=t;simp only[size] at h1 h5;have hn2:=h2;simp only[Nd,Cb] at hn2;refine Ar O (CJ (i:=2) DD O O O) (Ar O (BH BY O (BD _)) (Aq Az 1 [] O (A2 O (fun c1=>?_) (fun c1=>?_))))
  ·(try simp only[sd,se] at c1);refine Ay (A0 Az 2 [2] O (Ar O (BH BY O (BD _)) (JG O O (EA BY Bq O O Am O O O An An An (Ur (((ts.length:Nat):Int).toNat) (.mk 0 0 ⟨#[]⟩ [] []:Tm))) fun b29 cp=>Aq Az 2 [1,0] O (Ay (A0 Az 2 [3] O (Ar O (BH BY O (BD _)) (Aq Az 1 [] O (BA ?_))))))));refine Bh (α:=Nat×List Tm×σ×List A8×Option Nat×Nat) (fun(i,ys,q1,U,o,cp1)=>⟨54,mk [(2,.p (I d)),(3,.ptr b3 0),(4,.ptr b4 0),(6,.ptr b6 0),(7,.ptr b7 0),(32,.p (.lst (Av ts))),(33,.p (I (ts.length:Nat))),(34,.p (I (i:Int)))],(.vec o 5 (Av (ys++List.replicate (ts.length - i) Bi)) cp1:: .box b7 [.p (I zk),.p (I zi),.p (.str zn),.p (.lst (List.map B6 zl)),.vs o (Av (ys++List.replicate (ts.length - i) Bi)).length cp1]:: .box b6 [.p (I 0),.p (I 0),.p (.str ⟨#[]⟩),.p (.nils),.p (.nils)]:: .box b4 [.p (I tk),.p (I ti),.p (.str tn),.p (.lst (List.map B6 tl)),.p (.lst (Av ts))]:: .box b3 [.fn (.func fid) [] caps]::U),[]⟩) (fun(i,ys,q1,U,o,cp1)=>ts.length - i) (fun(i,ys,q1,U,o,cp1)=>i≤ts.length∧(NW vis tk ts d q i ys q1∧HP q1 U)) ⟨0,[],q,T,(some b29),cp⟩ (⟨by omega,NW.zero _ _ _ _,hT⟩) ?_ ?_
   ·exact BZ ⟨we O,we O,we O,we O,we O,we O,we O,we O,Ap⟩ (YT [0,1,2,3,4] [_,_,_,_,_] (l':=[_,_,_,_,_]) O (wl (oe O) (wl (oe O) (wl (oe O) (wl (oe O) (wl (oe O) (DF)))))))
   rintro⟨i,ys,q1,U,o,cp1⟩ hC
   try simp only at hC
   obtain⟨hi,hB,hU⟩:=hC;have hbl:=Cd tk i;refine Au Az 1 [] O (As (A2 O (fun c2=>?_) (fun c2=>?_)))
   ·(try simp only[sd,se] at c2);refine A5 (As (BA (Ay (CA O ?_))));obtain⟨x,hx⟩:=A9 (l:=ts) (i:=i) An;refine Ar O (BC BY O O An (B0 hx) (BF _)) (Ar O (Bg Bx O (BF _)) (BE O (A7 Bq O) fun b10=>Aq Az 2 [0,1] O (SL (i:=1) O AU fun b hb=>?_)));subst hb;refine CK (fun k=>Nat.beq k 11) Eb (Bf Az 9 [2,5,0,4] O (BG O (fun _=>BB O O (Wu tk (i:Int)) O) Ap (Bf Az 1 [] O (iW [_,_,_,_,_,_] O O O (.inl ⟨O,O,O⟩) (ih x (d+below tk i) q1 U (by have:=B5 hx;omega) (Cq h2.2.2.2.2.1 hx) (LF h3.2 hx) (by have:=(Cd tk i).1;omega) (by have:=B5 hx;have:=Cd tk i;simp only[Cb];omega) hU) (CQ _) Ai Ai O AB ?_ ?_))))
    rotate_left
    ·intro e he _ _ hτ;exact⟨O,_,List.nil_sublist _,⟨_,Hr (by rw[hz,c]) (hB.err hx he),O⟩⟩
    rintro⟨y,q2⟩ T1 hz1 hT1;refine⟨AB,Ap,?_⟩;refine BG O (fun _=>Cv BY O O An AJ) Ap (Jc O O (CO (i:=1) (j:=i) Bx O O O AJ O (EE _) (BF _) (FU _) (Hq (ys++List.replicate (ts.length - i) Bi) i y)) AB Ap (KZ O Ai (Ax (Aq Az 2 [] O (⟨⟨i+1,ys++[y],q2,T1,(some b),cp1⟩,AQ,⟨by omega,⟨hB.succ hx hz1,hT1⟩⟩,BZ ⟨we rfl,we rfl,we rfl,we rfl,we rfl,we rfl,we rfl,we rfl,trivial⟩ (YT [1,2,3,4,5] [_,_,_,_,_,_] (l':=[_,_,_,_,_]) rfl (wl (C5 ((ys++List.replicate (ts.length - i) Bi).set i y) (by rw[RI hB.1 An];congr 2)) (wl (Mx (aw (we rfl) (aw (we rfl) (aw (we rfl) (aw (we rfl) (aw (we (HC (ys++List.replicate (ts.length - i) Bi) Ah)) (FE))))))) (wl (oe rfl) (wl (oe rfl) (wl (oe rfl) (DF)))))))⟩)))))
   (try simp only[sd,se] at c2);refine Bk (Ay (B7 (CR (i:=0) (j:=1) (q:=4) [] O O O (C6 Ap)) (Aq Az 2 [0,1,0] O (A4 (⟨O,_,_,⟨_,_,O,(BO (i:=1) Bx O O O),O⟩,(Fu [] [_,_,_,_] O),?_⟩)))));rw[show ts.length - i=0 by omega,List.replicate_zero,List.append_nil];exact⟨⟨.mk zk zi zn zl ys,q1⟩,Fa (by rw[hz,c]) (hB.fin An),O,hU⟩
  (try simp only[sd,se] at c1);refine A5 (Au Az 2 [0,1,0] O (BU (CB (i:=1) O) (A4 (⟨O,_,_,⟨_,_,O,(BO (i:=1) Bx O O O),O⟩,(Fu [] [_,_,_,_] O),?_⟩))));exact⟨⟨.mk zk zi zn zl [],q⟩,Fa (o:= .mk zk zi zn zl zs) (q:=q) (ys:=[]) (by rw[hz,c]) (by rw[show ts=[] by (cases ts with | nil=>rfl | cons a b=>simp at c1;omega)];rfl),O,hT⟩
theorem Yd:∀(fid:Nat) (caps:List AV),Br Tryz.prog 162 [.fn (.func fid) [] caps] [] (eH (fun b=> .agg [.fn (.func 188) [] [.ptr b 0]]) [.fn (.func fid) [] caps]):=by
 intro fid caps;refine A1 Tryz.func162 O iM (n:=5) O O (Ay (BE O (BT O) fun b1=>BE O (A7 fN O) fun b2=>Bo O (Au Az 3 [0,0] O (A4 (⟨O,_,_,⟨_,_,O,(BO (i:=0) ew O O O),O⟩,(Dn (is:=[1]) O),?_⟩)))));exact⟨_,O,O⟩
theorem Xm:∀(rep:Tm→Int→Except Int Tm) (fid:Nat) (caps:List AV) (T:List A8) (hr:∀(t:Tm) (d:Int),Nd t→Vp t→t.kind=0→0≤d→d<Cb→Br Tryz.prog fid ([TV t,.p (I d)]++caps) T (Vu (fun(r:Tm)=>TV r) (fun e=> .p (.iface 245 (I e))) (fun r H'=>H'=T) (rep t d))) (bR:Nat) (s:Unit) (t:Tm) (d:Int),Nd t→Vp t→0≤d→d<Cb→Br Tryz.prog 188 [TV t,.p (I d),.ptr bR 0] (.box bR [.fn (.func fid) [] caps]::T) (Vu (fun(r:(Tm×Bool)×Unit)=> .tup [TV r.1.1,.p (.bool r.1.2)]) (fun e=> .p (.iface 245 (I e))) (fun r H'=>H'= .box bR [.fn (.func fid) [] caps]::T) (G1 rep s t d)):=by
 intro rep fid caps T hr bR s t d h1 h2 h3 h4;refine A1 Tryz.func188 O gx (n:=16) O O (Ay (BE O (BT O) fun b3=>BE O (A7 Bq O) fun b5=>Aq Az 1 [] O (As (Ay (Ar O (A3 KO O O) ?_)))));obtain⟨tk,ti,tn,tl,ts⟩:=t;refine Aq Az 2 [1] O (A2 O (fun c=>?_) (fun c=>?_))
 ·(try simp only[sd,se] at c);refine Ay (A0 Az 3 [2,1] O (cK [_,_,_] O O O (.inr O) (hr (.mk tk ti tn tl ts) d h1 h2 c h3 h4) (CQ _) ?_ ?_))
  rotate_left
  ·intro e _ he;exact⟨O,_,List.nil_sublist _,⟨_,K7 c he,O⟩⟩
  rintro z _ hz rfl;refine Aq Az 2 [0,1] O (A4 (⟨O,_,_,⟨_,_,O,(BO (i:=0) Bx O O Ad),⟨_,_,O,O,O⟩⟩,(Fu [2] [_,_,_] O),?_⟩));exact⟨⟨⟨z,true⟩,()⟩,Ho c hz,O,O⟩
 (try simp only[sd,se] at c);refine A5 (Ay (Ar O (BR (i:=1) Bx O O O) (Ar O (BB O O (R4 (.mk tk ti tn tl ts:Tm) h1) O) (Aq Az 2 [0,1] O (A4 (⟨O,_,_,⟨_,_,O,(BO (i:=0) Bx O O Ad),⟨_,_,O,O,O⟩⟩,(Fu [2] [_,_,_] O),?_⟩))))));exact⟨⟨⟨.mk tk ti tn tl [],false⟩,()⟩,Jr c,O,O⟩
end Go.Proofs.YtifphifongokcaaGreat
namespace Go.Eu
open Go.Abs
mutual
def eT (x d:Int):Tm→Bool
 | .mk k i n l ks=>(decide (k=0)&&decide (d≤i)&&decide (i - d=x))||LZ x d k 0 ks
def LZ (x d k:Int) (j:Nat):List Tm→Bool
 | []=>false
 | t::ts=>eT x (d+below k j) t||LZ x d k (j+1) ts
end
def dG (l:List Int) (n:Int) (l2:List Int):Prop:=(∀x,x∈l2↔x=n∨x∈l)∧l2.length≤l.length+1
theorem dG.same {l:List Int}{n:Int}(h:n∈l):dG l n l:=⟨fun x=>⟨.inr,fun e=>e.elim (fun e=>e▸h) id⟩,by omega⟩
structure Oq (l:List Int) (n:Int) (i:Nat) (f:Bool) (out:List Int):Prop where
 mem:∀x,x∈out↔(f=true∧x=n)∨x∈l.take i
 len:out.length≤i+(if f=true then 1 else 0)
theorem Oq.zero (l:List Int) (n:Int):Oq l n 0 false []:=⟨by simp,by simp⟩
theorem Oq.step {l:List Int}{n:Int}{i:Nat}{f:Bool}{out:List Int}{y:Int}(h:Oq l n i f out) (hy:l[i]?=some y):Oq l n (i+1) f (out++[y]):=by
 refine⟨fun x=>?_,by have:=h.len;simp;omega⟩;rw[List.mem_append,h.mem,List.take_add_one,hy];simp only[List.mem_singleton,Option.toList_some,List.mem_append];constructor
 ·rintro((h | h) | h)
  ·exact .inl h
  ·exact .inr (.inl h)
  exact .inr (.inr h)
 rintro(h | h | h)
 ·exact .inl (.inl h)
 ·exact .inl (.inr h)
 exact .inr h
theorem Oq.put {l:List Int}{n:Int}{i:Nat}{out:List Int}(h:Oq l n i false out):Oq l n i true (out++[n]):=by
 refine⟨fun x=>?_,by have:=h.len;simp at *;omega⟩;rw[List.mem_append,h.mem];simp only[List.mem_singleton,true_and,Bool.false_eq_true,false_and,false_or];constructor
 ·rintro(h | h)
  ·exact .inr h
  exact .inl h
 rintro(h | h)
 ·exact .inr h
 exact .inl h
theorem Oq.done {l:List Int}{n:Int}{i:Nat}{out:List Int}(h:Oq l n i true out) (hi:l.length≤i) (hi2:i≤l.length):dG l n out:=by
 refine⟨fun x=>?_,by have:=h.len;simp at this;omega⟩;rw[h.mem,List.take_of_length_le hi];simp
def ik (l:List Int) (d:Int) (t:Tm) (l2:List Int):Prop:=(∀x,x∈l2↔x∈l∨eT x d t=true)∧l2.length≤l.length+size t
structure dt (l:List Int) (d:Int) (k i0:Int) (ts:List Tm) (i:Nat) (l2:List Int):Prop where
 mem:∀x,x∈l2↔x∈l∨(k=0∧d≤i0∧i0 - d=x)∨LZ x d k 0 (ts.take i)=true
 len:l2.length≤l.length+1+Bb (ts.take i)
theorem Sc (x d k:Int):∀(ts us:List Tm) (j:Nat),LZ x d k j (ts++us)=(LZ x d k j ts||LZ x d k (j+ts.length) us)
 | [],us,j=>by simp[LZ]
 | t::ts,us,j=>by
  simp only[List.cons_append,LZ,Sc x d k ts us (j+1),List.length_cons];rw[show j+1+ts.length=j+(ts.length+1) by omega,Bool.or_assoc]
theorem Pr:∀(ts us:List Tm),Bb (ts++us)=Bb ts+Bb us
 | [],us=>by simp[Bb]
 | t::ts,us=>by simp only[List.cons_append,Bb,Pr ts us];omega
theorem dt.start {l:List Int}{d k i:Int}{ts:List Tm}(h:¬(k=0∧d≤i)):dt l d k i ts 0 l:=⟨fun x=>by simp[LZ];intro e1 e2;exact absurd ⟨e1,e2⟩ h,by simp[Bb]⟩
theorem dt.step {l l2 l3:List Int}{d k i0:Int}{ts:List Tm}{i:Nat}{y:Tm}(h:dt l d k i0 ts i l2) (hy:ts[i]?=some y) (hf:ik l2 (d+below k i) y l3):dt l d k i0 ts (i+1) l3:=by
 have hi:i<ts.length:=(List.getElem?_eq_some_iff.1 hy).1;have ht:ts.take (i+1)=ts.take i++[y]:=by rw[List.take_add_one,hy];rfl
 refine⟨fun x=>?_,?_⟩
 ·rw[hf.1,h.mem,ht,Sc];have hl:(ts.take i).length=i:=by simp;omega
  simp only[LZ,hl,Nat.zero_add,Bool.or_false,Bool.or_eq_true];constructor
  ·rintro((h | h | h) | h)
   ·exact .inl h
   ·exact .inr (.inl h)
   ·exact .inr (.inr (.inl h))
   exact .inr (.inr (.inr h))
  rintro(h | h | h | h)
  ·exact .inl (.inl h)
  ·exact .inl (.inr (.inl h))
  ·exact .inl (.inr (.inr h))
  exact .inr h
 have:=h.len;have:=hf.2;rw[ht,Pr];simp only[Bb];omega
theorem dt.done {l l2:List Int}{d k i0:Int}{n:ByteArray}{ls:List CN}{ts:List Tm}{i:Nat}(h:dt l d k i0 ts i l2) (hi:ts.length≤i):ik l d (.mk k i0 n ls ts) l2:=by
 refine⟨fun x=>?_,?_⟩
 ·rw[h.mem,List.take_of_length_le hi];simp[eT,and_assoc]
 have:=h.len;rw[List.take_of_length_le hi] at this;simp only[size];omega
mutual
def eX (d:Int):Tm→List Int
 | .mk k i n l ks=>(if k=0∧d≤i then [i - d] else [])++VI d k 0 ks
def VI (d k:Int) (j:Nat):List Tm→List Int
 | []=>[]
 | t::ts=>eX (d+below k j) t++VI d k (j+1) ts
end
mutual
theorem ND:∀(t:Tm) (d:Int),(∀x,x∈eX d t↔eT x d t=true)∧(eX d t).length≤size t
 | .mk k i n l ks,d=>by
  obtain⟨h1,h2⟩:=Ph ks d k 0;simp only[eX,eT,size];refine⟨fun x=>?_,?_⟩
  ·rw[List.mem_append,h1];split
   ·rename_i h;simp only[h.1,h.2,List.mem_singleton,decide_true,Bool.true_and,Bool.or_eq_true,decide_eq_true_eq];exact or_congr eq_comm Iff.rfl
   rename_i h;simp;intro e1 e2;exact absurd ⟨e1,e2⟩ h
  rw[List.length_append];split<;>simp<;>omega
theorem Ph:∀(ts:List Tm) (d k:Int) (j:Nat),(∀x,x∈VI d k j ts↔LZ x d k j ts=true)∧(VI d k j ts).length≤Bb ts
 | [],d,k,j=>by simp[VI,LZ]
 | t::ts,d,k,j=>by
  obtain⟨h1,h2⟩:=ND t (d+below k j);obtain⟨h3,h4⟩:=Ph ts d k (j+1);simp only[VI,LZ,Bb];exact⟨fun x=>by rw[List.mem_append,h1,h3];simp,by rw[List.length_append];omega⟩
end
theorem ik.ex (l:List Int) (d:Int) (t:Tm):ik l d t (l++eX d t):=⟨fun x=>by rw[List.mem_append,(ND t d).1],by rw[List.length_append];have:=(ND t d).2;omega⟩
end Go.Eu
namespace Go.Abs
section
variable {P:Program}{o:Oper}{ρ:Operand→AV}{H H':List A8}{v v':AV}
end
section
variable {P:Program}{dst:Option Tmp}{ty:TypeId}{pos:String}{aft:Array Edge}{g:Option (Nat×Bool)}{ρ:Operand→AV}{H:List A8}{x y z:Operand}{v:AV}
def n4 (P:Program) (T:TypeId) (name:String):Option FuncId:=match P.info? T,P.underlying T with
 | some i,some (.pointer _)=>match i.methods.find? (·.name==name) with
  | some m=>match m.path.toList,m.func with
   | [],some (f,true)=>some f
   | _,_=>none
  | none=>none
 | _,_=>none
end
end Go.Abs
