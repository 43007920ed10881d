/- Part of the proofs: an abstract program logic, plain models and contracts of functions. -/
import Derived.Test.YtajnpndfkbnkoaaGreatPb
import Derived.Shelf.Sort.Plain
import Derived.Shelf.Slices.In.SortNone
import Derived.Test.YtajnpndfkbnkoaaGreatPc
import Derived.Test.YtajnpndfkbnkoaaGreatPd
import Derived.KernelRfl
set_option linter.unusedVariables false
set_option linter.unusedSimpArgs false
set_option maxRecDepth 100000
namespace Go.Eu
open Go.Abs Go.Sort
def Sv (zs:List Int):List Int:=zs.mergeSort fun x y=>decide (x≤y)
theorem WB (zs:List Int):(Sv zs).length=zs.length:=List.length_mergeSort _
end Go.Eu
namespace Go.Eu
open Go.Abs
def U8 (c:Int) (v:CN):Bool:=decide (-65536≤v.index)&&decide (v.index<8)&&decide (0≤v.plus)&&decide (v.plus≤100)&&(decide (c≤0)||decide (v.plus<c))
def Ju (p:Option Int) (i:Int):Bool:=match p with
 | none=>true
 | some j=>decide (j<i)
def HS (c:Int):Option Int→List CN→Bool
 | _,[]=>true
 | p,v::vs=>U8 c v&&Ju p v.index&&HS c (some v.index) vs
def Dk (l:DK):Bool:=decide (0≤l.const)&&decide (l.const≤100)&&HS l.const none l.vars
def J6:DK:=⟨0,[]⟩
def e9 (vs:List CN):Int:=(vs.getD (vs.length - 1) default).index
def Zw (l:DK):Int:=if Dk l=true∧l.vars≠[] then max 0 (e9 l.vars+1) else 0
def Jg (x:CN) (rec:List CN→List CN):List CN→List CN
 | []=>x::rec []
 | y::b=>if x.index<y.index then x::rec (y::b) else if y.index<x.index then y::Jg x rec b else ⟨x.index,max x.plus y.plus⟩::rec b
def Fc:List CN→List CN→List CN
 | [],b=>b
 | x::a,b=>Jg x (Fc a) b
def QU (vs:List CN):Int:=vs.foldl (fun m v=>max m v.plus) 0
def fI (c:Int) (vs:List CN):DK:=⟨if vs≠[]∧c≤QU vs then 0 else c,vs⟩
def br (a b:DK):DK:=fI (max a.const b.const) (Fc a.vars b.vars)
def eO (n:Int) (v:CN):CN:=⟨v.index,v.plus+n⟩
def P5 (l:DK) (n:Int):Int:=if l.const > 0∨l.vars=[] then l.const+n else 0
def Mn (l:DK) (n:Int):DK×Int :=
 if Dk l=false then (J6,3) else if n<0 then (J6,2) else if n > 100 then (J6,15)
 else if P5 l n > 100 then (J6,15)
 else if (l.vars.any fun v=>decide (v.plus+n > 100))=true then (J6,15)
 else (⟨P5 l n,l.vars.map (eO n)⟩,0)
def YQ (ps:List DK):DK→List CN→DK×Int
 | out,[]=>(out,0)
 | out,v::vs =>
  if 0≤v.index∧v.index<ps.length then
   (if (Mn (ps.getD v.index.toNat default) v.plus).2≠0 then (J6,(Mn (ps.getD v.index.toNat default) v.plus).2)
    else YQ ps (br out (Mn (ps.getD v.index.toNat default) v.plus).1) vs)
  else YQ ps (br out ⟨0,[v]⟩) vs
def Ty (l:DK) (ps:List DK):DK×Int :=
 if Dk l=false∨ps.all Dk=false then (J6,3)
 else if Zw l > ps.length then (J6,24)
 else YQ ps ⟨l.const,[]⟩ l.vars
-- the program's way
def mg (k:Int):List (Int×Int)→Option Int
 | []=>none
 | (j,x)::r=>if j=k then some x else mg k r
def ms (k v:Int):List (Int×Int)→List (Int×Int)
 | []=>[(k,v)]
 | (j,x)::r=>if j=k then (j,v)::r else (j,x)::ms k v r
def JM (m:List (Int×Int)) (i p:Int):List (Int×Int):=match mg i m with
 | some old=>if p > old then ms i p m else m
 | none=>ms i p m
def I6 (n:Int) (m:List (Int×Int)) (v:CN):List (Int×Int):=JM m v.index (v.plus+n)
def eB (s:List (Int×Int)×Int) (l:DK) (n:Int):List (Int×Int)×Int:=(l.vars.foldl (I6 n) s.1,max s.2 (l.const+n))
def SE (ps:List DK) (s:List (Int×Int)×Int) (v:CN):List (Int×Int)×Int :=
 if v.index<0 then (JM s.1 v.index v.plus,s.2) else eB s (ps.getD v.index.toNat default) v.plus
def TG (m:List (Int×Int)):List CN:=(Sv (m.map Prod.fst)).map fun i=>⟨i,(mg i m).getD 0⟩
-- offsets
def SO:List CN→Int→Int
 | [],_=> -1
 | v::vs,i=>if v.index=i then max v.plus (SO vs i) else SO vs i
abbrev VS (l:List CN):Prop:=l.Pairwise fun a b=>a.index<b.index
-- merging
-- the greatest offset
-- the offsets of the program
def J8 (m:List (Int×Int)) (i:Int):Int:=(mg i m).getD (-1)
theorem YR (k v:Int):∀(m:List (Int×Int)) (j:Int),mg j (ms k v m)=if k=j then some v else mg j m
 | [],j=>by simp[ms,mg]
 | (i,x)::m,j=>by
  have ih:=YR k v m j;simp only[ms];split
  ·rename_i q;subst q;simp only[mg];split<;>rfl
  rename_i q;simp only[mg,ih];by_cases h1:i=j
  ·subst h1;rw[if_pos rfl,if_neg (Ne.symm q),if_pos rfl]
  simp[h1]
theorem Q4 (k v:Int):∀(m:List (Int×Int)),(ms k v m).map Prod.fst=if k∈m.map Prod.fst then m.map Prod.fst else m.map Prod.fst++[k]
 | []=>by simp[ms]
 | (i,x)::m=>by
  have ih:=Q4 k v m;simp only[ms];split
  ·rename_i q;subst q;simp
  rename_i q;simp only[List.map_cons,ih,List.mem_cons,(show (k=i)=False by simp;exact fun h=>q h.symm),false_or];split<;>simp
structure Sz (m:List (Int×Int)):Prop where
 nd:(m.map Prod.fst).Nodup
 pos:∀k v,mg k m=some v→0≤v
theorem Sz.nil:Sz []:=⟨by simp,fun k v h=>by simp[mg] at h⟩
theorem XE {m:List (Int×Int)}(k v:Int) (h:(m.map Prod.fst).Nodup):((ms k v m).map Prod.fst).Nodup:=by
 rw[Q4]
 grind
theorem Sx {m:List (Int×Int)}{i p:Int}(h:Sz m) (hp:0≤p):Sz (JM m i p):=by
 have hs:Sz (ms i p m):=⟨XE i p h.nd,fun k v hk=>by
  rw[YR] at hk;split at hk
  ·cases hk;exact hp
  exact h.pos k v hk⟩
 grind [JM]
theorem RJ {m:List (Int×Int)}(h:Sz m) (i:Int): -1≤J8 m i:=by
 unfold J8;cases e:mg i m with
 | none=>simp
 | some v=>have:=h.pos i v e;simp;omega
theorem OH {m:List (Int×Int)}{i p:Int}(h:Sz m) (hp:0≤p) (j:Int):J8 (JM m i p) j=max (SO [⟨i,p⟩] j) (J8 m j):=by
 have h1:J8 (ms i p m) j=if i=j then p else J8 m j:=by unfold J8;rw[YR];split<;>rfl
 have h2:=RJ h j;unfold JM;simp only[SO];cases e:mg i m with
 | none =>
  simp only[h1];split
  ·rename_i q;subst q;simp only[J8,e,Option.getD_none];omega
  ·omega
 | some old =>
  simp only;split
  ·rw[h1];split
   ·rename_i q;subst q;simp only[J8,e,Option.getD_some];omega
   omega
  split
  ·rename_i q;subst q;simp only[J8,e,Option.getD_some];omega
  omega
theorem O4 {n:Int}:∀(vs:List CN) (m:List (Int×Int)),Sz m→(∀v∈vs,0≤v.plus+n)→Sz (vs.foldl (I6 n) m)∧∀i,J8 (vs.foldl (I6 n) m) i=max (SO (vs.map (eO n)) i) (J8 m i)
 | [],m,h,_=>⟨h,fun i=>by have:=RJ h i;simp only[List.foldl_nil,List.map_nil,SO];omega⟩
 | v::vs,m,h,hv=>by
  have hp:=hv v Ag;have h1:Sz (I6 n m v):=Sx h hp;have ⟨h2,h3⟩:=O4 vs (I6 n m v) h1 fun w hw=>hv w (by simp[hw]);refine⟨h2,fun i=>?_⟩;rw[List.foldl_cons,h3 i,show J8 (I6 n m v) i=max (SO [⟨v.index,v.plus+n⟩] i) (J8 m i) from OH h hp i];have:=RJ h i;simp only[List.map_cons,SO,eO];split<;>omega
theorem NT (zs:List Int):(Sv zs).Perm zs:=List.mergeSort_perm _ _
theorem Re (zs:List Int):(Sv zs).Pairwise fun a b=>a≤b:=by
 have:=List.pairwise_mergeSort (le:=fun(x y:Int)=>decide (x≤y)) (fun a b c h1 h2=>by simp at *;omega) (fun a b=>by simp;omega) zs;exact this.imp fun h=>by simpa using h
theorem WA {m:List (Int×Int)}(h:Sz m):VS (TG m):=by
 have hn:(Sv (m.map Prod.fst)).Nodup:=(NT _).nodup_iff.2 h.nd;have hs:=Re (m.map Prod.fst);rw[VS,TG,List.pairwise_map];exact(hs.and hn).imp fun⟨h1,h2⟩=>by simp only;omega
-- valid levels
theorem Ln:∀{c:Int}{vs:List CN}{p:Option Int},HS c p vs=true→∀v∈vs,U8 c v=true
 | c,w::vs,p,h,v,hv=>by
  simp only[HS,Bool.and_eq_true] at h;rcases List.mem_cons.1 hv with rfl | hv
  ·exact h.1.1
  exact Ln h.2 v hv
theorem Zk {c:Int}{v:CN}(h:U8 c v=true):0≤v.plus∧v.plus≤100:=by
 simp only[U8,Bool.and_eq_true,decide_eq_true_eq] at h
 grind
theorem QM:∀{c:Int}{vs:List CN}{p:Option Int},HS c p vs=true→VS vs∧∀v∈vs,Ju p v.index=true
 | c,[],p,_=>⟨by simp[VS],by simp⟩
 | c,w::vs,p,h=>by
  simp only[HS,Bool.and_eq_true] at h;have ⟨h1,h2⟩:=QM h.2;simp only[Ju,decide_eq_true_eq] at h2;refine⟨?_,fun v hv=>?_⟩
  ·rw[VS,List.pairwise_cons];exact⟨h2,h1⟩
  rcases List.mem_cons.1 hv with rfl | hv
  ·exact h.1.2
  have a:=h.1.2;have b:=h2 v hv;unfold Ju at a ⊢;cases p with
  | none=>rfl
  | some j=>simp only[decide_eq_true_eq] at a ⊢;omega
theorem dI {n:Int}{vs:List CN}(h:VS vs):VS (vs.map (eO n)):=by
 rw[VS,List.pairwise_map];exact h.imp fun h=>h
-- errors stay
def ey (s:List (Int×Int)×Int):Prop:=(∃i,100<J8 s.1 i)∨100<s.2
theorem W0 {ps:List DK}(hps:∀l∈ps,Dk l=true) {s:List (Int×Int)×Int}{v:CN}(hm:Sz s.1) (hv:0≤v.plus) (hi:v.index<ps.length):Sz (SE ps s v).1∧(ey s→ey (SE ps s v)):=by
 unfold SE;split
 ·refine⟨Sx hm hv,fun h=>?_⟩;rcases h with ⟨i,h⟩ | h
  ·exact .inl ⟨i,by rw[OH hm hv];omega⟩
  exact .inr h
 rename_i q;have hmem:ps.getD v.index.toNat default∈ps:=by
  grind
 have hl:=hps _ hmem;simp only[Dk,Bool.and_eq_true,decide_eq_true_eq] at hl;have ⟨h1,h2⟩:=O4 (n:=v.plus) (ps.getD v.index.toNat default).vars s.1 hm fun w hw=>by have:=(Zk (Ln hl.2 w hw)).1;omega
 refine⟨h1,fun h=>?_⟩;rcases h with ⟨i,h⟩ | h
 ·exact .inl ⟨i,by simp only[eB,h2];omega⟩
 exact .inr (by simp only[eB];omega)
theorem S6 {l:DK}{n:Int}(hl:Dk l=true) (h0:0≤n) (h1:n≤100) :
  (Mn l n=(J6,15)∧(100<l.const+n∨∃v∈l.vars,100<v.plus+n)) ∨
  (Mn l n=(⟨P5 l n,l.vars.map (eO n)⟩,0)∧l.const+n≤100∧∀v∈l.vars,v.plus+n≤100):=by
 have hl':=hl;simp only[Dk,Bool.and_eq_true,decide_eq_true_eq] at hl';unfold Mn;rw[if_neg (by simp[hl]),if_neg Af,if_neg Af];split
 ·rename_i q;refine .inl ⟨O,.inl ?_⟩;unfold P5 at q;split at q<;>omega
 rename_i q;split
 ·grind
 rename_i q';simp only[List.any_eq_true,decide_eq_true_eq,not_exists,not_and] at q';refine .inr ⟨O,?_,fun v hv=>by have:=q' v hv;omega⟩;unfold P5 at q;split at q<;>omega
def SW (ps:List DK):Int→List DK→List DK×Int
 | er,[]=>([],er)
 | er,l::ls=>((Ty l ps).1::(SW ps (J3 er (Ty l ps).2) ls).1,(SW ps (J3 er (Ty l ps).2) ls).2)
mutual
def VX (ps:List DK):Int→Tm→Tm×Int
 | er,.mk k i n ls ks=>(.mk k i n (SW ps er ls).1 (VH ps (SW ps er ls).2 ks).1,(VH ps (SW ps er ls).2 ks).2)
def VH (ps:List DK):Int→List Tm→List Tm×Int
 | er,[]=>([],er)
 | er,t::ts=>((VX ps er t).1::(VH ps (VX ps er t).2 ts).1,(VH ps (VX ps er t).2 ts).2)
end
def IH (t:Tm) (ps:List DK):Tm×Int:=if (VX ps 0 t).2≠0 then (A3,(VX ps 0 t).2) else ((VX ps 0 t).1,0)
inductive Out (α:Type) where
 | stuck
 | fail
 | ok (a:α)
def Out.bind {α β:Type}:Out α→(α→Out β)→Out β
 | .stuck,_=> .stuck
 | .fail,_=> .fail
 | .ok a,k=>k a
def T7 (n:Int):Bool:=decide (-9223372036854775808≤n)&&decide (n≤9223372036854775807)
def gC (l:DK):Bool:=decide (l.vars.length<C7)&&T7 l.const&&l.vars.all fun v=>T7 v.index&&T7 v.plus
def jI (k i:Int) (n:ByteArray) (ls:Nat):Bool:=(decide (i=0)||decide (k=0)||decide (k=12))&&(decide (n.size=0)||decide (k=3))&&(decide (ls=0)||decide (k=2)||decide (k=3))
mutual
def cP:Tm→Bool
 | .mk k i n ls ks=>decide (n.size<C7)&&decide (ls.length<C7)&&ls.all gC&&decide (ks.length<C7)&&T7 k&&T7 i&&decide ((ks.length:Int)=arity k)&&(decide (k≠12)||decide (0≤i))&&(decide (k≠0)||decide (0≤i)&&decide (i<1099511627776))&&jI k i n ls.length&&SA ks
def SA:List Tm→Bool
 | []=>true
 | t::ts=>cP t&&SA ts
end
def okB (t:Tm):Bool:=cP t&&decide (size t<549755813888)
def Out.chk {σ β:Type}(o:Out (Tm×σ)) (k:Tm×σ→Out β):Out β:=o.bind fun r=>if okB r.1=true then k r else .stuck
structure Sys (σ:Type) where
 over:σ→Bool
 res:σ→Tm→Int→Option σ
 many:Nat→Bool
def Sys.put {σ α:Type}(S:Sys σ) (s:σ) (x:Tm×Int) (k:Tm→σ→Out α):Out α :=
 if okB x.1=true then (match S.res s x.1 x.2 with
  | none=> .fail
  | some s'=>k x.1 s')
 else .stuck
def PI.result (c:PI) (t:Tm) (e:Int):PI:=({ c with steps:=wr (c.steps+1),nodes:=wr (c.nodes+Ei t) }).form t e
def ah:Sys Int:=⟨fun _=>false,fun n t e=>if n - 1<0∨e≠0 then none else some (n - 1),fun k=>decide (40960<k)⟩
def Ru:Tm→List Tm×Tm
 | .mk k i n l [a,b]=>if k=6 then (a::(Ru b).1,(Ru b).2) else ([],.mk k i n l [a,b])
 | t=>([],t)
section
variable (E:List B4)
def KU (i:Int):B4:=E.getD i.toNat default
def UZ (d:B4) (j:Int):I1:=d.ctors.getD j.toNat default
def e8 (d:B4) (j:Int):Ie:=d.funs.getD j.toNat default
def du (t:Tm):Int:=((Ru t).1.length:Int)
def Q5 (d:B4) (j:Int):Int:=max 0 (du (UZ d j).type - d.fixed)
def Rf (nm:ByteArray):Option (B4×Int) :=
 if (Cu E nm).2≠0 then none
 else if (Cu E nm).1.kind=3 then some (KU E (Cu E nm).1.decl,-1)
 else if (Cu E nm).1.kind=4 then some (KU E (Cu E nm).1.decl,(Cu E nm).1.item)
 else if (Cu E nm).1.kind=5 then some (KU E (Cu E nm).1.decl,-2)
 else none
def Mb (t:Tm):Option (B4×Int×List Tm) :=
 if (Al t).1.kind≠3 then none
 else match Rf E (Al t).1.name with
  | none=>none
  | some (d,j)=>if j<0 then none else if ((Al t).2.length:Int)≠d.fixed+Q5 d j then none else some (d,j,(Al t).2.drop d.fixed.toNat)
def Xt (d:B4):Int:=max 0 (du d.type - d.fixed)
def Yt (d:B4):Int:=d.fixed+1+d.ctors.length+Xt d
def Fp (nm:ByteArray):List HC→Option Fv
 | []=>none
 | b::l=>if b.ctor=nm then (if b.absurd=true then none else some b.tree) else Fp nm l
def ae (h:Tm):Option GZ:=if (Cu E h.name).2=0∧(h.levels.length:Int)=(Cu E h.name).1.params then some (Cu E h.name).1 else none
variable {σ:Type}(S:Sys σ)
def ba (W:σ→Tm→Out (Tm×σ)):Nat→Fv→List Tm→Tm→σ→Out ((Option (Tm×List Tm)×Tm)×σ)
 | 0,_,_,_,_=> .stuck
 | n+1,t,vars,last,s =>
  if t.kind=1 then
   if t.var<0∨t.var≥(vars.length:Int)∨S.over s=true then .ok ((none,last),s)
   else (W s (vars.getD t.var.toNat default)).chk fun r=>match Mb E r.1 with
    | none=> .ok ((none,r.1),r.2)
    | some (d,j,fields)=>match Fp (UZ d j).name t.branches with
     | none=> .ok ((none,r.1),r.2)
     | some t'=>ba W n t' (vars++fields) r.1 r.2
  else .ok ((some (t.body,vars),A3),s)
def cz (d:B4) (h:Tm) (a:List Tm) (s:σ):Out (Option Tm×σ) :=
 if (IH d.value h.levels).2≠0 then .ok (none,s)
 else S.put s ((IH d.value h.levels).1,0) fun t s'=> .ok (some (apply t a),s')
def W5 (d:B4) (j:Int):Tm:=d.recs.rules.getD j.toNat default
def e6 (d:B4) (h:Tm) (a:List Tm) (m:Tm) (s:σ):Out (Option Tm×σ):=match Mb E m with
 | none=> .ok (none,s)
 | some (e,j,fields) =>
  if e.name≠d.name∨j≥(d.recs.rules.length:Int) then .ok (none,s)
  else if (IH (W5 d j) h.levels).2≠0 then .ok (none,s)
  else S.put s (apply (apply (IH (W5 d j) h.levels).1 (a.take (d.fixed+1+d.ctors.length).toNat)) fields,0) fun t s'=> .ok (some (apply t (a.drop (Yt d+1).toNat)),s')
def ei (h:Tm) (b:Tm) (vars:List Tm) (rest:List Tm) (s:σ):Out (Option Tm×σ) :=
 if (IH b h.levels).2≠0 then .ok (none,s)
 else if okB (IH b h.levels).1=false∨vars.all okB=false∨1125899906842624≤Aq vars then .stuck
 else S.put s (EY (IH b h.levels).1 vars.reverse 0) fun t s'=> .ok (some (apply t rest),s')
def eH (W:σ→Tm→Out (Tm×σ)) (n:Nat) (f:Ie) (h:Tm) (a:List Tm) (s:σ):Out (Option Tm×σ) :=
 if (a.length:Int)<f.arity then .ok (none,s)
 else (ba E S W n f.tree (a.take f.arity.toNat) A3 s).bind fun q=>match q.1.1 with
  | none=> .ok (none,q.2)
  | some (b,vars)=>if S.over q.2=true then .ok (none,q.2) else ei S h b vars (a.drop f.arity.toNat) q.2
def gm (W:σ→Tm→Out (Tm×σ)) (d:B4) (h:Tm) (a:List Tm) (s:σ):Out (Option Tm×σ) :=
 if (a.length:Int)≤Yt d then .ok (none,s)
 else (W s (a.getD (Yt d).toNat default)).chk fun r=>e6 E S d h a r.1 r.2
def XA (W:σ→Tm→Out (Tm×σ)) (n:Nat) (h:Tm) (a:List Tm) (s:σ):Out (Option Tm×σ):=match ae E h with
 | none=> .ok (none,s)
 | some x =>
  if x.kind=1 then cz S (KU E x.decl) h a s
  else if x.kind=5 then gm E S W (KU E x.decl) h a s
  else if x.kind=6 then eH E S W n (e8 (KU E x.decl) x.item) h a s
  else .ok (none,s)
def bu (k:Int) (p:Tm):Tm:= .mk k 0 ⟨#[]⟩ [] [p]
def fj (h:Tm) (a:List Tm) (s:σ) {α:Type}(k:Tm→σ→Out α):Out α:=match h.kids[1]? with
 | none=> .stuck
 | some b=>S.put s (EY b (a.take 1) 0) fun x s'=>k (apply x (a.drop 1)) s'
def hO (h:Tm) (a:List Tm) (s:σ) {α:Type}(k:Tm→σ→Out α):Out α:=match h.kids[1]?,h.kids[2]? with
 | some v,some b=>S.put s (EY b [v] 0) fun x s'=>k (apply x a) s'
 | _,_=> .stuck
def fB (h p:Tm) (a:List Tm) (s:σ) {α:Type}(k:Tm→σ→Out α):Out α:=match p.kids[(1+h.kind - 9).toNat]? with
 | none=> .stuck
 | some q=>S.put s (q,0) fun x s'=>k (apply x a) s'
def bh:Nat→σ→Tm→Out (Tm×σ)
 | 0,_,_=> .stuck
 | n+1,s,t =>
  if okB t=false then .stuck
  else if S.over s=true then .ok (t,s)
  else if S.many (Al t).2.length=true then .fail
  else if (Al t).1.kind=5 then
   (if (Al t).2.length=0 then .ok (t,s) else fj S (Al t).1 (Al t).2 s fun x s'=>bh n s' x)
  else if (Al t).1.kind=11 then hO S (Al t).1 (Al t).2 s fun x s'=>bh n s' x
  else if (Al t).1.kind=9∨(Al t).1.kind=10 then match (Al t).1.kids[0]? with
   | none=> .stuck
   | some p=>(bh n s p).chk fun r =>
    if r.1.kind≠8 then .ok (apply (bu (Al t).1.kind r.1) (Al t).2,r.2)
    else fB S (Al t).1 r.1 (Al t).2 r.2 fun x s'=>bh n s' x
  else if (Al t).1.kind=3 then (XA E S (bh n) n (Al t).1 (Al t).2 s).bind fun r=>match r.1 with
   | none=> .ok (t,r.2)
   | some x=>bh n r.2 x
  else .ok (t,s)
def Kh (a:Int×List Int) (fx:Int) (n:Nat):List (Int×List Int):=(List.range n).map fun i:Nat=>(a.1,a.2++[fx+(i:Int)])
end
def jB (k i:Int) (n:ByteArray) (ls:List DK) (ks:Nat):Bool:=decide (n.size<C7)&&decide (ls.length<C7)&&ls.all gC&&decide (ks<C7)&&T7 k&&T7 i&&decide ((ks:Int)=arity k)&&(decide (k≠12)||decide (0≤i))&&(decide (k≠0)||decide (0≤i)&&decide (i<1099511627776))&&jI k i n ls.length
theorem cx (k i:Int) (n:ByteArray) (ls:List DK) (ks:List Tm):cP (.mk k i n ls ks)=(jB k i n ls ks.length&&SA ks):=by rw[cP,jB]
theorem Km:∀{ts:List Tm},SA ts=true↔∀t∈ts,cP t=true
 | []=>by simp[SA]
 | t::ts=>by simp only[SA,Bool.and_eq_true,Km (ts:=ts),List.mem_cons,forall_eq_or_imp]
theorem Qb:∀(t:Tm),cP t=true→cP (Al t).1=true∧SA (Al t).2=true
 | .mk k i n l [f,a],h=>by
  unfold Al;split
  ·rw[cx,Bool.and_eq_true] at h;simp only[SA,Bool.and_eq_true] at h;have ⟨h1,h2⟩:=Qb f h.2.1;refine⟨h1,Km.2 fun x hx=>?_⟩;rcases List.mem_append.1 hx with hx | hx
   ·exact Km.1 h2 x hx
   rw[List.mem_singleton.1 hx];exact h.2.2.1
  ·exact⟨h,O⟩
 | .mk k i n l [],h=>⟨h,rfl⟩
 | .mk k i n l [_],h=>⟨h,rfl⟩
 | .mk k i n l (_::_::_::_),h=>⟨h,rfl⟩
theorem Vz {t:Tm}(h:okB t=true):okB (Al t).1=true∧∀x∈(Al t).2,okB x=true:=by
 simp only[okB,Bool.and_eq_true,decide_eq_true_eq] at h ⊢;have ⟨h1,h2⟩:=Qb t h.1;have hs:=EB t;refine⟨⟨h1,by omega⟩,fun x hx=>⟨Km.1 h2 x hx,?_⟩⟩;have ⟨i,hi⟩:=List.mem_iff_getElem?.1 hx;have:=BW hi;omega
def KZ (l:List CN) (i:Nat):Option Int:=if i=0 then none else (l[i - 1]?).map CN.index
def CY (c:Int) (l:List CN) (i:Nat):Bool:=HS c (KZ l i) (l.drop i)
theorem Q6 {c:Int}{l:List CN}{i:Nat}{v:CN}(h:l[i]?=some v):CY c l i=(U8 c v&&Ju (KZ l i) v.index&&CY c l (i+1)):=by
 have e:KZ l (i+1)=some v.index:=by simp[KZ,h]
 rw[CY,CG h,HS,CY,e]
theorem dJ {c:Int}{l:List CN}{i:Nat}(h:l.length≤i):CY c l i=true:=by
 rw[CY,List.drop_eq_nil_of_le h];rfl
theorem RF (l:DK):Dk l=(decide (0≤l.const)&&decide (l.const≤100)&&CY l.const l.vars 0):=rfl
theorem X1 {c:Int}{l:List CN}{i:Nat}{v:CN}(h:l[i]?=some v) (hb:U8 c v=false):CY c l i=false:=by rw[Q6 h,hb];rfl
theorem ZW {c:Int}{l:List CN}{i:Nat}{v:CN}(h:l[i]?=some v) (h1:U8 c v=true) (h2:Ju (KZ l i) v.index=true):CY c l i=CY c l (i+1):=by rw[Q6 h,h1,h2];simp
theorem de {l:DK}(h:l.const<0∨100<l.const):false=Dk l:=by grind [RF]
theorem Rp {l:DK}{i:Nat}(h:CY l.const l.vars 0=CY l.const l.vars i) (hb:CY l.const l.vars i=false):false=Dk l:=by
 rw[RF,h,hb];simp
theorem Z4 {l:DK}{i:Nat}(h0:0≤l.const) (h1:l.const≤100) (h:CY l.const l.vars 0=CY l.const l.vars i) (hb:l.vars.length≤i):true=Dk l:=by grind [RF,dJ]
theorem dU {c:Int}{v:CN}(h:((v.index < -65536∨8≤v.index)∨v.plus<0)∨100<v.plus):U8 c v=false:=by grind [U8,Bool.and_eq_false_iff]
theorem ZG {c:Int}{v:CN}(h1:0<c) (h:c≤v.plus):U8 c v=false:=by grind [U8,Bool.and_eq_false_iff,Bool.or_eq_false_iff]
theorem bE {c:Int}{v:CN}(h: -65536≤v.index∧v.index<8∧0≤v.plus∧v.plus≤100) (h1:0<c→v.plus<c):U8 c v=true:=by
 simp only[U8,Bool.and_eq_true,Bool.or_eq_true,decide_eq_true_eq]
 grind
theorem X7 {l:DK}(h:Dk l=true):0≤l.const∧l.const≤100:=by
 simp only[Dk,Bool.and_eq_true,decide_eq_true_eq] at h;exact h.1
theorem dw {l:DK}{i:Nat}{x:CN}(h:Dk l=true) (hx:l.vars[i]?=some x):(0≤x.plus∧x.plus≤100)∧ -65536≤x.index∧x.index<8:=by
 simp only[Dk,Bool.and_eq_true,decide_eq_true_eq] at h;have:=Ln h.2 x (List.mem_of_getElem? hx);simp only[U8,Bool.and_eq_true,decide_eq_true_eq] at this
 grind
theorem Pz {l:List CN}{i j:Nat}{u:CN}{x:Int}(hj:l[j]?=some u) (he:i=j+1):(!Ju (KZ l i) x)=decide (u.index≥x):=by grind [KZ,Ju]
theorem Od {l:List CN}{i:Nat}{x:Int}(h:¬(i:Int) > 0):(!Ju (KZ l i) x)=false:=by
 have:i=0:=by omega
 subst this;rfl
theorem YH {x y:CN}{a b:List CN}(h:y.index<x.index):Fc (x::a) (y::b)=y::Fc (x::a) b:=by grind [Fc,Jg]
def Wk (a b:List CN) (i k:Nat):Bool:=(k==b.length)||(match a[i]?,b[k]? with
 | some x,some y=>decide (x.index<y.index)
 | _,_=>false)
def ZK (a b:List CN) (i k:Nat):Bool:=(i==a.length)||(match a[i]?,b[k]? with
 | some x,some y=>decide (y.index<x.index)
 | _,_=>false)
section
variable {a b:List CN}{i k:Nat}{vs:List CN}{m:Int}{x y:CN}
theorem VM (hx:a[i]?=some x) (hy:b[k]?=some y):decide (x.index<y.index)=Wk a b i k:=by
 have:=(List.getElem?_eq_some_iff.1 hy).1;simp only[Wk,hx,hy]
 grind
theorem VJ (hx:a[i]?=some x) (hy:b[k]?=some y):decide (y.index<x.index)=ZK a b i k:=by
 have:=(List.getElem?_eq_some_iff.1 hx).1;simp only[ZK,hx,hy]
 grind
structure Li (a b:List CN) (i k:Nat) (vs:List CN) (m:Int):Prop where
 hi:i≤a.length
 hk:k≤b.length
 eq:vs++Fc (a.drop i) (b.drop k)=Fc a b
 mo:m=QU vs
 ln:vs.length≤i+k
theorem Lq (vs:List CN) (v:CN):QU (vs++[v])=max (QU vs) v.plus:=by simp[QU]
theorem Li.zero:Li a b 0 0 [] 0:=⟨by omega,by omega,by simp,rfl,by simp⟩
theorem Li.left (h:Li a b i k vs m) (hx:a[i]?=some x) (hs:Wk a b i k=true):Li a b (i+1) k (vs++[x]) (max m x.plus):=by
 have hl:=(List.getElem?_eq_some_iff.1 hx).1;have:=h.ln;refine⟨hl,h.hk,?_,by rw[Lq,←h.mo],by simp;omega⟩;rw[←h.eq,CG hx,List.append_assoc];congr 1;by_cases q:k<b.length
 ·obtain⟨y,hy⟩:∃y,b[k]?=some y:=⟨_,List.getElem?_eq_getElem q⟩;rw[←VM hx hy,decide_eq_true_eq] at hs;rw[CG hy,Fc,Jg,if_pos hs];rfl
 grind [List.drop_eq_nil_of_le,Fc,Jg]
theorem Li.right (h:Li a b i k vs m) (hy:b[k]?=some y) (hs:Wk a b i k=false) (h2:ZK a b i k=true):Li a b i (k+1) (vs++[y]) (max m y.plus):=by
 have hl:=(List.getElem?_eq_some_iff.1 hy).1;have:=h.ln;refine⟨h.hi,hl,?_,by rw[Lq,←h.mo],by simp;omega⟩;rw[←h.eq,CG hy,List.append_assoc];congr 1;by_cases q:i<a.length
 ·obtain⟨x,hx⟩:∃x,a[i]?=some x:=⟨_,List.getElem?_eq_getElem q⟩;rw[←VJ hx hy,decide_eq_true_eq] at h2;rw[CG hx,YH h2];rfl
 grind [List.drop_eq_nil_of_le,Fc]
theorem Li.both (h:Li a b i k vs m) (hx:a[i]?=some x) (hy:b[k]?=some y) (hs:Wk a b i k=false) (h2:ZK a b i k=false):Li a b (i+1) (k+1) (vs++[⟨x.index,max x.plus y.plus⟩]) (max m (max x.plus y.plus)):=by
 have hl:=(List.getElem?_eq_some_iff.1 hx).1;have hl':=(List.getElem?_eq_some_iff.1 hy).1;have:=h.ln;rw[←VM hx hy,decide_eq_false_iff_not] at hs;rw[←VJ hx hy,decide_eq_false_iff_not] at h2;refine⟨hl,hl',?_,by rw[Lq,←h.mo],by simp;omega⟩;rw[←h.eq,CG hx,CG hy,List.append_assoc,Fc,Jg,if_neg hs,if_neg h2];rfl
theorem Li.fin (h:Li a b i k vs m) (hc:¬(i<a.length∨k<b.length)):vs=Fc a b∧m=QU vs:=by
 refine⟨?_,h.mo⟩;rw[←h.eq,List.drop_eq_nil_of_le Af,List.drop_eq_nil_of_le Af];simp[Fc]
end
theorem Rb:∀{vs:List CN}{lo:Int},VS vs→(∀v∈vs,lo≤v.index∧v.index<8)→lo≤8→(vs.length:Int)≤8 - lo
 | [],lo,_,_,h=>by simp;omega
 | x::vs,lo,ha,hv,h=>by
  rw[VS,List.pairwise_cons] at ha;have hx:=hv x Ag;have:=Rb (vs:=vs) (lo:=x.index+1) ha.2 (fun v hv'=>⟨by have:=ha.1 v hv';omega,(hv v (by simp[hv'])).2⟩) Af;simp only[List.length_cons];omega
structure Sy (l:DK):Prop where
 c:0≤l.const∧l.const≤100
 asc:VS l.vars
 rg:∀v∈l.vars,(0≤v.plus∧v.plus≤100)∧ -65536≤v.index∧v.index<8
theorem Sy.len {l:DK}(h:Sy l):l.vars.length≤65544:=by
 have:=Rb (lo:= -65536) h.asc (fun v hv=>(h.rg v hv).2) Af;omega
theorem Sy.nd {l:DK}(h:Sy l):dc l :=
 ⟨by have:=h.len;simp only[C7];omega,by have:=h.c;unfold Hx;omega,fun v hv=>by have:=h.rg v hv;unfold Hx;omega⟩
theorem Sy.of {l:DK}(h:Dk l=true):Sy l:=by
 have h0:=X7 h;have h':=h;simp only[Dk,Bool.and_eq_true,decide_eq_true_eq] at h';exact⟨h0,(QM h'.2).1,fun v hv=>by obtain⟨i,hi⟩:=List.mem_iff_getElem?.1 hv;exact dw h hi⟩
theorem Sy.one {v:CN}(h:(0≤v.plus∧v.plus≤100)∧ -65536≤v.index∧v.index<8):Sy ⟨0,[v]⟩:=⟨by simp,by simp[VS],by simpa using h⟩
theorem Sy.num {n:Int}(h:0≤n∧n≤100):Sy ⟨n,[]⟩:=⟨h,by simp[VS],by simp⟩
theorem Sy.plus {l:DK}{n:Int}(hl:Dk l=true) (h0:0≤n) (h1:n≤100) (he:(Mn l n).2=0):Sy (Mn l n).1:=by
 rcases S6 hl h0 h1 with ⟨e,_⟩ | ⟨e,q1,q2⟩
 ·grind
 have h:=Sy.of hl;have hc:=h.c;rw[e];refine⟨?_,dI h.asc,fun w hw=>?_⟩
 ·grind [P5]
 simp only[List.mem_map] at hw;obtain⟨u,hu,rfl⟩:=hw;have:=h.rg u hu
 grind [eO]
section
variable {ps:List DK}{q p:DK}{vs:List CN}{v:CN}{i:Nat}
theorem U6 {α:Type} [Inhabited α] {l:List α}{i:Nat}{x:α}(h:l[i]?=some x):l.getD i default=x:=by rw[List.getD_eq_getElem?_getD,h];rfl
end
end Go.Eu
namespace Go.Proofs.YtajnpndfkbnkoaaGreat
open Go.Abs
theorem W {G C:Prop}(k:C) (h:Kp C→G:=by
 intro kZ
 repeat (first
  | (refine jc rfl ?_;first
   | (refine gT 1 rfl ?_;first | refine Ak [0] rfl jG ?_ | refine Ak [0] rfl im ?_ | refine Ak [0] rfl il ?_ | refine Ak [0] rfl jC ?_ | refine Ak [0] rfl jJ ?_ | refine Ak [0] rfl ij ?_ | refine ik [] rfl ?_ | fail)
   | (refine gT 2 rfl ?_;first | refine gS 1 rfl rfl ?_ | refine gS 0 rfl rfl ?_ | fail)
   | (refine gT 3 rfl ?_;first | refine jr rfl fun bZ=>?_ | refine jb rfl rfl fun bZ=>?_ | fail)
   | (refine gT 4 rfl ?_;first | refine Ak [0] rfl ir ?_ | refine jP rfl rfl rfl fun xZ hZ=>?_ | fail)
   | refine jq rfl ?_
   | refine ik [] rfl ?_
   | refine Ak [0] rfl jE ?_
   | refine Ak [0] rfl (Jj rfl rfl) ?_
   | fail)
  | (refine jd ?_;first
   | (refine gH 7 rfl ?_;refine iW rfl ?_)
   | (refine gH 1 rfl ?_;first | refine aX rfl rfl (hop:=fun _ _ hi=>jG (hi:=hi)) (next:=?_) | refine aX rfl rfl (hop:=fun _ _ hi=>im (hi:=hi)) (next:=?_) | refine aX rfl rfl (hop:=fun _ _ hi=>il (hi:=hi)) (next:=?_) | refine aX rfl rfl (hop:=fun _ _ hi=>jC (hi:=hi)) (next:=?_) | refine UY rfl (fun _=>jJ) ?_ | refine UY rfl (fun _=>ij) ?_ | refine iw [] rfl ?_ | fail)
   | (refine gH 2 rfl ?_;first | refine dS 1 rfl rfl ?_ | refine dS 0 rfl rfl ?_ | fail)
   | (refine gH 3 rfl ?_;first | refine je rfl rfl fun bZ=>?_ | refine gh rfl rfl rfl fun bZ=>?_ | fail)
   | (refine gH 4 rfl ?_;first | refine UY rfl (fun _=>ir) ?_ | refine ji rfl rfl rfl fun xZ hZ=>?_ | fail)
   | refine jN rfl ?_
   | refine iw [] rfl ?_
   | refine UY rfl (fun _=>jE) ?_
   | refine UY rfl (fun _=>Jj rfl rfl) ?_
   | fail)
  | refine jW rfl ?_
  | fail)
 repeat (first | revert hZ | revert xZ | revert bZ)
 exact kZ.get):G:=h ⟨k⟩
theorem C {G A B:Prop}(k1:A) (k2:B) (h:Kp A→Kp B→G:=by
 intro kZ1 kZ2;refine W ?_;refine BH [0] O kZ1.get kZ2.get):G:=h ⟨k1⟩ ⟨k2⟩
theorem _root_.Go.Ac {α:Prop}(h:α:=by assumption):α:=h
theorem R1 {G:Prop}(h:G:=by first | exact⟨rfl,rfl⟩ | exact⟨⟨_,rfl⟩,rfl⟩ | exact⟨⟨_,rfl,fun h=>absurd h Ae⟩,rfl⟩ | exact⟨⟨_,rfl,fun h=>absurd h Ac⟩,rfl⟩ | exact⟨_,rfl,rfl⟩ | fail):G:=h
theorem R0 {G:Prop}(h:G:=by
 refine W ?_;refine BF [0] O ?_
 first | exact B7 [] [] rfl rfl R1 | exact B7 [0] [] rfl rfl R1 | exact B7 [1] [] rfl rfl R1 | exact B7 [2] [] rfl rfl R1 | exact B7 [3] [] rfl rfl R1 | exact B7 [] [0] rfl rfl R1 | exact B7 [0] [2] rfl rfl R1 | exact B7 [1] [3] rfl rfl R1 | exact B7 [2] [4] rfl rfl R1 | exact B7 [3] [5] rfl rfl R1 | exact B7 [3] [6] rfl rfl R1 | exact B7 [4] [6] rfl rfl R1 | exact B7 [4] [7] rfl rfl R1 | exact B7 [5] [7] rfl rfl R1 | exact B7 [6] [8] rfl rfl R1 | exact B7 [6] [9] rfl rfl R1 | exact B7 [0] [1] rfl rfl R1 | exact B7 [] [1] rfl rfl R1 | fail):G:=h
theorem U {G C:Prop}(h:Kp C→G:=by
 intro kZ;refine W ?_;refine BF [0] O ?_
 first | exact B7 [] [] rfl rfl ⟨kZ.get,rfl⟩ | exact B7 [0] [] rfl rfl ⟨kZ.get,rfl⟩ | exact B7 [1] [] rfl rfl ⟨kZ.get,rfl⟩ | exact B7 [2] [] rfl rfl ⟨kZ.get,rfl⟩ | exact B7 [3] [] rfl rfl ⟨kZ.get,rfl⟩ | exact B7 [] [0] rfl rfl ⟨kZ.get,rfl⟩ | exact B7 [0] [2] rfl rfl ⟨kZ.get,rfl⟩ | exact B7 [1] [3] rfl rfl ⟨kZ.get,rfl⟩ | exact B7 [2] [4] rfl rfl ⟨kZ.get,rfl⟩ | exact B7 [3] [5] rfl rfl ⟨kZ.get,rfl⟩ | exact B7 [3] [6] rfl rfl ⟨kZ.get,rfl⟩ | exact B7 [4] [6] rfl rfl ⟨kZ.get,rfl⟩ | exact B7 [4] [7] rfl rfl ⟨kZ.get,rfl⟩ | exact B7 [5] [7] rfl rfl ⟨kZ.get,rfl⟩ | exact B7 [6] [8] rfl rfl ⟨kZ.get,rfl⟩ | exact B7 [6] [9] rfl rfl ⟨kZ.get,rfl⟩ | exact B7 [0] [1] rfl rfl ⟨kZ.get,rfl⟩ | exact B7 [] [1] rfl rfl ⟨kZ.get,rfl⟩ | fail) (k:C):G:=h ⟨k⟩
theorem F {G C E:Prop}(e:E) (k:C) (h:E→Kp C→G:=by
 intro eZ kZ;refine W ?_
 first | refine Cc [0] rfl eZ ?_ | refine UY rfl (fun _=>BM rfl rfl eZ rfl) ?_ | fail
 refine W ?_;exact kZ.get):G:=h e ⟨k⟩
end Go.Proofs.YtajnpndfkbnkoaaGreat
namespace Go.Proofs.YtajnpndfkbnkoaaGreat
open Go.Abs Go.Eu
theorem Xl:∀(l:DK),(dc l)→EE Tryz.prog 102 [.agg ((Dd l).map .p)] (.p (.bool (Dk l))):=by
 intro l h1;have hl:=h1.vars;simp only[C7] at hl;refine Db Tryz.func102 O (DT [0] O O fun b1=>DM [1] 1 [1] 12 ((decide ((l.const:Int)<(0:Int)))||(decide ((l.const:Int) > (100:Int)))) O O ?_ ?_)
 ·refine A9 [4,0] 8 rfl rfl ?_ ?_<;>intro g
  ·exact Bu [4] O
  exact Bu [4,0] O
 refine BH [0] rfl ?_ ?_<;>intro c
 ·exact U (k:=by exact pB (de c))
 refine F3 (α:=Nat) [1] [1] [0] (fun i=>[(3,.p (I (i:Int)))]) (fun _=>[]) (fun i=>l.vars.length - i) (fun i=>i≤l.vars.length∧(CY l.const l.vars 0=CY l.const l.vars i)) 0 O O O (⟨by omega,rfl⟩) ?_;rintro i hC
 try simp only at hC
 have ⟨hi,hC⟩:=hC;refine C ?_ ?_<;>intro c1
 ·refine Em [3,0] l.vars i O O O (IK (f:=Mu) fun _=>O) (fun x hx=>?_);refine DR [1] O (Am bp O) fun b4=>DM [1,0,1] 7 [1,3,4] 42 ((((decide ((x.index:Int)<(-65536:Int)))||(decide ((x.index:Int)≥(8:Int))))||(decide ((x.plus:Int)<(0:Int))))||(decide ((x.plus:Int) > (100:Int)))) O O ?_ ?_
  ·refine A9 [4,0] 28 rfl rfl ?_ ?_<;>intro g
   ·exact Bu [14] O
   refine A9 [5,0] 33 rfl rfl ?_ ?_<;>intro g1
   ·exact Bu [9] O
   refine A9 [5,0] 38 rfl rfl ?_ ?_<;>intro g2
   ·exact Bu [4] O
   exact Bu [4,0] O
  refine BH [0] rfl ?_ ?_<;>intro c2
  ·exact U (k:=by exact pB (Rp hC (X1 hx (dU c2))))
  refine DM [0] 9 [1,3,4] 56 (!(Ju (KZ l.vars i) x.index)) O O ?_ ?_
  ·refine W ?_;refine HV 45 O (fun g=>?_) (fun g=>?_)
   ·simp only[sd,se] at g;refine W ?_;intro x1 hx1;exact Bu [0] O (hr:=(by first | (refine pB ?_;exact(Od Af).symm) | (refine pB ?_;exact(Pz hx1 Af).symm)))
   simp only[sd,se] at g;refine W ?_;exact Bu [0] O (hr:=(by first | (refine pB ?_;exact(Od Af).symm) | (refine pB ?_;exact(Pz hx1 Af).symm)))
  refine BH [0] rfl ?_ ?_<;>intro c3
  ·exact U (k:=by exact pB (Rp hC (by rw[Q6 hx];rw[c3];simp)))
  refine DM [0] 11 [1,3] 66 ((decide ((l.const:Int) > (0:Int)))&&(decide ((x.plus:Int)≥(l.const:Int)))) O O ?_ ?_
  ·refine A9 [4,1] 60 rfl rfl ?_ ?_<;>intro g
   ·exact Bu [6,0,1] O
   exact Bu [6] O
  refine BH [0] rfl ?_ ?_<;>intro c4
  ·exact U (k:=by exact pB (Rp hC (X1 hx (ZG c4.1 c4.2))))
  exact Fa [3] 1 (i+1) O (⟨by omega,(hC.trans (ZW hx (bE Af (by simpa using c4)) (by simpa using c3)))⟩)
 refine C6 [0] O ?_;exact U (k:=by exact pB (Z4 Af Af hC Af))
end Go.Proofs.YtajnpndfkbnkoaaGreat
namespace Go.Eu
def bL:Tm→Prop
 | .mk k i n l _=>(i≠0→k=0∨k=12)∧(n≠⟨#[]⟩→k=3)∧(k=2→l.length=1)∧(k≠2→k≠3→l.length=0)
mutual
def Cw:Tm→Prop
 | .mk k i n l ks=>bL (.mk k i n l ks)∧Wi ks
def Wi:List Tm→Prop
 | []=>True
 | t::ts=>Cw t∧Wi ts
end
theorem G4:∀{ts:List Tm},(∀t∈ts,Cw t)→Wi ts
 | [],_=>trivial
 | t::ts,h=>⟨h t List.mem_cons_self,G4 fun x hx=>h x (List.mem_cons_of_mem _ hx)⟩
theorem Uo:∀{ts:List Tm},Wi ts→∀t∈ts,Cw t
 | [],_,_,h=>by cases h
 | t::ts,h,x,hx=>by
  rcases List.mem_cons.1 hx with rfl | hx
  ·exact h.1
  exact Uo h.2 x hx
end Go.Eu
namespace Go.Proofs.YtajnpndfkbnkoaaGreat
open Go.Abs Go.Eu
theorem SF:∀(c:Int),EM Tryz.prog 165 [.p (.int .u8 c)] (C5):=by
 intro c;refine Db Tryz.func165 O (DM [1] 1 [] 2 ((((decide ((c:Int)≥(97:Int)))&&(decide ((c:Int)≤(122:Int))))||((decide ((c:Int)≥(65:Int)))&&(decide ((c:Int)≤(90:Int)))))||((c:Int)==(95:Int))) O O ?_ ?_)
 ·refine A9 [3] 5 rfl rfl ?_ ?_<;>intro g
  ·refine A9 [4] 9 rfl rfl ?_ ?_<;>intro g1
   ·exact Bu [12] O
   refine A9 [3] 12 rfl rfl ?_ ?_<;>intro g2
   ·refine A9 [5] 17 rfl rfl ?_ ?_<;>intro g3
    ·exact Bu [4] O
    exact Bu [4] O
   exact Bu [9] O
  refine A9 [7] 12 rfl rfl ?_ ?_<;>intro g1
  ·refine A9 [5] 17 rfl rfl ?_ ?_<;>intro g2
   ·exact Bu [4] O
   exact Bu [4] O
  exact Bu [9] O
 exact R0
theorem _root_.Go.AO {α:Prop}(h:α:=by first | trivial | omega | simp | (simp;omega)):α:=h
theorem XD:∀(s:ByteArray),(s.size<C7)→EM Tryz.prog 119 [.p (.str s)] (C5):=by
 intro s h1;simp only[C7] at h1;refine Db Tryz.func119 O (CS [1] 1 [0] 12 C5 O O ?_ ?_)
 ·refine W ?_;refine A9 [0] 8 rfl rfl ?_ ?_<;>intro g
  ·exact Bu [4] O (hr:=⟨_,O⟩)
  exact Ak [1] O (ER bQ O) (Bu [2] O (hr:=⟨_,O⟩))
 rintro _ ⟨q,rfl⟩;refine BH [0] rfl ?_ ?_<;>intro c
 ·exact R0
 refine F3 (α:=Nat×Bool) [2] [0] [] (fun(i,f)=>[(3,.p (.bool f)),(4,.p (I (i:Int)))]) (fun _=>[]) (fun(i,f)=>s.size - i) (fun(i,f)=>i≤s.size) ⟨0,true⟩ O O O AO ?_;rintro⟨i,f⟩ hC
 try simp only at hC
 have hi:=hC;refine Ak [2] O (ER bQ O) ?_;refine C ?_ ?_<;>intro c1
 ·obtain⟨ch,hch⟩:∃c,(s)[i]?=some c:=⟨_,getElem?_pos s i Af⟩;refine Ak [2] O (PW bQ O O Af (by simpa using hch)) ?_;refine C ?_ ?_<;>intro c2
  ·refine De [1] O (Ci O O (BC O O (SF ch.toNat) (.inl O)) ?_);rintro _ ⟨q1,rfl⟩;refine BT (BH [1] rfl ?_ ?_)<;>intro c3
   ·exact R0
   exact Fa [4] 0 ⟨i+1,false⟩ O Af
  refine C ?_ ?_<;>intro c3
  ·exact Fa [4] 0 ⟨i+1,true⟩ O Af
  refine CS [0] 14 [0,3,4] 42 C5 O O ?_ ?_
  ·refine De [1] O (Ci O O (BC O O (SF ch.toNat) (.inl O)) ?_);rintro _ ⟨q1,rfl⟩;refine BT (A9 [2] 31 rfl rfl ?_ ?_)<;>intro g
   ·refine A9 [4] 35 rfl rfl ?_ ?_<;>intro g1
    ·refine A9 [3] 38 rfl rfl ?_ ?_<;>intro g2
     ·exact Bu [4] O (hr:=⟨_,O⟩)
     exact Bu [4] O (hr:=⟨_,O⟩)
    exact Bu [7] O (hr:=⟨_,O⟩)
   exact Bu [11] O (hr:=⟨_,O⟩)
  rintro _ ⟨r,rfl⟩;refine BH [0] rfl ?_ ?_<;>intro c4
  ·exact R0
  exact Fa [3] 0 ⟨i+1,f⟩ O Af
 exact C6 [0] O R0
theorem _root_.Go.AH {α:Prop}(h:α:=by refine pB (Bool.eq_iff_iff.2 ?_);simp only[beq_iff_eq,decide_eq_true_eq];omega):α:=h
theorem dD:∀(k:Int),EE Tryz.prog 164 [.p (I k)] (.p (I (arity k))):=by
 intro k;refine Db Tryz.func164 O (DM [4] 999999 [3] 4 (decide (k=4∨k=5∨k=6∨k=7)) O O ?_ ?_)
 ·refine BH [0] rfl ?_ ?_<;>intro c
  ·exact Bu [0] O (hr:=AH)
  refine C ?_ ?_<;>intro c1
  ·exact Bu [0] O (hr:=AH)
  refine C ?_ ?_<;>intro c2
  ·exact Bu [0] O (hr:=AH)
  exact Bu [2] O (hr:=AH)
 refine BH [0] rfl ?_ ?_<;>intro c
 ·exact U (k:=by exact pI (by simp_all [arity]))
 refine DM [2] 999999 [3] 9 (decide (k=8∨k=11)) O O ?_ ?_
 ·refine BH [0] rfl ?_ ?_<;>intro c1
  ·exact Bu [0] O (hr:=AH)
  exact Bu [2] O (hr:=AH)
 refine BH [0] rfl ?_ ?_<;>intro c1
 ·exact U (k:=by exact pI (by simp_all [arity]))
 refine DM [2] 999999 [] 12 (decide (k=9∨k=10)) O O ?_ ?_
 ·refine BH [0] rfl ?_ ?_<;>intro c2
  ·exact Bu [0] O (hr:=AH)
  exact Bu [2] O (hr:=AH)
 refine BH [0] rfl ?_ ?_<;>intro c2
 ·exact U (k:=by exact pI (by simp_all [arity]))
 exact U (k:=by exact pI (by simp_all [arity]))
theorem _root_.Go.AM {α:Prop}(h:α:=by simp only[Bool.or_eq_true,Bool.and_eq_true,beq_iff_eq];omega):α:=h
theorem Zh:∀(k i:Int),EE Tryz.prog 121 [.p (I k),.p (I i)] (.p (I (below k i))):=by
 intro k i;refine Db Tryz.func121 O (DM [1] 1 [] 26 ((i==1&&(k==5||k==6||k==7))||(i==2&&k==11)) O O ?_ ?_)
 ·refine A9 [3] 7 rfl rfl ?_ ?_<;>intro g
  ·refine A9 [3] 10 rfl rfl ?_ ?_<;>intro g1
   ·exact Bu [16] O (hr:=pB Ad)
   refine A9 [4] 14 rfl rfl ?_ ?_<;>intro g2
   ·exact Bu [12] O (hr:=pB Ad)
   refine A9 [5] 19 rfl rfl ?_ ?_<;>intro g3
   ·exact Bu [7] O (hr:=pB Ad)
   refine A9 [3] 22 rfl rfl ?_ ?_<;>intro g4
   ·exact Bu [4] O (hr:=pB Ad)
   exact Bu [4] O (hr:=pB Ad)
  refine A9 [15] 22 rfl rfl ?_ ?_<;>intro g1
  ·exact Bu [4] O (hr:=pB Ad)
  exact Bu [4] O (hr:=pB Ad)
 refine BH [0] rfl ?_ ?_<;>intro c
 ·exact U (k:=by exact pI (by unfold below;first | (rw[if_pos AM]) | (rw[if_neg AM])))
 exact U (k:=by exact pI (by unfold below;first | (rw[if_pos AM]) | (rw[if_neg AM])))
theorem Zv:∀(l:DK) (a b:Int),(dc l)→EM Tryz.prog 120 [.agg ((Dd l).map .p),.p (I a),.p (I b)] (J0):=by
 intro l a b h1;have hl:=h1.vars;simp only[C7] at hl;refine Db Tryz.func120 O (W ?_);intro b3;refine F (Xl l h1) ?_;refine BH [0] rfl ?_ ?_<;>intro c
 ·exact R0
 refine F3 (α:=Nat) [1] [1,2,3] [0] (fun i=>[(7,.p (I (i:Int)))]) (fun _=>[]) (fun i=>l.vars.length - i) (fun i=>i≤l.vars.length) 0 O O O AO ?_;rintro i hC
 try simp only at hC
 have hi:=hC;refine C ?_ ?_<;>intro c1
 ·refine CS [0] 6 [1,2,3,7] 35 C5 O O ?_ ?_
  ·refine W ?_;intro x hx;refine A9 [0] 26 rfl rfl ?_ ?_<;>intro g
   ·refine W ?_;exact Bu [0] O (hr:=⟨_,O⟩)
   exact Bu [9] O (hr:=⟨_,O⟩)
  rintro _ ⟨q,rfl⟩;refine BH [0] rfl ?_ ?_<;>intro c2
  ·exact R0
  exact Fa [3] 0 (i+1) O Af
 refine C6 [0] O (F3 (α:=Nat) [1] [2,3] [0] (fun i=>[(8,.p (I (i:Int)))]) (fun _=>[]) (fun i=>l.vars.length - i) (fun i=>i≤l.vars.length) 0 O O O AO ?_);rintro i hC1
 try simp only at hC1
 have hi:=hC1;refine C ?_ ?_<;>intro c2
 ·refine CS [0] 11 [2,3,8] 60 C5 O O ?_ ?_
  ·refine W ?_;intro x hx;refine A9 [0] 50 rfl rfl ?_ ?_<;>intro g
   ·refine W ?_;exact Ak [0] O (Gw O O) (Bu [3] O (hr:=⟨_,O⟩))
   exact Bu [10] O (hr:=⟨_,O⟩)
  rintro _ ⟨q,rfl⟩;refine BH [0] rfl ?_ ?_<;>intro c3
  ·exact R0
  exact Fa [3] 0 (i+1) O Af
 exact C6 [0] O R0
theorem dt:∀(t:Tm),EM Tryz.prog 118 [.agg ((BB t).map .p)] (fun v=>∃bb:Bool,v= .p (.bool bb)∧(bb=true→Tz t∧bL t)):=by
 intro t;obtain⟨tk,ti,tn,tl,ts⟩:=t;refine Db Tryz.func118 O ?_;refine DT [0] O O fun b1=>?_;refine DM [1] 1 [1] 19 (decide (tk<0)||decide (tk≥13)||(ts.length:Int) !=arity tk) O O ?_ ?_
 ·refine W ?_;refine HV 6 O (fun g=>?_) (fun g=>?_)
  ·simp only[sd,se] at g;refine W ?_;exact Bu [0] O (hr:=(by refine pB ?_;first | (simp_all;done) | (rw[decide_eq_false (by omega:¬tk<0),decide_eq_false (by omega:¬tk≥13)];simp[Av];done)))
  simp only[sd,se] at g;refine W ?_;refine HV 11 O (fun g1=>?_) (fun g1=>?_)
  ·simp only[sd,se] at g1;refine W ?_;exact Bu [0] O (hr:=(by refine pB ?_;first | (simp_all;done) | (rw[decide_eq_false (by omega:¬tk<0),decide_eq_false (by omega:¬tk≥13)];simp[Av];done)))
  simp only[sd,se] at g1;refine F (dD tk) ?_;exact Bu [0] O (hr:=(by refine pB ?_;first | (simp_all;done) | (rw[decide_eq_false (by omega:¬tk<0),decide_eq_false (by omega:¬tk≥13)];simp[Av];done)))
 refine BH [0] rfl ?_ ?_<;>intro c
 ·exact U (k:=by exact⟨_,rfl,by first | exact fun h=>absurd h Ae | exact fun h=>⟨hf,hi,hn,by simp only[beq_iff_eq,decide_eq_true_eq] at *;intro _;omega,by simp only[beq_iff_eq,decide_eq_true_eq] at *;intro _ _;omega⟩⟩)
 have hf:Tz (.mk tk ti tn tl ts):=by simp only[Tz];omega
 refine CS [0] 3 [1] 32 (fun y=>∃b:Bool,y= .p (.bool b)∧(b=false→ti≠0→tk=0∨tk=12)) O O ?_ ?_
 ·refine A9 [4,0] 23 rfl rfl ?_ ?_<;>intro g
  ·refine A9 [5,0] 28 rfl rfl ?_ ?_<;>intro g1
   ·exact Bu [4,0] O (hr:=(by refine⟨_,rfl,fun h=>?_⟩;first | omega | (simp_all;done) | (simp_all;omega)))
   exact Bu [4] O (hr:=(by refine⟨_,rfl,fun h=>?_⟩;first | omega | (simp_all;done) | (simp_all;omega)))
  exact Bu [9] O (hr:=(by refine⟨_,rfl,fun h=>?_⟩;first | omega | (simp_all;done) | (simp_all;omega)))
 rintro _ ⟨q1,rfl,hq1⟩;refine BH [0] rfl ?_ ?_<;>intro c1
 ·exact U (k:=by exact⟨_,rfl,by first | exact fun h=>absurd h Ae | exact fun h=>⟨hf,hi,hn,by simp only[beq_iff_eq,decide_eq_true_eq] at *;intro _;omega,by simp only[beq_iff_eq,decide_eq_true_eq] at *;intro _ _;omega⟩⟩)
 have hi:=hq1 (by simpa using c1);refine CS [0] 5 [1] 40 (fun y=>∃b:Bool,y= .p (.bool b)∧(b=false→tn≠nE→tk=3)) O O ?_ ?_
 ·refine Ak [2,0] O (Jk O O) ?_;refine A9 [1] 36 rfl rfl ?_ ?_<;>intro g
  ·exact Bu [4,0] O (hr:=(by refine⟨_,rfl,fun h hne=>?_⟩;first | exact absurd (Gv g) hne | (simp only[bne_eq_false_iff_eq] at h;exact h)))
  exact Bu [4] O (hr:=(by refine⟨_,rfl,fun h hne=>?_⟩;first | exact absurd (Gv g) hne | (simp only[bne_eq_false_iff_eq] at h;exact h)))
 rintro _ ⟨q2,rfl,hq2⟩;refine BH [0] rfl ?_ ?_<;>intro c2
 ·exact U (k:=by exact⟨_,rfl,by first | exact fun h=>absurd h Ae | exact fun h=>⟨hf,hi,hn,by simp only[beq_iff_eq,decide_eq_true_eq] at *;intro _;omega,by simp only[beq_iff_eq,decide_eq_true_eq] at *;intro _ _;omega⟩⟩)
 have hn:=hq2 (by simpa using c2);refine C ?_ ?_<;>intro c3
 ·exact U (k:=by exact⟨_,rfl,by first | exact fun h=>absurd h Ae | exact fun h=>⟨hf,hi,hn,by simp only[beq_iff_eq,decide_eq_true_eq] at *;intro _;omega,by simp only[beq_iff_eq,decide_eq_true_eq] at *;intro _ _;omega⟩⟩)
 refine W ?_;refine A9 [0] 52 rfl rfl ?_ ?_<;>intro g
 ·exact U (k:=by exact⟨_,rfl,by first | exact fun h=>absurd h Ae | exact fun h=>⟨hf,hi,hn,by simp only[beq_iff_eq,decide_eq_true_eq] at *;intro _;omega,by simp only[beq_iff_eq,decide_eq_true_eq] at *;intro _ _;omega⟩⟩)
 exact U (k:=by exact⟨_,rfl,by first | exact fun h=>absurd h Ae | exact fun h=>⟨hf,hi,hn,by simp only[beq_iff_eq,decide_eq_true_eq] at *;intro _;omega,by simp only[beq_iff_eq,decide_eq_true_eq] at *;intro _ _;omega⟩⟩)
theorem _root_.Go.AB {α:Prop}(h:α:=by repeat' first | exact trivial | refine And.intro ?_ ?_ | ((refine Or.inr (And.intro ?_ ?_)<;>repeat (first | exact List.Mem.head _ | apply List.Mem.tail));done) | exact Or.inl (by kernel_rfl)):α:=h
theorem aq:∀(n:Nat) (t:Tm) (d vars params metas levels:Int),(size t≤n)→(Nd t)→(0≤d)→(d+n<C7)→EM Tryz.prog 81 [.agg ((BB t).map .p),.p (I d),.p (I vars),.p (I params),.p (I metas),.p (I levels)] (fun v=>∃ee:Int,v= .p (I ee)∧(ee=0→wf vars metas d t∧Cw t)):=by
 intro n
 induction n with
 | zero=>intro t d vars params metas levels h;cases t;simp[size] at h
 | succ n ih =>
  intro t d vars params metas levels h1 h2 h3 h4;simp only[C7] at h4;obtain⟨tk,ti,tn,tl,ts⟩:=t;simp only[size] at h1;simp only[Nd,Hx,C7] at h2;have hks:=DN ts;refine Db Tryz.func81 O (W ?_);intro b6;refine De [0] O (Ci O O (BC O O (dt (.mk tk ti tn tl ts:Tm)) (.inl O)) ?_);rintro _ ⟨q,rfl,hq⟩;refine BT (BH [1] rfl ?_ ?_)<;>intro c
  ·exact U (k:=by exact⟨_,rfl,by first | exact fun h=>absurd h Ae | exact fun h=>absurd h Ac | exact fun _=>⟨⟨hf.1,hf.2.1,hf.2.2,hv1,hv2,IV fun j x hx=>by have h9:=(hC j (by have:=(List.getElem?_eq_some_iff.1 hx).1;omega) x hx).1;simpa using h9⟩,hcn,G4 fun x hx=>by obtain⟨j,hj⟩:=List.mem_iff_getElem?.1 hx;exact(hC j (by have:=(List.getElem?_eq_some_iff.1 hj).1;omega) x hj).2⟩⟩)
  have ⟨hf,hcn⟩:=hq (by simpa using c);refine CS [0] 3 [1,2,3,4,5,6] 28 C5 O O ?_ ?_
  ·refine A9 [4,0] 23 rfl rfl ?_ ?_<;>intro g
   ·refine De [2,0] O (EJ O O O O (BC O O (XD tn h2.1) (.inl O)) ?_);rintro _ ⟨q1,rfl⟩;refine BT (L0 [2] O ?_);exact⟨O,O,AK,⟨_,O⟩,⟨O,O,O,O,O,O,Ah⟩⟩
   exact Bu [5] O (hr:=⟨_,O⟩)
  rintro _ ⟨q1,rfl⟩;refine BH [0] rfl ?_ ?_<;>intro c1
  ·exact U (k:=by exact⟨_,rfl,by first | exact fun h=>absurd h Ae | exact fun h=>absurd h Ac | exact fun _=>⟨⟨hf.1,hf.2.1,hf.2.2,hv1,hv2,IV fun j x hx=>by have h9:=(hC j (by have:=(List.getElem?_eq_some_iff.1 hx).1;omega) x hx).1;simpa using h9⟩,hcn,G4 fun x hx=>by obtain⟨j,hj⟩:=List.mem_iff_getElem?.1 hx;exact(hC j (by have:=(List.getElem?_eq_some_iff.1 hj).1;omega) x hj).2⟩⟩)
  refine C ?_ ?_<;>intro c2
  ·exact U (k:=by exact⟨_,rfl,by first | exact fun h=>absurd h Ae | exact fun h=>absurd h Ac | exact fun _=>⟨⟨hf.1,hf.2.1,hf.2.2,hv1,hv2,IV fun j x hx=>by have h9:=(hC j (by have:=(List.getElem?_eq_some_iff.1 hx).1;omega) x hx).1;simpa using h9⟩,hcn,G4 fun x hx=>by obtain⟨j,hj⟩:=List.mem_iff_getElem?.1 hx;exact(hC j (by have:=(List.getElem?_eq_some_iff.1 hj).1;omega) x hj).2⟩⟩)
  refine F3 (α:=Nat) [1] [1,2,3,4,5,6] [0] (fun i=>[(13,.p (I (i:Int)))]) (fun _=>[]) (fun i=>tl.length - i) (fun i=>i≤tl.length) 0 O O O AO ?_;rintro i hC
  try simp only at hC
  have hi:=hC;refine C ?_ ?_<;>intro c3
  ·refine W ?_;intro x hx;refine De [0] O (Ci O O (BC O O (Zv x params levels (h2.2.2.1 _ (List.mem_of_getElem? hx))) (.inl O)) ?_);rintro _ ⟨le,rfl⟩;refine BT (BH [3] rfl ?_ ?_)<;>intro c4
   ·exact U (k:=by exact⟨_,rfl,by first | exact fun h=>absurd h Ae | exact fun h=>absurd h Ac | exact fun _=>⟨⟨hf.1,hf.2.1,hf.2.2,hv1,hv2,IV fun j x hx=>by have h9:=(hC j (by have:=(List.getElem?_eq_some_iff.1 hx).1;omega) x hx).1;simpa using h9⟩,hcn,G4 fun x hx=>by obtain⟨j,hj⟩:=List.mem_iff_getElem?.1 hx;exact(hC j (by have:=(List.getElem?_eq_some_iff.1 hj).1;omega) x hj).2⟩⟩)
   exact Fa [3] 0 (i+1) O Af
  refine C6 [0] O (CS [0] 13 [1,2,3,4,5,6] 66 (fun y=>∃b:Bool,y= .p (.bool b)∧(b=false→tk=0→0≤ti∧ti - d<vars)) O O ?_ ?_)
  ·refine A9 [4,0] 54 rfl rfl ?_ ?_<;>intro g
   ·refine A9 [4,0] 58 rfl rfl ?_ ?_<;>intro g1
    ·exact Bu [8] rfl (hr:=(by refine⟨_,rfl,fun h=>?_⟩;first | (simp_all;done) | (simp_all<;>omega)))
    exact Bu [8,0] rfl (hr:=(by refine⟨_,rfl,fun h=>?_⟩;first | (simp_all;done) | (simp_all<;>omega)))
   exact Bu [12] rfl (hr:=(by refine⟨_,rfl,fun h=>?_⟩;first | (simp_all;done) | (simp_all<;>omega)))
  rintro _ ⟨r,rfl,hr⟩;refine BH [0] rfl ?_ ?_<;>intro c4
  ·exact U (k:=by exact⟨_,rfl,by first | exact fun h=>absurd h Ae | exact fun h=>absurd h Ac | exact fun _=>⟨⟨hf.1,hf.2.1,hf.2.2,hv1,hv2,IV fun j x hx=>by have h9:=(hC j (by have:=(List.getElem?_eq_some_iff.1 hx).1;omega) x hx).1;simpa using h9⟩,hcn,G4 fun x hx=>by obtain⟨j,hj⟩:=List.mem_iff_getElem?.1 hx;exact(hC j (by have:=(List.getElem?_eq_some_iff.1 hj).1;omega) x hj).2⟩⟩)
  have hv1:=hr (by simpa using c4);refine CS [0] 15 [1,2,3,4,5,6] 80 (fun y=>∃b:Bool,y= .p (.bool b)∧(b=false→tk=12→0≤ti∧ti<metas)) O O ?_ ?_
  ·refine A9 [4,0] 70 rfl rfl ?_ ?_<;>intro g
   ·refine A9 [4,0] 74 rfl rfl ?_ ?_<;>intro g1
    ·exact Bu [6] rfl (hr:=(by refine⟨_,rfl,fun h=>?_⟩;first | (simp_all;done) | (simp_all<;>omega)))
    exact Bu [6,0] rfl (hr:=(by refine⟨_,rfl,fun h=>?_⟩;first | (simp_all;done) | (simp_all<;>omega)))
   exact Bu [10] rfl (hr:=(by refine⟨_,rfl,fun h=>?_⟩;first | (simp_all;done) | (simp_all<;>omega)))
  rintro _ ⟨r2,rfl,hr2⟩;refine BH [0] rfl ?_ ?_<;>intro c5
  ·exact U (k:=by exact⟨_,rfl,by first | exact fun h=>absurd h Ae | exact fun h=>absurd h Ac | exact fun _=>⟨⟨hf.1,hf.2.1,hf.2.2,hv1,hv2,IV fun j x hx=>by have h9:=(hC j (by have:=(List.getElem?_eq_some_iff.1 hx).1;omega) x hx).1;simpa using h9⟩,hcn,G4 fun x hx=>by obtain⟨j,hj⟩:=List.mem_iff_getElem?.1 hx;exact(hC j (by have:=(List.getElem?_eq_some_iff.1 hj).1;omega) x hj).2⟩⟩)
  have hv2:=hr2 (by simpa using c5);refine F3 (α:=Nat) [1] [1,2,3,4,5,6] [0] (fun i=>[(15,.p (I (i:Int)))]) (fun _=>[]) (fun i=>ts.length - i) (fun i=>i≤ts.length∧(∀j,j<i→∀x,ts[j]?=some x→wf vars metas (d+below tk j) x∧Cw x)) 0 O O O (⟨by omega,fun j h=>by omega⟩) ?_;rintro i hC1
  try simp only at hC1
  have ⟨hi,hC⟩:=hC1;have hbl:=CK tk i;refine C ?_ ?_<;>intro c6
  ·refine Jf [0] [15] O (DB [3,0] O ?_);have ⟨x,hx⟩:=Ap (l:=ts) (i:=i) Af;refine Aw O (fun _=>Ao Bc O O Af (B9 hx) (An _)) Ah (DB [5,0] O (Aw O (fun _=>BM O O (Zh tk (i:Int)) O) Ah (DB [5] O (G8 [] O O (BC O O (ih x ((d:Int)+(below tk (i:Int):Int)) vars params metas levels (by have:=BW hx;omega) (CE h2.2.2.2.2.1 hx) (by have:=CK tk i;omega) (by have:=CK tk i;simp only[C7];omega)) (.inl O)) Ab (⟨_,1,O,fun h=>absurd h Ae⟩) AB ?_))));rintro _ ⟨e,rfl,he⟩;refine⟨Ah,?_⟩;refine GU [1] rfl (BH [2] rfl ?_ ?_)<;>intro c7
   ·exact U (k:=by exact⟨_,rfl,by first | exact fun h=>absurd h Ae | exact fun h=>absurd h Ac | exact fun _=>⟨⟨hf.1,hf.2.1,hf.2.2,hv1,hv2,IV fun j x hx=>by have h9:=(hC j (by have:=(List.getElem?_eq_some_iff.1 hx).1;omega) x hx).1;simpa using h9⟩,hcn,G4 fun x hx=>by obtain⟨j,hj⟩:=List.mem_iff_getElem?.1 hx;exact(hC j (by have:=(List.getElem?_eq_some_iff.1 hj).1;omega) x hj).2⟩⟩)
   exact Fa [3] 0 (i+1) O (⟨by omega,Dg hC hx (he Af)⟩)
  refine C6 [0] O ?_;exact U (k:=by exact⟨_,rfl,by first | exact fun h=>absurd h Ae | exact fun h=>absurd h Ac | exact fun _=>⟨⟨hf.1,hf.2.1,hf.2.2,hv1,hv2,IV fun j x hx=>by have h9:=(hC j (by have:=(List.getElem?_eq_some_iff.1 hx).1;omega) x hx).1;simpa using h9⟩,hcn,G4 fun x hx=>by obtain⟨j,hj⟩:=List.mem_iff_getElem?.1 hx;exact(hC j (by have:=(List.getElem?_eq_some_iff.1 hj).1;omega) x hj).2⟩⟩)
theorem Xj:∀(f:Tm) (xs:List Tm),(xs.length<C7)→EE Tryz.prog 20 [.agg ((BB f).map .p),.p (.lst (A0 xs))] (.agg ((BB (apply f xs)).map .p)):=by
 intro f xs h1;simp only[C7] at h1;refine Db Tryz.func20 O (W ?_);intro b2 b4;refine F3 (α:=Nat) [0] [1,2,4] [0,1] (fun i=>[(5,.p (I (i:Int)))]) (fun i=>[(1,.box b2 ((BB (apply f (xs.take i))).map .p))]) (fun i=>xs.length - i) (fun i=>i≤xs.length) 0 O O O AO ?_;rintro i hC
 try simp only at hC
 have hi:=hC;refine C ?_ ?_<;>intro c
 ·refine W ?_;intro x hx;generalize hz:(apply f (xs.take i))=z;obtain⟨zk,zi,zn,zl,zs⟩:=z;obtain⟨xk,xi,xn,xl,xs1⟩:=x;refine Aw O (fun _=>Ay Bc Bx O O O O O) Ah (W ?_);exact Fa [0] 0 (i+1) O Af (e2:=wl (oe O) (wl (on (by rw[Oh hx,hz];rfl)) (Js)))
 refine C6 [0] O ?_;exact U (k:=by rw[show i=xs.length by omega,List.take_length];try rfl)
theorem bB:∀(n:Nat) (t:Tm),(size t≤n)→(Nd t)→EE Tryz.prog 82 [.agg ((BB t).map .p)] (.p (I (Ei t))):=by
 intro n
 induction n with
 | zero=>intro t h;cases t;simp[size] at h
 | succ n ih =>
  intro t h1 h2;obtain⟨tk,ti,tn,tl,ts⟩:=t;simp only[size] at h1;simp only[Nd,C7] at h2;refine Db Tryz.func82 O (W ?_);intro b1;refine F3 (α:=Nat×Int) [0] [1] [0] (fun(i,m)=>[(3,.p (I m)),(4,.p (I (i:Int)))]) (fun _=>[]) (fun(i,m)=>ts.length - i) (fun(i,m)=>i≤ts.length∧(Hc m (ts.drop i)=Hc 1 ts)) ⟨0,1⟩ O O O Ag ?_;rintro⟨i,m⟩ hC
  try simp only at hC
  have ⟨hi,hC⟩:=hC;refine C ?_ ?_<;>intro c
  ·refine W ?_;intro x hx;refine F (ih x (by have:=BW hx;omega) (CE h2.2.2.2.2.1 hx)) (Ak [0] O (EO O O) ?_);exact Fa [4] 0 ⟨i+1,wr (m+Ei x)⟩ O (⟨by omega,by rw[←hC,CG hx];rfl⟩)
  refine C6 [0] O ?_;exact U (k:=by exact pI (by rw[show Ei (.mk tk ti tn tl ts)=Hc 1 ts from rfl,←hC,show i=ts.length by omega,List.drop_length];rfl))
theorem X0:∀(n:Nat) (t:Tm),(size t≤n)→(Nd t)→EE Tryz.prog 83 [.agg ((BB t).map .p)] (.p (I (DZ t))):=by
 intro n
 induction n with
 | zero=>intro t h;cases t;simp[size] at h
 | succ n ih =>
  intro t h1 h2;obtain⟨tk,ti,tn,tl,ts⟩:=t;simp only[size] at h1;simp only[Nd,C7] at h2;refine Db Tryz.func83 O (W ?_);intro b1;refine F3 (α:=Nat×Int) [0] [1] [0] (fun(i,m)=>[(3,.p (I m)),(4,.p (I (i:Int)))]) (fun _=>[]) (fun(i,m)=>ts.length - i) (fun(i,m)=>i≤ts.length∧(E0 m (ts.drop i)=E0 0 ts)) ⟨0,0⟩ O O O Ag ?_;rintro⟨i,m⟩ hC
  try simp only at hC
  have ⟨hi,hC⟩:=hC;refine C ?_ ?_<;>intro c
  ·refine W ?_;intro x hx;refine F (ih x (by have:=BW hx;omega) (CE h2.2.2.2.2.1 hx)) (Ak [0] O (Ky O O) ?_);exact Fa [4] 0 ⟨i+1,max m (DZ x)⟩ O (⟨by omega,by rw[←hC,CG hx];rfl⟩)
  refine C6 [0] O (Ak [1] O (EO O O) ?_);exact U (k:=by exact pI (by rw[show DZ (.mk tk ti tn tl ts)=wr (E0 0 ts+1) from rfl,←hC,show i=ts.length by omega,List.drop_length];rfl))
theorem _root_.Go.AQ {α:Prop}(h:α:=by first | omega | (simp only;omega)):α:=h
theorem _root_.Go.AG {α:Prop}(h:α:=by first | rfl | (refine pB ?_;simp_all;done) | (refine pB ?_;simp_all<;>(intros;omega))):α:=h
theorem Z1:∀{σ:Type}(st:σ→Int→Tm→σ×Bool) (Inv:Nat→σ→Prop) (HP:Bool→σ→List Aj→Prop) (l b2 b3 b4:Nat) (hI:∀m s d t,Inv (m+1) s→Inv m (st s d t).1) (hy:∀m s d t T,Nd t→Inv (m+1) s→HP true s T→Ij Tryz.prog l [.p (I d),TV t] T (RV (.p (.bool (st s d t).2)) (HP (st s d t).2 (st s d t).1))) (n:Nat) (t:Tm) (d:Int) (s:σ) (T0:List Aj) (m:Nat),size t≤n→Nd t→0≤d→d+n<4611686018427387904→Inv (m+size t) s→HP true s T0→BO Tryz.prog 116 [TV t,.p (I d),.ptr b2 0,.ptr b3 0,.ptr b4 0] (.box b2 [.fn (.yield l) [] []]:: .box b3 L8:: .box b4 [.fn (.func 116) [] [.ptr b2 0,.ptr b3 0,.ptr b4 0]]::T0) (RV (.p (.bool (C8 st t d s).2)) (fun H=>∃T,HP (C8 st t d s).2 (C8 st t d s).1 T∧H= .box b2 [.fn (.yield l) [] []]:: .box b3 L8:: .box b4 [.fn (.func 116) [] [.ptr b2 0,.ptr b3 0,.ptr b4 0]]::T)):=by
 intro σ st Inv HP l b2 b3 b4 hI hy n
 induction n with
 | zero=>intro t d s T0 m h;cases t;simp[size] at h
 | succ n ih =>
  intro t d s T0 m h1 h2 h3 h4 h5 h6;obtain⟨tk,ti,tn,tl,ts⟩:=t;have h2':=h2;simp only[size] at h1 h5;simp only[Nd,Hx,C7] at h2;refine Bv Tryz.func116 O eY (n:=50) O O (A4 (Bz O (CJ O) fun b5=>Ar tab 1 [] O (Ax (A4 (Az tab 3 [1,0] O (QC [_,_,_,_] O O O O (hy (m+Aq ts) _ _ _ _ h2' (by rw[Nat.add_assoc,Nat.add_comm (Aq ts)];exact h5) h6) O ?_ (fun _ _ h=>h.elim)))))));rintro _ T ⟨rfl,hT⟩;refine Ar tab 1 [] O (A5 O (fun c=>?_) (fun c=>?_))
  ·simp only[sd,se] at c;refine BD tab 1 [] O (Bk (⟨O,_,_,⟨_,_,O,O,O⟩,(Gs [1,2,3] [_,_,_,_] O),?_⟩));rw[SG c];rw[c] at hT;exact⟨O,_,hT,O⟩
  simp only[sd,se] at c;rw[c] at hT;refine BJ (BD tab 1 [] O (Ax (Ax (DV [1,3,4,5,8] 24 (fun y=>y= .p (.bool ((decide ((tk:Int)≥(0:Int)))&&(decide ((tk:Int)<(13:Int)))))) ?_ ?_))))
  ·refine A1 (Az tab 4 [0] O (Br 20 O (fun g=>?_) (fun g=>?_)))
   ·simp only[sd,se] at g;exact Ar tab 4 [0] O (⟨O,O,AK,AG,⟨O,O,O,O,O,Ah⟩⟩)
   simp only[sd,se] at g;exact Ar tab 4 [] O (⟨O,O,AK,AG,⟨O,O,O,O,O,Ah⟩⟩)
  rintro _ rfl;refine A5 O (fun c1=>?_) (fun c1=>?_)
  ·simp only[sd,se] at c1;refine A1 (Az tab 2 [0] O (Au O (O2 bN bO O O Af Af) (Au O (BL eW O O) (Au O (BQ (i:=2) FV O O (Xo Af)) (Ar tab 1 [] O (Ax (A4 (Az tab 2 [0] O (Au O (Bp Bc O (Av _)) (Ar tab 1 [] O (BG ?_)))))))))));refine C4 (α:=Nat×σ×List Aj) (fun(i,q,U)=>⟨50,mk [(1,.p (I d)),(4,.ptr b4 0),(8,.p (I (HM tk))),(31,.p (.lst (A0 ts))),(32,.p (I (ts.length:Nat))),(33,.p (I (i:Int)))],(.box b2 [.fn (.yield l) [] []]:: .box b3 L8:: .box b4 [.fn (.func 116) [] [.ptr b2 0,.ptr b3 0,.ptr b4 0]]::U),[]⟩) (fun(i,q,U)=>ts.length - i) (fun(i,q,U)=>i≤ts.length∧(Ca st tk d i q (ts.drop i)=Ca st tk d 0 (st s d (.mk tk ti tn tl ts)).1 ts∧Inv (m+Aq (ts.drop i)) q∧HP true q U)) ⟨0,(st s d (.mk tk ti tn tl ts)).1,T⟩ (⟨by omega,by simp,by simpa using hI _ _ _ _ (by rw[Nat.add_assoc,Nat.add_comm (Aq ts)];exact h5),by assumption⟩) ?_ ?_
   ·exact C3 ⟨we O,we O,we O,we O,we O,we O,Ah⟩ (ZD [1,2,3] [_,_,_,_] (l':=[_,_,_]) O (wl (oe O) (wl (oe O) (wl (oe O) (Js)))))
   rintro⟨i,q,U⟩ hC
   try simp only at hC
   have ⟨hi,hC,hJ,hK⟩:=hC;refine BD tab 1 [] O (Ax (A5 O (fun c2=>?_) (fun c2=>?_)))
   ·simp only[sd,se] at c2;refine BJ (Ax (BG (A4 (B6 O ?_))));have ⟨x,hx⟩:=Ap (l:=ts) (i:=i) Af;refine Au O (Ao Bc O O Af (B9 hx) (An _)) (Au O (Bl Bh O (An _)) (Bz O (Am Bx O) fun b10=>Ar tab 2 [0,1] O (BD tab 2 [] O (Ax (BD tab 3 [] O (A5 O (fun c3=>?_) (fun c3=>?_)))))))
    ·simp only[sd,se] at c3;refine A1 (Ar tab 3 [] O (BA (Fx (t:=11) (x:= .p (I (d+below tk i))) (pI (by have:=Sc (k:=tk) (i:=i) Af Af;omega))) (A4 (Az tab 3 [3,0] O (G9 [_] O O O (.inr O) (ih x (d+below tk i) q _ (m+Aq (ts.drop (i+1))) (by have:=BW hx;omega) (CE h2.2.2.2.2.1 hx) (by have:=CK tk i;omega) (by have:=CK tk i;omega) (by rw[CG hx,Aq] at hJ;rw[Nat.add_assoc,Nat.add_comm (Aq _)];exact hJ) hK) (aw (we O) (aw (we O) (aw (we O) (aw (we O) (aw (we O) (HY)))))) ?_ (fun _ _ h=>h.elim))))));rintro _ _ ⟨rfl,T1,hT1,rfl⟩;refine Ar tab 1 [] O (A5 O (fun c4=>?_) (fun c4=>?_))
     ·simp only[sd,se] at c4;refine BD tab 1 [] O (Bk (⟨O,_,_,⟨_,_,O,O,O⟩,(Gs [1,2,3] [_,_,_,_] O),?_⟩));rw[FA Ac,←hC,Gg hx c4];rw[c4] at hT1;exact⟨O,_,hT1,O⟩
     simp only[sd,se] at c4;rw[c4] at hT1;refine BJ (A1 (Ar tab 2 [] O ?_));refine⟨⟨i+1,(C8 st x (d+below tk i) q).1,T1⟩,AQ,⟨by omega,⟨by rw[←hC];exact(IU hx Ac).symm,by rw[CG hx,Aq] at hJ;exact Gq hI x _ _ _ (by rw[Nat.add_assoc,Nat.add_comm (Aq _)];exact hJ) Ac,by assumption⟩⟩,C3 ⟨we rfl,we rfl,we rfl,we rfl,we rfl,we rfl,trivial⟩ (ZD [1,2,3] [_,_,_,_] (l':=[_,_,_]) rfl (wl (oe rfl) (wl (oe rfl) (wl (oe rfl) (Js)))))⟩
    simp only[sd,se] at c3;refine BJ (BA (Fx (t:=11) (x:= .p (I (d+below tk i))) (pI (by have:=P1 (k:=tk) (i:=i) Af;omega))) (A4 (Az tab 3 [3,0] O (G9 [_] O O O (.inr O) (ih x (d+below tk i) q _ (m+Aq (ts.drop (i+1))) (by have:=BW hx;omega) (CE h2.2.2.2.2.1 hx) (by have:=CK tk i;omega) (by have:=CK tk i;omega) (by rw[CG hx,Aq] at hJ;rw[Nat.add_assoc,Nat.add_comm (Aq _)];exact hJ) hK) (aw (we O) (aw (we O) (aw (we O) (aw (we O) (aw (we O) (HY)))))) ?_ (fun _ _ h=>h.elim)))));rintro _ _ ⟨rfl,T1,hT1,rfl⟩;refine Ar tab 1 [] O (A5 O (fun c4=>?_) (fun c4=>?_))
    ·simp only[sd,se] at c4;refine BD tab 1 [] O (Bk (⟨O,_,_,⟨_,_,O,O,O⟩,(Gs [1,2,3] [_,_,_,_] O),?_⟩));rw[FA Ac,←hC,Gg hx c4];rw[c4] at hT1;exact⟨O,_,hT1,O⟩
    simp only[sd,se] at c4;rw[c4] at hT1;refine BJ (A1 (Ar tab 2 [] O ?_));refine⟨⟨i+1,(C8 st x (d+below tk i) q).1,T1⟩,AQ,⟨by omega,⟨by rw[←hC];exact(IU hx Ac).symm,by rw[CG hx,Aq] at hJ;exact Gq hI x _ _ _ (by rw[Nat.add_assoc,Nat.add_comm (Aq _)];exact hJ) Ac,by assumption⟩⟩,C3 ⟨we rfl,we rfl,we rfl,we rfl,we rfl,we rfl,trivial⟩ (ZD [1,2,3] [_,_,_,_] (l':=[_,_,_]) rfl (wl (oe rfl) (wl (oe rfl) (wl (oe rfl) (Js)))))⟩
   simp only[sd,se] at c2;refine Cq (BD tab 1 [] O (Bk (⟨O,_,_,⟨_,_,O,O,O⟩,(Gs [0,1,2] [_,_,_] O),?_⟩)));rw[FA Ac,←hC,show i=ts.length by omega,List.drop_length];exact⟨O,_,hK,O⟩
  simp only[sd,se] at c1;have hbx:=Su (k:=tk) Af;refine BJ (Ax (A4 (Az tab 2 [0] O (Au O (Bp Bc O (Av _)) (Ar tab 1 [] O (BG ?_))))));refine C4 (α:=Nat×σ×List Aj) (fun(i,q,U)=>⟨50,mk [(1,.p (I d)),(4,.ptr b4 0),(8,.p (I (-1))),(31,.p (.lst (A0 ts))),(32,.p (I (ts.length:Nat))),(33,.p (I (i:Int)))],(.box b2 [.fn (.yield l) [] []]:: .box b3 L8:: .box b4 [.fn (.func 116) [] [.ptr b2 0,.ptr b3 0,.ptr b4 0]]::U),[]⟩) (fun(i,q,U)=>ts.length - i) (fun(i,q,U)=>i≤ts.length∧(Ca st tk d i q (ts.drop i)=Ca st tk d 0 (st s d (.mk tk ti tn tl ts)).1 ts∧Inv (m+Aq (ts.drop i)) q∧HP true q U)) ⟨0,(st s d (.mk tk ti tn tl ts)).1,T⟩ (⟨by omega,by simp,by simpa using hI _ _ _ _ (by rw[Nat.add_assoc,Nat.add_comm (Aq ts)];exact h5),by assumption⟩) ?_ ?_
  ·exact C3 ⟨we O,we O,we O,we O,we O,we O,Ah⟩ (ZD [1,2,3] [_,_,_,_] (l':=[_,_,_]) O (wl (oe O) (wl (oe O) (wl (oe O) (Js)))))
  rintro⟨i,q,U⟩ hC
  try simp only at hC
  have ⟨hi,hC,hJ,hK⟩:=hC;refine BD tab 1 [] O (Ax (A5 O (fun c2=>?_) (fun c2=>?_)))
  ·simp only[sd,se] at c2;refine BJ (Ax (BG (A4 (B6 O ?_))));have ⟨x,hx⟩:=Ap (l:=ts) (i:=i) Af;refine Au O (Ao Bc O O Af (B9 hx) (An _)) (Au O (Bl Bh O (An _)) (Bz O (Am Bx O) fun b10=>Ar tab 2 [0,1] O (BD tab 2 [] O (Ax (BD tab 3 [] O (A5 O (fun c3=>?_) (fun c3=>?_)))))))
   ·simp only[sd,se] at c3;refine A1 (Ar tab 3 [] O (BA (Fx (t:=11) (x:= .p (I (d+below tk i))) (pI (by have:=Sc (k:=tk) (i:=i) Af Af;omega))) (A4 (Az tab 3 [3,0] O (G9 [_] O O O (.inr O) (ih x (d+below tk i) q _ (m+Aq (ts.drop (i+1))) (by have:=BW hx;omega) (CE h2.2.2.2.2.1 hx) (by have:=CK tk i;omega) (by have:=CK tk i;omega) (by rw[CG hx,Aq] at hJ;rw[Nat.add_assoc,Nat.add_comm (Aq _)];exact hJ) hK) (aw (we O) (aw (we O) (aw (we O) (aw (we O) (aw (we O) (HY)))))) ?_ (fun _ _ h=>h.elim))))));rintro _ _ ⟨rfl,T1,hT1,rfl⟩;refine Ar tab 1 [] O (A5 O (fun c4=>?_) (fun c4=>?_))
    ·simp only[sd,se] at c4;refine BD tab 1 [] O (Bk (⟨O,_,_,⟨_,_,O,O,O⟩,(Gs [1,2,3] [_,_,_,_] O),?_⟩));rw[FA Ac,←hC,Gg hx c4];rw[c4] at hT1;exact⟨O,_,hT1,O⟩
    simp only[sd,se] at c4;rw[c4] at hT1;refine BJ (A1 (Ar tab 2 [] O ?_));refine⟨⟨i+1,(C8 st x (d+below tk i) q).1,T1⟩,AQ,⟨by omega,⟨by rw[←hC];exact(IU hx Ac).symm,by rw[CG hx,Aq] at hJ;exact Gq hI x _ _ _ (by rw[Nat.add_assoc,Nat.add_comm (Aq _)];exact hJ) Ac,by assumption⟩⟩,C3 ⟨we rfl,we rfl,we rfl,we rfl,we rfl,we rfl,trivial⟩ (ZD [1,2,3] [_,_,_,_] (l':=[_,_,_]) rfl (wl (oe rfl) (wl (oe rfl) (wl (oe rfl) (Js)))))⟩
   simp only[sd,se] at c3;refine BJ (BA (Fx (t:=11) (x:= .p (I (d+below tk i))) (pI (by have:=P1 (k:=tk) (i:=i) Af;omega))) (A4 (Az tab 3 [3,0] O (G9 [_] O O O (.inr O) (ih x (d+below tk i) q _ (m+Aq (ts.drop (i+1))) (by have:=BW hx;omega) (CE h2.2.2.2.2.1 hx) (by have:=CK tk i;omega) (by have:=CK tk i;omega) (by rw[CG hx,Aq] at hJ;rw[Nat.add_assoc,Nat.add_comm (Aq _)];exact hJ) hK) (aw (we O) (aw (we O) (aw (we O) (aw (we O) (aw (we O) (HY)))))) ?_ (fun _ _ h=>h.elim)))));rintro _ _ ⟨rfl,T1,hT1,rfl⟩;refine Ar tab 1 [] O (A5 O (fun c4=>?_) (fun c4=>?_))
   ·simp only[sd,se] at c4;refine BD tab 1 [] O (Bk (⟨O,_,_,⟨_,_,O,O,O⟩,(Gs [1,2,3] [_,_,_,_] O),?_⟩));rw[FA Ac,←hC,Gg hx c4];rw[c4] at hT1;exact⟨O,_,hT1,O⟩
   simp only[sd,se] at c4;rw[c4] at hT1;refine BJ (A1 (Ar tab 2 [] O ?_));refine⟨⟨i+1,(C8 st x (d+below tk i) q).1,T1⟩,AQ,⟨by omega,⟨by rw[←hC];exact(IU hx Ac).symm,by rw[CG hx,Aq] at hJ;exact Gq hI x _ _ _ (by rw[Nat.add_assoc,Nat.add_comm (Aq _)];exact hJ) Ac,by assumption⟩⟩,C3 ⟨we rfl,we rfl,we rfl,we rfl,we rfl,we rfl,trivial⟩ (ZD [1,2,3] [_,_,_,_] (l':=[_,_,_]) rfl (wl (oe rfl) (wl (oe rfl) (wl (oe rfl) (Js)))))⟩
  simp only[sd,se] at c2;refine Cq (BD tab 1 [] O (Bk (⟨O,_,_,⟨_,_,O,O,O⟩,(Gs [0,1,2] [_,_,_] O),?_⟩)));rw[FA Ac,←hC,show i=ts.length by omega,List.drop_length];exact⟨O,_,hK,O⟩
theorem ca:EE Tryz.prog 115 [] (.agg L8):=by
 refine Db Tryz.func115 O (W ?_);intro b0;exact Ak [0] O (Of bN bO bP O) R0
theorem Sm:∀(t:Tm),BO Tryz.prog 76 [.agg ((BB t).map .p)] [] (fun r H'=>∃b,r= .val (.fn (.func 114) [] [.ptr b 0])∧H'=[.box b ((BB t).map .p)]):=by
 intro t;refine Db Tryz.func76 O (W ?_);intro b1;exact R0
theorem Sw:∀{σ:Type}(st:σ→Int→Tm→σ×Bool) (Inv:Nat→σ→Prop) (HP:Bool→σ→List Aj→Prop) (l b1:Nat) (hI:∀m s d t,Inv (m+1) s→Inv m (st s d t).1) (hy:∀m s d t T,Nd t→Inv (m+1) s→HP true s T→Ij Tryz.prog l [.p (I d),TV t] T (RV (.p (.bool (st s d t).2)) (HP (st s d t).2 (st s d t).1))) (t:Tm) (s:σ) (T0:List Aj) (m:Nat),Nd t→size t<4611686018427387904→Inv (m+size t) s→HP true s T0→BO Tryz.prog 114 [.fn (.yield l) [] [],.ptr b1 0] (.box b1 ((BB t).map .p)::T0) (RV (.tup []) (fun H=>∃T,HP (C8 st t 0 s).2 (C8 st t 0 s).1 T∧H= .box b1 ((BB t).map .p)::T)):=by
 intro σ st Inv HP l b1 hI hy t s T0 m h1 h2 h3 h4;refine Db Tryz.func114 O (W ?_);intro b2;refine Cc [0] O (ca ) (DR [0] O (Am bP O) fun b3=>DR [1,0,0] O (Am fp O) fun b4=>De [4,0,0,0,3] O (JS ((List.reverse_perm [_,_,_,_]).symm.append_right _) (G9 [_] O O O (.inr O) (Z1 st Inv HP l b2 b3 b4 hI hy _ t 0 s T0 m (Nat.le_refl _) h1 Af Af h3 h4) (aw (we O) (aw (we O) (aw (we O) (aw (we O) (aw (we O) (HY)))))) ?_ (fun _ _ h=>h.elim))));rintro _ _ ⟨rfl,T,hT,rfl⟩;refine BT (L0 [0] O ?_);refine⟨O,_,_,O,(Gs [0] [_,_,_,_] O),?_⟩;exact⟨O,_,hT,O⟩
theorem _root_.Go.AY {α:Prop}(h:α:=by simp[An]):α:=h
theorem Ri:∀(t:Tm),(Nd t)→(size t<1152921504606846976)→EE Tryz.prog 34 [.agg ((BB t).map .p)] (.p (I (size t:Nat))):=by
 intro t h1 h2;refine DW Tryz.func34 O gY (n:=11) O O (A4 (Bz O (CJ O) fun b1=>Ar tab 1 [] O (A4 (Bz O (Am Wf O) fun b3=>Ar tab 1 [0,0] O (Ax (A4 (Au O (B1 (i:=1) Bh O O AY) ?_)))))));refine Ou [] O O O (.inl ⟨O,O,O⟩) (Sm t) O Ag (aw (we O) HY) ?_ (fun _ _ ⟨_,h,_⟩=>by cases h);rintro _ _ ⟨bn,h,rfl⟩;cases h;refine Ba O (BG (KQ (.inr O) fun dd l L hL=>⟨_,_,CR (is:=[2,0,3]) Ae ⟨_,_,O,O,⟨_,_,O,O,⟨_,_,O,O,O⟩⟩⟩,?_⟩));have hy:∀(m:Nat) (s:Int) (d:Int) (t:Tm) (T:List Aj),Nd t→(fun _ _=>True) (m+1) s→(fun(_:Bool) (s:Int) (T:List Aj)=>T=[.loop l L,.box b3 [.p (I s)]]) true s T→Ij Tryz.prog l [.p (I d),TV t] T (RV (.p (.bool (T6 s d t).2)) ((fun(_:Bool) (s:Int) (T:List Aj)=>T=[.loop l L,.box b3 [.p (I s)]]) (T6 s d t).2 (T6 s d t).1)):=by
  rintro m s d tt T hnd hinv rfl;subst hL;refine L9 (i:=0) O O O O (BJ ⟨O,0,O,?_⟩);refine BG (A1 (Au O (BQ (i:=1) FV O O O) (Au O (EO O O) (Ar tab 1 [1,0] O ⟨0,_,O,Fe (is:=[0,1]) O,?_⟩))));exact⟨O,O⟩
 refine(Sw T6 (fun _ _=>True) (fun(_:Bool) (s:Int) (T:List Aj)=>T=[.loop l L,.box b3 [.p (I s)]]) l bn (fun _ _ _ _ _=>Ah) hy t 0 _ 0 (h1) Af (Ah) O).mono ?_;rintro(v | v) H' hR
 rotate_left
 ·exact hR.elim
 obtain⟨rfl,_,rfl,rfl⟩:=hR;subst hL;refine⟨1,_,O,Ag,?_⟩;refine BD tab 2 [1] O (Bk (⟨2,O,_,_,⟨_,_,O,O,O⟩,(List.nil_sublist _),?_⟩))
 all_goals exact⟨pI (by rw[TF 4611686018427387904 (Int.le_refl _) t 0 0 Af Af];simp),rfl⟩
theorem Nr:∀(n:Nat) (t:Tm),(size t≤n)→(Nd t)→EE Tryz.prog 35 [.agg ((BB t).map .p)] (.p (I (DZ t))):=by
 intro n
 induction n with
 | zero=>intro t h;cases t;simp[size] at h
 | succ n ih =>
  intro t h1 h2;obtain⟨tk,ti,tn,tl,ts⟩:=t;simp only[size] at h1;simp only[Nd,C7] at h2;refine Db Tryz.func35 O (W ?_);intro b1;refine F3 (α:=Nat×Int) [0] [7,8] [] (fun(i,m)=>[(3,.p (I m)),(9,.p (I (i:Int)))]) (fun _=>[]) (fun(i,m)=>ts.length - i) (fun(i,m)=>i≤ts.length∧(E0 m (ts.drop i)=E0 0 ts)) ⟨0,0⟩ O O O Ag ?_;rintro⟨i,m⟩ hC
  try simp only at hC
  have ⟨hi,hC⟩:=hC;refine C ?_ ?_<;>intro c
  ·refine W ?_;intro b5 x hx;refine F (ih x (by have:=BW hx;omega) (CE h2.2.2.2.2.1 hx)) (Ak [0] O (Ky O O) ?_);exact Fa [3] 1 ⟨i+1,max m (DZ x)⟩ O (⟨by omega,by rw[←hC,CG hx];rfl⟩)
  refine C6 [0] O (Ak [1] O (EO O O) ?_);exact U (k:=by exact pI (by rw[show DZ (.mk tk ti tn tl ts)=wr (E0 0 ts+1) from rfl,←hC,show i=ts.length by omega,List.drop_length];rfl))
theorem K1:∀(f:Tm) (xs:List Tm),(xs.length<C7)→EE Tryz.prog 36 [.agg ((BB f).map .p),.p (.lst (A0 xs))] (.agg ((BB (apply f xs)).map .p)):=by
 intro f xs h1;simp only[C7] at h1;refine Db Tryz.func36 O (W ?_);intro b2 b4;refine F3 (α:=Nat) [0] [2,4,7,8] [0,1] (fun i=>[(9,.p (I (i:Int)))]) (fun i=>[(1,.box b2 ((BB (apply f (xs.take i))).map .p))]) (fun i=>xs.length - i) (fun i=>i≤xs.length) 0 O O O AO ?_;rintro i hC
 try simp only at hC
 have hi:=hC;refine C ?_ ?_<;>intro c
 ·refine Em [0] xs i O O O (Jt _) (fun x hx=>?_);refine DR [1] O (Am Bx O) fun b6=>?_;generalize hz:(apply f (xs.take i))=z;obtain⟨zk,zi,zn,zl,zs⟩:=z;obtain⟨xk,xi,xn,xl,xs1⟩:=x;exact Ak [3,0,1,2,0] O (Ay Bc Bx O O O O O) (Fa [4,2,0] 1 (i+1) O Af (e2:=wl (oe O) (wl (on (by rw[Oh hx,hz];rfl)) (Js))))
 refine C6 [0] O ?_;exact U (k:=by rw[show i=xs.length by omega,List.take_length];try rfl)
theorem _root_.Go.AS {α:Prop}(h:α:=by simp only[Av];omega):α:=h
theorem _root_.Go.AT {α:Prop}(h:α:=by simp[Av];omega):α:=h
theorem cO:∀(xs:List Tm) (o0:Option Nat) (c0:Nat),(xs.length<C7)→BO Tryz.prog 77 [.vs o0 (A0 xs).length c0] [.vec o0 5 (A0 xs) c0] (Pa (.tup []) [.vec o0 5 (A0 xs.reverse) c0]):=by
 intro xs o0 c0 h1;simp only[C7] at h1;refine Db Tryz.func77 O (Ak [1] O (O6 Bc O (Av _)) (F3 (α:=Nat×List Tm×Option Nat×Nat) [3] [] [0] (fun(i,ys,o,cp)=>[(0,.vs o (A0 ys).length cp),(2,.p (I (i:Int))),(3,.p (I ((xs.length:Int) - 1 - (i:Int))))]) (fun(i,ys,o,cp)=>[(0,.vec o 5 (A0 ys) cp)]) (fun(i,ys,o,cp)=>xs.length - i) (fun(i,ys,o,cp)=>i≤xs.length∧S1 xs ys i∧o=o0∧cp=c0) ⟨0,xs,o0,c0⟩ O O O (⟨by omega,Te xs,rfl,rfl⟩) ?_ (e0:=⟨we rfl,we rfl,we (pI Af),trivial⟩)));rintro⟨i,ys,o,cp⟩ hC
 try simp only at hC
 have ⟨hi,hR,ho,hcp⟩:=hC;have hyl:=hR.1;have hjn:((xs.length:Int) - 1 - (i:Int)).toNat=xs.length - 1 - i:=by omega
 refine C ?_ ?_<;>intro c
 ·refine D5 [0] O (Ku (i:=0) O AT fun b hb=>?_);subst hb;refine CF (Jf [0] [] O ?_);refine W ?_;refine Aw O (fun _=>CW Bc O O Af AS) Ah ?_;have ⟨y,hy⟩:=Ap (l:=ys) (i:=((xs.length:Int) - 1 - (i:Int):Int).toNat) Af;refine Cf (j:=0) O O O (fun H i hi=>LS (i:=i) Bh O hi (B9 hy)) AB Ah (DB [2] O (Aw O (fun _=>CW Bc O O Af AS) Ah ?_));have ⟨y1,hy1⟩:=Ap (l:=ys) (i:=i) Af;refine Cf (j:=0) O O O (fun H i hi=>LS (i:=i) Bh O hi (B9 hy1)) AB Ah (Aw O (fun _=>CW Bc O O Af AS) Ah (Lc O O (Cj (i:=0) (j:=i) Bh O O O (by simp only[Av,List.length_map,List.length_set];omega) O (Gn _) (An _) (Hd _) (MZ ys i y)) AB Ah (Aw O (fun _=>CW Bc O O Af AS) Ah (Lc O O (Cj (i:=0) (j:=(((xs.length:Int) - 1 - (i:Int):Int).toNat)) Bh O O O (by simp only[Av,List.length_map,List.length_set];omega) O (Gn _) (An _) (Hd _) (MZ ((ys).set i y) (((xs.length:Int) - 1 - (i:Int):Int).toNat) y1)) AB Ah (Fj O Ab ?_)))));exact I8 (Fa [6] 0 ⟨i+1,(ys.set i y).set (xs.length - 1 - i) y1,(some b),cp⟩ O (⟨by omega,Tx hR Af hy1 (hjn▸hy),ho,hcp⟩) (e1:=⟨we (EU ys Ag),we rfl,we (pI Af),trivial⟩) (e2:=wl (GP (((ys).set i y).set (((xs.length:Int) - 1 - (i:Int):Int).toNat) y1) (by rw[hjn])) (Js)))
 refine C6 [0] O (L0 [0] O ⟨O,_,_,O,(Fe (is:=[0]) O),?_⟩);refine⟨O,?_⟩;show ([.vec o 5 (A0 ys) cp]:List Aj)=_;rw[T9 hR Af,ho,hcp]
theorem _root_.Go.AU {α:Prop}(h:α:=by simp only[C7];omega):α:=h
theorem _root_.Go.AD {α:Prop}(h:α:=by simp only[Av,List.length_map,List.length_cons,List.length_nil,List.nil_append,List.length_append];omega):α:=h
theorem NU:∀(t:Tm),(Nd t)→(size t<C7)→EE Tryz.prog 41 [.agg ((BB t).map .p)] (.tup [.agg ((BB ((Al t).1)).map .p),.p (.lst (A0 ((Al t).2)))]):=by
 intro t h1 h2;simp only[C7] at h2;refine Db Tryz.func41 O (W ?_);intro b1 b2;refine D5 [0] O (BA (IC (t:=4) (sz:=5) O) ?_);refine CF (F3 (α:=Tm×List Tm×Option Nat×Nat) [0] [1,2] [0,1,2] (fun(tt,ys,o,cp)=>[(4,.vs o (A0 ys).length cp)]) (fun(tt,ys,o,cp)=>[(0,.vec o 5 (A0 ys) cp),(2,.box b1 ((BB tt).map .p))]) (fun(tt,ys,o,cp)=>size tt) (fun(tt,ys,o,cp)=>Al t=((Al tt).1,(Al tt).2++ys.reverse)∧Nd tt∧size tt+ys.length≤size t) ⟨t,[],none,0⟩ O O O (⟨by simp,h1,by simp⟩) ?_);rintro⟨tt,ys,o,cp⟩ hC
 try simp only at hC
 have ⟨hS,hN,hL⟩:=hC;obtain⟨ttk,tti,ttn,ttl,tts⟩:=tt;simp only[size] at hL;refine DM [0] 2 [1,2,4] 13 (((ttk:Int)==(4:Int))&&(((tts.length:Nat):Int)==(2:Int))) O O ?_ ?_
 ·refine A9 [4,2] 8 rfl rfl ?_ ?_<;>intro g
  ·refine W ?_;exact Bu [0] O
  exact Bu [5] O
 refine BH [0] rfl ?_ ?_<;>intro c
 ·refine Em [3,2] tts 1 O O O (Jt _) (fun x hx=>?_);obtain⟨xk,xi,xn,xl,xs⟩:=x;refine Ak [1] O (Ay Bc Bx O O O O O) (De [0] O (IQ O O (C9 (i:=0) (rows':=A0 [(.mk xk xi xn xl xs:Tm)]) Bc Bc Bx O O O O O O (G1 _) AD (XT ys [(.mk xk xi xn xl xs:Tm)])) fun o1 cp1=>BT (Em [3,2] tts 0 O O O (Jt _) (fun x1 hx1=>?_))));exact Fa [2,2,1] 0 ⟨x1,ys++[.mk xk xi xn xl xs],o1,cp1⟩ O (⟨by rw[hS,VT c hx1 hx];simp,CE hN.2.2.2.2.1 hx1,by have:=BW hx1;simp;omega⟩) (hμ:=(by have:=BW hx1;simp only[size];omega))
 refine C6 [0] O (Ak [1] O (Gp [0] O (.inl ⟨O,O,O⟩) (cO ys o cp AU) ⟨_,_,O,O,O⟩ Ae O (.inl O)) (D5 [4,2,1,0] O (BA (Fx (t:=4) (x:= .vs o (A0 ys.reverse).length cp) (EU ys (l':=ys.reverse) Ag)) (BA (Fx (t:=25) (x:= .vs o (A0 ys.reverse).length cp) (EU ys (l':=ys.reverse) Ag)) (BA (Fx (t:=28) (x:= .vs o (A0 ys.reverse).length cp) (EU ys (l':=ys.reverse) Ag)) (BA (Fx (t:=3) (x:= .vs o (A0 ys.reverse).length cp) (EU ys (l':=ys.reverse) Ag)) (BA (CH (i:=0) [4,25,28,3] O (ES ⟨O,O,O,O,Ah⟩)) (CF (BF [0] O (B7 [0] [] O O ?_))))))))));rw[hS,Ow (Classical.or_iff_not_imp_left.2 fun h=>by simp at h;exact fun e=>absurd (c h) (by simp[e]))]
 all_goals exact⟨rfl,rfl⟩
theorem RP:∀(e:Int),BO Tryz.prog 170 [.p (I e)] [] (OP (.p (.iface 223 (I e))) []):=by
 intro e;exact Db Tryz.func170 O (Ak [1] O (Jy bg (by intro ms h;cases h) O) (De [0] O (Ss O O (Pg O) (⟨O,_,List.nil_sublist _,⟨O,O⟩⟩))))
theorem Vb:∀(e:Int),EE Tryz.prog 129 [.p (.iface 223 (I e))] (.p (I e)):=by
 intro e;refine Db Tryz.func129 O (Ak [2] O (OT bg O O) ?_);refine Cr [7] O O (fun c=>by cases c) (fun c=>?_);exact R0
theorem YI:∀(k i:Int),EE Tryz.prog 171 [.p (I k),.p (I i)] (.p (I (below k i))):=by
 intro k i;refine Db Tryz.func171 O (DM [1] 1 [0,1] 5 (((i:Int)==(1:Int))&&((((k:Int)==(5:Int))||((k:Int)==(6:Int)))||((k:Int)==(7:Int)))) O O ?_ ?_)
 ·refine A9 [3] 8 rfl rfl ?_ ?_<;>intro g
  ·refine A9 [3] 11 rfl rfl ?_ ?_<;>intro g1
   ·exact Bu [9] O
   refine A9 [4] 15 rfl rfl ?_ ?_<;>intro g2
   ·exact Bu [5] O
   exact Bu [5] O
  exact Bu [12] O
 refine BH [0] rfl ?_ ?_<;>intro c
 ·refine BH [0] rfl ?_ ?_<;>intro c1
  ·exact U (k:=by exact pI (by unfold below;simp_all))
  exact U (k:=by exact pI (by unfold below;simp_all))
 refine DM [0] 2 [] 5 (((i:Int)==(2:Int))&&((k:Int)==(11:Int))) O O ?_ ?_
 ·refine A9 [3] 22 rfl rfl ?_ ?_<;>intro g
  ·exact Bu [4] O
  exact Bu [4] O
 refine BH [0] rfl ?_ ?_<;>intro c1
 ·exact U (k:=by exact pI (by unfold below;simp_all))
 exact U (k:=by exact pI (by unfold below;simp_all))
theorem Sq:∀(i:Int),BO Tryz.prog 138 [.p (I i)] [] (M7 (fun(r:Tm)=>TV r) (fun e=> .p (.iface 223 (I e))) (fun r H'=>H'=[]) (GM i)):=by
 intro i;refine Db Tryz.func138 O (W ?_);intro b2;refine BH [0] rfl ?_ ?_<;>intro c
 ·refine De [0] O (F9 O O O (.inl ⟨O,O,O⟩) (RP 24) (aw (we O) (HY)) ?_);exact⟨O,_,List.nil_sublist _,⟨_,by unfold GM;rw[if_pos Af],rfl⟩⟩
 refine D5 [3,0,0] O (BA (CI (i:=0) O) ?_);refine CF (BF [0] O (B7 [0] [] O O ⟨(.mk 0 i nE [] []:Tm),by unfold GM;rw[if_neg Af];rfl,rfl,rfl⟩))
theorem Yk:∀(bc:Nat) (n m:Int),BO Tryz.prog 132 [.ptr bc 0,.p (I m)] [.box bc [.p (I n)]] (M7 (fun(r:Int)=> .tup []) (fun e=> .p (.iface 223 (I e))) (fun r H'=>H'=[.box bc [.p (I r)]]) (Sa n m)):=by
 intro bc n m;refine Db Tryz.func132 O (Ak [5,0] O (EO O O) ?_);refine C ?_ ?_<;>intro c
 ·refine De [0] O (F9 O O O (.inl ⟨O,O,O⟩) (RP 5) (aw (we O) (HY)) ?_);exact⟨O,_,List.nil_sublist _,⟨_,by unfold Sa;rw[if_pos Af],rfl⟩⟩
 refine L0 [0] O ⟨O,_,_,O,(Fe (is:=[0]) O),?_⟩;exact⟨(wr (n+m)),by unfold Sa;rw[if_neg Af],rfl,rfl⟩
theorem Ob:∀(t:Tm),(Nd t)→EE Tryz.prog 137 [.agg ((BB t).map .p)] (.agg ((BB (Ly t)).map .p)):=by
 intro t h1;obtain⟨tk,ti,tn,tl,ts⟩:=t;simp only[Nd,C7] at h1;refine Db Tryz.func137 O (DT [0] O O fun b1=>DR [0] O (Am Bx O) fun b2=>DR [7,1,1,1] O (Am Bx O) fun b3=>De [1,0,0] O (CZ (Jc (i:=0) O (eP (aw (we O) (aw (we O) (aw (we O) (aw (L6) (aw (we O) (HY)))))))) (CZ (KG (sz:=2)) (BT (CD [2,3] O O (List.length_map _) ?_)))));refine F3 (α:=Nat×Option Nat×Nat) [1] [2,3,14,15] [0,1,2] (fun(i,o,cp)=>[(16,.p (I (i:Int)))]) (fun(i,o,cp)=>[(0,.vec o 2 (List.map Dd (tl.take i)) cp),(1,.box b3 [.p (I tk),.p (I ti),.p (.str tn),.vs o (List.map Dd (tl.take i)).length cp,.p (.nils)])]) (fun(i,o,cp)=>tl.length - i) (fun(i,o,cp)=>i≤tl.length) ⟨0,none,0⟩ O O O AO ?_;rintro⟨i,o,cp⟩ hC
 try simp only at hC
 have hi:=hC;refine C ?_ ?_<;>intro c
 ·refine Em [0] tl i O O O (IK JP) (fun x hx=>?_);refine DR [1] O (Am Yg O) fun b5=>Jf [1,0,0] [9] O (DB [6,2,0,0] O (Aw O (fun _=>NQ (rows':=List.map Mu x.vars) UL UL bp O O (fun _ _ _ h=>Uu h) O (Uc _) (by have:=h1.2.2.1 x (List.mem_of_getElem? hx);have:=this.1;simp only[C7] at this;simp only[List.length_map];omega)) Ah (Aw O (fun _=>Dx iM Yg O) Ah (Aw O (fun _=>Ay RS Yg O O O O O) Ah (Y7 [] O O (C9 (i:=1) (rows':=List.map Dd [(DK.mk x.const x.vars)]) RS RS Yg O O O O O O (Vv _) (by simp only[List.length_map,List.length_take,List.length_cons,List.length_nil];omega) (IY (f:=Dd) (tl.take i) [(DK.mk x.const x.vars)])) Ab fun o1 cp1=>⟨AB,Ah,?_⟩)))));refine W ?_;exact Fa [0] 1 ⟨i+1,o1,cp1⟩ O Af (e2:=wl (KW (f:=Dd) (tl.take i++[(DK.mk x.const x.vars)]) (by rw[List.take_add_one,hx];rfl)) (wl (eP (aw (we O) (aw (we O) (aw (we O) (aw (we (NM (f:=Dd) (tl.take i++[(DK.mk x.const x.vars)]) (by rw[List.take_add_one,hx];rfl))) (aw (we O) (HY))))))) (wl (oe O) (Js))))
 refine C6 [0] O (De [0] O (CZ (EH (i:=0) (j:=1) (q:=3) [] O O O (ES Ah)) (BT (D5 [2,0,1,0] O ?_))));refine BA (CI (i:=1) O) ?_;refine CF (BF [0] O (B7 [1] [] O O ⟨by rw[show i=tl.length by omega,List.take_length];rfl,rfl⟩))
theorem _root_.Go.AI {α:Prop}(h:α:=by simp only[Av,List.length_append,List.length_replicate,hB.1];omega):α:=h
theorem N0:∀{σ:Type}(vis:σ→Tm→Int→Except Int ((Tm×Bool)×σ)) (HP:σ→List Aj→Prop) (fid:Nat) (caps:List AV) (hv:∀(s:σ) (t:Tm) (d:Int) (T:List Aj),Nd t→Vp t→0≤d→d<C7→HP s T→BO Tryz.prog fid ([TV t,.p (I d)]++caps) T (M7 (fun(r:(Tm×Bool)×σ)=> .tup [TV r.1.1,.p (.bool r.1.2)]) (fun e=> .p (.iface 223 (I e))) (fun r=>HP r.2) (vis s t d))) (n:Nat) (t:Tm) (d:Int) (s:σ) (T0:List Aj),size t≤n→Nd t→Vp t→0≤d→d+size t<C7→HP s T0→BO Tryz.prog 133 [.agg [.fn (.func fid) [] caps],TV t,.p (I d)] T0 (M7 (fun(r:Tm×σ)=>TV r.1) (fun e=> .p (.iface 223 (I e))) (fun r=>HP r.2) (Cv vis t d s)):=by
 intro σ vis HP fid caps hv n
 induction n with
 | zero=>intro t d s T0 h1;exact absurd h1 (by have:=size_pos t;omega)
 | succ n ih =>
  intro t d s T0 h1 h2 h3 h4 h5 h6;simp only[C7] at h5;refine Db Tryz.func133 O ?_;refine W ?_;intro b3 b4 b6;refine De [0] O ?_;refine bK [_,_,_] O O O (.inr O) (hv s t d T0 h2 h3 h4 (by simp only[C7];have:=size_pos t;omega) h6) (B2 _) ?_ ?_
  rotate_left
  ·intro e _ he;exact⟨O,_,List.nil_sublist _,⟨_,Fo he,O⟩⟩
  rintro⟨⟨z,dn⟩,q⟩ T hz hT;refine BT (DR [3] O (Am Bx O) fun b7=>?_);refine C ?_ ?_<;>intro c
  ·refine BF [2,0,1,1] O ?_;refine⟨O,_,_,⟨_,_,O,(CT (i:=1) Bh O O AY),O⟩,(Gs [] [_,_,_,_] O),?_⟩;exact⟨⟨z,q⟩,Eb (by rw[hz,c]),O,hT⟩
  obtain⟨zk,zi,zn,zl,zs⟩:=z;obtain⟨tk,ti,tn,tl,ts⟩:=t;simp only[size] at h1 h5;have hn2:=h2;simp only[Nd,C7] at hn2;refine C ?_ ?_<;>intro c1
  ·refine W ?_;refine De [0] O ?_;refine Il O O (DY Bc Bx O O Ae O O O Af Af Af (P2 (((ts.length:Nat):Int).toNat) t0)) fun b29 cp=>?_;refine BT (CD [4,1,0,3] O O (Av _) ?_);refine D5 [1] O ?_;refine C4 (α:=Nat×List Tm×σ×List Aj×Option Nat×Nat) (fun(i,ys,q1,U,o,cp1)=>⟨54,mk [(2,.p (I d)),(3,.ptr b3 0),(4,.ptr b4 0),(6,.ptr b6 0),(7,.ptr b7 0),(32,.p (.lst (A0 ts))),(33,.p (I (ts.length:Nat))),(34,.p (I (i:Int)))],(.vec o 5 (A0 (ys++List.replicate (ts.length - i) A3)) cp1:: .box b7 [.p (I zk),.p (I zi),.p (.str zn),.p (.lst (List.map Dd zl)),.vs o (A0 (ys++List.replicate (ts.length - i) A3)).length cp1]:: .box b6 iy:: .box b4 [.p (I tk),.p (I ti),.p (.str tn),.p (.lst (List.map Dd tl)),.p (.lst (A0 ts))]:: .box b3 [.fn (.func fid) [] caps]::U),[]⟩) (fun(i,ys,q1,U,o,cp1)=>ts.length - i) (fun(i,ys,q1,U,o,cp1)=>i≤ts.length∧(OS vis tk ts d q i ys q1∧HP q1 U)) ⟨0,[],q,T,(some b29),cp⟩ (⟨by omega,OS.zero _ _ _ _,hT⟩) ?_ ?_
   ·exact C3 ⟨we O,we O,we O,we O,we O,we O,we O,we O,Ah⟩ (ZD [0,1,2,3,4] [_,_,_,_,_] (l':=[_,_,_,_,_]) O (wl (oe O) (wl (oe O) (wl (oe O) (wl (oe O) (wl (oe O) (Js)))))))
   rintro⟨i,ys,q1,U,o,cp1⟩ hC
   try simp only at hC
   have ⟨hi,hB,hU⟩:=hC;have hbl:=CK tk i;refine gg (BH [1] rfl ?_ ?_)<;>intro c2
   ·refine Em [1] ts i O O O (Jt _) (fun x hx=>?_);refine DR [1] O (Am Bx O) fun b10=>?_;refine D5 [2,0,1] O ?_;refine Ku (i:=1) O AT fun b hb=>?_;subst hb;refine CF (Jf [0] [11] O ?_);refine F (YI tk (i:Int)) ?_;refine fX [_,_,_,_,_,_] O O O (.inl ⟨O,O,O⟩) (ih x (d+below tk i) q1 U (by have:=BW hx;omega) (CE h2.2.2.2.2.1 hx) (FU h3.2 hx) (by have:=(CK tk i).1;omega) (by have:=BW hx;have:=CK tk i;simp only[C7];omega) hU) (B2 _) Ab Ab O AB ?_ ?_
    rotate_left
    ·intro e he _ _ hτ;exact⟨O,_,List.nil_sublist _,⟨_,HE (by rw[hz,c]) (hB.err hx he),O⟩⟩
    rintro⟨y,q2⟩ T1 hz1 hT1;refine⟨AB,Ah,?_⟩;refine Aw O (fun _=>CW Bc O O Af AI) Ah ?_;refine Lc O O (Cj (i:=1) (j:=i) Bh O O O AI O (Gn _) (An _) (Hd _) (MZ (ys++List.replicate (ts.length - i) A3) i y)) AB Ah ?_;refine Fj O Ab ?_;refine I8 (L0 [2] O ?_);refine⟨⟨i+1,ys++[y],q2,T1,(some b),cp1⟩,AQ,⟨by omega,⟨hB.succ hx hz1,hT1⟩⟩,C3 ⟨we rfl,we rfl,we rfl,we rfl,we rfl,we rfl,we rfl,we rfl,trivial⟩ (ZD [1,2,3,4,5] [_,_,_,_,_,_] (l':=[_,_,_,_,_]) rfl (wl (GP ((ys++List.replicate (ts.length - i) A3).set i y) (by rw[I5 hB.1 Af];congr 2)) (wl (eP (aw (we rfl) (aw (we rfl) (aw (we rfl) (aw (we rfl) (aw (we (EU (ys++List.replicate (ts.length - i) A3) Aa)) (HY))))))) (wl (oe rfl) (wl (oe rfl) (wl (oe rfl) (Js)))))))⟩
   refine C6 [0] O ?_;refine De [0] O ?_;refine CZ (EH (i:=0) (j:=1) (q:=4) [] O O O (ES Ah)) ?_;refine BT (BF [2,0,1,0] O ?_);refine⟨O,_,_,⟨_,_,O,(CT (i:=1) Bh O O O),O⟩,(Gs [] [_,_,_,_] O),?_⟩;rw[show ts.length - i=0 by omega,List.replicate_zero,List.append_nil];exact⟨⟨.mk zk zi zn zl ys,q1⟩,GB (by rw[hz,c]) (hB.fin Af),O,hU⟩
  refine D5 [2,0,1,0] O ?_;refine BA (CI (i:=1) O) ?_;refine CF (BF [0] O ?_);refine⟨O,_,_,⟨_,_,O,(CT (i:=1) Bh O O O),O⟩,(Gs [] [_,_,_,_] O),?_⟩;exact⟨⟨.mk zk zi zn zl [],q⟩,GB (o:= .mk zk zi zn zl zs) (q:=q) (ys:=[]) (by rw[hz,c]) (by rw[show ts=[] by (cases ts with | nil=>rfl | cons a b=>simp at c1;omega)];rfl),O,hT⟩
theorem Uh:∀(fid:Nat) (caps:List AV),BO Tryz.prog 134 [.fn (.func fid) [] caps] [] (eD (fun b=> .agg [.fn (.func 172) [] [.ptr b 0]]) [.fn (.func fid) [] caps]):=by
 intro fid caps;refine Db Tryz.func134 O (W ?_);intro b1 b2;exact R0
theorem Sl:∀(rep:Tm→Int→Except Int Tm) (fid:Nat) (caps:List AV) (T:List Aj) (hr:∀(t:Tm) (d:Int),Nd t→Vp t→t.kind=0→0≤d→d<C7→BO Tryz.prog fid ([TV t,.p (I d)]++caps) T (M7 (fun(r:Tm)=>TV r) (fun e=> .p (.iface 223 (I e))) (fun r H'=>H'=T) (rep t d))) (bR:Nat) (s:Unit) (t:Tm) (d:Int),Nd t→Vp t→0≤d→d<C7→BO Tryz.prog 172 [TV t,.p (I d),.ptr bR 0] (.box bR [.fn (.func fid) [] caps]::T) (M7 (fun(r:(Tm×Bool)×Unit)=> .tup [TV r.1.1,.p (.bool r.1.2)]) (fun e=> .p (.iface 223 (I e))) (fun r H'=>H'= .box bR [.fn (.func fid) [] caps]::T) (Hy rep s t d)):=by
 intro rep fid caps T hr bR s t d h1 h2 h3 h4;refine Db Tryz.func172 O ?_;refine DT [0] O O fun b3=>?_;refine DR [0] O (Am Bx O) fun b5=>?_;obtain⟨tk,ti,tn,tl,ts⟩:=t;refine C ?_ ?_<;>intro c
 ·refine De [3,2,1] O ?_;refine bK [_,_,_] O O O (.inr O) (hr (.mk tk ti tn tl ts) d h1 h2 c h3 h4) (B2 _) ?_ ?_
  rotate_left
  ·intro e _ he;exact⟨O,_,List.nil_sublist _,⟨_,LD c he,O⟩⟩
  rintro z _ hz rfl;refine BT (BF [2,0,1] O ?_);refine⟨O,_,_,⟨_,_,O,(CT (i:=0) Bh O O AY),⟨_,_,O,O,O⟩⟩,(Gs [2] [_,_,_] O),?_⟩;exact⟨⟨⟨z,true⟩,()⟩,Jb c hz,O,O⟩
 refine F (Ob (.mk tk ti tn tl ts:Tm) h1) ?_;refine BF [0] O ?_;refine⟨O,_,_,⟨_,_,O,(CT (i:=0) Bh O O AY),⟨_,_,O,O,O⟩⟩,(Gs [2] [_,_,_] O),?_⟩;exact⟨⟨⟨.mk tk ti tn tl [],false⟩,()⟩,Kn c,O,O⟩
theorem Vo:∀(t:Tm) (d:Int) (bf bb:Nat) (fr b:Int),(Nd t)→(Vp t)→(t.kind=0)→(0≤d)→(d<C7)→(-4611686018427387904≤b∧b≤4611686018427387904)→(-2305843009213693952≤fr∧fr≤2305843009213693952)→BO Tryz.prog 173 [.agg ((BB t).map .p),.p (I d),.ptr bf 0,.ptr bb 0] [.box bf [.p (I fr)],.box bb [.p (I b)]] (M7 (fun(r:Tm)=>TV r) (fun e=> .p (.iface 223 (I e))) (fun r H'=>H'=[.box bf [.p (I fr)],.box bb [.p (I b)]]) (Ug b fr t d)):=by
 intro t d bf bb fr b h1 h2 h3 h4 h5 h6 h7;obtain⟨tk,ti,tn,tl,ts⟩:=t;have hi:=h2.1 h3;simp only[C7] at h5;refine Db Tryz.func173 O ?_;refine W ?_;intro b4 b6;refine BH [0] rfl ?_ ?_<;>intro c
 ·refine F (Ob (.mk tk ti tn tl ts:Tm) h1) ?_;refine BF [0] O (B7 [0] [2,3] O O ⟨(.mk tk ti tn tl []),U0 c,O,O⟩)
 refine DM [0] 4 [3,4,6] 25 ((decide ((b:Int)<(0:Int)))&&(decide (((ti:Int) - (d:Int):Int)<((fr:Int) - (b:Int):Int)))) O O ?_ ?_
 ·refine A9 [3,3] 19 rfl rfl ?_ ?_<;>intro g
  ·exact Bu [6,2,3] O
  exact Bu [6] O
 refine BH [0] rfl ?_ ?_<;>intro c1
 ·refine De [0] O ?_;refine F9 O O O (.inl ⟨O,O,O⟩) (RP 24) (aw (we O) (HY)) ?_;exact⟨O,_,List.nil_sublist _,⟨_,aW Af Af Af,O⟩⟩
 refine De [4,1,3] O ?_;refine E4 [] O O O (.inl ⟨O,O,O⟩) (Sq ((ti:Int)+(b:Int))) O Ae (aw (we O) (HY)) (fun _ _ h=>(congrArg List.length h).trans O) ?_ ?_
 rotate_left
 ·intro e _ he;exact⟨O,_,List.nil_sublist _,⟨_,by rw[TS Af Af,he],rfl⟩⟩
 rintro z _ hz rfl;refine BT (BF [1,0,1] O (B7 [0] [2,3] O O ⟨z,by rw[TS Af Af,hz],rfl,rfl⟩))
theorem _root_.Go.AN {α:Prop}(h:α:=by repeat' first | exact trivial | rfl | refine And.intro ?_ ?_):α:=h
theorem UJ:∀(t:Tm) (b fr:Int),(Nd t)→(Vp t)→(size t<C7)→(-4611686018427387904≤b∧b≤4611686018427387904)→(-2305843009213693952≤fr∧fr≤2305843009213693952)→BO Tryz.prog 136 [.agg ((BB t).map .p),.p (I b),.p (I fr)] [] (M7 (fun(r:Tm)=>TV r) (fun e=> .p (.iface 223 (I e))) (fun r H'=>H'=[]) (Ig b fr t)):=by
 intro t b fr h1 h2 h3 h4 h5;refine Db Tryz.func136 O (DT [0] O O fun b3=>DT [0] O O fun b4=>DT [0] O O fun b5=>DR [0] O (Am Bx O) fun b6=>Jf [0] [1,3] O (Aw O (fun _=>Dh O O) Ah (Rm [(2,.read [.box b3 ((BB t).map .p)] (.agg ((BB t).map .p)))] O O O (.inl ⟨O,O,O⟩) (Uh 173 [.ptr b5 0,.ptr b4 0]) (.inl O) Ab fun bn=>⟨AB,Ah,?_⟩)));refine W ?_;refine IT [0,2,3] O O O (.inl ⟨O,O,O⟩) (N0 (Hy (Ug b fr)) (fun _ T=>T=[.box bn [.fn (.func 173) [] [.ptr b5 0,.ptr b4 0]],.box b5 [.p (I fr)],.box b4 [.p (I b)]]) 172 [.ptr bn 0] (fun s t d T hn hp h0 hb hT=>by subst hT;exact Sl (Ug b fr) 173 [.ptr b5 0,.ptr b4 0] _ (fun t d g1 g2 g3 g4 g5=>Vo t d b5 b4 fr b g1 g2 g3 g4 g5 h4 h5) bn s t d hn hp h0 hb) _ t 0 () _ (Nat.le_refl _) h1 h2 Af Af rfl) ⟨_,_,rfl,rfl,⟨_,_,rfl,rfl,⟨_,_,rfl,rfl,rfl⟩⟩⟩ Ae (B2 _) (fun _ _ h=>(congrArg List.length h).trans rfl) Ab Ab rfl AB ?_ ?_
 rotate_left
 ·intro e he _ _ hτ;exact⟨O,_,List.nil_sublist _,⟨_,Lg he,O⟩⟩
 rintro⟨z,_⟩ _ hz rfl;refine⟨AB,AN,?_⟩;refine W ?_;refine BF [0] O (B7 [1] [] O O ⟨z,O0 hz,O,O⟩)
theorem QE:∀(bo be:Nat) (co ce:List AV),Cp Tryz.prog 128 [.ptr bo 0,.ptr be 0] (.ret) [.box bo co,.box be ce] (fun H'=>H'=[.box bo co,.box be ce]):=by
 intro bo be co ce;refine E2 (ty2:=0) Tryz.func128 O bV (n:=9) O O O O O O (A4 (B6 O (Au O (Ea UM O O O) (Ba O ?_))));refine A5 O (fun c=>by cases c) (fun c=>?_);exact BJ ⟨.inl O,O,_,(Fe (is:=[0,1]) O),O⟩
theorem P6:∀(bo be:Nat) (e:Int),Cp Tryz.prog 128 [.ptr bo 0,.ptr be 0] (.pan (.p (.iface 223 (I e)))) [.box bo [.p (I 0),.p (I 0),.p (.str ⟨#[]⟩),.p (.nils),.p (.nils)],.box be [.p (I 0)]] (fun H'=>H'=[.box bo [.p (I 0),.p (I 0),.p (.str ⟨#[]⟩),.p (.lst []),.p (.lst [])],.box be [.p (I e)]]):=by
 intro bo be e;refine E2 (ty2:=0) Tryz.func128 O bV (n:=9) O O O O O O (A4 (B6 O (Au O (Ea UM O O O) (CZ (CI (i:=0) O) (Ba O ?_)))));refine A5 O (fun c=>?_) (fun c=>by cases c);exact A1 (Az tab 2 [] O (Au O (BM O O (Vb _) O) (Az tab 2 [0,0,1,0] O (CZ (CI (i:=0) O) (Ba O ⟨.inl O,O,_,(Fe (is:=[0,1]) O),O⟩)))))
theorem P4:∀(t:Tm) (d:Int) (bd bv:Nat) (dp:Int) (vs:List Tm),BO Tryz.prog 130 [.agg ((BB t).map .p),.p (I d),.ptr bd 0,.ptr bv 0] [.box bd [.p (I dp)],.box bv [.p (.lst (A0 vs))]] (Pa (.p (I (G7 vs dp t.index d))) [.box bd [.p (I dp)],.box bv [.p (.lst (A0 vs))]]):=by
 intro t d bd bv dp vs;obtain⟨tk,ti,tn,tl,ts⟩:=t;refine Db Tryz.func130 O (W ?_);intro b4;refine Ak [0] O (Gw O O) (Ak [1,1] O (Gw O O) (DM [1] 2 [7] 21 ((decide ((wr ((wr ((ti:Int) - (d:Int)):Int) - (dp:Int)):Int)≥(0:Int)))&&(decide ((wr ((wr ((ti:Int) - (d:Int)):Int) - (dp:Int)):Int)<((vs.length:Nat):Int)))) O O ?_ ?_))
 ·refine A9 [3] 16 rfl rfl ?_ ?_<;>intro g
  ·refine W ?_;exact Bu [0] O
  exact Bu [5] O
 refine BH [0] rfl ?_ ?_<;>intro c
 ·refine BF [2] O (B7 [] [1,2] O O ⟨pI (YB Af Af).symm,O⟩)
 refine BF [1] O (B7 [] [1,2] O O ⟨pI (Zp (ti:=ti) Af).symm,O⟩)
theorem VO:∀(t:Tm) (d:Int) (bv bc bs bd bvs cb:Nat) (dp n:Int) (vs:List Tm) (sz:List Int),(sz.length=vs.length)→BO Tryz.prog 131 [.agg ((BB t).map .p),.p (I d),.ptr bv 0,.ptr bc 0,.ptr bs 0] [.box bv [.fn (.func 130) [] [.ptr bd 0,.ptr bvs 0]],.box bc [.ptr cb 0],.box bs [.p (.lst (List.map CX sz))],.box bd [.p (I dp)],.box bvs [.p (.lst (A0 vs))],.box cb [.p (I n)]] (M7 (fun(r:(Tm×Bool)×Int)=> .tup [TV r.1.1,.p (.bool r.1.2)]) (fun e=> .p (.iface 223 (I e))) (fun r H'=>H'=[.box bv [.fn (.func 130) [] [.ptr bd 0,.ptr bvs 0]],.box bc [.ptr cb 0],.box bs [.p (.lst (List.map CX sz))],.box bd [.p (I dp)],.box bvs [.p (.lst (A0 vs))],.box cb [.p (I r.2)]]) (NS vs sz dp n t d)):=by
 intro t d bv bc bs bd bvs cb dp n vs sz h1;obtain⟨tk,ti,tn,tl,ts⟩:=t;refine Db Tryz.func131 O (W ?_);intro b5 b7;refine Ak [0] O (Gp [5,6] O (.inr O) (P4 (.mk tk ti tn tl ts:Tm) d bd bvs dp vs) ⟨_,_,O,O,⟨_,_,O,O,O⟩⟩ Ae O (.inl O)) (DM [1] 2 [3,4,5,7,9] 20 (((tk:Int)==(0:Int))&&(decide ((G7 vs dp (.mk tk ti tn tl ts:Tm).index d:Int)≥(0:Int)))) O O ?_ ?_)
 ·refine A9 [4,1] 17 rfl rfl ?_ ?_<;>intro g
  ·exact Bu [3] O
  exact Bu [3] O
 refine BH [0] rfl ?_ ?_<;>intro c
 ·have hvl:=RM (vs:=vs) (dp:=dp) (ti:=(Tm.mk tk ti tn tl ts).index) (d:=d) c.2;refine Jf [0] [5] O (DB [3,3,4] O ?_);have ⟨x,hx⟩:=Ap (l:=sz) (i:=(G7 vs dp (.mk tk ti tn tl ts:Tm).index d:Int).toNat) Af;refine Aw O (fun _=>Ao Hg O O Af (LI hx) (O)) Ah (Aw O (fun _=>Fs FV O) Ah (IT [7] O O O (.inl ⟨O,O,O⟩) (Yk cb n x) ⟨_,_,O,O,O⟩ Ae (aw (we O) (aw (we O) (HY))) (fun _ _ h=>(congrArg List.length h).trans O) Ab Ab O AB ?_ ?_))
  rotate_left
  ·intro e he _ _ hτ;exact⟨O,_,List.nil_sublist _,⟨_,LF (On c hx) he,O⟩⟩
  rintro r _ hz rfl;refine⟨AB,Ah,?_⟩;refine Fj O Ab (I8 (Jf [0] [] O ?_));refine GU [6,1,0,0] O (D5 [0] O ?_);refine BA (CI (i:=0) O) (CF (BF [0] O (B7 [0] [2,3,4,5,6,7] O O ⟨⟨⟨A3,decide (tk=0)⟩,r⟩,NJ (On c hx) hz,O,O⟩)))
 refine De [1,3] O (E4 [7] O O O (.inl ⟨O,O,O⟩) (Yk cb n 1) ⟨_,_,O,O,O⟩ Ae (aw (we O) (aw (we O) (HY))) (fun _ _ h=>(congrArg List.length h).trans O) ?_ ?_)
 rotate_left
 ·intro e _ he;exact⟨O,_,List.nil_sublist _,⟨_,LF (NG (by simp_all [Tm.index])) he,O⟩⟩
 rintro r _ hz rfl;refine BT (Jf [0] [] O ?_);refine GU [6,1,0,0] O (D5 [0] O ?_);refine BA (CI (i:=0) O) (CF (BF [0] O (B7 [0] [2,3,4,5,6,7] O O ⟨⟨⟨A3,decide (tk=0)⟩,r⟩,NJ (NG (by simp_all [Tm.index])) hz,O,O⟩)))
theorem V5:∀(t:Tm) (d:Int) (bv bvs bd:Nat) (dp:Int) (vs:List Tm),(Nd t)→(Vp t)→(t.kind=0)→(0≤d)→(d<C7)→(G3 vs)→(MG vs)→(∀v∈vs,size v<C7)→(0≤dp∧dp≤65536)→(vs.length<C7)→BO Tryz.prog 135 [.agg ((BB t).map .p),.p (I d),.ptr bv 0,.ptr bvs 0,.ptr bd 0] [.box bv [.fn (.func 130) [] [.ptr bd 0,.ptr bvs 0]],.box bvs [.p (.lst (A0 vs))],.box bd [.p (I dp)]] (M7 (fun(r:Tm)=>TV r) (fun e=> .p (.iface 223 (I e))) (fun r H'=>H'=[.box bv [.fn (.func 130) [] [.ptr bd 0,.ptr bvs 0]],.box bvs [.p (.lst (A0 vs))],.box bd [.p (I dp)]]) (IN vs dp t d)):=by
 intro t d bv bvs bd dp vs h1 h2 h3 h4 h5 h6 h7 h8 h9 h10;obtain⟨tk,ti,tn,tl,ts⟩:=t;have hti:=h2.1 h3;simp only[C7] at h5;have hw:wr (dp+d)=dp+d:=DC (by unfold Hx;omega);refine Db Tryz.func135 O ?_;refine W ?_;intro b5 b7;refine Ak [0] O (Gp [4,3] O (.inr O) (P4 (.mk tk ti tn tl ts:Tm) d bd bvs dp vs) ⟨_,_,O,O,⟨_,_,O,O,O⟩⟩ Ae O (.inl O)) ?_;refine C ?_ ?_<;>intro c
 ·have hvl:=RM (vs:=vs) (dp:=dp) (ti:=(Tm.mk tk ti tn tl ts).index) (d:=d) c;refine Jf [0] [7] O ?_;refine DB [2,3] O ?_;have ⟨x,hx⟩:=Ap (l:=vs) (i:=(G7 vs dp (.mk tk ti tn tl ts:Tm).index d:Int).toNat) Af;refine Aw O (fun _=>Ao Bc O O Af (B9 hx) (An _)) Ah ?_;refine DB [3,4] O ?_;refine Aw O (fun _=>EO O O) Ah ?_;refine IT [] O O O (.inl ⟨O,O,O⟩) (UJ x (wr ((dp:Int)+(d:Int))) 0 (CE h6 hx) (FU h7 hx) (h8 x (List.mem_of_getElem? hx)) (by rw[hw];omega) Af) O Ae (aw (we O) (aw (we O) (aw (we O) (HY)))) (fun _ _ h=>(congrArg List.length h).trans O) Ab Ab O AB ?_ ?_
  rotate_left
  ·intro e he _ _ hτ;exact⟨O,_,List.nil_sublist _,⟨_,(Ox (i:=ti) c hx).trans he,O⟩⟩
  rintro z _ hz rfl;refine⟨AB,Ah,?_⟩;refine GU [1,0,1] O (BF [0] O (B7 [0] [2,3,4] O O ⟨z,(Ox (i:=ti) c hx).trans hz,O,O⟩))
 refine Ak [3,1] O (Gw O O) ?_;refine C ?_ ?_<;>intro c1
 ·refine F (Ob (.mk tk ti tn tl ts:Tm) h1) ?_;refine BF [0] O (B7 [0] [2,3,4] O O ⟨(.mk tk ti tn tl []),SU (by simpa [Tm.index] using c) Af,O,O⟩)
 refine W ?_;refine Ak [0] O (Gw O O) ?_;refine De [0] O ?_;refine E4 [] O O O (.inl ⟨O,O,O⟩) (Sq (wr ((ti:Int) - ((vs.length:Nat):Int)))) O Ae (aw (we O) (HY)) (fun _ _ h=>(congrArg List.length h).trans O) ?_ ?_
 rotate_left
 ·intro e _ he;exact⟨O,_,List.nil_sublist _,⟨_,by rw[RK (by simpa [Tm.index] using c) Af,he],rfl⟩⟩
 rintro z _ hz rfl;refine BT (BF [1,0,1] O (B7 [0] [2,3,4] O O ⟨z,by rw[RK (by simpa [Tm.index] using c) Af,hz],rfl,rfl⟩))
theorem _root_.Go.AF {α:Prop}(h:α:=by simp only[List.length_append,List.length_map,List.length_take,List.length_replicate];omega):α:=h
set_option maxHeartbeats 2000000 in
theorem Vi:∀(t:Tm) (vs:List Tm) (dp:Int),(Nd t)→(Vp t)→(size t<1099511627776)→(G3 vs)→(MG vs)→(∀v∈vs,size v<C7)→(0≤dp∧dp≤65536)→(vs.length<C7)→EE Tryz.prog 87 [.agg ((BB t).map .p),.p (.lst (A0 vs)),.p (I dp)] (.tup [.agg ((BB ((Bo t vs dp).1)).map .p),.p (I ((Bo t vs dp).2))]):=by
 intro t vs dp h1 h2 h3 h4 h5 h6 h7 h8;have h8b:=h8;simp only[C7] at h8b;refine DW Tryz.func87 O iN (n:=49) O O (A4 (Bz O (CJ O) fun b3=>Bz O (CJ O) fun b4=>Bz O (CJ O) fun b5=>Bz O (Am Bx O) fun b6=>Bz O (Am aG O) fun b7=>Ba O (Ax (BD tab 2 [2] O (A5 O (fun c=>?_) (fun c=>?_))))))
 ·simp only[sd,se] at c;exact absurd c Af
 simp only[sd,se] at c;refine BJ (A4 (Au O (Dh O O) (Ks O O O O (Ba O (A4 (Au O (Dh O O) (Bz O (Am fK O) fun b8=>Ar tab 1 [0,0] O (A4 (Au O (BQ (i:=4) Jr O O O) (Au O (Bp Bc O (Av _)) (Il O O (DY Hg Wf O O Ae O O O Af Af Af (cN (f:=CX) (((vs.length:Nat):Int).toNat) 0)) fun b20 cp=>Bz O (Am gL O) fun b9=>Ar tab 1 [0,0] O (Ax (A4 (Au O (BQ (i:=6) Jr O O O) (Au O (Bp Bc O (Av _)) (Ar tab 1 [] O (BG ?_)))))))))))))))));refine C4 (α:=Nat×Option Nat×Nat) (fun(i,o,cp1)=>⟨49,mk [(3,.ptr b3 0),(4,.ptr b4 0),(5,.ptr b5 0),(6,.ptr b6 0),(7,.ptr b7 0),(8,.ptr b8 0),(9,.ptr b9 0),(21,.p (.lst (A0 vs))),(22,.p (I (vs.length:Nat))),(23,.p (I (i:Int)))],[.box b9 [.vs o (List.map CX (((vs.take i).map fun v=>(size v:Int))++List.replicate (vs.length - i) 0)).length cp1],.vec o 1 (List.map CX (((vs.take i).map fun v=>(size v:Int))++List.replicate (vs.length - i) 0)) cp1,.box b8 [.fn (.func 130) [] [.ptr b5 0,.ptr b4 0]],.box b7 [.p (I 0)],.box b6 iy,.box b5 [.p (I dp)],.box b4 [.p (.lst (A0 vs))],.box b3 ((BB t).map .p)],[.clo (.func 128) [.ptr b6 0,.ptr b7 0]]⟩) (fun(i,o,cp1)=>vs.length - i) (fun(i,o,cp1)=>i≤vs.length) ⟨0,(some b20),cp⟩ AO ?_ ?_
 ·exact C3 ⟨we O,we O,we O,we O,we O,we O,we O,we O,we O,we O,Ah⟩ (leH (is:=[0,1,2,3,4,5,6,7]) O (wl (eP (aw (we (NM (f:=CX) (List.replicate (((vs.length:Nat):Int).toNat) 0) Ag)) (HY))) (wl (KW (f:=CX) (List.replicate (((vs.length:Nat):Int).toNat) 0) Ag) (wl (oe O) (wl (oe O) (wl (oe O) (wl (oe O) (wl (oe O) (wl (oe O) (Js))))))))))
 rintro⟨i,o,cp1⟩ hC
 try simp only at hC
 have hi:=hC;refine BD tab 1 [] O (Ax (A5 O (fun c1=>?_) (fun c1=>?_)))
 ·simp only[sd,se] at c1;refine BJ (Ax (BG (A4 (B6 O ?_))));have ⟨x,hx⟩:=Ap (l:=vs) (i:=i) Af;refine Au O (Ao Bc O O Af (B9 hx) (An _)) (Au O (Bl Bh O (An _)) (Bz O (Am Bx O) fun b11=>Ar tab 2 [0,1] O (Ku (i:=2) O AT fun b hb=>?_)));subst hb;refine GS (fun k=>false) Y0 (E1 tab 3 [1,0] O (Aw O (fun _=>BM O O (Ri x (CE h4 hx) (by have:=h6 x (List.mem_of_getElem? hx);simp only[C7] at this;omega)) O) Ah (Aw O (fun _=>CW Hg O O Af AF) Ah (Lc O O (Cj (i:=2) (j:=i) FV O O O AF O O O O (dO (f:=CX) (((vs.take i).map fun v=>(size v:Int))++List.replicate (vs.length - i) 0) i (size x:Nat))) AB Ah (Fj O Ab (A1 (Ar tab 2 [] O ?_)))))));refine⟨⟨i+1,(some b),cp1⟩,AQ,by omega,C3 ⟨we rfl,we rfl,we rfl,we rfl,we rfl,we rfl,we rfl,we rfl,we rfl,we rfl,trivial⟩ (leH (is:=[1,2,3,4,5,6,7,8]) rfl (wl (eP (aw (we (Wa (f:=CX) (((vs.take i).map fun v=>(size v:Int))++List.replicate (vs.length - i) 0) Aa)) (HY))) (wl (KW (f:=CX) ((((vs.take i).map fun v=>(size v:Int))++List.replicate (vs.length - i) 0).set i (size x:Nat)) (cr hx)) (wl (oe rfl) (wl (oe rfl) (wl (oe rfl) (wl (oe rfl) (wl (oe rfl) (wl (oe rfl) (Js))))))))))⟩
 simp only[sd,se] at c1;refine Cq (A4 ?_);rw[e7 (vs:=vs) (i:=i) Af];refine CZ (EH (i:=1) (j:=0) (q:=0) [] O O O (ES Ah)) (Au O (Dx gK fe O) (Bz O (CJ O) fun b35=>Bz O (Am fE O) fun b12=>Ar tab 1 [0,0] O (A4 (Az tab 3 [8] O ?_))));refine E4 [3,0,2,6,7,1] O O O (.inl ⟨O,O,O⟩) (N0 (NS vs (vs.map fun v=>(size v:Int)) dp) (fun n T=>T=[.box b8 [.fn (.func 130) [] [.ptr b5 0,.ptr b4 0]],.box b12 [.ptr b35 0],.box b9 [.p (.lst (List.map CX (vs.map fun v=>(size v:Int))))],.box b5 [.p (I dp)],.box b4 [.p (.lst (A0 vs))],.box b35 [.p (I n)]]) 131 [.ptr b8 0,.ptr b12 0,.ptr b9 0] (fun n t d T hn hp h0 hb hT=>by subst hT;exact VO t d b8 b12 b9 b5 b4 b35 dp n vs (vs.map fun v=>(size v:Int)) Ag) _ t 0 0 _ (Nat.le_refl _) h1 h2 Af AU rfl) ⟨_,_,rfl,rfl,⟨_,_,rfl,rfl,⟨_,_,rfl,rfl,⟨_,_,rfl,rfl,⟨_,_,rfl,rfl,⟨_,_,rfl,rfl,rfl⟩⟩⟩⟩⟩⟩ Ae (B2 _) (fun _ _ h=>(congrArg List.length h).trans rfl) ?_ ?_
 rotate_left
 ·intro e _ he;refine⟨_,_,_,O,Hr (is:=[1,0]) _ Ae ⟨_,_,O,O,⟨_,_,O,O,O⟩⟩,Cp.eq (P6 b6 b7 _) ?_⟩;refine⟨_,[],⟨_,_,O,(CT (i:=0) Bh O O O),⟨_,_,O,(Er (i:=1) PR O O),O⟩⟩,(List.nil_sublist _),?_⟩;rw[Gd (MO he)];exact⟨O,O⟩
 rintro⟨z,n1⟩ _ hz rfl;refine Ba O (Ax (GS (fun k=>Nat.beq k 1||Nat.beq k 3) Y0 (Aw O (fun _=>Dh O O) Ah (Rm [(2,.read [.box b3 ((BB t).map .p)] (.agg ((BB t).map .p)))] O O O (.inl ⟨O,O,O⟩) (Uh 135 [.ptr b8 0,.ptr b4 0,.ptr b5 0]) (.inl O) Ab fun bn=>⟨AB,Ah,?_⟩))));refine E1 tab 1 [9] O ?_;refine IT [0,4,8,7] O O O (.inl ⟨O,O,O⟩) (N0 (Hy (IN vs dp)) (fun _ T=>T=[.box bn [.fn (.func 135) [] [.ptr b8 0,.ptr b4 0,.ptr b5 0]],.box b8 [.fn (.func 130) [] [.ptr b5 0,.ptr b4 0]],.box b4 [.p (.lst (A0 vs))],.box b5 [.p (I dp)]]) 172 [.ptr bn 0] (fun s t d T hn hp h0 hb hT=>by subst hT;exact Sl (IN vs dp) 135 [.ptr b8 0,.ptr b4 0,.ptr b5 0] [.box b8 [.fn (.func 130) [] [.ptr b5 0,.ptr b4 0]],.box b4 [.p (.lst (A0 vs))],.box b5 [.p (I dp)]] (fun t d g1 g2 g3 g4 g5=>V5 t d b8 b4 b5 dp vs g1 g2 g3 g4 g5 h4 h5 h6 h7 h8) bn s t d hn hp h0 hb) _ t 0 () _ (Nat.le_refl _) h1 h2 Af AU rfl) ⟨_,_,rfl,rfl,⟨_,_,rfl,rfl,⟨_,_,rfl,rfl,⟨_,_,rfl,rfl,rfl⟩⟩⟩⟩ Ae (B2 _) (fun _ _ h=>(congrArg List.length h).trans rfl) Ab Ab rfl AB ?_ ?_
 rotate_left
 ·intro e he _ _ hτ;refine⟨_,_,_,O,Hr (is:=[4,3]) _ Ae ⟨_,_,O,O,⟨_,_,O,O,O⟩⟩,Cp.eq (P6 b6 b7 _) ?_⟩;refine⟨_,[],⟨_,_,O,(CT (i:=0) Bh (hτ 6 (IZ Ab)) O O),⟨_,_,O,(Er (i:=1) PR (hτ 7 (IZ Ab)) O),O⟩⟩,(List.nil_sublist _),?_⟩;rw[Gd (MI hz he)];exact⟨O,O⟩
 rintro⟨z1,_⟩ _ hz1 rfl;refine⟨AB,AN,?_⟩;refine GH tab 1 [6,1] O (Ax (A4 (Au O (B1 (i:=6) Bh O O AY) (Au O (BM O O (Nr _ z1 (Nat.le_refl _) (aR h4 h5 h1 h2 hz1)) O) (Ar tab 1 [] O (A5 O (fun c2=>?_) (fun c2=>?_)))))))
 ·simp only[sd,se] at c2;refine A4 (Au O (Dx aB Bx O) ?_);obtain⟨z1k,z1i,z1n,z1l,z1s⟩:=z1;refine Ar tab 2 [6,0,5,0] O (BA (CI (i:=6) O) (Bk (⟨_,_,_,O,CR (is:=[6,5]) Ae ⟨_,_,O,O,⟨_,_,O,O,O⟩⟩,Cp.eq (QE b6 b7 _ _) ?_⟩)));refine⟨_,_,⟨_,_,O,(CT (i:=0) Bh O O O),⟨_,_,O,(Er (i:=1) PR O O),O⟩⟩,(List.nil_sublist _),?_⟩;rw[Mk (Ji hz hz1) Af]
  all_goals exact⟨rfl,rfl⟩
 simp only[sd,se] at c2;refine BJ (BD tab 3 [6,6,1,5,0] O (Bk (⟨_,_,_,O,CR (is:=[6,5]) Ae ⟨_,_,O,O,⟨_,_,O,O,O⟩⟩,Cp.eq (QE b6 b7 _ _) ?_⟩)));refine⟨_,_,⟨_,_,O,(CT (i:=0) Bh O O AY),⟨_,_,O,(Er (i:=1) PR O O),O⟩⟩,(List.nil_sublist _),?_⟩;rw[QD (Ji hz hz1) Af]
 all_goals exact⟨rfl,rfl⟩
theorem Qi:∀(t:Tm) (vs:List Tm),(Nd t)→(Vp t)→(size t<1099511627776)→(G3 vs)→(MG vs)→(∀v∈vs,size v<C7)→(vs.length<C7)→EE Tryz.prog 55 [.agg ((BB t).map .p),.p (.lst (A0 vs))] (.tup [.agg ((BB ((Bo t vs 0).1)).map .p),.p (I ((Bo t vs 0).2))]):=by
 intro t vs h1 h2 h3 h4 h5 h6 h7;refine Db Tryz.func55 O ?_;refine W ?_;intro b2 b4;refine F (Vi t vs 0 h1 h2 h3 h4 h5 h6 Af h7) ?_;exact R0
theorem Xe:∀(n:Nat) (t:Tm) (l:List Int) (o0:Option Nat) (c0:Nat),(size t≤n)→(Nd t)→(l.length+size t<C7)→BO Tryz.prog 74 [.vs o0 (List.map CX l).length c0,.agg ((BB t).map .p)] [.vec o0 1 (List.map CX l) c0] (aS (fun v=>v) 1 (List.map CX (Cx l t))):=by
 intro n
 induction n with
 | zero=>intro t l o0 c0 h;cases t;simp[size] at h
 | succ n ih =>
  intro t l o0 c0 h1 h2 h3;simp only[C7] at h3;obtain⟨tk,ti,tn,tl,ts⟩:=t;simp only[size] at h1 h3;simp only[Nd,C7] at h2;have hks:=DN ts;refine Db Tryz.func74 O (DT [0] O O fun b3=>?_);refine BH [4,0] rfl ?_ ?_<;>intro c
  ·refine F3 (α:=Nat) [1] [0,3] [0,1] (fun i=>[(5,.p (I (i:Int)))]) (fun _=>[]) (fun i=>l.length - i) (fun i=>i≤l.length∧(ti ∉ l.take i)) 0 O O O Ag ?_;rintro i hC
   try simp only at hC
   have ⟨hi,hC⟩:=hC;refine Ak [2] O (O6 Hg O (List.length_map _)) ?_;refine BH [1] rfl ?_ ?_<;>intro c1
   ·refine D5 [0] O (Ku (i:=1) O AT fun b hb=>?_);subst hb;refine CF (Jf [0] [] O ?_);refine DB [2] O (Aw O (fun _=>CW Hg O O Af (by first | (simp only[List.length_map,Av];omega) | (simp_all;done) | (simp_all;omega))) Ah ?_);have ⟨y,hy⟩:=Ap (l:=l) (i:=i) (by first | omega | (simp_all;done) | (simp_all;omega));refine Cf (j:=1) O O O (fun H i hi=>PT (i:=i) FV O hi (LI hy)) AB Ah ?_;refine GU [3,0] rfl (BH [0] rfl ?_ ?_)<;>intro c2
    ·refine BF [2] O (B7 [] [1] O O ?_);rw[Cx,if_pos c,if_pos (by rw[←c2];exact List.mem_of_getElem? hy)]
     all_goals exact⟨_,_,rfl,rfl⟩
    exact Fa [3] 0 (i+1) O (⟨by omega,Jz hC hy c2⟩)
   refine C6 [0] O (Ak [3,0] O (Ay Hg Wf O O O O O) (De [0] O (IQ O O (C9 (i:=1) (rows':=List.map CX [ti]) Hg Hg Wf O O O O O O (LX _) AD (IY (f:=CX) l [ti])) fun o cp=>BT (F3 (α:=Nat×List Int×Option Nat×Nat) [2] [3] [0,1] (fun(j,m,o1,cp1)=>[(0,.vs o1 (List.map CX m).length cp1),(6,.p (I (j:Int)))]) (fun(j,m,o1,cp1)=>[(1,.vec o1 1 (List.map CX m) cp1)]) (fun(j,m,o1,cp1)=>ts.length - j) (fun(j,m,o1,cp1)=>j≤ts.length∧(DQ m (ts.drop j)=DQ (l++[ti]) ts∧m.length≤l.length+1+Aq (ts.take j))) ⟨0,l++[ti],o,cp⟩ O O O Ag ?_))));rintro⟨j,m,o1,cp1⟩ hC1
   try simp only at hC1
   have ⟨hi,hD,hm⟩:=hC1;refine CD [3,0] O O (Av _) ?_;refine BH [1] rfl ?_ ?_<;>intro c2
   ·refine Em [4,0] ts j O O O (Jt _) (fun x hx=>?_);refine De [1] O (RI 1 O O O (.inl ⟨O,O,O⟩) (ih x m o1 cp1 (by have:=BW hx;omega) (CE h2.2.2.2.2.1 hx) (by have:=BW hx;have h9:=MF hx;simp only[C7];omega)) O (aw (we O) (aw (we O) (HY))) fun o2 cp2=>?_);exact BT (Fa [4] 0 ⟨j+1,Cx m x,o2,cp2⟩ O (⟨by omega,⟨by rw[←hD,CG hx];rfl,by have:=Ii x m;have:=E3 hx;omega⟩⟩))
   refine C6 [0] O (BF [2] O (B7 [] [1] O O ?_));rw[Cx,if_pos c,if_neg (by rw[show i=l.length by omega,List.take_length] at hC;exact hC),←hD,show j=ts.length by omega,List.drop_length]
   all_goals exact⟨_,_,rfl,rfl⟩
  refine F3 (α:=Nat×List Int×Option Nat×Nat) [1] [3] [0,1] (fun(i,m,o,cp)=>[(0,.vs o (List.map CX m).length cp),(6,.p (I (i:Int)))]) (fun(i,m,o,cp)=>[(1,.vec o 1 (List.map CX m) cp)]) (fun(i,m,o,cp)=>ts.length - i) (fun(i,m,o,cp)=>i≤ts.length∧(DQ m (ts.drop i)=DQ l ts∧m.length≤l.length+Aq (ts.take i))) ⟨0,l,o0,c0⟩ O O O Ag ?_;rintro⟨i,m,o,cp⟩ hC
  try simp only at hC
  have ⟨hi,hC,hm⟩:=hC;refine CD [3,0] O O (Av _) ?_;refine BH [1] rfl ?_ ?_<;>intro c1
  ·refine Em [4,0] ts i O O O (Jt _) (fun x hx=>?_);refine De [1] O (RI 1 O O O (.inl ⟨O,O,O⟩) (ih x m o cp (by have:=BW hx;omega) (CE h2.2.2.2.2.1 hx) (by have:=BW hx;have h9:=MF hx;simp only[C7];omega)) O (aw (we O) (aw (we O) (HY))) fun o1 cp1=>?_);exact BT (Fa [4] 0 ⟨i+1,Cx m x,o1,cp1⟩ O (⟨by omega,⟨by rw[←hC,CG hx];rfl,by have:=Ii x m;have:=E3 hx;omega⟩⟩))
  refine C6 [0] O (BF [2] O (B7 [] [1] O O ?_));rw[Cx,if_neg c,←hC,show i=ts.length by omega,List.drop_length]
  all_goals exact⟨_,_,rfl,rfl⟩
theorem YN:∀(t:Tm),(Nd t)→(size t<C7)→EE Tryz.prog 32 [.agg ((BB t).map .p)] (.p (.lst (List.map CX (Cx [] t)))):=by
 intro t h1 h2;refine Db Tryz.func32 O (DT [0] O O fun b1=>De [2,0] O (CZ (KG (sz:=1)) (RI 0 O O O (.inl ⟨O,O,O⟩) (Xe _ t [] none 0 (Nat.le_refl _) h1 (by simpa using h2)) O (aw (L6) (aw (we O) (HY))) fun o cp=>BT (D5 [1] O ?_))));refine BA (CH (i:=0) [2,4] O (ES ⟨O,O,Ah⟩)) (CF (BF [0] O (B7 [] [] O O ⟨O,O⟩)))
theorem Tu:∀(a b:Mv),(Nd a.type)→(Nd a.value)→EE Tryz.prog 40 [.agg ((B5 a).map .p),.agg ((B5 b).map .p)] (.p (.bool (PO a b))):=by
 intro a b h1 h2;obtain⟨ay,an,av,ac⟩:=a;obtain⟨ayk,ayi,ayn,ayl,ays⟩:=ay;obtain⟨avk,avi,avn,avl,avs⟩:=av;simp only at h1 h2;obtain⟨by1,bn,bv,bc⟩:=b;obtain⟨by1k,by1i,by1n,by1l,by1s⟩:=by1;obtain⟨bvk,bvi,bvn,bvl,bvs⟩:=bv;refine Db Tryz.func40 O (DT [0] O O fun b2=>DT [0] O O fun b3=>DM [1] 1 [] 4 ((((PO (.mk ayk ayi ayn ayl ays:Tm) (.mk by1k by1i by1n by1l by1s:Tm))&&(an==bn))&&(PO (.mk avk avi avn avl avs:Tm) (.mk bvk bvi bvn bvl bvs:Tm)))&&(ac==bc)) O O ?_ ?_)
 ·refine Ak [1] O (Bm (i:=1) Bh O O O O) (Ak [1] O (Bm (i:=0) Bh O O O O) (Cc [0] O (Hn _ (.mk ayk ayi ayn ayl ays:Tm) (.mk by1k by1i by1n by1l by1s:Tm) (Nat.le_refl _) h1) ?_));refine A9 [1] 10 rfl rfl ?_ ?_<;>intro g
  ·refine Ak [4,1,0] O (OZ gz O O) ?_;refine A9 [2] 17 rfl rfl ?_ ?_<;>intro g1
   ·refine Ak [1] O (Bm (i:=1) Bh O O O O) (Ak [1] O (Bm (i:=0) Bh O O O O) (Cc [0] O (Hn _ (.mk avk avi avn avl avs:Tm) (.mk bvk bvi bvn bvl bvs:Tm) (Nat.le_refl _) h2) ?_));refine A9 [2] 24 rfl rfl ?_ ?_<;>intro g2
    ·exact Ak [4,1,0] O (OZ gz O O) (Bu [2] O)
    exact Bu [7] O
   exact Bu [14] O
  exact Bu [21] O
 refine BF [0] O (B7 [] [] O O ⟨by rw[cW];try rfl,rfl⟩)
theorem Ym:∀(t:Tm),(Nd t)→(Wt t)→(size t<1099511627776)→EE Tryz.prog 50 [.agg ((BB t).map .p)] (.p (.lst (List.map CX (Cx [] t)))):=by
 intro t h1 h2 h3;refine DW Tryz.func50 O iF (n:=31) O O (A4 (Bz O (CJ O) fun b1=>Ar tab 1 [] O (A4 (Th O O Iv fun m7=>Bz O (Am fU O) fun b3=>Ar tab 1 [0,0] O (A4 (Bz O (Am gL O) fun b4=>Ba O (Ax (A4 (CZ (Jc (i:=0) O (eP (aw (L6) (HY)))) (CZ (KG (sz:=1)) (Au O (B1 (i:=4) Bh O O AY) ?_)))))))))));refine Ou [] O O O (.inl ⟨O,O,O⟩) (Sm t) O Ag (aw (we O) HY) ?_ (fun _ _ ⟨_,h,_⟩=>by cases h);rintro _ _ ⟨bn,h,rfl⟩;cases h;refine Ba O (BG (KQ (.inr O) fun dd l L hL=>⟨_,_,CR (is:=[2,0,5,6,4,3]) Ae ⟨_,_,O,O,⟨_,_,O,O,⟨_,_,O,O,⟨_,_,O,O,⟨_,_,O,O,⟨_,_,O,O,O⟩⟩⟩⟩⟩⟩,?_⟩));have hy:∀(m:Nat) (s:List Int) (d:Int) (t:Tm) (T:List Aj),Nd t→(fun m s=>s.length+m<1099511627776) (m+1) s→(fun(_:Bool) (s:List Int) (T:List Aj)=>∃o cp,T=[.loop l L,.box b3 [.map m7],.map m7 (B8 (Jo s)),.box b4 [.vs o (List.map CX s).length cp],.vec o 1 (List.map CX s) cp]) true s T→Ij Tryz.prog l [.p (I d),TV t] T (RV (.p (.bool (LU s d t).2)) ((fun(_:Bool) (s:List Int) (T:List Aj)=>∃o cp,T=[.loop l L,.box b3 [.map m7],.map m7 (B8 (Jo s)),.box b4 [.vs o (List.map CX s).length cp],.vec o 1 (List.map CX s) cp]) (LU s d t).2 (LU s d t).1)):=by
  rintro m s d tt T hnd hinv ⟨o,cp,rfl⟩;subst hL;refine L9 (i:=0) O O O O (A1 (Bz O (Am Bx O) fun b6=>Ar tab 1 [0,1] O ⟨O,1,O,?_⟩));refine BG (Ax ?_);obtain⟨ttk,tti,ttn,ttl,tts⟩:=tt;refine DV [3,4,6] 21 (fun y=>y= .p (.bool (((ttk:Int)==(12:Int))&&(!(Nx s tti))))) ?_ ?_
  ·refine A1 (Az tab 4 [0] O (Br 15 O (fun g=>?_) (fun g=>?_)))
   ·(try simp only[sd,se] at g);exact Az tab 3 [2,0] O (A8 O (Iz (i:=3) aP jK Qj O O O (W8 _ _)) (Ar tab 2 [] O (⟨O,O,AK,AG,⟨O,O,O,Ah⟩⟩)))
   (try simp only[sd,se] at g);exact Ar tab 6 [] O (⟨O,O,AK,AG,⟨O,O,O,Ah⟩⟩)
  rintro _ rfl;refine A5 O (fun c=>?_) (fun c=>?_)
  ·(try simp only[sd,se] at c);refine A4 (Az tab 3 [2,0] O (Au O (He (i:=3) aP O O O O) (Ba O (A1 (Az tab 3 [4,0] O (Au O (Ay Hg Wf O O O O O) (IQ O O (C9 (i:=5) (rows':=List.map CX [tti]) Hg Hg Wf O O O O O O (LX _) AD (IY (f:=CX) s [tti])) fun o1 cp1=>Ar tab 1 [4,0] O ⟨1,_,O,Fe (is:=[1,2,3,4,5]) O,?_⟩)))))));rw[XB c.1 (by simpa [Nx] using c.2)];exact⟨O,_,_,by rw[show ((s++[tti],true):List Int×Bool).1=s++[tti] from rfl,←Yj (by simpa [Nx] using c.2)];rfl⟩
  (try simp only[sd,se] at c);refine BJ ⟨1,_,O,Fe (is:=[1,2,3,4,5]) O,?_⟩;rw[Xh (by simpa [Nx] using c)];exact⟨O,_,_,O⟩
 refine(Sw LU (fun m s=>s.length+m<1099511627776) (fun(_:Bool) (s:List Int) (T:List Aj)=>∃o cp,T=[.loop l L,.box b3 [.map m7],.map m7 (B8 (Jo s)),.box b4 [.vs o (List.map CX s).length cp],.vec o 1 (List.map CX s) cp]) l bn (fun m s d t h=>Ww m s d t h) hy t [] _ 0 (h1) Af (by simpa using h3) ⟨_,_,O⟩).mono ?_;rintro(v | v) H' hR
 rotate_left
 ·exact hR.elim
 obtain⟨rfl,_,⟨o,cp,rfl⟩,rfl⟩:=hR;subst hL;refine⟨1,_,O,Ag,?_⟩;refine BD tab 2 [3] O (BA (EH (i:=4) (j:=3) (q:=0) [2,30] O O O (ES ⟨O,O,Ah⟩)) (Bk (⟨4,O,_,_,⟨_,_,O,O,O⟩,(List.nil_sublist _),?_⟩)))
 all_goals exact⟨by show (.p (.lst (List.map CX ((C8 LU t 0 []).1))):AV)=_;rw[R7 t 0 [] h2],rfl⟩
theorem Ws:∀(l:List Int) (n:Int),(l.length<C7)→EM Tryz.prog 78 [.p (.lst (List.map CX l)),.p (I n)] (fun v=>∃r:Int,v= .p (I r)∧(0≤r↔n∈l)):=by
 intro l n h1;simp only[C7] at h1;refine Db Tryz.func78 O (CD [2] O O (List.length_map _) (F3 (α:=Nat) [1] [0,1,7] [] (fun i=>[(8,.p (I (i:Int)))]) (fun _=>[]) (fun i=>l.length - i) (fun i=>i≤l.length∧(n ∉ l.take i)) 0 O O O Ag ?_));rintro i hC
 try simp only at hC
 have ⟨hi,hC⟩:=hC;refine BH [1] rfl ?_ ?_<;>intro c
 ·refine Em [5] l i O O O (IK (f:=CX) fun _=>O) (fun x hx=>?_);refine BH [2] rfl ?_ ?_<;>intro c1
  ·refine BF [2] O (⟨O,_,[],Bq O,List.nil_sublist _,⟨⟨_,O,?_⟩,O⟩⟩);exact⟨fun _=>by rw[c1];exact List.mem_of_getElem? hx,fun _=>by omega⟩
  exact Fa [2] 0 (i+1) O (⟨by omega,Jz hC hx Af⟩)
 refine C6 [0] O (BF [1] O (⟨O,_,[],Bq O,List.nil_sublist _,⟨⟨_,O,?_⟩,O⟩⟩));rw[show i=l.length by omega,List.take_length] at hC;exact⟨fun h=>by omega,fun h=>absurd h hC⟩
theorem Md:∀(l:List Int) (n:Int),(l.length<C7)→EE Tryz.prog 42 [.p (.lst (List.map CX l)),.p (I n)] (.p (.bool (Nx l n))):=by
 intro l n h1;refine Db Tryz.func42 O (De [3] O (Ci O O (BC O O (Ws l n h1) (.inl O)) ?_));rintro _ ⟨r,rfl,hr⟩;refine BT (BF [2] O (B7 [] [] O O ⟨pB (by simp[Nx,←hr]),O⟩))
theorem SJ:∀(a b:List Int),(a.length<C7)→EE Tryz.prog 24 [.p (.lst (List.map CX a)),.p (.lst (List.map CX b))] (.p (.bool (PO a b))):=by
 intro a b h1;simp only[C7] at h1;refine Db Tryz.func24 O (CD [2] O O (List.length_map _) (CD [1] O O (List.length_map _) ?_));refine BH [1] rfl ?_ ?_<;>intro c
 ·refine BF [1] O (B7 [] [] O O ⟨pB (ED (fun h=>by subst h;omega)).symm,rfl⟩)
 refine CD [1] O O (List.length_map _) (F3 (α:=Nat) [1] [0,1,12] [] (fun i=>[(13,.p (I (i:Int)))]) (fun _=>[]) (fun i=>a.length - i) (fun i=>i≤a.length∧(agree a b i)) 0 O O O (⟨by omega,Gy _ _⟩) ?_);rintro i hC
 try simp only at hC
 have ⟨hi,hC⟩:=hC;refine BH [1] rfl ?_ ?_<;>intro c1
 ·refine Jf [2] [] O (DB [2] O ?_);have ⟨x,hx⟩:=Ap (l:=a) (i:=i) Af;refine Aw O (fun _=>Ao Hg O O Af (LI hx) (O)) Ah (DB [3] O ?_);have ⟨x1,hx1⟩:=Ap (l:=b) (i:=i) Af;refine Aw O (fun _=>Ao Hg O O Af (LI hx1) (O)) Ah ?_;refine GU [2] rfl (BH [0] rfl ?_ ?_)<;>intro c2
  ·refine BF [1] O (B7 [] [] O O ⟨pB (ED (fun h=>by subst h;rw[hx] at hx1;injection hx1 with e;omega)).symm,rfl⟩)
  exact Fa [2] 0 (i+1) O (⟨by omega,HB hC hx (by rw[hx1];congr 1;omega)⟩)
 refine C6 [0] O (BF [1] O (B7 [] [] O O ⟨pB (A2 (H9 hC Af Af)).symm,O⟩))
theorem XU:∀(l:List Mv),(l.length<2 ^ 38)→BO Tryz.prog 38 [.p (.lst (List.map B5 l))] [] (aS (fun v=>v) 12 (List.map B5 l)):=by
 intro l h1;refine Db Tryz.func38 O (De [2] O (Ci O O (PM IB O O) ?_));rintro _ ⟨q,rfl,hq⟩;refine BT (BH [0] rfl ?_ ?_)<;>intro c
 ·refine D5 [1] O (BA (IC (t:=2) (sz:=12) O) (CF (BF [0] O (B7 [] [0] O O ?_))));rw[show l=[] by simpa using hq c]
  all_goals exact⟨_,_,rfl,rfl⟩
 refine De [0] O (Il O O (Mo IB) fun b5 cp=>BT (De [1] O ?_));refine IQ O O (C9 (i:=0) (rows':=List.map B5 l) IB IB UD O O O O O O (Nv _) AD (IY (f:=B5) [] l)) fun o cp1=>BT (BF [1] O (B7 [] [0] O O ⟨_,_,O,O⟩))
theorem Z3:∀(n f:Int),(f<1152921504606846976)→EE Tryz.prog 37 [.p (I n),.p (I f)] (.p (.lst (A0 (HW n f)))):=by
 intro n f h1;refine Db Tryz.func37 O (DM [1] 1 [0,1] 16 (((decide ((n:Int)<(1:Int)))||(decide ((n:Int) > (4096:Int))))||(decide ((f:Int)<(0:Int)))) O O ?_ ?_)
 ·refine A9 [3] 9 rfl rfl ?_ ?_<;>intro g
  ·exact Bu [7] O
  refine A9 [4] 13 rfl rfl ?_ ?_<;>intro g1
  ·exact Bu [3] O
  exact Bu [3] O
 refine BH [0] rfl ?_ ?_<;>intro c
 ·refine D5 [1] O (BA (Di 4) ?_);refine CF (BF [0] O (B7 [] [] O O ⟨by unfold HW;rw[if_pos Af];try rfl,rfl⟩))
 refine De [1] O (Il O O (DY Bc Bx O O Ae O O O Af Af Af (P2 ((n:Int).toNat) (.mk 0 0 ⟨#[]⟩ [] []:Tm))) fun b18 cp=>BT (Ak [2] O (O6 Bc O (Av _)) ?_));refine F3 (α:=Nat×Option Nat×Nat) [1] [0,1,20] [0] (fun(i,o,cp1)=>[(5,.vs o (A0 (HK f n.toNat i)).length cp1),(21,.p (I (i:Int)))]) (fun(i,o,cp1)=>[(0,.vec o 5 (A0 (HK f n.toNat i)) cp1)]) (fun(i,o,cp1)=>n.toNat - i) (fun(i,o,cp1)=>i≤n.toNat) ⟨0,(some b18),cp⟩ O O O AO ?_ (e0:=⟨we (NX (List.replicate ((n:Int).toNat) (.mk 0 0 ⟨#[]⟩ [] []:Tm)) ((N3 f n.toNat).symm)),we O,Ah⟩) (e1:=wl (GP (List.replicate ((n:Int).toNat) (.mk 0 0 ⟨#[]⟩ [] []:Tm)) ((N3 f n.toNat).symm)) (Js));rintro⟨i,o,cp1⟩ hC
 try simp only at hC
 have hi:=hC;refine BH [1] rfl ?_ ?_<;>intro c1
 ·refine De [11] O (Kg (i:=0) O (by simp only[Av,H8 f hi];omega) fun b hb=>?_);subst hb;refine BT (Ak [0] O (CW Bc O O Af (by simp only[Av,H8 f hi];omega)) ?_);exact Ak [0] O (Cj (i:=0) (j:=i) Bh O O O (by simp only[Av,H8 f hi];omega) O O O O (MZ (HK f n.toNat i) i (.mk 0 ((((f:Int)+(n:Int):Int) - (1:Int):Int) - ((i:Int):Int)) ⟨#[]⟩ [] []:Tm))) (Fa [2] 0 ⟨i+1,(some b),cp1⟩ O Af (e1:=⟨we (EU (HK f n.toNat i) (by rw[H8 f Af,H8 f Af])),we O,Ah⟩) (e2:=wl (GP ((HK f n.toNat i).set i (.mk 0 ((((f:Int)+(n:Int):Int) - (1:Int):Int) - ((i:Int):Int)) ⟨#[]⟩ [] []:Tm)) (by rw[←UA f Af];simp only[Dc];congr 2;omega)) (Js)))
 refine C6 [0] O (D5 [2] O (BA (CH (i:=0) [5,35,4] O (ES ⟨O,O,O,Ah⟩)) ?_));refine CF (BF [0] O (B7 [] [] O O ⟨by unfold HW;rw[if_neg Af,show i=n.toNat by omega,We];try rfl,rfl⟩))
theorem Kl:∀(e:Int),BO Tryz.prog 52 [.p (I e)] [] (OP (.p (.iface 32 (I e))) []):=by
 intro e;exact Db Tryz.func52 O (Ak [1] O (Jy fc (by intro ms h;cases h) O) (De [0] O (Ss O O (Pg O) (⟨O,_,List.nil_sublist _,⟨O,O⟩⟩))))
theorem Pr:∀(e:Int),EE Tryz.prog 26 [.p (.iface 32 (I e))] (.p (I e)):=by
 intro e;refine Db Tryz.func26 O (Ak [2] O (OT fc O O) ?_);refine Cr [7] O O (fun c=>by cases c) (fun c=>?_);refine BF [2] O (B7 [] [] O O ⟨O,O⟩)
theorem XM:∀(t:Tm),(Nd t)→(size t<1152921504606846976)→EE Tryz.prog 86 [.agg ((BB t).map .p)] (.p (.bool (KJ t))):=by
 intro t h1 h2;refine Db Tryz.func86 O (DT [0] O O fun b1=>DM [1] 1 [] 2 ((decide (((size t:Nat):Int) > (4096:Int)))||(decide ((DZ t:Int) > (200:Int)))) O O ?_ ?_)
 ·refine Cc [1,0] O (Ri t h1 h2) ?_;refine A9 [2] 6 rfl rfl ?_ ?_<;>intro g
  ·exact Bu [5] O
  exact Cc [1,0] O (Nr _ t (Nat.le_refl _) h1) (Bu [3] O)
 refine BF [0] O (B7 [] [] O O ⟨O,O⟩)
theorem eQ:∀{σ:Type}(st:σ→Int→Tm→σ) (HP:σ→List Aj→Prop) (l b1:Nat) (hy:∀s d t T,Nd t→HP s T→Ij Tryz.prog l [.p (I d),TV t] T (RV (.p (.bool true)) (HP (st s d t)))) (xs:List Tm) (s:σ) (T0:List Aj),G3 xs→xs.length<C7→HP s T0→BO Tryz.prog 163 [.fn (.yield l) [] [],.ptr b1 0] (.box b1 [.p (.lst (A0 xs))]::T0) (RV (.tup []) (fun H=>∃T,HP (ZB st xs xs.length s) T∧H= .box b1 [.p (.lst (A0 xs))]::T)):=by
 intro σ st HP l b1 hy xs s T0 h1 h2 h3;simp only[C7] at h2;refine Bv Tryz.func163 O en (n:=19) O O (A4 (Au O (BQ (i:=0) Jr O O O) (Au O (Bp Bc O (Av _)) (Ar tab 2 [] O (BG (C4 (α:=Nat×σ×List Aj) (fun(m,q,U)=>⟨19,mk [(0,.fn (.yield l) [] []),(1,.ptr b1 0),(3,.p (I ((m:Int) - 1)))],(.box b1 [.p (.lst (A0 xs))]::U),[]⟩) (fun(m,q,U)=>m) (fun(m,q,U)=>m≤xs.length∧ZB st xs m q=ZB st xs xs.length s∧HP q U) ⟨xs.length,s,T0⟩ (⟨by omega,rfl,h3⟩) ?_ ?_))))))
 ·exact C3 ⟨we O,we O,we O,Ah⟩ (ZD [0] [_] (l':=[_]) O (wl (oe O) (Js)))
 rintro⟨m,q,U⟩ hC
 try simp only at hC
 have ⟨hm,hB,hK⟩:=hC;refine Ax (BD tab 2 [] O (A5 O (fun c=>?_) (fun c=>?_)))
 ·(try simp only[sd,se] at c);refine BJ (Ax (BG (A4 (Az tab 4 [0] O ?_))));have ⟨x,hx⟩:=Ap (l:=xs) (i:=((m:Int) - 1:Int).toNat) Af;refine Au O (Ao Bc O O Af (B9 hx) (An _)) (Au O (Bl Bh O (An _)) (QC [_] O O O O (hy q _ _ _ (CE h1 hx) hK) O ?_ (fun _ _ h=>h.elim)));rintro _ T ⟨rfl,hT⟩;refine Ar tab 1 [] O ?_;refine A5 O (fun c1=>by cases c1) (fun c1=>?_);refine BJ (A1 (Ar tab 3 [] O ?_));refine⟨⟨m - 1,st q ((m:Int) - 1) x,T⟩,AQ,⟨by omega,by rw[←hB];exact Yr hx Af,by assumption⟩,C3 ⟨we rfl,we rfl,we (pI Af),trivial⟩ (ZD [0] [_] (l':=[_]) rfl (wl (oe rfl) (Js)))⟩
 (try simp only[sd,se] at c);refine Cq ⟨O,_,_,O,(Gs [0] [_] O),?_⟩;rw[←hB,show m=0 by omega];exact⟨O,_,hK,O⟩
theorem iA:∀(xs:List Tm),BO Tryz.prog 113 [.p (.lst (A0 xs))] [] (fun r H'=>∃b,r= .val (.fn (.func 163) [] [.ptr b 0])∧H'=[.box b [.p (.lst (A0 xs))]]):=by
 intro xs;refine Db Tryz.func113 O (DT [0] O O fun b1=>BF [3] O (B7 [] [0] O O ⟨_,O,O⟩))
theorem Z8:∀(xs:List Tm) (t:Tm) (bk:Nat) (k:Int),(G3 xs)→(xs.length<C7)→BO Tryz.prog 112 [.p (.lst (A0 xs)),.agg ((BB t).map .p),.ptr bk 0] [.box bk [.p (I k)]] (Pa (.agg ((BB (Bi k xs t)).map .p)) [.box bk [.p (I k)]]):=by
 intro xs t bk k h1 h2;refine DW Tryz.func112 O fi (n:=18) O O (A4 (Bz O (CJ O) fun b4=>Bz O (Am Bx O) fun b5=>CZ (CI (i:=0) O) (Ba O (Ax (A4 (B6 O ?_))))));refine Ou [] O O O (.inl ⟨O,O,O⟩) (iA xs) O Ag (aw (we O) HY) ?_ (fun _ _ ⟨_,h,_⟩=>by cases h);rintro _ _ ⟨bn,h,rfl⟩;cases h;refine Ba O (BG (KQ (.inr O) fun dd l L hL=>⟨_,_,CR (is:=[2,0,5,4]) Ae ⟨_,_,O,O,⟨_,_,O,O,⟨_,_,O,O,⟨_,_,O,O,O⟩⟩⟩⟩,?_⟩));have hy:∀(s:Tm) (d:Int) (t:Tm) (T:List Aj),Nd t→(fun(s:Tm) (T:List Aj)=>T=[.loop l L,.box bk [.p (I k)],.box b4 ((BB s).map .p)]) s T→Ij Tryz.prog l [.p (I d),TV t] T (RV (.p (.bool true)) ((fun(s:Tm) (T:List Aj)=>T=[.loop l L,.box bk [.p (I k)],.box b4 ((BB s).map .p)]) ((Ns k) s d t))):=by
  rintro s d tt T hnd rfl;subst hL;refine L9 (i:=0) O O O O (A1 (Bz O (Am Bx O) fun b7=>Ar tab 1 [0,1] O ⟨O,1,O,?_⟩));refine BG (A1 (Az tab 3 [2,0,3] O ?_));obtain⟨ttk,tti,ttn,ttl,tts⟩:=tt;obtain⟨sk,si,sn,sl,ss⟩:=s;refine Au O (Ay Bc Bx O O O O O) (Az tab 2 [3,0] O (CZ (CI (i:=3) O) (Ba O ⟨1,_,O,Fe (is:=[1,2,3]) O,?_⟩)));exact⟨O,O⟩
 refine(eQ (Ns k) (fun(s:Tm) (T:List Aj)=>T=[.loop l L,.box bk [.p (I k)],.box b4 ((BB s).map .p)]) l bn hy xs t _ (h1) (h2) O).mono ?_;rintro(v | v) H' hR
 rotate_left
 ·exact hR.elim
 obtain⟨rfl,_,rfl,rfl⟩:=hR;subst hL;refine⟨1,_,O,Ag,?_⟩;refine BD tab 2 [2,4,1] O (Bk (⟨3,O,_,_,⟨_,_,O,(CT (i:=3) Bh O O AY),O⟩,(Fe (is:=[1]) O),?_⟩));rw[←(show ZB (Ns k) xs xs.length t=Bi k xs t by rw[Py k xs _ t (Nat.le_refl _),List.take_length])]
 all_goals exact⟨rfl,rfl⟩
theorem dQ:∀(k:Int),BO Tryz.prog 75 [.p (I k)] [] (eD (fun b=> .fn (.func 112) [] [.ptr b 0]) [.p (I k)]):=by
 intro k;refine Db Tryz.func75 O (DT [0] O O fun b1=>BF [3] O (B7 [] [0] O O ⟨_,O,O⟩))
theorem cm:∀(xs:List Tm) (t:Tm),(G3 xs)→(xs.length<C7)→EE Tryz.prog 33 [.p (.lst (A0 xs)),.agg ((BB t).map .p)] (.agg ((BB (Bi 6 xs t)).map .p)):=by
 intro xs t h1 h2;refine Db Tryz.func33 O (DT [0] O O fun b3=>DR [0] O (Am Bx O) fun b4=>Jf [0] [0] O (Rm [(1,.free (.p (.lst (A0 xs)))),(2,.read [.box b3 ((BB t).map .p)] (.agg ((BB t).map .p)))] O O O (.inl ⟨O,O,O⟩) (dQ 6) (.inl O) Ab fun bn=>⟨AB,Ah,?_⟩));refine DB [2,2] O (Lc O O (Gp [0] O (.inr O) (Z8 xs t bn 6 h1 h2) ⟨_,_,O,O,O⟩ Ae O (.inl O)) AB AN (GU [1,1,1] O (BF [0] O (B7 [1] [] O O ⟨O,O⟩))))
theorem KP:∀(t:Tm),(Nd t)→(size t<C7)→EE Tryz.prog 14 [.agg ((BB t).map .p)] (.tup [.p (I ((Jq t).1)),.p (.lst (List.map CX ((Jq t).2.1))),.p (.bool ((Jq t).2.2))]):=by
 intro t h1 h2;have hsl:=Vx t;simp only[C7] at h2;refine Db Tryz.func14 O (DT [0] O O fun b1=>Cc [4,0] O (NU t h1 AU) (DR [3] O (Am Bx O) fun b5=>?_));generalize hz:(Al t).1=z;obtain⟨zk,zi,zn,zl,zs⟩:=z;refine BH [5,0,1,0] rfl ?_ ?_<;>intro c
 ·refine D5 [3] O (BA (Di 3) (CF (BF [0] O (B7 [] [] O O ?_))));rw[ax (by rw[hz];exact c)]
  all_goals exact⟨rfl,rfl⟩
 refine CD [2] O O (Av _) (D5 [1] O (BA (IC (t:=7) (sz:=1) O) (CF (F3 (α:=Nat×List Int×Option Nat×Nat) [0] [5,18,19] [0,1] (fun(i,l,o,cp)=>[(7,.vs o (List.map CX l).length cp),(20,.p (I (i:Int)))]) (fun(i,l,o,cp)=>[(0,.vec o 1 (List.map CX l) cp)]) (fun(i,l,o,cp)=>(Al t).2.length - i) (fun(i,l,o,cp)=>i≤(Al t).2.length∧(N6 l ((Al t).2.drop i)=N6 [] (Al t).2∧l.length≤i)) ⟨0,[],none,0⟩ O O O Ag ?_))));rintro⟨i,l,o,cp⟩ hC
 try simp only at hC
 have ⟨hi,hC,hl⟩:=hC;refine BH [1] rfl ?_ ?_<;>intro c1
 ·refine Em [0] ((Al t).2) i O O O (Jt _) (fun x hx=>?_);refine DR [1] O (Am Bx O) fun b9=>?_;obtain⟨xk,xi,xn,xl,xs⟩:=x;refine A9 [5,0,1,0] 27 rfl rfl ?_ ?_<;>intro g
  ·refine Cr [5] O O (fun c2=>?_) (fun c2=>by cases c2);refine D5 [3] O (BA (Di 3) (CF (BF [0] O (B7 [] [] O O ?_))));rw[QB (by rw[hz];exact c) (by rw[←hC,CG hx,N6,if_pos (.inl g)])]
   all_goals exact⟨rfl,rfl⟩
  refine Ak [3,0] O (YO (i:=1) O O O (Md l xi AU) ⟨_,_,O,.inr (.inr ⟨O,O⟩),⟨_,_,O,.inl O,O⟩⟩ O) ?_;refine BH [1] rfl ?_ ?_<;>intro c2
  ·refine D5 [3] O (BA (Di 3) (CF (BF [0] O (B7 [] [] O O ?_))));rw[QB (by rw[hz];exact c) (by rw[←hC,CG hx,N6,if_pos (.inr (by simpa [Nx] using c2))])]
   all_goals exact⟨rfl,rfl⟩
  refine Ak [3,0] O (Ay Hg Wf O O O O O) (De [0] O (IQ O O (C9 (i:=1) (rows':=List.map CX [xi]) Hg Hg Wf O O O O O O (LX _) AD (IY (f:=CX) l [xi])) fun o1 cp1=>?_));exact BT (Fa [3] 1 ⟨i+1,l++[xi],o1,cp1⟩ O (⟨by omega,⟨by rw[←hC,CG hx,N6,if_neg (by simp only[Nx,decide_eq_false_iff_not] at c2;simp[g,c2])],by simp;omega⟩⟩))
 refine C6 [0] O (D5 [6,1] O (BA (CH (i:=0) [7,41,3] O (ES ⟨O,O,O,Ah⟩)) (CF (BF [0] O (B7 [] [] O O ?_)))));rw[QQ (l:=l) (by rw[hz];exact c) (by rw[←hC,show i=(Al t).2.length by omega,List.drop_length];rfl),hz]
 all_goals exact⟨rfl,rfl⟩
theorem YC:∀(ms:List Mv) (ctx:List Tm) (t:Tm) (cl:Bool),(ms.length<2 ^ 37)→(G3 ctx)→(Nd t)→(ctx.length<C7)→(size (Bi 6 ctx t)<1152921504606846976)→EE Tryz.prog 12 [.p (.lst (List.map B5 ms)),.p (.lst (A0 ctx)),.agg ((BB t).map .p),.p (.bool cl)] (.tup [.p (.lst (List.map B5 ((Lh ms ctx t cl).1))),.agg ((BB ((Lh ms ctx t cl).2.1)).map .p),.p (I ((Lh ms ctx t cl).2.2))]):=by
 intro ms ctx t cl h1 h2 h3 h4 h5;simp only[C7] at h4;have hvl:=V4 ctx.length 0;refine Db Tryz.func12 O (DT [0] O O fun b6=>DR [1] O (Am Bx O) fun b9=>CD [2] O O (List.length_map _) ?_);refine BH [1] rfl ?_ ?_<;>intro c
 ·refine D5 [4,0,0] O (BA (Di 8) (BA (CI (i:=0) O) (CF (BF [0] O (B7 [0] [] O O ?_)))));rw[WK Af]
  all_goals exact⟨rfl,rfl⟩
 refine Cc [2,1] O (cm ctx t h2 h4) (DR [0] O (Am Bx O) fun b11=>Cc [2,0,1,0] O (Ri (Bi 6 ctx t) (Jl h2 h3) h5) ?_);refine BH [2] rfl ?_ ?_<;>intro c1
 ·refine D5 [4,1,0] O (BA (Di 8) (BA (CI (i:=1) O) (CF (BF [0] O (B7 [1] [] O O ?_)))));rw[WT Af (by rw[IF Af];omega)]
  all_goals exact⟨rfl,rfl⟩
 refine Cc [1,0] O (Nr _ (Bi 6 ctx t) (Nat.le_refl _) (Jl h2 h3)) ?_;refine BH [2] rfl ?_ ?_<;>intro c2
 ·refine D5 [4,1,0] O (BA (Di 8) (BA (CI (i:=1) O) (CF (BF [0] O (B7 [1] [] O O ?_)))));rw[VN Af (by rw[IF Af];omega) Af]
  all_goals exact⟨rfl,rfl⟩
 refine CD [1] O O (List.length_map _) (CD [2] O O (Av _) (Cc [0] O (Z3 (ctx.length:Nat) 0 Af) (Ak [0] O (Hz O O (K1 (.mk 12 (ms.length:Nat) ⟨#[]⟩ [] []:Tm) (HW (ctx.length:Nat) 0) AU) (aw (E9 O) (aw (we O) (HY)))) (DR [0] O (Am Bx O) fun b12=>Jf [1,0,1] [1,6] O (Aw O (fun _=>Be O) Ah ?_)))));generalize hz:Bi 6 ctx t=z;obtain⟨zk,zi,zn,zl,zs⟩:=z;refine dk [(2,.read [.box b11 [.p (I zk),.p (I zi),.p (.str zn),.p (.lst (List.map Dd zl)),.p (.lst (A0 zs))]] (.agg [.p (I zk),.p (I zi),.p (.str zn),.p (.lst (List.map Dd zl)),.p (.lst (A0 zs))])),(3,.free (.p (.bool cl))),(4,.free (.agg [.p (I zk),.p (I zi),.p (.str zn),.p (.lst (List.map Dd zl)),.p (.lst (A0 zs)),.p (.bool false),.p (I 0),.p (I 0),.p (.str ⟨#[]⟩),.p (.nils),.p (.nils),.p (.bool cl)])),(5,.free (.p (.lst (List.map B5 ([(Mv.mk (.mk zk zi zn zl zs:Tm) false (.mk 0 0 ⟨#[]⟩ [] []:Tm) cl)]))))),(7,.read [.box b12 ((BB (apply (.mk 12 (ms.length:Nat) ⟨#[]⟩ [] []:Tm) (HW (ctx.length:Nat) 0))).map .p)] (.agg ((BB (apply (.mk 12 (ms.length:Nat) ⟨#[]⟩ [] []:Tm) (HW (ctx.length:Nat) 0))).map .p)))] O O O (.inl ⟨O,O,O⟩) (XU ms Af) (.inl O) Ab fun o cp=>⟨AB,Ah,?_⟩;refine DB [3,2] O (Aw O (fun _=>Ay IB UD O O O O O) AN (Y7 [(7,.read [.box b12 ((BB (apply (.mk 12 (ms.length:Nat) ⟨#[]⟩ [] []:Tm) (HW (ctx.length:Nat) 0))).map .p)] (.agg ((BB (apply (.mk 12 (ms.length:Nat) ⟨#[]⟩ [] []:Tm) (HW (ctx.length:Nat) 0))).map .p)))] O O (C9 (i:=0) (rows':=List.map B5 ([(Mv.mk (.mk zk zi zn zl zs:Tm) false (.mk 0 0 ⟨#[]⟩ [] []:Tm) cl)])) IB IB UD O O O O O O (Nv _) AD (IY (f:=B5) ms ([(Mv.mk (.mk zk zi zn zl zs:Tm) false (.mk 0 0 ⟨#[]⟩ [] []:Tm) cl)]))) Ab fun o1 cp1=>⟨AB,AN,?_⟩));refine GU [4,1,3,1] O (D5 [0] O ?_);refine BA (CH (i:=0) [8,43] O (ES ⟨O,O,Ah⟩)) (CF (BF [0] O (B7 [2] [] O O ?_)));rw[U3 Af (by rw[IF Af];omega) Af,hz]
 all_goals exact⟨rfl,rfl⟩
set_option maxHeartbeats 4000000 in
theorem Wh:∀(F:EN→Tm→Except Int (Tm×EN)) (ms:List Mv) (bd md bo mo bw bm bv bf:Nat) (dn:List (Int×Tm)) (op:List Int) (wk:Int) (i:Int) (m:Mv) (hf:i ∉ op→BO Tryz.prog 53 [TV (valueOf ms i),.ptr bw 0,.ptr bm 0,.ptr bv 0,.ptr bf 0] [.box bd [.map md],.map md (B8 (J9 dn)),.box bo [.map mo],.map mo (B8 (Jo (op++[i]))),.box bw [.p (I wk)],.box bm [.p (.lst (List.map B5 ms))],.box bv [.fn (.func 51) [] [.ptr bd 0,.ptr bo 0,.ptr bf 0,.ptr bm 0]],.box bf [.fn (.func 53) [] [.ptr bw 0,.ptr bm 0,.ptr bv 0,.ptr bf 0]]] (M7 (fun(r:Tm×EN)=>TV r.1) (fun e=> .p (.iface 32 (I e))) (fun r H'=>H'=[.box bd [.map md],.map md (B8 (J9 r.2.dn)),.box bo [.map mo],.map mo (B8 (Jo r.2.op)),.box bw [.p (I r.2.wk)],.box bm [.p (.lst (List.map B5 ms))],.box bv [.fn (.func 51) [] [.ptr bd 0,.ptr bo 0,.ptr bf 0,.ptr bm 0]],.box bf [.fn (.func 53) [] [.ptr bw 0,.ptr bm 0,.ptr bv 0,.ptr bf 0]]]) (F ⟨dn,op++[i],wk⟩ (valueOf ms i)))),0≤i→ms[i.toNat]?=some m→ms.length<C7→BO Tryz.prog 51 [.p (I i),.ptr bd 0,.ptr bo 0,.ptr bf 0,.ptr bm 0] [.box bd [.map md],.map md (B8 (J9 dn)),.box bo [.map mo],.map mo (B8 (Jo op)),.box bw [.p (I wk)],.box bm [.p (.lst (List.map B5 ms))],.box bv [.fn (.func 51) [] [.ptr bd 0,.ptr bo 0,.ptr bf 0,.ptr bm 0]],.box bf [.fn (.func 53) [] [.ptr bw 0,.ptr bm 0,.ptr bv 0,.ptr bf 0]]] (M7 (fun(r:Tm×EN)=>TV r.1) (fun e=> .p (.iface 32 (I e))) (fun r H'=>H'=[.box bd [.map md],.map md (B8 (J9 r.2.dn)),.box bo [.map mo],.map mo (B8 (Jo r.2.op)),.box bw [.p (I r.2.wk)],.box bm [.p (.lst (List.map B5 ms))],.box bv [.fn (.func 51) [] [.ptr bd 0,.ptr bo 0,.ptr bf 0,.ptr bm 0]],.box bf [.fn (.func 53) [] [.ptr bw 0,.ptr bm 0,.ptr bv 0,.ptr bf 0]]]) (FR F ms ⟨dn,op,wk⟩ i)):=by
 intro F ms bd md bo mo bw bm bv bf dn op wk i m hf h1 h2 h3;have hvo:valueOf ms i=m.value:=by unfold valueOf;rw[h2]
 have hil:=(List.getElem?_eq_some_iff.1 h2).1;refine Db Tryz.func51 O (DR [0] O (Am Bx O) fun b6=>Ak [2,1] O (PY (i:=2) cQ Bx Qf O O O (U9 _ _) (ZH _ _)) (DR [3] O (Am Bx O) fun b7=>?_));refine BH [3,0,1] rfl ?_ ?_<;>intro c
 ·refine BF [2,0,1,1] O (B7 [1] [2,3,4,5,6,7,8,9] O O ⟨⟨(GI i dn).getD A3,⟨dn,op,wk⟩⟩,TW c,O,O⟩)
 refine Ak [2,4] O (Iz (i:=5) aP jK Qj O O O (W8 _ _)) ?_;refine BH [0] rfl ?_ ?_<;>intro c1
 ·exact De [0] O (F9 O O O (.inl ⟨O,O,O⟩) (Kl 22) (aw (we O) (HY)) (⟨O,_,List.nil_sublist _,⟨_,TD c c1,O⟩⟩))
 refine Ak [2,4] O (He (i:=5) aP O O O O) (D5 [0] O (BA (Jc (i:=5) O (om (congrArg B8 (Yj (s:=op) (k:=i) (by simpa [Nx] using c1))))) (CF (Jf [0] [8] O ?_))));refine DB [5,2,9,7] O ?_;have ⟨x,hx⟩:=Ap (l:=ms) (i:=(i:Int).toNat) Af;refine Aw O (fun _=>Ao IB O O Af (Kt hx) (DH _)) Ah ?_;obtain⟨xy,xn,xv,xc⟩:=x;obtain⟨xyk,xyi,xyn,xyl,xys⟩:=xy;obtain⟨xvk,xvi,xvn,xvl,xvs⟩:=xv;refine Aw O (fun _=>CV dq O O) Ah (Aw O (fun _=>EA (cs:=[I xvk,I xvi,.str xvn,.lst (List.map Dd xvl),.lst (A0 xvs)]) Bh O O O) Ah ?_);have hvx:valueOf ms i= .mk xvk xvi xvn xvl xvs:=by unfold valueOf;rw[hx]
 refine IT [2,3,4,5,6,7,8,9] O O O (.inr O) (hf (by simpa [Nx] using c1)) ⟨_,_,O,O,⟨_,_,O,O,⟨_,_,O,O,⟨_,_,O,O,⟨_,_,O,O,⟨_,_,O,O,⟨_,_,O,O,⟨_,_,O,O,O⟩⟩⟩⟩⟩⟩⟩⟩ Ae (by rw[hvx];exact B2 _) (fun _ _ h=>(congrArg List.length h).trans O) Ab Ab O AB ?_ ?_
 rotate_left
 ·intro e he _ _ hτ;exact⟨O,_,List.nil_sublist _,⟨_,UO (st:=⟨dn,op,wk⟩) c c1 he,O⟩⟩
 rintro⟨z,⟨dn1,op1,wk1⟩⟩ _ hz rfl;refine⟨AB,Ah,?_⟩;refine Lc O O (He (i:=3) cQ O O O O) AB Ah (Fj O Ab (I8 (De [0] O ?_)));refine CZ (Jc (i:=3) O (om (congrArg B8 (X2 i z dn1)))) (BT (Ak [2,2] O (Iz (i:=3) cQ Bx Qf O O O (U9 (LQ i z dn1) i)) ?_));refine BF [1,1,1] O (B7 [1] [2,3,4,5,6,7,8,9] O O ⟨⟨(GI i (LQ i z dn1)).getD A3,⟨LQ i z dn1,op1,wk1⟩⟩,by rw[Pn];exact UT (F:=F) (ms:=ms) (st:=⟨dn,op,wk⟩) (i:=i) (z:=z) c c1 hz,rfl,rfl⟩)
theorem Gm:∀(t:Tm) (e:Int),(Nd t)→(size t<1152921504606846976)→BO Tryz.prog 54 [.agg ((BB t).map .p),.p (I e)] [] (M7 (fun(r:Tm)=>TV r) (fun e=> .p (.iface 32 (I e))) (fun r H'=>H'=[]) (HX t e)):=by
 intro t e h1 h2;refine Db Tryz.func54 O (DT [0] O O fun b2=>DR [0] O (Am Bx O) fun b4=>DM [0] 1 [2,4] 10 (((e:Int) !=(0:Int))||(KJ t)) O O ?_ ?_)
 ·refine A9 [3] 7 rfl rfl ?_ ?_<;>intro g
  ·exact Bu [3] O
  exact Cc [1,1] O (XM t h1 h2) (Bu [1] O)
 refine Cr [0] O O (fun c=>?_) (fun c=>?_)
 ·have cR:=c;(try simp only[sd,se] at c);refine De [0] O (F9 O O O (.inl ⟨O,O,O⟩) (Kl 11) (aw (we O) (HY)) ?_);exact⟨O,_,List.nil_sublist _,⟨_,by unfold HX;rw[if_pos Ad],rfl⟩⟩
 have cR:=c;(try simp only[sd,se] at c);refine BF [2,1,0,1] O (B7 [0] [] O O ⟨t,by unfold HX;rw[if_neg Ad],rfl,rfl⟩)
theorem _root_.Go.AP {α:Prop}(h:α:=by simp only[Av,List.length_map];omega):α:=h
theorem _root_.Go.AJ {α:Prop}(h:α:=by simp only[Av,List.length_append,List.length_replicate];omega):α:=h
set_option maxHeartbeats 8000000 in
theorem RL:∀(ms:List Mv) (B:Nat) (bd md bo mo bw bm bv bf:Nat) (hB:1≤B) (hB2:B≤1073741824) (hm:∀m∈ms,Ok B m.value) (hl:ms.length<1048576) (n:Nat) (dn:List (Int×Tm)) (op:List Int) (wk:Int) (t:Tm),Ok B t→NH ms ⟨dn,op,wk⟩→size t+(B+1)*free ms op≤n→BO Tryz.prog 53 [TV t,.ptr bw 0,.ptr bm 0,.ptr bv 0,.ptr bf 0] [.box bd [.map md],.map md (B8 (J9 dn)),.box bo [.map mo],.map mo (B8 (Jo op)),.box bw [.p (I wk)],.box bm [.p (.lst (List.map B5 ms))],.box bv [.fn (.func 51) [] [.ptr bd 0,.ptr bo 0,.ptr bf 0,.ptr bm 0]],.box bf [.fn (.func 53) [] [.ptr bw 0,.ptr bm 0,.ptr bv 0,.ptr bf 0]]] (M7 (fun(r:Tm×EN)=>TV r.1) (fun e=> .p (.iface 32 (I e))) (fun r H'=>H'=[.box bd [.map md],.map md (B8 (J9 r.2.dn)),.box bo [.map mo],.map mo (B8 (Jo r.2.op)),.box bw [.p (I r.2.wk)],.box bm [.p (.lst (List.map B5 ms))],.box bv [.fn (.func 51) [] [.ptr bd 0,.ptr bo 0,.ptr bf 0,.ptr bm 0]],.box bf [.fn (.func 53) [] [.ptr bw 0,.ptr bm 0,.ptr bv 0,.ptr bf 0]]]) (B0 ms n ⟨dn,op,wk⟩ t)):=by
 intro ms B bd md bo mo bw bm bv bf hB hB2 hm hl n
 induction n with
 | zero=>intro dn op wk t h1 h2 h3;have:=size_pos t;omega
 | succ n ih =>
  intro dn op wk t h1 h2 h3;have hsl:=EB t;have hsn:=Nc t h1.nd;have hsw:=N1 t h1.wt;have hsv:=NP t h1.vp;have hts:=h1.sz;have hw0:=h2.w0;have hw1:=h2.w1;simp only at hw0 hw1
  -- hz
  refine Bv Tryz.func53 O ig (n:=123) O O (A4 (Bz O (CJ O) fun b5=>Bz O (Am Bx O) fun b6=>Ba O (Ax (BD tab 3 [6,6,0] O (BD tab 2 [6] O (A5 O (fun c=>?_) (fun c=>?_)))))))
  ·have cR:=c;(try simp only[sd,se] at c);exact A1 (F9 O O O (.inl ⟨O,O,O⟩) (Kl 11) (aw (we O) (HY)) (⟨O,_,List.nil_sublist _,⟨_,T3 Af,O⟩⟩))
  have cR:=c;(try simp only[sd,se] at c);have hnw:¬wk+1 > 8192000:=by omega
  have hS1:NH ms ⟨dn,op,wk+1⟩:=⟨h2.dn,by simp only;omega,by simp only;omega⟩;refine BJ (A4 (Au O (B1 (i:=1) Bh O O AY) (Au O (BM O O (NU t h1.nd AU) O) (Az tab 3 [] O (Bz O (Am Bx O) fun b7=>Ar tab 2 [0,1] O (Ax ?_))))));generalize hz:(Al t).1=z;obtain⟨zk,zi,zn,zl,zs⟩:=z;have hzO:Ok B (.mk zk zi zn zl zs):=hz▸⟨hsn.1,hsv.1,hsw.1,by omega⟩;have hz12:zk=12→0≤zi:=fun e=>cq (v:= .mk zk zi zn zl zs) hzO.wt e;have hkn:=Z7 hzO.nd hzO.wt;simp only[Tm.kids] at hkn;rw[hz] at hsl;simp only[size] at hsl;have hzl:=DN zs;refine DV [3,4,6,7,8] 9 (fun y=>y= .p (.bool (known ms (.mk zk zi zn zl zs)))) ?_ ?_
  ·refine A1 (Az tab 4 [0] O (Br 29 O (fun g=>?_) (fun g=>?_)))
   ·(try simp only[sd,se] at g);refine Az tab 5 [0] O (Br 34 O (fun g1=>?_) (fun g1=>?_))
    ·(try simp only[sd,se] at g1);refine Az tab 3 [0,8] O (A8 O (Bp IB O (List.length_map _)) (Az tab 3 [] O (Br 41 O (fun g2=>?_) (fun g2=>?_))))
     ·(try simp only[sd,se] at g2);refine Az tab 3 [8,0] O ?_;have ⟨x,hx⟩:=Ap (l:=ms) (i:=(zi:Int).toNat) Af;refine A8 O (Ao IB O O Af (Kt hx) (DH _)) ?_;obtain⟨xy,xn,xv,xc⟩:=x;obtain⟨xyk,xyi,xyn,xyl,xys⟩:=xy;obtain⟨xvk,xvi,xvn,xvl,xvs⟩:=xv;exact Ar tab 4 [] O (⟨O,O,AK,(by refine pB ?_;first | (simp_all [known];done) | (exact absurd (hz12 Ac) Af) | (simp_all [known];omega)),⟨O,O,O,O,O,Ah⟩⟩)
     (try simp only[sd,se] at g2);exact Ar tab 8 [] O (⟨O,O,AK,(by refine pB ?_;first | (simp_all [known];done) | (exact absurd (hz12 Ac) Af) | (simp_all [known];omega)),⟨O,O,O,O,O,Ah⟩⟩)
    (try simp only[sd,se] at g1);exact Ar tab 15 [] O (⟨O,O,AK,(by refine pB ?_;first | (simp_all [known];done) | (exact absurd (hz12 Ac) Af) | (simp_all [known];omega)),⟨O,O,O,O,O,Ah⟩⟩)
   (try simp only[sd,se] at g);exact Ar tab 20 [] O (⟨O,O,AK,(by refine pB ?_;first | (simp_all [known];done) | (exact absurd (hz12 Ac) Af) | (simp_all [known];omega)),⟨O,O,O,O,O,Ah⟩⟩)
  rintro _ rfl;refine Ax (BD tab 1 [] O (A5 O (fun c1=>?_) (fun c1=>?_)))
  ·have c1R:=c1;(try simp only[sd,se] at c1);have hk:known ms (.mk zk zi zn zl zs)=true:=by simpa using c1R
   refine A1 (Az tab 3 [9,0] O ?_);have ⟨mv,hmv⟩:=WN hk;have hki:=Vn hk;simp only[Tm.kind,Tm.index] at hki;have hz0:=hz12 hki.1;have hvo:=Mf hB hm zi;refine E4 [3,4,5,6,7,8,9,10] O O O (.inr O) (Wh (B0 ms n) ms bd md bo mo bw bm bv bf dn op (wk+1) zi mv (fun hin=>ih dn (op++[zi]) (wk+1) (valueOf ms zi) hvo ⟨h2.dn,hS1.w0,hS1.w1⟩ (mk_val (size_pos t) h3 hz0 hki.2 hin hvo.sz)) hz0 hmv AU) ⟨_,_,O,O,⟨_,_,O,O,⟨_,_,O,O,⟨_,_,O,O,⟨_,_,O,O,⟨_,_,O,O,⟨_,_,O,O,⟨_,_,O,O,O⟩⟩⟩⟩⟩⟩⟩⟩ Ae (B2 _) (fun _ _ h=>(congrArg List.length h).trans O) ?_ ?_
   rotate_left
   ·intro e _ he;exact⟨O,_,List.nil_sublist _,⟨_,SH hnw hz (Yi hk he),O⟩⟩
   rintro⟨v,⟨dn1,op1,wk1⟩⟩ _ hz1 rfl;have hg:=Ma (Dn hB hm n) hB hm _ _ _ hS1 hz1;refine Ar tab 1 [0,1] O (A4 (B6 O (Au O (Bp Bc O (Av _)) (Il O O (DY Bc Bx O O Ae O O O Af Af Af (P2 (((((Al t).2).length:Nat):Int).toNat) (.mk 0 0 ⟨#[]⟩ [] []:Tm))) fun b81 cp=>Ar tab 1 [] O (Ax (A4 (B6 O (Au O (Bp Bc O (Av _)) (Ar tab 1 [] O (BG ?_))))))))));refine C4 (α:=Nat×List Tm×List (Int×Tm)×List Int×Int×Option Nat×Nat) (fun(j,us,dn2,op2,wk2,o,cp1)=>⟨123,mk [(4,.ptr bf 0),(6,.ptr b6 0),(7,.ptr b7 0),(9,.p (.bool (known ms (.mk zk zi zn zl zs)))),(13,.vs o (A0 (us++List.replicate ((Al t).2.length - j) A3)).length cp1),(82,.p (.lst (A0 ((Al t).2)))),(83,.p (I (((Al t).2).length:Nat))),(84,.p (I (j:Int)))],[.vec o 5 (A0 (us++List.replicate ((Al t).2.length - j) A3)) cp1,.box b7 ((BB v).map .p),.box b6 [.p (I 0),.p (I 0),.p (.str ⟨#[]⟩),.p (.nils),.p (.nils)],.box bd [.map md],.map md (B8 (J9 dn2)),.box bo [.map mo],.map mo (B8 (Jo op2)),.box bw [.p (I wk2)],.box bm [.p (.lst (List.map B5 ms))],.box bv [.fn (.func 51) [] [.ptr bd 0,.ptr bo 0,.ptr bf 0,.ptr bm 0]],.box bf [.fn (.func 53) [] [.ptr bw 0,.ptr bm 0,.ptr bv 0,.ptr bf 0]]],[]⟩) (fun(j,us,dn2,op2,wk2,o,cp1)=>(Al t).2.length - j) (fun(j,us,dn2,op2,wk2,o,cp1)=>j≤(Al t).2.length∧(I3 (B0 ms n) (Al t).2 ⟨dn1,op1,wk1⟩ j us ⟨dn2,op2,wk2⟩∧PK us∧NH ms ⟨dn2,op2,wk2⟩∧R5 ⟨dn,op,wk+1⟩ ⟨dn2,op2,wk2⟩)) ⟨0,[],dn1,op1,wk1,(some b81),cp⟩ (⟨by omega,I3.zero _ _ _,fun x hx=>by simp at hx,hg.2.1,hg.2.2⟩) ?_ ?_
   ·exact C3 ⟨we O,we O,we O,we O,we (NX (List.replicate (((((Al t).2).length:Nat):Int).toNat) (.mk 0 0 ⟨#[]⟩ [] []:Tm)) (O)),we O,we O,we O,Ah⟩ (leH (is:=[0,1,2,4,5,6,7,8,9,10,11]) O (wl (GP (List.replicate (((((Al t).2).length:Nat):Int).toNat) (.mk 0 0 ⟨#[]⟩ [] []:Tm)) (O)) (wl (oe O) (wl (oe O) (wl (oe O) (wl (oe O) (wl (oe O) (wl (oe O) (wl (oe O) (wl (oe O) (wl (oe O) (wl (oe O) (Js)))))))))))))
   rintro⟨j,us,dn2,op2,wk2,o,cp1⟩ hC
   try simp only at hC
   have ⟨hi,hF,hus,hS2,hM2⟩:=hC;have hFl:=hF.1;refine BD tab 1 [] O (Ax (A5 O (fun c2=>?_) (fun c2=>?_)))
   ·have c2R:=c2;(try simp only[sd,se] at c2);refine BJ (Ax (BG (A4 (B6 O ?_))));have ⟨x,hx⟩:=Ap (l:=(Al t).2) (i:=j) Af;refine Au O (Ao Bc O O Af (B9 hx) (An _)) (Au O (Bl Bh O (An _)) (Bz O (Am Bx O) fun b15=>Ar tab 2 [0,1] O (A1 (Az tab 4 [11,0] O ?_))));have hxo:Ok B x:=RB (t:=t) hsn.2 hsv.2 hsw.2 Af hx;refine E4 [4,5,6,7,8,9,10,11] O O O (.inr O) (ih dn2 op2 wk2 x hxo hS2 (NA (t:=t) h3 (fun i hi=>hM2 i hi) (by have:=BW hx;omega))) ⟨_,_,O,O,⟨_,_,O,O,⟨_,_,O,O,⟨_,_,O,O,⟨_,_,O,O,⟨_,_,O,O,⟨_,_,O,O,⟨_,_,O,O,O⟩⟩⟩⟩⟩⟩⟩⟩ Ae (B2 _) (fun _ _ h=>(congrArg List.length h).trans O) ?_ ?_
    rotate_left
    ·intro e _ he;exact⟨O,_,List.nil_sublist _,⟨_,Oa hnw hz (NF hk hz1) (hF.err hx he),O⟩⟩
    rintro⟨y,⟨dn4,op4,wk4⟩⟩ _ hz2 rfl;have hgy:=Dn hB hm n _ _ _ hxo hS2 hz2;have hzy:=hz2;refine Kg (i:=1) O AT fun b hb=>?_;subst hb;refine Au O (CW Bc O O Af AJ) (Au O (Cj (i:=1) (j:=j) Bh O O O AJ O (Gn _) (An _) (Hd _) (MZ (us++List.replicate ((Al t).2.length - j) A3) j y)) (Ba O (A1 (Ar tab 2 [] O (⟨⟨j+1,us++[y],dn4,op4,wk4,(some b),cp1⟩,AQ,⟨by omega,⟨hF.succ hx hzy,Ka hus hgy.1,hgy.2.1,fun i hi=>hgy.2.2 i (hM2 i hi)⟩⟩,C3 ⟨we rfl,we rfl,we rfl,we rfl,we (EU (us++List.replicate ((Al t).2.length - j) A3) Aa),we rfl,we rfl,we rfl,trivial⟩ (leH (is:=[1,2,3,4,5,6,7,8,9,10,11]) rfl (wl (GP ((us++List.replicate ((Al t).2.length - j) A3).set j y) (by rw[I5 hF.1 Af];congr 2)) (wl (oe rfl) (wl (oe rfl) (wl (oe rfl) (wl (oe rfl) (wl (oe rfl) (wl (oe rfl) (wl (oe rfl) (wl (oe rfl) (wl (oe rfl) (wl (oe rfl) (Js)))))))))))))⟩)))))
   have c2R:=c2;(try simp only[sd,se] at c2);rw[M4 (us:=us) (j:=j) (m:=(Al t).2.length) Af];have ha:Cz (B0 ms n) ⟨dn1,op1,wk1⟩ (Al t).2= .ok (us,⟨dn2,op2,wk2⟩):=hF.fin Af;have hul:us.length=(Al t).2.length:=by omega
   refine Cq (Ax (BG (BA (CH (i:=0) [13] O (ES ⟨O,Ah⟩)) (C4 (α:=Tm×List Tm) (fun(vv,ls)=>⟨123,mk [(6,.ptr b6 0),(7,.ptr b7 0),(9,.p (.bool (known ms (.mk zk zi zn zl zs)))),(13,.p (.lst (A0 ls)))],[.box b7 ((BB vv).map .p),.box b6 [.p (I 0),.p (I 0),.p (.str ⟨#[]⟩),.p (.nils),.p (.nils)],.box bd [.map md],.map md (B8 (J9 dn2)),.box bo [.map mo],.map mo (B8 (Jo op2)),.box bw [.p (I wk2)],.box bm [.p (.lst (List.map B5 ms))],.box bv [.fn (.func 51) [] [.ptr bd 0,.ptr bo 0,.ptr bf 0,.ptr bm 0]],.box bf [.fn (.func 53) [] [.ptr bw 0,.ptr bm 0,.ptr bv 0,.ptr bf 0]]],[]⟩) (fun(vv,ls)=>ls.length) (fun(vv,ls)=>GV v us=GV vv ls∧Ok 4096 vv∧PK ls∧ls.length≤us.length) ⟨v,us⟩ (⟨O,hg.1,hus,Nat.le_refl _⟩) ?_ ?_))))
   ·exact C3 ⟨we O,we O,we O,we O,Ah⟩ (leH (is:=[0,1,2,3,4,5,6,7,8,9]) O (wl (oe O) (wl (oe O) (wl (oe O) (wl (oe O) (wl (oe O) (wl (oe O) (wl (oe O) (wl (oe O) (wl (oe O) (wl (oe O) (Js))))))))))))
   rintro⟨vv,ls⟩ hC1
   try simp only at hC1
   have ⟨hB1,hv1,hl1,hl2⟩:=hC1;refine Ax (Ax ?_);obtain⟨vvk,vvi,vvn,vvl,vvs⟩:=vv;refine DV [6,7,9,13] 106 (fun y=>y= .p (.bool (((known ms (.mk zk zi zn zl zs))&&(decide (((ls.length:Nat):Int) > (0:Int))))&&((vvk:Int)==(5:Int))))) ?_ ?_
   ·refine A1 (Az tab 2 [] O (Br 97 O (fun g=>?_) (fun g=>?_)))
    ·(try simp only[sd,se] at g);refine A8 O (Be O) (A8 O (Bp Bc O (Av _)) (Az tab 3 [] O (Br 102 O (fun g1=>?_) (fun g1=>?_))))
     ·(try simp only[sd,se] at g1);exact Ar tab 4 [0] O (⟨O,O,AK,AG,⟨O,O,O,O,Ah⟩⟩)
     (try simp only[sd,se] at g1);exact Ar tab 4 [] O (⟨O,O,AK,AG,⟨O,O,O,O,Ah⟩⟩)
    (try simp only[sd,se] at g);exact Ar tab 9 [] O (⟨O,O,AK,AG,⟨O,O,O,O,Ah⟩⟩)
   rintro _ rfl;refine A5 O (fun c3=>?_) (fun c3=>?_)
   ·have c3R:=c3;(try simp only[sd,se] at c3);have hbc:0<ls.length∧vvk=5:=by simp[hk] at c3R;exact⟨by omega,by omega⟩
    have hvl:=Zo hv1 hbc.2;refine BJ (BG (Ax (GS (fun k=>Nat.beq k 9) Y0 (E1 tab 2 [0] O ?_))));have ⟨x,hx⟩:=Ap (l:=vvs) (i:=1) Af;have hkx:Ok 4096 x:=⟨CE hv1.nd.2.2.2.2.1 hx,FU hv1.vp.2 hx,Gf hv1.wt.2.2 hx,by have:=BW hx;have:=hv1.sz;simp only[size] at this;omega⟩;have hko:=QA hkx hl1 hbc.1;refine Aw O (fun _=>Ao Bc O O Af (B9 hx) (An _)) Ah (E1 tab 2 [] O (Aw O (fun _=>E5 (lo:=0) (hi:=1) Bc O (HQ (G1 _)) O ⟨_,O⟩ (Nat.zero_le _) AP (gM ls 1)) Ah ?_));refine Aw O (fun _=>BM O O (Qi x (ls.take 1) hkx.nd hkx.vp (by have:=hkx.sz;omega) (Qw (OV hl1 1)) (dZ (OV hl1 1)) (fun v hv=>by have:=(OV hl1 1 v hv).sz;simp only[C7];omega) (by simp only[C7,List.length_take];omega)) rfl) trivial ?_;refine E1 tab 2 [] O (IT [] O O O (.inl ⟨O,O,O⟩) (Gm ((Bo x (ls.take 1) 0).1) ((Bo x (ls.take 1) 0).2) hko.1 (by have:=hko.2.2.2;omega)) O Ae (aw (we O) (aw (we O) (HY))) (fun _ _ h=>(congrArg List.length h).trans O) Ab Ab O AB ?_ ?_)
    rotate_left
    ·intro e he _ _ hτ;exact⟨O,_,List.nil_sublist _,⟨_,Yz hnw hz hk (NF hk hz1) ha (hB1.trans (WD (v:= .mk vvk vvi vvn vvl vvs) hbc.1 hbc.2 hx he)),O⟩⟩
    rintro y _ hz2 rfl;refine⟨AB,Ah,?_⟩;refine GH tab 1 [0,1] O (A1 (B6 O (Au O (E5 (lo:=1) Bc O (HQ (G1 _)) ⟨_,O⟩ O AP (Nat.le_refl _) (ew ls 1)) (Ar tab 1 [] O ?_))));refine⟨⟨y,ls.drop 1⟩,Aa,⟨hB1.trans (T4 (v:= .mk vvk vvi vvn vvl vvs) hbc.1 hbc.2 hx hz2),ZZ hv1 hbc.2 hbc.1 hl1 hx hz2,Yn hl1 1,by simp;omega⟩,C3 ⟨we rfl,we rfl,we rfl,we rfl,trivial⟩ (leH (is:=[0,1,2,3,4,5,6,7,8,9]) rfl (wl (oe rfl) (wl (oe rfl) (wl (oe rfl) (wl (oe rfl) (wl (oe rfl) (wl (oe rfl) (wl (oe rfl) (wl (oe rfl) (wl (oe rfl) (wl (oe rfl) (Js))))))))))))⟩
   have c3R:=c3;(try simp only[sd,se] at c3);have hstop:0<ls.length→vvk≠5:=by intro a b;simp[hk,a,b] at c3R
   refine Cq (A4 (Az tab 2 [0] O (Au O (BM O O (K1 (.mk vvk vvi vvn vvl vvs:Tm) ls AU) O) (E4 [] O O O (.inl ⟨O,O,O⟩) (Gm (apply (.mk vvk vvi vvn vvl vvs:Tm) ls) 0 (Hv hv1.nd (Qw hl1)) (Lv (K:=0) (m:=(Al t).2.length) (by have:=hv1.sz;omega) hl1 Af Af Af)) O Ae (aw (we O) (aw (we O) (HY))) (fun _ _ h=>(congrArg List.length h).trans O) ?_ ?_))))
   rotate_left
   ·intro e _ he;exact⟨O,_,List.nil_sublist _,⟨_,(Ut hnw hz hk (NF hk hz1) ha (hB1.trans (O5 (v:= .mk vvk vvi vvn vvl vvs) hstop)) he).trans O,O⟩⟩
   rintro y _ hz2 rfl;refine Ar tab 1 [1,1] O (Bk (⟨O,_,_,⟨_,_,O,(CT (i:=1) Bh O O AY),O⟩,(Fe (is:=[2,3,4,5,6,7,8,9]) O),?_⟩));exact⟨⟨y,⟨dn2,op2,wk2⟩⟩,(Ut hnw hz hk (NF hk hz1) ha (hB1.trans (O5 (v:= .mk vvk vvi vvn vvl vvs) hstop)) hz2).trans O,O,O⟩
  have c1R:=c1;(try simp only[sd,se] at c1);have hk:known ms (.mk zk zi zn zl zs)=false:=by simpa using c1R
  refine A4 (Az tab 2 [0] O (Au O (Bp Bc O (Av _)) (Ar tab 1 [] O (A5 O (fun c2=>?_) (fun c2=>?_)))))
  ·have c2R:=c2;(try simp only[sd,se] at c2);refine A4 (Az tab 2 [0] O (Au O (Bp Bc O (Av _)) (Il O O (DY Bc Bx O O Ae O O O Af Af Af (P2 (((zs.length:Nat):Int).toNat) (.mk 0 0 ⟨#[]⟩ [] []:Tm))) fun b61 cp=>Ar tab 1 [] O (Ax (A4 (Az tab 2 [1] O (Au O (Bp Bc O (Av _)) (Ar tab 1 [] O (BG ?_)))))))));refine C4 (α:=Nat×List Tm×List (Int×Tm)×List Int×Int×Option Nat×Nat) (fun(i,ys,dn1,op1,wk1,o,cp1)=>⟨123,mk [(4,.ptr bf 0),(6,.ptr b6 0),(7,.ptr b7 0),(8,.p (.lst (A0 ((Al t).2)))),(9,.p (.bool (known ms (.mk zk zi zn zl zs)))),(10,.vs o (A0 (ys++List.replicate (zs.length - i) A3)).length cp1),(63,.p (.lst (A0 zs))),(64,.p (I (zs.length:Nat))),(65,.p (I (i:Int)))],[.vec o 5 (A0 (ys++List.replicate (zs.length - i) A3)) cp1,.box b7 [.p (I zk),.p (I zi),.p (.str zn),.p (.lst (List.map Dd zl)),.p (.lst (A0 zs))],.box b6 [.p (I 0),.p (I 0),.p (.str ⟨#[]⟩),.p (.nils),.p (.nils)],.box bd [.map md],.map md (B8 (J9 dn1)),.box bo [.map mo],.map mo (B8 (Jo op1)),.box bw [.p (I wk1)],.box bm [.p (.lst (List.map B5 ms))],.box bv [.fn (.func 51) [] [.ptr bd 0,.ptr bo 0,.ptr bf 0,.ptr bm 0]],.box bf [.fn (.func 53) [] [.ptr bw 0,.ptr bm 0,.ptr bv 0,.ptr bf 0]]],[]⟩) (fun(i,ys,dn1,op1,wk1,o,cp1)=>zs.length - i) (fun(i,ys,dn1,op1,wk1,o,cp1)=>i≤zs.length∧(I3 (B0 ms n) zs ⟨dn,op,wk+1⟩ i ys ⟨dn1,op1,wk1⟩∧PK ys∧NH ms ⟨dn1,op1,wk1⟩∧R5 ⟨dn,op,wk+1⟩ ⟨dn1,op1,wk1⟩)) ⟨0,[],dn,op,wk+1,(some b61),cp⟩ (⟨by omega,I3.zero _ _ _,fun x hx=>by simp at hx,hS1,fun i hi=>hi⟩) ?_ ?_
   ·exact C3 ⟨we O,we O,we O,we O,we O,we (NX (List.replicate (((zs.length:Nat):Int).toNat) (.mk 0 0 ⟨#[]⟩ [] []:Tm)) (O)),we O,we O,we O,Ah⟩ (leH (is:=[0,1,2,4,5,6,7,8,9,10,11]) O (wl (GP (List.replicate (((zs.length:Nat):Int).toNat) (.mk 0 0 ⟨#[]⟩ [] []:Tm)) (O)) (wl (oe O) (wl (oe O) (wl (oe O) (wl (oe O) (wl (oe O) (wl (oe O) (wl (oe O) (wl (oe O) (wl (oe O) (wl (oe O) (Js)))))))))))))
   rintro⟨i,ys,dn1,op1,wk1,o,cp1⟩ hC
   try simp only at hC
   have ⟨hi,hK,hys,hS3,hM3⟩:=hC;have hKl:=hK.1;refine BD tab 1 [] O (Ax (A5 O (fun c3=>?_) (fun c3=>?_)))
   ·have c3R:=c3;(try simp only[sd,se] at c3);refine BJ (Ax (BG (A4 (B6 O ?_))));have ⟨x,hx⟩:=Ap (l:=zs) (i:=i) Af;refine Au O (Ao Bc O O Af (B9 hx) (An _)) (Au O (Bl Bh O (An _)) (Bz O (Am Bx O) fun b12=>Ar tab 2 [0,1] O (A1 (Az tab 4 [11,0] O ?_))));have hxo:Ok B x:=RB (t:=t) hzO.nd.2.2.2.2.1 hzO.vp.2 hzO.wt.2.2 Af hx;refine E4 [4,5,6,7,8,9,10,11] O O O (.inr O) (ih dn1 op1 wk1 x hxo hS3 (NA (t:=t) h3 (fun i hi=>hM3 i hi) (by have:=BW hx;omega))) ⟨_,_,O,O,⟨_,_,O,O,⟨_,_,O,O,⟨_,_,O,O,⟨_,_,O,O,⟨_,_,O,O,⟨_,_,O,O,⟨_,_,O,O,O⟩⟩⟩⟩⟩⟩⟩⟩ Ae (B2 _) (fun _ _ h=>(congrArg List.length h).trans O) ?_ ?_
    rotate_left
    ·intro e _ he;exact⟨O,_,List.nil_sublist _,⟨_,SH hnw hz (W6 hk (hK.err hx he)),O⟩⟩
    rintro⟨y,⟨dn4,op4,wk4⟩⟩ _ hz1 rfl;have hgy:=Dn hB hm n _ _ _ hxo hS3 hz1;have hzy:=hz1;refine Kg (i:=1) O AT fun b hb=>?_;subst hb;refine Au O (CW Bc O O Af AJ) (Au O (Cj (i:=1) (j:=i) Bh O O O AJ O (Gn _) (An _) (Hd _) (MZ (ys++List.replicate (zs.length - i) A3) i y)) (Ba O (A1 (Ar tab 2 [] O (⟨⟨i+1,ys++[y],dn4,op4,wk4,(some b),cp1⟩,AQ,⟨by omega,⟨hK.succ hx hzy,Ka hys hgy.1,hgy.2.1,fun i hi=>hgy.2.2 i (hM3 i hi)⟩⟩,C3 ⟨we rfl,we rfl,we rfl,we rfl,we rfl,we (EU (ys++List.replicate (zs.length - i) A3) Aa),we rfl,we rfl,we rfl,trivial⟩ (leH (is:=[1,2,3,4,5,6,7,8,9,10,11]) rfl (wl (GP ((ys++List.replicate (zs.length - i) A3).set i y) (by rw[I5 hK.1 Af];congr 2)) (wl (oe rfl) (wl (oe rfl) (wl (oe rfl) (wl (oe rfl) (wl (oe rfl) (wl (oe rfl) (wl (oe rfl) (wl (oe rfl) (wl (oe rfl) (wl (oe rfl) (Js)))))))))))))⟩)))))
   have c3R:=c3;(try simp only[sd,se] at c3);rw[M4 (us:=ys) (j:=i) (m:=zs.length) Af];have hq:Cz (B0 ms n) ⟨dn,op,wk+1⟩ zs= .ok (ys,⟨dn1,op1,wk1⟩):=hK.fin Af;have hyl:ys.length=zs.length:=by omega
   have hwk:=Ke hzO hys hyl;simp only[Da,Tm.kids] at hwk;refine Cq (A1 (Az tab 2 [] O (CZ (CH (i:=0) [10,77] O (ES ⟨O,O,Ah⟩)) (Ar tab 1 [0,0] O (A4 (B6 O (Au O (Bp Bc O (Av _)) (Il O O (DY Bc Bx O O Ae O O O Af Af Af (P2 (((((Al t).2).length:Nat):Int).toNat) (.mk 0 0 ⟨#[]⟩ [] []:Tm))) fun b81 cp2=>Ar tab 1 [] O (Ax (A4 (B6 O (Au O (Bp Bc O (Av _)) (Ar tab 1 [] O (BG ?_))))))))))))));refine C4 (α:=Nat×List Tm×List (Int×Tm)×List Int×Int×Option Nat×Nat) (fun(j,us,dn2,op2,wk2,o1,cp3)=>⟨123,mk [(4,.ptr bf 0),(6,.ptr b6 0),(7,.ptr b7 0),(9,.p (.bool (known ms (.mk zk zi zn zl zs)))),(13,.vs o1 (A0 (us++List.replicate ((Al t).2.length - j) A3)).length cp3),(82,.p (.lst (A0 ((Al t).2)))),(83,.p (I (((Al t).2).length:Nat))),(84,.p (I (j:Int)))],[.vec o1 5 (A0 (us++List.replicate ((Al t).2.length - j) A3)) cp3,.box b7 [.p (I zk),.p (I zi),.p (.str zn),.p (.lst (List.map Dd zl)),.p (.lst (A0 ys))],.box b6 [.p (I 0),.p (I 0),.p (.str ⟨#[]⟩),.p (.nils),.p (.nils)],.box bd [.map md],.map md (B8 (J9 dn2)),.box bo [.map mo],.map mo (B8 (Jo op2)),.box bw [.p (I wk2)],.box bm [.p (.lst (List.map B5 ms))],.box bv [.fn (.func 51) [] [.ptr bd 0,.ptr bo 0,.ptr bf 0,.ptr bm 0]],.box bf [.fn (.func 53) [] [.ptr bw 0,.ptr bm 0,.ptr bv 0,.ptr bf 0]]],[]⟩) (fun(j,us,dn2,op2,wk2,o1,cp3)=>(Al t).2.length - j) (fun(j,us,dn2,op2,wk2,o1,cp3)=>j≤(Al t).2.length∧(I3 (B0 ms n) (Al t).2 ⟨dn1,op1,wk1⟩ j us ⟨dn2,op2,wk2⟩∧PK us∧NH ms ⟨dn2,op2,wk2⟩∧R5 ⟨dn,op,wk+1⟩ ⟨dn2,op2,wk2⟩)) ⟨0,[],dn1,op1,wk1,(some b81),cp2⟩ (⟨by omega,I3.zero _ _ _,fun x hx=>by simp at hx,hS3,hM3⟩) ?_ ?_
   ·exact C3 ⟨we O,we O,we O,we O,we (NX (List.replicate (((((Al t).2).length:Nat):Int).toNat) (.mk 0 0 ⟨#[]⟩ [] []:Tm)) (O)),we O,we O,we O,Ah⟩ (leH (is:=[0,1,2,3,4,5,6,7,8,9,10]) O (wl (GP (List.replicate (((((Al t).2).length:Nat):Int).toNat) (.mk 0 0 ⟨#[]⟩ [] []:Tm)) (O)) (wl (oe O) (wl (oe O) (wl (oe O) (wl (oe O) (wl (oe O) (wl (oe O) (wl (oe O) (wl (oe O) (wl (oe O) (wl (oe O) (Js)))))))))))))
   rintro⟨j,us,dn2,op2,wk2,o1,cp3⟩ hC1
   try simp only at hC1
   have ⟨hi,hF,hus,hS2,hM2⟩:=hC1;have hFl:=hF.1;refine BD tab 1 [] O (Ax (A5 O (fun c4=>?_) (fun c4=>?_)))
   ·have c4R:=c4;(try simp only[sd,se] at c4);refine BJ (Ax (BG (A4 (B6 O ?_))));have ⟨x,hx⟩:=Ap (l:=(Al t).2) (i:=j) Af;refine Au O (Ao Bc O O Af (B9 hx) (An _)) (Au O (Bl Bh O (An _)) (Bz O (Am Bx O) fun b15=>Ar tab 2 [0,1] O (A1 (Az tab 4 [11,0] O ?_))));have hxo:Ok B x:=RB (t:=t) hsn.2 hsv.2 hsw.2 Af hx;refine E4 [4,5,6,7,8,9,10,11] O O O (.inr O) (ih dn2 op2 wk2 x hxo hS2 (NA (t:=t) h3 (fun i hi=>hM2 i hi) (by have:=BW hx;omega))) ⟨_,_,O,O,⟨_,_,O,O,⟨_,_,O,O,⟨_,_,O,O,⟨_,_,O,O,⟨_,_,O,O,⟨_,_,O,O,⟨_,_,O,O,O⟩⟩⟩⟩⟩⟩⟩⟩ Ae (B2 _) (fun _ _ h=>(congrArg List.length h).trans O) ?_ ?_
    rotate_left
    ·intro e _ he;exact⟨O,_,List.nil_sublist _,⟨_,Oa hnw hz (JY hk hq) (hF.err hx he),O⟩⟩
    rintro⟨y,⟨dn4,op4,wk4⟩⟩ _ hz1 rfl;have hgy:=Dn hB hm n _ _ _ hxo hS2 hz1;have hzy:=hz1;refine Kg (i:=1) O AT fun b hb=>?_;subst hb;refine Au O (CW Bc O O Af AJ) (Au O (Cj (i:=1) (j:=j) Bh O O O AJ O (Gn _) (An _) (Hd _) (MZ (us++List.replicate ((Al t).2.length - j) A3) j y)) (Ba O (A1 (Ar tab 2 [] O (⟨⟨j+1,us++[y],dn4,op4,wk4,(some b),cp3⟩,AQ,⟨by omega,⟨hF.succ hx hzy,Ka hus hgy.1,hgy.2.1,fun i hi=>hgy.2.2 i (hM2 i hi)⟩⟩,C3 ⟨we rfl,we rfl,we rfl,we rfl,we (EU (us++List.replicate ((Al t).2.length - j) A3) Aa),we rfl,we rfl,we rfl,trivial⟩ (leH (is:=[1,2,3,4,5,6,7,8,9,10,11]) rfl (wl (GP ((us++List.replicate ((Al t).2.length - j) A3).set j y) (by rw[I5 hF.1 Af];congr 2)) (wl (oe rfl) (wl (oe rfl) (wl (oe rfl) (wl (oe rfl) (wl (oe rfl) (wl (oe rfl) (wl (oe rfl) (wl (oe rfl) (wl (oe rfl) (wl (oe rfl) (Js)))))))))))))⟩)))))
   have c4R:=c4;(try simp only[sd,se] at c4);rw[M4 (us:=us) (j:=j) (m:=(Al t).2.length) Af];have ha:Cz (B0 ms n) ⟨dn1,op1,wk1⟩ (Al t).2= .ok (us,⟨dn2,op2,wk2⟩):=hF.fin Af;have hul:us.length=(Al t).2.length:=by omega
   refine Cq (Ax (BG (BA (CH (i:=0) [13] O (ES ⟨O,Ah⟩)) (C4 (α:=Unit) (fun _=>⟨123,mk [(6,.ptr b6 0),(7,.ptr b7 0),(9,.p (.bool (known ms (.mk zk zi zn zl zs)))),(13,.p (.lst (A0 us)))],[.box b7 [.p (I zk),.p (I zi),.p (.str zn),.p (.lst (List.map Dd zl)),.p (.lst (A0 ys))],.box b6 [.p (I 0),.p (I 0),.p (.str ⟨#[]⟩),.p (.nils),.p (.nils)],.box bd [.map md],.map md (B8 (J9 dn2)),.box bo [.map mo],.map mo (B8 (Jo op2)),.box bw [.p (I wk2)],.box bm [.p (.lst (List.map B5 ms))],.box bv [.fn (.func 51) [] [.ptr bd 0,.ptr bo 0,.ptr bf 0,.ptr bm 0]],.box bf [.fn (.func 53) [] [.ptr bw 0,.ptr bm 0,.ptr bv 0,.ptr bf 0]]],[]⟩) (fun _=>0) (fun _=>True) () AO ?_ ?_))))
   ·exact C3 ⟨we O,we O,we O,we O,Ah⟩ (leH (is:=[0,1,2,3,4,5,6,7,8,9]) O (wl (oe O) (wl (oe O) (wl (oe O) (wl (oe O) (wl (oe O) (wl (oe O) (wl (oe O) (wl (oe O) (wl (oe O) (wl (oe O) (Js))))))))))))
   rintro _ hC2
   try simp only at hC2
   refine Ax (Ax (DV [6,7,9,13] 106 (fun y=>y= .p (.bool (((known ms (.mk zk zi zn zl zs))&&(decide (((us.length:Nat):Int) > (0:Int))))&&((zk:Int)==(5:Int))))) ?_ ?_))
   ·refine A1 (Az tab 2 [] O (Br 97 O (fun g=>?_) (fun g=>?_)))
    ·(try simp only[sd,se] at g);refine A8 O (Be O) (A8 O (Bp Bc O (Av _)) (Az tab 3 [] O (Br 102 O (fun g1=>?_) (fun g1=>?_))))
     ·(try simp only[sd,se] at g1);exact Ar tab 4 [0] O (⟨O,O,AK,AG,⟨O,O,O,O,Ah⟩⟩)
     (try simp only[sd,se] at g1);exact Ar tab 4 [] O (⟨O,O,AK,AG,⟨O,O,O,O,Ah⟩⟩)
    (try simp only[sd,se] at g);exact Ar tab 9 [] O (⟨O,O,AK,AG,⟨O,O,O,O,Ah⟩⟩)
   rintro _ rfl;refine A5 O (fun c5=>?_) (fun c5=>?_)
   ·have c5R:=c5;(try simp only[sd,se] at c5);exact absurd c5R (by simp[hk])
   have c5R:=c5;(try simp only[sd,se] at c5);refine Cq (A4 (Az tab 2 [0] O (Au O (BM O O (K1 (.mk zk zi zn zl ys:Tm) us AU) O) (E4 [] O O O (.inl ⟨O,O,O⟩) (Gm (apply (.mk zk zi zn zl ys:Tm) us) 0 (Hv hwk.1 (Qw hus)) (Lv (K:=zs.length) (m:=size t) (by have:=hwk.2.2.2;omega) hus Af Af Af)) O Ae (aw (we O) (aw (we O) (HY))) (fun _ _ h=>(congrArg List.length h).trans O) ?_ ?_))))
   rotate_left
   ·intro e _ he;exact⟨O,_,List.nil_sublist _,⟨_,(NL hnw hz hk (JY hk hq) ha he).trans O,O⟩⟩
   rintro y _ hz1 rfl;refine Ar tab 1 [1,1] O (Bk (⟨O,_,_,⟨_,_,O,(CT (i:=1) Bh O O AY),O⟩,(Fe (is:=[2,3,4,5,6,7,8,9]) O),?_⟩));exact⟨⟨y,⟨dn2,op2,wk2⟩⟩,(NL hnw hz hk (JY hk hq) ha hz1).trans O,O,O⟩
  have c2R:=c2;(try simp only[sd,se] at c2);have hnil:zs=[]:=by cases zs with | nil=>rfl | cons a b=>exact absurd c2 (by simp;try omega)
  have hzs1:size (.mk zk zi zn zl zs)=1:=by rw[hnil];rfl
  refine BJ (A4 (B6 O (Au O (Bp Bc O (Av _)) (Il O O (DY Bc Bx O O Ae O O O Af Af Af (P2 (((((Al t).2).length:Nat):Int).toNat) (.mk 0 0 ⟨#[]⟩ [] []:Tm))) fun b81 cp=>Ar tab 1 [] O (Ax (A4 (B6 O (Au O (Bp Bc O (Av _)) (Ar tab 1 [] O (BG ?_))))))))));refine C4 (α:=Nat×List Tm×List (Int×Tm)×List Int×Int×Option Nat×Nat) (fun(j,us,dn2,op2,wk2,o,cp1)=>⟨123,mk [(4,.ptr bf 0),(6,.ptr b6 0),(7,.ptr b7 0),(9,.p (.bool (known ms (.mk zk zi zn zl zs)))),(13,.vs o (A0 (us++List.replicate ((Al t).2.length - j) A3)).length cp1),(82,.p (.lst (A0 ((Al t).2)))),(83,.p (I (((Al t).2).length:Nat))),(84,.p (I (j:Int)))],[.vec o 5 (A0 (us++List.replicate ((Al t).2.length - j) A3)) cp1,.box b7 [.p (I zk),.p (I zi),.p (.str zn),.p (.lst (List.map Dd zl)),.p (.lst (A0 zs))],.box b6 [.p (I 0),.p (I 0),.p (.str ⟨#[]⟩),.p (.nils),.p (.nils)],.box bd [.map md],.map md (B8 (J9 dn2)),.box bo [.map mo],.map mo (B8 (Jo op2)),.box bw [.p (I wk2)],.box bm [.p (.lst (List.map B5 ms))],.box bv [.fn (.func 51) [] [.ptr bd 0,.ptr bo 0,.ptr bf 0,.ptr bm 0]],.box bf [.fn (.func 53) [] [.ptr bw 0,.ptr bm 0,.ptr bv 0,.ptr bf 0]]],[]⟩) (fun(j,us,dn2,op2,wk2,o,cp1)=>(Al t).2.length - j) (fun(j,us,dn2,op2,wk2,o,cp1)=>j≤(Al t).2.length∧(I3 (B0 ms n) (Al t).2 ⟨dn,op,wk+1⟩ j us ⟨dn2,op2,wk2⟩∧PK us∧NH ms ⟨dn2,op2,wk2⟩∧R5 ⟨dn,op,wk+1⟩ ⟨dn2,op2,wk2⟩)) ⟨0,[],dn,op,wk+1,(some b81),cp⟩ (⟨by omega,I3.zero _ _ _,fun x hx=>by simp at hx,hS1,(fun i hi=>hi)⟩) ?_ ?_
  ·exact C3 ⟨we O,we O,we O,we O,we (NX (List.replicate (((((Al t).2).length:Nat):Int).toNat) (.mk 0 0 ⟨#[]⟩ [] []:Tm)) (O)),we O,we O,we O,Ah⟩ (leH (is:=[0,1,2,4,5,6,7,8,9,10,11]) O (wl (GP (List.replicate (((((Al t).2).length:Nat):Int).toNat) (.mk 0 0 ⟨#[]⟩ [] []:Tm)) (O)) (wl (oe O) (wl (oe O) (wl (oe O) (wl (oe O) (wl (oe O) (wl (oe O) (wl (oe O) (wl (oe O) (wl (oe O) (wl (oe O) (Js)))))))))))))
  rintro⟨j,us,dn2,op2,wk2,o,cp1⟩ hC
  try simp only at hC
  have ⟨hi,hF,hus,hS2,hM2⟩:=hC;have hFl:=hF.1;refine BD tab 1 [] O (Ax (A5 O (fun c3=>?_) (fun c3=>?_)))
  ·have c3R:=c3;(try simp only[sd,se] at c3);refine BJ (Ax (BG (A4 (B6 O ?_))));have ⟨x,hx⟩:=Ap (l:=(Al t).2) (i:=j) Af;refine Au O (Ao Bc O O Af (B9 hx) (An _)) (Au O (Bl Bh O (An _)) (Bz O (Am Bx O) fun b15=>Ar tab 2 [0,1] O (A1 (Az tab 4 [11,0] O ?_))));have hxo:Ok B x:=RB (t:=t) hsn.2 hsv.2 hsw.2 Af hx;refine E4 [4,5,6,7,8,9,10,11] O O O (.inr O) (ih dn2 op2 wk2 x hxo hS2 (NA (t:=t) h3 (fun i hi=>hM2 i hi) (by have:=BW hx;omega))) ⟨_,_,O,O,⟨_,_,O,O,⟨_,_,O,O,⟨_,_,O,O,⟨_,_,O,O,⟨_,_,O,O,⟨_,_,O,O,⟨_,_,O,O,O⟩⟩⟩⟩⟩⟩⟩⟩ Ae (B2 _) (fun _ _ h=>(congrArg List.length h).trans O) ?_ ?_
   rotate_left
   ·intro e _ he;exact⟨O,_,List.nil_sublist _,⟨_,Oa hnw hz (JY hk (ks:=[]) (st2:=⟨dn,op,wk+1⟩) (by simp only[Tm.kids,hnil];rfl)) (hF.err hx he),O⟩⟩
   rintro⟨y,⟨dn4,op4,wk4⟩⟩ _ hz1 rfl;have hgy:=Dn hB hm n _ _ _ hxo hS2 hz1;have hzy:=hz1;refine Kg (i:=1) O AT fun b hb=>?_;subst hb;refine Au O (CW Bc O O Af AJ) (Au O (Cj (i:=1) (j:=j) Bh O O O AJ O (Gn _) (An _) (Hd _) (MZ (us++List.replicate ((Al t).2.length - j) A3) j y)) (Ba O (A1 (Ar tab 2 [] O (⟨⟨j+1,us++[y],dn4,op4,wk4,(some b),cp1⟩,AQ,⟨by omega,⟨hF.succ hx hzy,Ka hus hgy.1,hgy.2.1,fun i hi=>hgy.2.2 i (hM2 i hi)⟩⟩,C3 ⟨we rfl,we rfl,we rfl,we rfl,we (EU (us++List.replicate ((Al t).2.length - j) A3) Aa),we rfl,we rfl,we rfl,trivial⟩ (leH (is:=[1,2,3,4,5,6,7,8,9,10,11]) rfl (wl (GP ((us++List.replicate ((Al t).2.length - j) A3).set j y) (by rw[I5 hF.1 Af];congr 2)) (wl (oe rfl) (wl (oe rfl) (wl (oe rfl) (wl (oe rfl) (wl (oe rfl) (wl (oe rfl) (wl (oe rfl) (wl (oe rfl) (wl (oe rfl) (wl (oe rfl) (Js)))))))))))))⟩)))))
  have c3R:=c3;(try simp only[sd,se] at c3);rw[M4 (us:=us) (j:=j) (m:=(Al t).2.length) Af];have ha:Cz (B0 ms n) ⟨dn,op,wk+1⟩ (Al t).2= .ok (us,⟨dn2,op2,wk2⟩):=hF.fin Af;have hul:us.length=(Al t).2.length:=by omega
  refine Cq (Ax (BG (BA (CH (i:=0) [13] O (ES ⟨O,Ah⟩)) (C4 (α:=Unit) (fun _=>⟨123,mk [(6,.ptr b6 0),(7,.ptr b7 0),(9,.p (.bool (known ms (.mk zk zi zn zl zs)))),(13,.p (.lst (A0 us)))],[.box b7 [.p (I zk),.p (I zi),.p (.str zn),.p (.lst (List.map Dd zl)),.p (.lst (A0 zs))],.box b6 [.p (I 0),.p (I 0),.p (.str ⟨#[]⟩),.p (.nils),.p (.nils)],.box bd [.map md],.map md (B8 (J9 dn2)),.box bo [.map mo],.map mo (B8 (Jo op2)),.box bw [.p (I wk2)],.box bm [.p (.lst (List.map B5 ms))],.box bv [.fn (.func 51) [] [.ptr bd 0,.ptr bo 0,.ptr bf 0,.ptr bm 0]],.box bf [.fn (.func 53) [] [.ptr bw 0,.ptr bm 0,.ptr bv 0,.ptr bf 0]]],[]⟩) (fun _=>0) (fun _=>True) () AO ?_ ?_))))
  ·exact C3 ⟨we O,we O,we O,we O,Ah⟩ (leH (is:=[0,1,2,3,4,5,6,7,8,9]) O (wl (oe O) (wl (oe O) (wl (oe O) (wl (oe O) (wl (oe O) (wl (oe O) (wl (oe O) (wl (oe O) (wl (oe O) (wl (oe O) (Js))))))))))))
  rintro _ hC1
  try simp only at hC1
  refine Ax (Ax (DV [6,7,9,13] 106 (fun y=>y= .p (.bool (((known ms (.mk zk zi zn zl zs))&&(decide (((us.length:Nat):Int) > (0:Int))))&&((zk:Int)==(5:Int))))) ?_ ?_))
  ·refine A1 (Az tab 2 [] O (Br 97 O (fun g=>?_) (fun g=>?_)))
   ·(try simp only[sd,se] at g);refine A8 O (Be O) (A8 O (Bp Bc O (Av _)) (Az tab 3 [] O (Br 102 O (fun g1=>?_) (fun g1=>?_))))
    ·(try simp only[sd,se] at g1);exact Ar tab 4 [0] O (⟨O,O,AK,AG,⟨O,O,O,O,Ah⟩⟩)
    (try simp only[sd,se] at g1);exact Ar tab 4 [] O (⟨O,O,AK,AG,⟨O,O,O,O,Ah⟩⟩)
   (try simp only[sd,se] at g);exact Ar tab 9 [] O (⟨O,O,AK,AG,⟨O,O,O,O,Ah⟩⟩)
  rintro _ rfl;refine A5 O (fun c4=>?_) (fun c4=>?_)
  ·have c4R:=c4;(try simp only[sd,se] at c4);exact absurd c4R (by simp[hk])
  have c4R:=c4;(try simp only[sd,se] at c4);refine Cq (A4 (Az tab 2 [0] O (Au O (BM O O (K1 (.mk zk zi zn zl zs:Tm) us AU) O) (E4 [] O O O (.inl ⟨O,O,O⟩) (Gm (apply (.mk zk zi zn zl zs:Tm) us) 0 (Hv hzO.nd (Qw hus)) (Lv (K:=0) (m:=size t) (by rw[hzs1];omega) hus Af Af Af)) O Ae (aw (we O) (aw (we O) (HY))) (fun _ _ h=>(congrArg List.length h).trans O) ?_ ?_))))
  rotate_left
  ·intro e _ he;exact⟨O,_,List.nil_sublist _,⟨_,(NL hnw hz hk (JY hk (ks:=[]) (st2:=⟨dn,op,wk+1⟩) (by simp only[Tm.kids,hnil];rfl)) ha (by simp only[Da,hnil];exact hnil▸he)).trans O,O⟩⟩
  rintro y _ hz1 rfl;refine Ar tab 1 [1,1] O (Bk (⟨O,_,_,⟨_,_,O,(CT (i:=1) Bh O O AY),O⟩,(Fe (is:=[2,3,4,5,6,7,8,9]) O),?_⟩));exact⟨⟨y,⟨dn2,op2,wk2⟩⟩,(NL hnw hz hk (JY hk (ks:=[]) (st2:=⟨dn,op,wk+1⟩) (by simp only[Tm.kids,hnil];rfl)) ha (by simp only[Da,hnil];exact hnil▸hz1)).trans O,O,O⟩
theorem Pv:∀(ms:List Mv),BO Tryz.prog 27 [.p (.lst (List.map B5 ms))] [] (cJ (fun x:(Nat×Nat×Nat×Nat×Nat×Nat×Nat×Nat)=> .fn (.func 53) [] [.ptr x.2.2.2.2.1 0,.ptr x.2.2.2.2.2.1 0,.ptr x.2.2.2.2.2.2.1 0,.ptr x.2.2.2.2.2.2.2 0]) (fun x=>[.box x.2.2.2.2.2.2.1 [.fn (.func 51) [] [.ptr x.1 0,.ptr x.2.2.1 0,.ptr x.2.2.2.2.2.2.2 0,.ptr x.2.2.2.2.2.1 0]],.box x.2.2.2.2.2.2.2 [.fn (.func 53) [] [.ptr x.2.2.2.2.1 0,.ptr x.2.2.2.2.2.1 0,.ptr x.2.2.2.2.2.2.1 0,.ptr x.2.2.2.2.2.2.2 0]],.box x.2.2.2.2.1 [.p (I 0)],.box x.2.2.1 [.map x.2.2.2.1],.box x.1 [.map x.2.1],.map x.2.2.2.1 (B8 (Jo [])),.map x.2.1 (B8 (J9 [])),.box x.2.2.2.2.2.1 [.p (.lst (List.map B5 ms))]])):=by
 intro ms;refine Db Tryz.func27 O (DT [0] O O fun b1=>De [1] O (Th O O Iv fun m8=>Th O O Iv fun m9=>BT (DR [0] O (Am iQ O) fun b3=>?_)));refine DR [0] O (Am fU O) fun b4=>DR [2,1,0,0,0] O (Am Wf O) fun b5=>DR [1,0,0] O (Am gd O) fun b6=>DR [1] O (Am iV O) fun b7=>BF [5,0,0,1,0,1] O (B7 [] [0,1,2,3,4,5,6,7] O O ⟨⟨b3,m8,b4,m9,b5,b1,b7,b6⟩,O,O⟩)
theorem W9:∀(bo be:Nat) (co ce:List AV),Cp Tryz.prog 49 [.ptr bo 0,.ptr be 0] (.ret) [.box bo co,.box be ce] (fun H'=>H'=[.box bo co,.box be ce]):=by
 intro bo be co ce;refine E2 (ty2:=0) Tryz.func49 O fh (n:=9) O O O O O O (A4 (B6 O (Au O (Ea UM O O O) (Ba O ?_))));refine A5 O (fun c=>by cases c) (fun c=>?_);exact BJ ⟨.inl O,O,_,(Fe (is:=[0,1]) O),O⟩
theorem XH:∀(bo be:Nat) (e:Int),Cp Tryz.prog 49 [.ptr bo 0,.ptr be 0] (.pan (.p (.iface 32 (I e)))) [.box bo [.p (I 0),.p (I 0),.p (.str ⟨#[]⟩),.p (.nils),.p (.nils)],.box be [.p (I 0)]] (fun H'=>H'=[.box bo [.p (I 0),.p (I 0),.p (.str ⟨#[]⟩),.p (.lst []),.p (.lst [])],.box be [.p (I e)]]):=by
 intro bo be e;refine E2 (ty2:=0) Tryz.func49 O fh (n:=9) O O O O O O (A4 (B6 O (Au O (Ea UM O O O) (CZ (CI (i:=0) O) (Ba O ?_)))));refine A5 O (fun c=>?_) (fun c=>by cases c);exact A1 (Az tab 2 [] O (Au O (BM O O (Pr _) O) (Az tab 2 [0,0,1,0] O (CZ (CI (i:=0) O) (Ba O ⟨.inl O,O,_,(Fe (is:=[0,1]) O),O⟩)))))
set_option maxHeartbeats 2000000 in
theorem Rt:∀(ms:List Mv) (t:Tm) (B n:Nat),(1≤B)→(B≤1073741824)→(∀m∈ms,Ok B m.value)→(ms.length<1048576)→(Ok B t)→(size t+(B+1)*ms.length≤n)→EE Tryz.prog 22 [.p (.lst (List.map B5 ms)),.agg ((BB t).map .p)] (.tup [.agg ((BB ((Fh ms n t).1)).map .p),.p (I ((Fh ms n t).2))]):=by
 intro ms t B n h1 h2 h3 h4 h5 h6;refine DW Tryz.func22 O iZ (n:=11) O O (A4 (Bz O (CJ O) fun b3=>Bz O (Am Bx O) fun b4=>Bz O (Am aG O) fun b5=>Ba O (A4 (Au O (Dh O O) (Ks O O O O (Ba O (Ax (GS (fun k=>Nat.beq k 1||Nat.beq k 3) Y0 (Aw O (fun _=>Be O) Ah (bC [(2,.read [.box b3 ((BB t).map .p)] (.agg ((BB t).map .p)))] (0,0,0,0,0,0,0,0) O O O (.inl ⟨O,O,O⟩) (Pv ms) (.inl O) Ab fun⟨bd,md,bo,mo,bw,bm,bv,bf⟩=>⟨AB,Ah,?_⟩))))))))));refine E1 tab 1 [10] O (IT [4,6,3,5,2,7,0,1] O O O (.inr O) (RL ms B bd md bo mo bw bm bv bf h1 h2 h3 h4 n [] [] 0 t h5 (JI ms) (by rw[SB];exact h6)) ⟨_,_,O,O,⟨_,_,O,O,⟨_,_,O,O,⟨_,_,O,O,⟨_,_,O,O,⟨_,_,O,O,⟨_,_,O,O,⟨_,_,O,O,O⟩⟩⟩⟩⟩⟩⟩⟩ Ae (B2 _) (fun _ _ h=>(congrArg List.length h).trans O) Ab Ab O AB ?_ ?_)
 rotate_left
 ·intro e he _ _ hτ;refine⟨_,_,_,O,Hr (is:=[1,0]) _ Ae ⟨_,_,O,O,⟨_,_,O,O,O⟩⟩,Cp.eq (XH b4 b5 _) ?_⟩;refine⟨_,[],⟨_,_,O,(CT (i:=0) Bh (hτ 4 (IZ Ab)) O O),⟨_,_,O,(Er (i:=1) PR (hτ 5 (IZ Ab)) O),O⟩⟩,(List.nil_sublist _),?_⟩;rw[Ta he];exact⟨O,O⟩
 rintro⟨z,st⟩ _ hz rfl;refine⟨AB,AN,?_⟩;refine GH tab 2 [9,1,8,0] O (Bk (⟨_,_,_,O,CR (is:=[9,8]) Ae ⟨_,_,O,O,⟨_,_,O,O,O⟩⟩,Cp.eq (W9 b4 b5 _ _) ?_⟩));refine⟨_,_,⟨_,_,O,(CT (i:=0) Bh O O AY),⟨_,_,O,(Er (i:=1) PR O O),O⟩⟩,(List.nil_sublist _),?_⟩;rw[WO hz]
 all_goals exact⟨rfl,rfl⟩
theorem Zc:∀(ms:List Mv) (t:Tm) (B n:Nat),(1≤B)→(B≤1073741824)→(∀m∈ms,Ok B m.value)→(ms.length<1048576)→(Ok B t)→(size t+(B+1)*ms.length≤n)→EE Tryz.prog 23 [.p (.lst (List.map B5 ms)),.agg ((BB t).map .p)] (.tup [.p (.lst (List.map CX ((S8 ms n t).1))),.p (I ((S8 ms n t).2))]):=by
 intro ms t B n h1 h2 h3 h4 h5 h6;have hok:=R3 h1 h3 h5 (n:=n);refine Bv Tryz.func23 O iL (n:=19) O O (A4 (Bz O (CJ O) fun b3=>Ar tab 2 [] O (A4 (Az tab 2 [0] O (Au O (BM O O (Rt ms t B n h1 h2 h3 h4 h5 h6) O) (Az tab 3 [] O (Bz O (Am Bx O) fun b6=>Ar tab 2 [0,1] O (Ax (BD tab 2 [] O (A5 O (fun c=>?_) (fun c=>?_)))))))))))
 ·(try simp only[sd,se] at c);refine BD tab 3 [] O (BA (Di 4) (Bk (⟨O,_,_,⟨_,_,O,O,⟨_,_,O,O,O⟩⟩,(List.nil_sublist _),?_⟩)));simp only[S8];rw[if_pos c]
  all_goals exact⟨rfl,rfl⟩
 (try simp only[sd,se] at c);refine BJ (A4 (Au O (B1 (i:=0) Bh O O AY) (Au O (BM O O (Ym ((Fh ms n t).1) hok.nd hok.wt (by have:=hok.sz;omega)) O) (Ar tab 2 [] O (Bk (⟨O,_,_,⟨_,_,O,O,⟨_,_,O,O,O⟩⟩,(List.nil_sublist _),?_⟩))))));simp only[S8];rw[if_neg Af]
 all_goals exact⟨rfl,rfl⟩
end Go.Proofs.YtajnpndfkbnkoaaGreat
namespace Go.Eu
open Go.Abs
def Ew (i:Int):Tm:=Dc i
def CP (i:Int) (l:List Tm):Tm:=apply (.mk 12 i ⟨#[]⟩ [] []) l
def dK:Tm:= .mk 3 0 ⟨#[78,97,116]⟩ [] []
def GK (t:Tm):Tm:= .mk 4 0 ⟨#[]⟩ [] [.mk 3 0 ⟨#[115,117,99,99]⟩ [] [],t]
def Mt:List Mv:=[⟨dK,true,.mk 5 0 ⟨#[]⟩ [] [dK,GK (CP 1 [Ew 0])],false⟩,⟨dK,false,A3,false⟩]
def ZV:Tm:=CP 0 [Ew 3]
def VL:Tm:=GK (CP 1 [Ew 3])
def Ls:Tm:= .mk 2 0 ⟨#[]⟩ [⟨0,[]⟩] []
def O9:Tm:=Bi 6 [Ls,Ew 0] (Ew 1)
def JJ:List Mv:=Mt++[⟨O9,false,A3,false⟩]
def Kd:Tm:=CP 2 [Ew 1,Ew 0]
theorem Zr:Fh Mt 100 ZV=(VL,0):=by kernel_rfl
theorem dy:S8 Mt 100 ZV=([1],0):=by kernel_rfl
theorem ed:Jq (CP 1 [Ew 0,Ew 2])=(1,[0,2],true):=by rfl
theorem fO:Jq (CP 1 [Ew 0,Ew 0])=(0,[],false):=by rfl
theorem cu:Lh Mt [Ls,Ew 0] (Ew 1) false=(JJ,Kd,0):=by rfl
theorem GL (i:Int) (h:0≤i∧i≤9):Nd (Ew i):=⟨by decide,by decide,by simp,by decide,trivial,⟨by decide,by decide⟩,⟨by omega,by omega⟩⟩
theorem dE:Nd dK:=⟨by decide,by decide,by simp,by decide,trivial,⟨by decide,by decide⟩,⟨by decide,by decide⟩⟩
theorem Qa:Nd Ls:=⟨by decide,by decide,by intro l hl;simp at hl;subst hl;exact⟨by decide,⟨by decide,by decide⟩,by simp⟩,by decide,trivial,⟨by decide,by decide⟩,⟨by decide,by decide⟩⟩
theorem Gk (i:Int) (h:0≤i∧i≤9) (l:List Tm) (hl:G3 l):Nd (CP i l):=Hv ⟨by decide,by decide,by simp,by decide,trivial,⟨by decide,by decide⟩,⟨by omega,by omega⟩⟩ hl
theorem P0 (t:Tm) (h:Nd t):Nd (GK t):=⟨by decide,by decide,by simp,by simp[C7],⟨⟨by decide,by decide,by simp,by decide,trivial,⟨by decide,by decide⟩,⟨by decide,by decide⟩⟩,h,trivial⟩,⟨by decide,by decide⟩,⟨by decide,by decide⟩⟩
theorem WR:Nd O9:=Jl ⟨Qa,GL 0 Ae,trivial⟩ (GL 1 Ae)
theorem Qe:Nd VL∧Nd Kd∧Nd O9∧Nd Ls∧∀i:Int,0≤i∧i≤9→Nd (Ew i):=⟨P0 _ (Gk 1 Ae _ ⟨GL 3 Ae,trivial⟩),Gk 2 Ae _ ⟨GL 1 Ae,GL 0 Ae,trivial⟩,WR,Qa,GL⟩
theorem Ul {y:Tm}{n:Bool}{v:Tm}{c:Bool}(h:JJ[2]?=some (.mk y n v c)):O9=y:=by
 have:JJ[2]?=some ⟨O9,false,A3,false⟩:=rfl;rw[this] at h;injection h with h;injection h
theorem Yw:Nd (.mk 5 0 ⟨#[]⟩ [] [dK,GK (CP 1 [Ew 0])]):=⟨by decide,by decide,by simp,by decide,⟨dE,P0 _ (Gk 1 Ae _ ⟨GL 0 Ae,trivial⟩),trivial⟩,⟨by decide,by decide⟩,⟨by decide,by decide⟩⟩
theorem Y1:∀m∈Mt,Ok 16 m.value:=by
 intro m hm;simp only[Mt,List.mem_cons,List.not_mem_nil,or_false] at hm;rcases hm with rfl | rfl
 ·refine⟨Yw,?_,?_,by decide⟩
  ·simp[dK,GK,CP,Ew,Dc,apply,K7,Vp,MG]
  simp[dK,GK,CP,Ew,Dc,apply,K7,Wt,Hi,arity]
 exact LO Ae
theorem YV:Ok 16 ZV:=⟨Gk 0 Ae _ ⟨GL 3 Ae,trivial⟩,by simp[ZV,CP,Ew,Dc,apply,K7,Vp,MG],by simp[ZV,CP,Ew,Dc,apply,K7,Wt,Hi,arity],by decide⟩
end Go.Eu
namespace Go.Proofs.YtajnpndfkbnkoaaGreat
open Go.Abs Go.Eu
theorem HI:∀(i:Int),EE Tryz.prog 18 [.p (I i)] (.agg ((BB (Ew i)).map .p)):=by
 intro i;refine Db Tryz.func18 O (DR [0] O (Am Bx O) fun b2=>D5 [3,0,0] O (BA (CI (i:=0) O) (CF (BF [0] O (B7 [0] [] O O ⟨O,O⟩)))))
theorem QZ:∀(i:Int) (l:List Tm),(l.length<C7)→EE Tryz.prog 19 [.p (I i),.p (.lst (A0 l))] (.agg ((BB (CP i l)).map .p)):=by
 intro i l h1;refine Db Tryz.func19 O (DR [0] O (Am Bx O) fun b4=>Ak [3] O (Hz O O (Xj (.mk 12 i ⟨#[]⟩ [] []:Tm) l h1) (aw (E9 O) (aw (we O) (HY)))) (BF [1,0,1] O (B7 [0] [] O O ⟨O,O⟩)))
theorem cH:∀(t:Tm),EE Tryz.prog 21 [.agg ((BB t).map .p)] (.agg ((BB (GK t)).map .p)):=by
 intro t;refine Db Tryz.func21 O (DT [0] O O fun b1=>DR [0] O (Am Bx O) fun b2=>?_);obtain⟨tk,ti,tn,tl,ts⟩:=t;refine Ak [2,1] O (Ay Bc Bx O O O O O) (D5 [2,0,0] O (BA (CI (i:=0) O) (CF (BF [0] O (B7 [0] [] O O ⟨O,O⟩)))))
theorem Y5:EE Tryz.prog 22 [gP Mt,TV ZV] (.tup [TV VL,.p (I 0)]):=by
 have h:=Rt Mt ZV 16 100 Ae Ae Y1 Ae YV Ae;rw[Zr] at h;exact h
theorem ZQ:EE Tryz.prog 23 [gP Mt,TV ZV] (.tup [cf [1],.p (I 0)]):=by
 have h:=Zc Mt ZV 16 100 Ae Ae Y1 Ae YV Ae;rw[dy] at h;exact h
theorem Xv:EE Tryz.prog 14 [TV (CP 1 [Ew 0,Ew 2])] (.tup [.p (I 1),cf [0,2],.p (.bool true)]):=by
 have h:=KP (CP 1 [Ew 0,Ew 2]) (Gk 1 Ae _ ⟨GL 0 Ae,GL 2 Ae,trivial⟩) Ae;rw[ed] at h;exact h
theorem X4:EE Tryz.prog 14 [TV (CP 1 [Ew 0,Ew 0])] (.tup [.p (I 0),cf [],.p (.bool false)]):=by
 have h:=KP (CP 1 [Ew 0,Ew 0]) (Gk 1 Ae _ ⟨GL 0 Ae,GL 0 Ae,trivial⟩) Ae;rw[fO] at h;exact h
theorem ZM:EE Tryz.prog 12 [gP Mt,ZX [Ls,Ew 0],TV (Ew 1),.p (.bool false)] (.tup [gP JJ,TV Kd,.p (I 0)]):=by
 have h:=YC Mt [Ls,Ew 0] (Ew 1) false Ae ⟨Qe.2.2.2.1,Qe.2.2.2.2 0 Ae,trivial⟩ (Qe.2.2.2.2 1 Ae) Ae Ae;rw[cu] at h;exact h
theorem WH:EE Tryz.prog 10 [TV VL,TV (GK (CP 1 [Ew 3]))] (.p (.bool true)):=by
 have h:=Hn 100 VL (GK (CP 1 [Ew 3])) Ae Qe.1;rw[A2 (show VL=GK (CP 1 [Ew 3]) from rfl)] at h;exact h
theorem WU:EE Tryz.prog 10 [TV Kd,TV (CP 2 [Ew 1,Ew 0])] (.p (.bool true)):=by
 have h:=Hn 100 Kd (CP 2 [Ew 1,Ew 0]) Ae Qe.2.1;rw[A2 (show Kd=CP 2 [Ew 1,Ew 0] from rfl)] at h;exact h
theorem aJ:EE Tryz.prog 24 [cf [1],cf [1]] (.p (.bool true)):=by
 have h:=SJ [1] [1] Ae;rw[A2 rfl] at h;exact h
theorem Z9:EE Tryz.prog 24 [cf [0,2],cf [0,2]] (.p (.bool true)):=by
 have h:=SJ [0,2] [0,2] Ae;rw[A2 rfl] at h;exact h
theorem Zz:EE Tryz.prog 19 [.p (I 1),ZX [Ew 0]] (TV (CP 1 [Ew 0])):=QZ 1 _ Ae
theorem Um:EE Tryz.prog 19 [.p (I 0),ZX [Ew 3]] (TV (CP 0 [Ew 3])):=QZ 0 _ Ae
theorem XV:EE Tryz.prog 19 [.p (I 1),ZX [Ew 0,Ew 2]] (TV (CP 1 [Ew 0,Ew 2])):=QZ 1 _ Ae
theorem YJ:EE Tryz.prog 19 [.p (I 1),ZX [Ew 0,Ew 0]] (TV (CP 1 [Ew 0,Ew 0])):=QZ 1 _ Ae
theorem ZS:EE Tryz.prog 19 [.p (I 1),ZX [Ew 3]] (TV (CP 1 [Ew 3])):=QZ 1 _ Ae
theorem Xb:EE Tryz.prog 19 [.p (I 2),ZX [Ew 1,Ew 0]] (TV (CP 2 [Ew 1,Ew 0])):=QZ 2 _ Ae
theorem ZL:EE Tryz.prog 21 [TV (CP 1 [Ew 0])] (TV (GK (CP 1 [Ew 0]))):=cH _
theorem bI:EE Tryz.prog 21 [TV (CP 1 [Ew 3])] (TV (GK (CP 1 [Ew 3]))):=cH _
end Go.Proofs.YtajnpndfkbnkoaaGreat
