/- Part of the proofs: an abstract program logic, plain models and contracts of functions. -/
import Derived.Test.YtifphifongokcaaGreatPb
import Derived.Shelf.Sort.Plain
import Derived.Shelf.Slices.In.SortNone
import Derived.Test.YtifphifongokcaaGreatPd
import Derived.Test.YtifphifongokcaaGreatPc
set_option linter.unusedVariables false
set_option linter.unusedSimpArgs false
set_option maxRecDepth 100000
namespace Go.Eu
open Go.Abs Go.Sort
def QU (zs:List Int):List Int:=zs.mergeSort fun x y=>decide (x≤y)
theorem Tf (zs:List Int):(QU zs).length=zs.length:=List.length_mergeSort _
end Go.Eu
namespace Go.Eu
open Go.Abs
def Ru (c:Int) (v:B9):Bool:=decide (-65536≤v.index)&&decide (v.index<8)&&decide (0≤v.plus)&&decide (v.plus≤100)&&(decide (c≤0)||decide (v.plus<c))
def Ij (p:Option Int) (i:Int):Bool:=match p with
 | none=>true
 | some j=>decide (j<i)
def GK (c:Int):Option Int→List B9→Bool
 | _,[]=>true
 | p,v::vs=>Ru c v&&Ij p v.index&&GK c (some v.index) vs
def DB (l:CB):Bool:=decide (0≤l.const)&&decide (l.const≤100)&&GK l.const none l.vars
def GI:CB:=⟨0,[]⟩
def iT (l:CB):Bool:=l.vars.any fun v=>decide (l.const≤v.plus)
def eJ (vs:List B9):Int:=(vs.getD (vs.length - 1) default).index
def SE (l:CB):Int:=if DB l=true∧l.vars≠[] then max 0 (eJ l.vars+1) else 0
def IK (x:B9) (rec:List B9→List B9):List B9→List B9
 | []=>x::rec []
 | y::b=>if x.index<y.index then x::rec (y::b) else if y.index<x.index then y::IK x rec b else ⟨x.index,max x.plus y.plus⟩::rec b
def Ea:List B9→List B9→List B9
 | [],b=>b
 | x::a,b=>IK x (Ea a) b
def OD (vs:List B9):Int:=vs.foldl (fun m v=>max m v.plus) 0
def cH (c:Int) (vs:List B9):CB:=⟨if vs≠[]∧c≤OD vs then 0 else c,vs⟩
def Yb (a b:CB):CB:=cH (max a.const b.const) (Ea a.vars b.vars)
def aS (n:Int) (v:B9):B9:=⟨v.index,v.plus+n⟩
def OQ (l:CB) (n:Int):Int:=if l.const > 0∨l.vars=[] then l.const+n else 0
def Ky (l:CB) (n:Int):CB×Int :=
 if DB l=false then (GI,3) else if n<0 then (GI,2) else if n > 100 then (GI,15)
 else if OQ l n > 100 then (GI,15)
 else if (l.vars.any fun v=>decide (v.plus+n > 100))=true then (GI,15)
 else (⟨OQ l n,l.vars.map (aS n)⟩,0)
def Vc (ps:List CB):CB→List B9→CB×Int
 | out,[]=>(out,0)
 | out,v::vs =>
  if 0≤v.index∧v.index<ps.length then
   (if (Ky (ps.getD v.index.toNat default) v.plus).2≠0 then (GI,(Ky (ps.getD v.index.toNat default) v.plus).2)
    else Vc ps (Yb out (Ky (ps.getD v.index.toNat default) v.plus).1) vs)
  else Vc ps (Yb out ⟨0,[v]⟩) vs
def KE (l:CB) (ps:List CB):CB×Int :=
 if DB l=false∨ps.all DB=false then (GI,3)
 else if SE l > ps.length then (GI,24)
 else Vc ps ⟨l.const,[]⟩ l.vars
-- the program's way
def mg (k:Int):List (Int×Int)→Option Int
 | []=>none
 | (j,x)::r=>if j=k then some x else mg k r
def ms (k v:Int):List (Int×Int)→List (Int×Int)
 | []=>[(k,v)]
 | (j,x)::r=>if j=k then (j,v)::r else (j,x)::ms k v r
def Hu (m:List (Int×Int)) (i p:Int):List (Int×Int):=match mg i m with
 | some old=>if p > old then ms i p m else m
 | none=>ms i p m
def He (n:Int) (m:List (Int×Int)) (v:B9):List (Int×Int):=Hu m v.index (v.plus+n)
def aM (s:List (Int×Int)×Int) (l:CB) (n:Int):List (Int×Int)×Int:=(l.vars.foldl (He n) s.1,max s.2 (l.const+n))
def MJ (ps:List CB) (s:List (Int×Int)×Int) (v:B9):List (Int×Int)×Int :=
 if v.index<0 then (Hu s.1 v.index v.plus,s.2) else aM s (ps.getD v.index.toNat default) v.plus
def Nr (m:List (Int×Int)):List B9:=(QU (m.map Prod.fst)).map fun i=>⟨i,(mg i m).getD 0⟩
def fE (l:CB):CB×Int :=
 if (l.vars.any fun v=>decide (v.plus > 100))=true then (GI,15)
 else if l.const > 100 then (GI,15)
 else if iT l=true then (⟨0,l.vars⟩,0) else (l,0)
def gY (l:CB) (ps:List CB):CB×Int :=
 if DB l=false∨ps.all DB=false then (GI,3)
 else if SE l > ps.length then (GI,24)
 else fE ⟨(l.vars.foldl (MJ ps) ([],l.const)).2,Nr (l.vars.foldl (MJ ps) ([],l.const)).1⟩
-- offsets
def Ot:List B9→Int→Int
 | [],_=> -1
 | v::vs,i=>if v.index=i then max v.plus (Ot vs i) else Ot vs i
abbrev SD (l:List B9):Prop:=l.Pairwise fun a b=>a.index<b.index
-- merging
-- the greatest offset
def dO (c:Int) (vs:List B9):Int:=if (vs.any fun v=>decide (c≤v.plus))=true then 0 else c
-- the offsets of the program
def IX (m:List (Int×Int)) (i:Int):Int:=(mg i m).getD (-1)
theorem VK (k v:Int):∀(m:List (Int×Int)) (j:Int),mg j (ms k v m)=if k=j then some v else mg j m
 | [],j=>by simp[ms,mg]
 | (i,x)::m,j=>by
  have ih:=VK k v m j;simp only[ms];split
  ·rename_i q;subst q;simp only[mg];split<;>rfl
  rename_i q;simp only[mg,ih];by_cases h1:i=j
  ·subst h1;rw[if_pos rfl,if_neg (Ne.symm q),if_pos rfl]
  simp[h1]
theorem PZ (k v:Int):∀(m:List (Int×Int)),(ms k v m).map Prod.fst=if k∈m.map Prod.fst then m.map Prod.fst else m.map Prod.fst++[k]
 | []=>by simp[ms]
 | (i,x)::m=>by
  have ih:=PZ k v m;simp only[ms];split
  ·rename_i q;subst q;simp
  rename_i q;simp only[List.map_cons,ih,List.mem_cons,(show (k=i)=False by simp;exact fun h=>q h.symm),false_or];split<;>simp
structure Pd (m:List (Int×Int)):Prop where
 nd:(m.map Prod.fst).Nodup
 pos:∀k v,mg k m=some v→0≤v
theorem Pd.nil:Pd []:=⟨by simp,fun k v h=>by simp[mg] at h⟩
theorem Uy {m:List (Int×Int)}(k v:Int) (h:(m.map Prod.fst).Nodup):((ms k v m).map Prod.fst).Nodup:=by
 rw[PZ];split
 ·exact h
 rename_i q;rw[List.nodup_append];refine⟨h,by simp,fun a ha b hb=>?_⟩;simp only[List.mem_singleton] at hb;subst hb;exact fun e=>q (e▸ha)
theorem P0 {m:List (Int×Int)}{i p:Int}(h:Pd m) (hp:0≤p):Pd (Hu m i p):=by
 have hs:Pd (ms i p m):=⟨Uy i p h.nd,fun k v hk=>by
  rw[VK] at hk;split at hk
  ·cases hk;exact hp
  exact h.pos k v hk⟩
 unfold Hu;split
 ·split
  ·exact hs
  exact h
 exact hs
theorem Ox {m:List (Int×Int)}(h:Pd m) (i:Int): -1≤IX m i:=by
 unfold IX;cases e:mg i m with
 | none=>simp
 | some v=>have:=h.pos i v e;simp;omega
theorem Mq {m:List (Int×Int)}{i p:Int}(h:Pd m) (hp:0≤p) (j:Int):IX (Hu m i p) j=max (Ot [⟨i,p⟩] j) (IX m j):=by
 have h1:IX (ms i p m) j=if i=j then p else IX m j:=by unfold IX;rw[VK];split<;>rfl
 have h2:=Ox h j;unfold Hu;simp only[Ot];cases e:mg i m with
 | none =>
  simp only[h1];split
  ·rename_i q;subst q;simp only[IX,e,Option.getD_none];omega
  ·omega
 | some old =>
  simp only;split
  ·rw[h1];split
   ·rename_i q;subst q;simp only[IX,e,Option.getD_some];omega
   omega
  split
  ·rename_i q;subst q;simp only[IX,e,Option.getD_some];omega
  omega
theorem Ma {n:Int}:∀(vs:List B9) (m:List (Int×Int)),Pd m→(∀v∈vs,0≤v.plus+n)→Pd (vs.foldl (He n) m)∧∀i,IX (vs.foldl (He n) m) i=max (Ot (vs.map (aS n)) i) (IX m i)
 | [],m,h,_=>⟨h,fun i=>by have:=Ox h i;simp only[List.foldl_nil,List.map_nil,Ot];omega⟩
 | v::vs,m,h,hv=>by
  have hp:=hv v Ai;have h1:Pd (He n m v):=P0 h hp;obtain⟨h2,h3⟩:=Ma vs (He n m v) h1 fun w hw=>hv w (by simp[hw]);refine⟨h2,fun i=>?_⟩;rw[List.foldl_cons,h3 i,show IX (He n m v) i=max (Ot [⟨v.index,v.plus+n⟩] i) (IX m i) from Mq h hp i];have:=Ox h i;simp only[List.map_cons,Ot,aS];split<;>omega
theorem MH (zs:List Int):(QU zs).Perm zs:=List.mergeSort_perm _ _
theorem Ov (zs:List Int):(QU zs).Pairwise fun a b=>a≤b:=by
 have:=List.pairwise_mergeSort (le:=fun(x y:Int)=>decide (x≤y)) (fun a b c h1 h2=>by simp at *;omega) (fun a b=>by simp;omega) zs;exact this.imp fun h=>by simpa using h
theorem TZ {m:List (Int×Int)}(h:Pd m):SD (Nr m):=by
 have hn:(QU (m.map Prod.fst)).Nodup:=(MH _).nodup_iff.2 h.nd;have hs:=Ov (m.map Prod.fst);rw[SD,Nr,List.pairwise_map];exact(hs.and hn).imp fun⟨h1,h2⟩=>by simp only;omega
-- valid levels
theorem KY:∀{c:Int}{vs:List B9}{p:Option Int},GK c p vs=true→∀v∈vs,Ru c v=true
 | c,w::vs,p,h,v,hv=>by
  simp only[GK,Bool.and_eq_true] at h;rcases List.mem_cons.1 hv with rfl | hv
  ·exact h.1.1
  exact KY h.2 v hv
theorem WU {c:Int}{v:B9}(h:Ru c v=true):0≤v.plus∧v.plus≤100:=by
 simp only[Ru,Bool.and_eq_true,decide_eq_true_eq] at h;exact⟨h.1.1.2,h.1.2⟩
theorem ON:∀{c:Int}{vs:List B9}{p:Option Int},GK c p vs=true→SD vs∧∀v∈vs,Ij p v.index=true
 | c,[],p,_=>⟨by simp[SD],by simp⟩
 | c,w::vs,p,h=>by
  simp only[GK,Bool.and_eq_true] at h;obtain⟨h1,h2⟩:=ON h.2;simp only[Ij,decide_eq_true_eq] at h2;refine⟨?_,fun v hv=>?_⟩
  ·rw[SD,List.pairwise_cons];exact⟨h2,h1⟩
  rcases List.mem_cons.1 hv with rfl | hv
  ·exact h.1.2
  have a:=h.1.2;have b:=h2 v hv;unfold Ij at a ⊢;cases p with
  | none=>rfl
  | some j=>simp only[decide_eq_true_eq] at a ⊢;omega
theorem Z6 {n:Int}{vs:List B9}(h:SD vs):SD (vs.map (aS n)):=by
 rw[SD,List.pairwise_map];exact h.imp fun h=>h
structure kO (m:List (Int×Int)) (c:Int) (out:CB):Prop where
 ok:Pd m
 asc:SD out.vars
 pos:∀v∈out.vars,0≤v.plus∧v.plus≤100
 off:∀i,Ot out.vars i=IX m i
 c0:0≤c
 c1:c≤100
 con:out.const=dO c out.vars
-- errors stay
def eD (s:List (Int×Int)×Int):Prop:=(∃i,100<IX s.1 i)∨100<s.2
theorem VL {ps:List CB}(hps:∀l∈ps,DB l=true) {s:List (Int×Int)×Int}{v:B9}(hm:Pd s.1) (hv:0≤v.plus) (hi:v.index<ps.length):Pd (MJ ps s v).1∧(eD s→eD (MJ ps s v)):=by
 unfold MJ;split
 ·refine⟨P0 hm hv,fun h=>?_⟩;rcases h with ⟨i,h⟩ | h
  ·exact .inl ⟨i,by rw[Mq hm hv];omega⟩
  exact .inr h
 rename_i q;have hmem:ps.getD v.index.toNat default∈ps:=by
  have hlt:v.index.toNat<ps.length:=by omega
  rw[List.getD_eq_getElem?_getD,List.getElem?_eq_getElem hlt];exact List.getElem_mem hlt
 have hl:=hps _ hmem;simp only[DB,Bool.and_eq_true,decide_eq_true_eq] at hl;obtain⟨h1,h2⟩:=Ma (n:=v.plus) (ps.getD v.index.toNat default).vars s.1 hm fun w hw=>by have:=(WU (KY hl.2 w hw)).1;omega
 refine⟨h1,fun h=>?_⟩;rcases h with ⟨i,h⟩ | h
 ·exact .inl ⟨i,by simp only[aM,h2];omega⟩
 exact .inr (by simp only[aM];omega)
theorem QT {l:CB}{n:Int}(hl:DB l=true) (h0:0≤n) (h1:n≤100) :
  (Ky l n=(GI,15)∧(100<l.const+n∨∃v∈l.vars,100<v.plus+n)) ∨
  (Ky l n=(⟨OQ l n,l.vars.map (aS n)⟩,0)∧l.const+n≤100∧∀v∈l.vars,v.plus+n≤100):=by
 have hl':=hl;simp only[DB,Bool.and_eq_true,decide_eq_true_eq] at hl';unfold Ky;rw[if_neg (by simp[hl]),if_neg Ah,if_neg Ah];split
 ·rename_i q;refine .inl ⟨O,.inl ?_⟩;unfold OQ at q;split at q<;>omega
 rename_i q;split
 ·rename_i q';simp only[List.any_eq_true,decide_eq_true_eq] at q';obtain⟨v,h1,h2⟩:=q';exact .inl ⟨O,.inr ⟨v,h1,by omega⟩⟩
 rename_i q';simp only[List.any_eq_true,decide_eq_true_eq,not_exists,not_and] at q';refine .inr ⟨O,?_,fun v hv=>by have:=q' v hv;omega⟩;unfold OQ at q;split at q<;>omega
def P5 (ps:List CB):Int→List CB→List CB×Int
 | er,[]=>([],er)
 | er,l::ls=>((KE l ps).1::(P5 ps (Gw er (KE l ps).2) ls).1,(P5 ps (Gw er (KE l ps).2) ls).2)
mutual
def TN (ps:List CB):Int→Tm→Tm×Int
 | er,.mk k i n ls ks=>(.mk k i n (P5 ps er ls).1 (Rw ps (P5 ps er ls).2 ks).1,(Rw ps (P5 ps er ls).2 ks).2)
def Rw (ps:List CB):Int→List Tm→List Tm×Int
 | er,[]=>([],er)
 | er,t::ts=>((TN ps er t).1::(Rw ps (TN ps er t).2 ts).1,(Rw ps (TN ps er t).2 ts).2)
end
def D2 (t:Tm) (ps:List CB):Tm×Int:=if (TN ps 0 t).2≠0 then (BH,(TN ps 0 t).2) else ((TN ps 0 t).1,0)
inductive Out (α:Type) where
 | stuck
 | fail
 | ok (a:α)
def Out.bind {α β:Type}:Out α→(α→Out β)→Out β
 | .stuck,_=> .stuck
 | .fail,_=> .fail
 | .ok a,k=>k a
def Mg (n:Int):Bool:=decide (-9223372036854775808≤n)&&decide (n≤9223372036854775807)
def S7 (l:CB):Bool:=decide (l.vars.length<Cr)&&Mg l.const&&l.vars.all fun v=>Mg v.index&&Mg v.plus
mutual
def WC:Tm→Bool
 | .mk k i n ls ks=>decide (n.size<Cr)&&decide (ls.length<Cr)&&ls.all S7&&decide (ks.length<Cr)&&Mg k&&Mg i&&decide ((ks.length:Int)=arity k)&&(decide (k≠12)||decide (0≤i))&&(decide (k≠0)||decide (0≤i)&&decide (i<1099511627776))&&K7 ks
def K7:List Tm→Bool
 | []=>true
 | t::ts=>WC t&&K7 ts
end
def okB (t:Tm):Bool:=WC t&&decide (size t<549755813888)
def Out.chk {σ β:Type}(o:Out (Tm×σ)) (k:Tm×σ→Out β):Out β:=o.bind fun r=>if okB r.1=true then k r else .stuck
structure Sys (σ:Type) where
 over:σ→Bool
 res:σ→Tm→Int→Option σ
 many:Nat→Bool
def Sys.put {σ α:Type}(S:Sys σ) (s:σ) (x:Tm×Int) (k:Tm→σ→Out α):Out α :=
 if okB x.1=true then (match S.res s x.1 x.2 with
  | none=> .fail
  | some s'=>k x.1 s')
 else .stuck
def Gz.result (c:Gz) (t:Tm) (e:Int):Gz:=({ c with steps:=wr (c.steps+1),nodes:=wr (c.nodes+FX t) }).form t e
def jj:Sys Gz:=⟨Gz.over,fun c t e=>some (c.result t e),fun _=>false⟩
def XZ:Sys Int:=⟨fun _=>false,fun n t e=>if n - 1<0∨e≠0 then none else some (n - 1),fun k=>decide (40960<k)⟩
def BS:Tm→List Tm×Tm
 | .mk k i n l [a,b]=>if k=6 then (a::(BS b).1,(BS b).2) else ([],.mk k i n l [a,b])
 | t=>([],t)
section
variable (E:List Bx)
def B3 (i:Int):Bx:=E.getD i.toNat default
def Gd (d:Bx) (j:Int):Dk:=d.ctors.getD j.toNat default
def Ek (d:Bx) (j:Int):J5:=d.funs.getD j.toNat default
def Zj (t:Tm):Int:=((BS t).1.length:Int)
def LY (d:Bx) (j:Int):Int:=max 0 (Zj (Gd d j).type - d.fixed)
def Eb (nm:ByteArray):Option (Bx×Int) :=
 if (B2 E nm).2≠0 then none
 else if (B2 E nm).1.kind=3 then some (B3 E (B2 E nm).1.decl,-1)
 else if (B2 E nm).1.kind=4 then some (B3 E (B2 E nm).1.decl,(B2 E nm).1.item)
 else if (B2 E nm).1.kind=5 then some (B3 E (B2 E nm).1.decl,-2)
 else none
def Gj (t:Tm):Option (Bx×Int×List Tm) :=
 if (A4 t).1.kind≠3 then none
 else match Eb E (A4 t).1.name with
  | none=>none
  | some (d,j)=>if j<0 then none else if ((A4 t).2.length:Int)≠d.fixed+LY d j then none else some (d,j,(A4 t).2.drop d.fixed.toNat)
def UN (d:Bx):Int:=max 0 (Zj d.type - d.fixed)
def Ee (d:Bx):Int:=d.fixed+1+d.ctors.length+UN d
def Di (nm:ByteArray):List JK→Option F4
 | []=>none
 | b::l=>if b.ctor=nm then (if b.absurd=true then none else some b.tree) else Di nm l
def IN (h:Tm):Option Ff:=if (B2 E h.name).2=0∧(h.levels.length:Int)=(B2 E h.name).1.params then some (B2 E h.name).1 else none
variable {σ:Type}(S:Sys σ)
def Nb (W:σ→Tm→Out (Tm×σ)):Nat→F4→List Tm→Tm→σ→Out ((Option (Tm×List Tm)×Tm)×σ)
 | 0,_,_,_,_=> .stuck
 | n+1,t,vars,last,s =>
  if t.kind=1 then
   if t.var<0∨t.var≥(vars.length:Int)∨S.over s=true then .ok ((none,last),s)
   else (W s (vars.getD t.var.toNat default)).chk fun r=>match Gj E r.1 with
    | none=> .ok ((none,r.1),r.2)
    | some (d,j,fields)=>match Di (Gd d j).name t.branches with
     | none=> .ok ((none,r.1),r.2)
     | some t'=>Nb W n t' (vars++fields) r.1 r.2
  else .ok ((some (t.body,vars),BH),s)
def Qy (d:Bx) (h:Tm) (a:List Tm) (s:σ):Out (Option Tm×σ) :=
 if (D2 d.value h.levels).2≠0 then .ok (none,s)
 else S.put s ((D2 d.value h.levels).1,0) fun t s'=> .ok (some (apply t a),s')
def O5 (d:Bx) (j:Int):Tm:=d.recs.rules.getD j.toNat default
def Ui (d:Bx) (h:Tm) (a:List Tm) (m:Tm) (s:σ):Out (Option Tm×σ):=match Gj E m with
 | none=> .ok (none,s)
 | some (e,j,fields) =>
  if e.name≠d.name∨j≥(d.recs.rules.length:Int) then .ok (none,s)
  else if (D2 (O5 d j) h.levels).2≠0 then .ok (none,s)
  else S.put s (apply (apply (D2 (O5 d j) h.levels).1 (a.take (d.fixed+1+d.ctors.length).toNat)) fields,0) fun t s'=> .ok (some (apply t (a.drop (Ee d+1).toNat)),s')
def Vq (h:Tm) (b:Tm) (vars:List Tm) (rest:List Tm) (s:σ):Out (Option Tm×σ) :=
 if (D2 b h.levels).2≠0 then .ok (none,s)
 else if okB (D2 b h.levels).1=false∨vars.all okB=false∨1125899906842624≤BC vars then .stuck
 else S.put s (Cz (D2 b h.levels).1 vars.reverse 0) fun t s'=> .ok (some (apply t rest),s')
def Zw (W:σ→Tm→Out (Tm×σ)) (n:Nat) (f:J5) (h:Tm) (a:List Tm) (s:σ):Out (Option Tm×σ) :=
 if (a.length:Int)<f.arity then .ok (none,s)
 else (Nb E S W n f.tree (a.take f.arity.toNat) BH s).bind fun q=>match q.1.1 with
  | none=> .ok (none,q.2)
  | some (b,vars)=>if S.over q.2=true then .ok (none,q.2) else Vq S h b vars (a.drop f.arity.toNat) q.2
def gb (W:σ→Tm→Out (Tm×σ)) (d:Bx) (h:Tm) (a:List Tm) (s:σ):Out (Option Tm×σ) :=
 if (a.length:Int)≤Ee d then .ok (none,s)
 else (W s (a.getD (Ee d).toNat default)).chk fun r=>Ui E S d h a r.1 r.2
def VV (W:σ→Tm→Out (Tm×σ)) (n:Nat) (h:Tm) (a:List Tm) (s:σ):Out (Option Tm×σ):=match IN E h with
 | none=> .ok (none,s)
 | some x =>
  if x.kind=1 then Qy S (B3 E x.decl) h a s
  else if x.kind=5 then gb E S W (B3 E x.decl) h a s
  else if x.kind=6 then Zw E S W n (Ek (B3 E x.decl) x.item) h a s
  else .ok (none,s)
def P8 (k:Int) (p:Tm):Tm:= .mk k 0 ⟨#[]⟩ [] [p]
def Yh (h:Tm) (a:List Tm) (s:σ) {α:Type}(k:Tm→σ→Out α):Out α:=match h.kids[1]? with
 | none=> .stuck
 | some b=>S.put s (Cz b (a.take 1) 0) fun x s'=>k (apply x (a.drop 1)) s'
def dK (h:Tm) (a:List Tm) (s:σ) {α:Type}(k:Tm→σ→Out α):Out α:=match h.kids[1]?,h.kids[2]? with
 | some v,some b=>S.put s (Cz b [v] 0) fun x s'=>k (apply x a) s'
 | _,_=> .stuck
def Uo (h p:Tm) (a:List Tm) (s:σ) {α:Type}(k:Tm→σ→Out α):Out α:=match p.kids[(1+h.kind - 9).toNat]? with
 | none=> .stuck
 | some q=>S.put s (q,0) fun x s'=>k (apply x a) s'
def SA:Nat→σ→Tm→Out (Tm×σ)
 | 0,_,_=> .stuck
 | n+1,s,t =>
  if okB t=false then .stuck
  else if S.over s=true then .ok (t,s)
  else if S.many (A4 t).2.length=true then .fail
  else if (A4 t).1.kind=5 then
   (if (A4 t).2.length=0 then .ok (t,s) else Yh S (A4 t).1 (A4 t).2 s fun x s'=>SA n s' x)
  else if (A4 t).1.kind=11 then dK S (A4 t).1 (A4 t).2 s fun x s'=>SA n s' x
  else if (A4 t).1.kind=9∨(A4 t).1.kind=10 then match (A4 t).1.kids[0]? with
   | none=> .stuck
   | some p=>(SA n s p).chk fun r =>
    if r.1.kind≠8 then .ok (apply (P8 (A4 t).1.kind r.1) (A4 t).2,r.2)
    else Uo S (A4 t).1 r.1 (A4 t).2 r.2 fun x s'=>SA n s' x
  else if (A4 t).1.kind=3 then (VV E S (SA n) n (A4 t).1 (A4 t).2 s).bind fun r=>match r.1 with
   | none=> .ok (t,r.2)
   | some x=>SA n r.2 x
  else .ok (t,s)
noncomputable def TY:Nat→σ→Tm→Out (Option Int×σ)
 | 0,_,_=> .stuck
 | n+1,s,t=>(SA E S n s t).chk fun r =>
  if (A4 r.1).1.kind=12 then .ok (some (A4 r.1).1.index,r.2)
  else if (A4 r.1).1.kind=9∨(A4 r.1).1.kind=10 then match (A4 r.1).1.kids[0]? with
   | none=> .stuck
   | some p=>TY n r.2 p
  else if (A4 r.1).1.kind=3 then match IN E (A4 r.1).1 with
   | none=> .ok (none,r.2)
   | some x =>
    if S.over r.2=true then .ok (none,r.2)
    else if x.kind=5∧((A4 r.1).2.length:Int) > Ee (B3 E x.decl) then TY n r.2 ((A4 r.1).2.getD (Ee (B3 E x.decl)).toNat default)
    else if x.kind=6∧((A4 r.1).2.length:Int)≥(Ek (B3 E x.decl) x.item).arity then
     (Nb E S (SA E S n) n (Ek (B3 E x.decl) x.item).tree ((A4 r.1).2.take (Ek (B3 E x.decl) x.item).arity.toNat) BH r.2).bind fun q=>match q.1.1 with
      | some _=> .ok (none,q.2)
      | none=>if S.over q.2=false∧E9 q.1.2 BH=false then TY n q.2 q.1.2 else .ok (none,q.2)
    else .ok (none,r.2)
  else .ok (none,r.2)
def Un:Tm→List Int→Tm→Option Tm
 | _,[],x=>some x
 | t,p::ps,x=>match (A4 t).2[p.toNat]? with
  | none=>none
  | some y=>(Un y ps x).map fun z=>apply (A4 t).1 ((A4 t).2.set p.toNat z)
def IG (a:Int×List Int) (fx:Int) (n:Nat):List (Int×List Int):=(List.range n).map fun i:Nat=>(a.1,a.2++[fx+(i:Int)])
def aI (T:σ→Tm→Out (Option Tm×σ)) (h:Tm) (ar:Int) (a:List Tm):Nat→F4→List Tm→List (Int×List Int)→σ→Out (Option Tm×σ)
 | 0,_,_,_,_=> .stuck
 | n+1,t,vars,pl,s =>
  if t.kind=1 then
   if t.var<0∨t.var≥(vars.length:Int) then .ok (none,s)
   else match Gj E (vars.getD t.var.toNat default) with
    | none=>(T s (vars.getD t.var.toNat default)).bind fun r=>match r.1 with
     | none=> .ok (none,r.2)
     | some x=>match Un (a.getD (pl.getD t.var.toNat default).1.toNat default) (pl.getD t.var.toNat default).2 x with
      | none=> .stuck
      | some y=> .ok (some (apply h (a.set (pl.getD t.var.toNat default).1.toNat y)),r.2)
    | some (d,j,fields)=>match Di (Gd d j).name t.branches with
     | none=> .ok (none,s)
     | some t'=>aI T h ar a n t' (vars++fields) (pl++IG (pl.getD t.var.toNat default) d.fixed fields.length) s
  else Vq S h t.body vars (a.drop ar.toNat) s
def Vj:Nat→σ→Tm→Out (Option Tm×σ)
 | 0,_,_=> .stuck
 | n+1,s,t =>
  if okB t=false then .stuck
  else if (A4 t).1.kind=5 then
   (if (A4 t).2.length=0 then .ok (none,s) else Yh S (A4 t).1 (A4 t).2 s fun x s'=> .ok (some x,s'))
  else if (A4 t).1.kind=11 then dK S (A4 t).1 (A4 t).2 s fun x s'=> .ok (some x,s')
  else if (A4 t).1.kind=9∨(A4 t).1.kind=10 then match (A4 t).1.kids[0]? with
   | none=> .stuck
   | some p =>
    if p.kind=8 then Uo S (A4 t).1 p (A4 t).2 s fun x s'=> .ok (some x,s')
    else (Vj n s p).bind fun r=>match r.1 with
     | none=> .ok (none,r.2)
     | some x=> .ok (some (apply (P8 (A4 t).1.kind x) (A4 t).2),r.2)
  else if (A4 t).1.kind=3 then match IN E (A4 t).1 with
   | none=> .ok (none,s)
   | some x =>
    if x.kind=1 then Qy S (B3 E x.decl) (A4 t).1 (A4 t).2 s
    else if x.kind=5∧((A4 t).2.length:Int) > Ee (B3 E x.decl) then match Gj E ((A4 t).2.getD (Ee (B3 E x.decl)).toNat default) with
     | some _=>Ui E S (B3 E x.decl) (A4 t).1 (A4 t).2 ((A4 t).2.getD (Ee (B3 E x.decl)).toNat default) s
     | none=>(Vj n s ((A4 t).2.getD (Ee (B3 E x.decl)).toNat default)).bind fun r=>match r.1 with
      | none=> .ok (none,r.2)
      | some y=> .ok (some (apply (A4 t).1 ((A4 t).2.set (Ee (B3 E x.decl)).toNat y)),r.2)
    else if x.kind=6∧((A4 t).2.length:Int)≥(Ek (B3 E x.decl) x.item).arity then
     aI E S (Vj n) (A4 t).1 (Ek (B3 E x.decl) x.item).arity (A4 t).2 n (Ek (B3 E x.decl) x.item).tree ((A4 t).2.take (Ek (B3 E x.decl) x.item).arity.toNat) ((List.range (Ek (B3 E x.decl) x.item).arity.toNat).map fun i:Nat=>((i:Int),[])) s
    else .ok (none,s)
  else .ok (none,s)
def jZ (n:Nat) (t:F4) (a:List Tm) (s:σ):Out (Option Tm×σ) :=
 (Nb E S (SA E S n) n t a BH s).bind fun q=>match q.1.1 with
  | none=> .ok (none,q.2)
  | some (b,vars)=>if okB b=false∨vars.all okB=false∨1125899906842624≤BC vars then .stuck else S.put q.2 (Cz b vars.reverse 0) fun x s'=> .ok (some x,s')
end
def et (k i:Int) (n:ByteArray) (ls:List CB) (ks:Nat):Bool:=decide (n.size<Cr)&&decide (ls.length<Cr)&&ls.all S7&&decide (ks<Cr)&&Mg k&&Mg i&&decide ((ks:Int)=arity k)&&(decide (k≠12)||decide (0≤i))&&(decide (k≠0)||decide (0≤i)&&decide (i<1099511627776))
theorem Qu (k i:Int) (n:ByteArray) (ls:List CB) (ks:List Tm):WC (.mk k i n ls ks)=(et k i n ls ks.length&&K7 ks):=by rw[WC,et]
theorem Ju:∀{ts:List Tm},K7 ts=true↔∀t∈ts,WC t=true
 | []=>by simp[K7]
 | t::ts=>by simp only[K7,Bool.and_eq_true,Ju (ts:=ts),List.mem_cons,forall_eq_or_imp]
theorem Wy {l:CB}(h:S7 l=true):X8 l:=by
 simp only[S7,Mg,Bool.and_eq_true,decide_eq_true_eq,List.all_eq_true] at h;exact⟨h.1.1,h.1.2,fun v hv=>h.2 v hv⟩
theorem WR {l:CB}(h:X8 l):S7 l=true:=by
 simp only[S7,Mg,Bool.and_eq_true,decide_eq_true_eq,List.all_eq_true];exact⟨⟨h.vars,h.c⟩,fun v hv=>h.v v hv⟩
mutual
theorem N5:∀(t:Tm),WC t=true→Nd t∧Wt t∧Vp t
 | .mk k i n ls ks,h=>by
  rw[Qu,Bool.and_eq_true] at h;obtain⟨h1,h2⟩:=h;simp only[et,Mg,Bool.and_eq_true,Bool.or_eq_true,decide_eq_true_eq,List.all_eq_true] at h1;obtain⟨a,b,c⟩:=L3 ks h2;obtain⟨⟨⟨⟨⟨⟨⟨⟨g1,g2⟩,g3⟩,g4⟩,g5⟩,g6⟩,g7⟩,g8⟩,g9⟩:=h1;refine⟨⟨g1,g2,fun l hl=>Wy (g3 l hl),g4,a,g5,g6⟩,⟨g7,fun e=>?_,b⟩,fun e=>?_,c⟩
  ·rcases g8 with g | g
   ·exact absurd e g
   exact g
  rcases g9 with g | g
  ·exact absurd e g
  exact g
theorem L3:∀(ts:List Tm),K7 ts=true→Ej ts∧Pm ts∧Pf ts
 | [],_=>⟨trivial,trivial,trivial⟩
 | t::ts,h=>by
  simp only[K7,Bool.and_eq_true] at h;obtain⟨a,b,c⟩:=N5 t h.1;obtain⟨a',b',c'⟩:=L3 ts h.2;exact⟨⟨a,a'⟩,⟨b,b'⟩,⟨c,c'⟩⟩
end
mutual
theorem Nu:∀(t:Tm),Nd t→Wt t→Vp t→WC t=true
 | .mk k i n ls ks,h1,h2,h3=>by
  rw[Qu,Bool.and_eq_true];simp only[Nd] at h1;simp only[Wt] at h2;simp only[Vp] at h3;obtain⟨a1,a2,a3,a4,a5,a6,a7⟩:=h1;refine⟨?_,Md ks a5 h2.2.2 h3.2⟩;simp only[et,Mg,Bool.and_eq_true,Bool.or_eq_true,decide_eq_true_eq,List.all_eq_true];refine⟨⟨⟨⟨⟨⟨⟨⟨a1,a2⟩,fun l hl=>WR (a3 l hl)⟩,a4⟩,a6⟩,a7⟩,h2.1⟩,?_⟩,?_⟩
  ·by_cases e:k=12
   ·exact .inr (h2.2.1 e)
   exact .inl e
  by_cases e:k=0
  ·exact .inr (h3.1 e)
  exact .inl e
theorem Md:∀(ts:List Tm),Ej ts→Pm ts→Pf ts→K7 ts=true
 | [],_,_,_=>rfl
 | t::ts,h1,h2,h3=>by
  simp only[K7,Bool.and_eq_true];exact⟨Nu t h1.1 h2.1 h3.1,Md ts h1.2 h2.2 h3.2⟩
end
structure j5 (t:Tm):Prop where
 nd:Nd t
 wt:Wt t
 vp:Vp t
 sz:size t<549755813888
theorem Da {t:Tm}:okB t=true↔j5 t:=by
 simp only[okB,Bool.and_eq_true,decide_eq_true_eq];exact⟨fun h=>by obtain⟨a,b,c⟩:=N5 t h.1;exact⟨a,b,c,h.2⟩,fun h=>⟨Nu t h.nd h.wt h.vp,h.sz⟩⟩
theorem Ke {t:Tm}(h:okB t=true):size t<549755813888:=by simp only[okB,Bool.and_eq_true,decide_eq_true_eq] at h;exact h.2
theorem Nq:∀(t:Tm),WC t=true→WC (A4 t).1=true∧K7 (A4 t).2=true
 | .mk k i n l [f,a],h=>by
  unfold A4;split
  ·rw[Qu,Bool.and_eq_true] at h;simp only[K7,Bool.and_eq_true] at h;obtain⟨h1,h2⟩:=Nq f h.2.1;refine⟨h1,Ju.2 fun x hx=>?_⟩;rcases List.mem_append.1 hx with hx | hx
   ·exact Ju.1 h2 x hx
   rw[List.mem_singleton.1 hx];exact h.2.2.1
  ·exact⟨h,O⟩
 | .mk k i n l [],h=>⟨h,rfl⟩
 | .mk k i n l [_],h=>⟨h,rfl⟩
 | .mk k i n l (_::_::_::_),h=>⟨h,rfl⟩
theorem Kc {t:Tm}(h:okB t=true):okB (A4 t).1=true∧∀x∈(A4 t).2,okB x=true:=by
 simp only[okB,Bool.and_eq_true,decide_eq_true_eq] at h ⊢;obtain⟨h1,h2⟩:=Nq t h.1;have hs:=FM t;refine⟨⟨h1,by omega⟩,fun x hx=>⟨Ju.1 h2 x hx,?_⟩⟩;obtain⟨i,hi⟩:=List.mem_iff_getElem?.1 hx;have:=Bw hi;omega
def Ir (l:List B9) (i:Nat):Option Int:=if i=0 then none else (l[i - 1]?).map B9.index
def Cc (c:Int) (l:List B9) (i:Nat):Bool:=GK c (Ir l i) (l.drop i)
theorem Ol {c:Int}{l:List B9}{i:Nat}{v:B9}(h:l[i]?=some v):Cc c l i=(Ru c v&&Ij (Ir l i) v.index&&Cc c l (i+1)):=by
 have e:Ir l (i+1)=some v.index:=by simp[Ir,h]
 rw[Cc,CH h,GK,Cc,e]
theorem ZW {c:Int}{l:List B9}{i:Nat}(h:l.length≤i):Cc c l i=true:=by
 rw[Cc,List.drop_eq_nil_of_le h];rfl
theorem PM (l:CB):DB l=(decide (0≤l.const)&&decide (l.const≤100)&&Cc l.const l.vars 0):=rfl
theorem UO {c:Int}{l:List B9}{i:Nat}{v:B9}(h:l[i]?=some v) (hb:Ru c v=false):Cc c l i=false:=by rw[Ol h,hb];rfl
theorem Xg {c:Int}{l:List B9}{i:Nat}{v:B9}(h:l[i]?=some v) (h1:Ru c v=true) (h2:Ij (Ir l i) v.index=true):Cc c l i=Cc c l (i+1):=by rw[Ol h,h1,h2];simp
theorem aE {l:CB}(h:l.const<0∨100<l.const):false=DB l:=by
 rw[PM];rcases h with h | h
 ·rw[decide_eq_false Ah];rfl
 rw[decide_eq_false (p:=l.const≤100) Ah];simp
theorem PS {l:CB}{i:Nat}(h:Cc l.const l.vars 0=Cc l.const l.vars i) (hb:Cc l.const l.vars i=false):false=DB l:=by
 rw[PM,h,hb];simp
theorem Wj {l:CB}{i:Nat}(h0:0≤l.const) (h1:l.const≤100) (h:Cc l.const l.vars 0=Cc l.const l.vars i) (hb:l.vars.length≤i):true=DB l:=by
 rw[PM,h,ZW hb,decide_eq_true h0,decide_eq_true h1];rfl
theorem Z7 {c:Int}{v:B9}(h:((v.index < -65536∨8≤v.index)∨v.plus<0)∨100<v.plus):Ru c v=false:=by
 simp only[Ru,Bool.and_eq_false_iff,decide_eq_false_iff_not];omega
theorem WD {c:Int}{v:B9}(h1:0<c) (h:c≤v.plus):Ru c v=false:=by
 simp only[Ru,Bool.and_eq_false_iff,Bool.or_eq_false_iff,decide_eq_false_iff_not];omega
theorem WO {c:Int}{v:B9}(h: -65536≤v.index∧v.index<8∧0≤v.plus∧v.plus≤100) (h1:0<c→v.plus<c):Ru c v=true:=by
 simp only[Ru,Bool.and_eq_true,Bool.or_eq_true,decide_eq_true_eq];refine⟨⟨⟨⟨h.1,h.2.1⟩,h.2.2.1⟩,h.2.2.2⟩,?_⟩;by_cases q:c≤0
 ·exact .inl q
 exact .inr (h1 Ah)
theorem Ua {l:CB}(h:DB l=true):0≤l.const∧l.const≤100:=by
 simp only[DB,Bool.and_eq_true,decide_eq_true_eq] at h;exact h.1
theorem ZB {l:CB}{i:Nat}{x:B9}(h:DB l=true) (hx:l.vars[i]?=some x):(0≤x.plus∧x.plus≤100)∧ -65536≤x.index∧x.index<8:=by
 simp only[DB,Bool.and_eq_true,decide_eq_true_eq] at h;have:=KY h.2 x (List.mem_of_getElem? hx);simp only[Ru,Bool.and_eq_true,decide_eq_true_eq] at this;exact⟨⟨this.1.1.2,this.1.2⟩,this.1.1.1⟩
theorem Na {l:List B9}{i j:Nat}{u:B9}{x:Int}(hj:l[j]?=some u) (he:i=j+1):(!Ij (Ir l i) x)=decide (u.index≥x):=by
 subst he;have e:Ir l (j+1)=some u.index:=by simp[Ir,hj]
 rw[e];simp only[Ij];rw[←decide_not,decide_eq_decide];omega
theorem MK {l:List B9}{i:Nat}{x:Int}(h:¬(i:Int) > 0):(!Ij (Ir l i) x)=false:=by
 have:i=0:=by omega
 subst this;rfl
theorem VE {x y:B9}{a b:List B9}(h:y.index<x.index):Ea (x::a) (y::b)=y::Ea (x::a) b:=by
 rw[Ea,IK,if_neg Ah,if_pos h];rfl
def Vk (a b:List B9) (i k:Nat):Bool:=(k==b.length)||(match a[i]?,b[k]? with
 | some x,some y=>decide (x.index<y.index)
 | _,_=>false)
def XU (a b:List B9) (i k:Nat):Bool:=(i==a.length)||(match a[i]?,b[k]? with
 | some x,some y=>decide (y.index<x.index)
 | _,_=>false)
section
variable {a b:List B9}{i k:Nat}{vs:List B9}{m:Int}{x y:B9}
theorem Se (hx:a[i]?=some x) (hy:b[k]?=some y):decide (x.index<y.index)=Vk a b i k:=by
 have:=(List.getElem?_eq_some_iff.1 hy).1;simp only[Vk,hx,hy];rw[show (k==b.length)=false by simp;omega,Bool.false_or]
theorem Sj (hx:a[i]?=some x) (hy:b[k]?=some y):decide (y.index<x.index)=XU a b i k:=by
 have:=(List.getElem?_eq_some_iff.1 hx).1;simp only[XU,hx,hy];rw[show (i==a.length)=false by simp;omega,Bool.false_or]
structure J9 (a b:List B9) (i k:Nat) (vs:List B9) (m:Int):Prop where
 hi:i≤a.length
 hk:k≤b.length
 eq:vs++Ea (a.drop i) (b.drop k)=Ea a b
 mo:m=OD vs
 ln:vs.length≤i+k
theorem KO (vs:List B9) (v:B9):OD (vs++[v])=max (OD vs) v.plus:=by simp[OD]
theorem J9.zero:J9 a b 0 0 [] 0:=⟨by omega,by omega,by simp,rfl,by simp⟩
theorem J9.left (h:J9 a b i k vs m) (hx:a[i]?=some x) (hs:Vk a b i k=true):J9 a b (i+1) k (vs++[x]) (max m x.plus):=by
 have hl:=(List.getElem?_eq_some_iff.1 hx).1;have:=h.ln;refine⟨hl,h.hk,?_,by rw[KO,←h.mo],by simp;omega⟩;rw[←h.eq,CH hx,List.append_assoc];congr 1;by_cases q:k<b.length
 ·obtain⟨y,hy⟩:∃y,b[k]?=some y:=⟨_,List.getElem?_eq_getElem q⟩;rw[←Se hx hy,decide_eq_true_eq] at hs;rw[CH hy,Ea,IK,if_pos hs];rfl
 rw[List.drop_eq_nil_of_le (show b.length≤k by omega),Ea,IK];rfl
theorem J9.right (h:J9 a b i k vs m) (hy:b[k]?=some y) (hs:Vk a b i k=false) (h2:XU a b i k=true):J9 a b i (k+1) (vs++[y]) (max m y.plus):=by
 have hl:=(List.getElem?_eq_some_iff.1 hy).1;have:=h.ln;refine⟨h.hi,hl,?_,by rw[KO,←h.mo],by simp;omega⟩;rw[←h.eq,CH hy,List.append_assoc];congr 1;by_cases q:i<a.length
 ·obtain⟨x,hx⟩:∃x,a[i]?=some x:=⟨_,List.getElem?_eq_getElem q⟩;rw[←Sj hx hy,decide_eq_true_eq] at h2;rw[CH hx,VE h2];rfl
 rw[List.drop_eq_nil_of_le (show a.length≤i by omega),Ea,Ea];rfl
theorem J9.both (h:J9 a b i k vs m) (hx:a[i]?=some x) (hy:b[k]?=some y) (hs:Vk a b i k=false) (h2:XU a b i k=false):J9 a b (i+1) (k+1) (vs++[⟨x.index,max x.plus y.plus⟩]) (max m (max x.plus y.plus)):=by
 have hl:=(List.getElem?_eq_some_iff.1 hx).1;have hl':=(List.getElem?_eq_some_iff.1 hy).1;have:=h.ln;rw[←Se hx hy,decide_eq_false_iff_not] at hs;rw[←Sj hx hy,decide_eq_false_iff_not] at h2;refine⟨hl,hl',?_,by rw[KO,←h.mo],by simp;omega⟩;rw[←h.eq,CH hx,CH hy,List.append_assoc,Ea,IK,if_neg hs,if_neg h2];rfl
theorem J9.fin (h:J9 a b i k vs m) (hc:¬(i<a.length∨k<b.length)):vs=Ea a b∧m=OD vs:=by
 refine⟨?_,h.mo⟩;rw[←h.eq,List.drop_eq_nil_of_le Ah,List.drop_eq_nil_of_le Ah];simp[Ea]
end
theorem PN:∀{vs:List B9}{lo:Int},SD vs→(∀v∈vs,lo≤v.index∧v.index<8)→lo≤8→(vs.length:Int)≤8 - lo
 | [],lo,_,_,h=>by simp;omega
 | x::vs,lo,ha,hv,h=>by
  rw[SD,List.pairwise_cons] at ha;have hx:=hv x Ai;have:=PN (vs:=vs) (lo:=x.index+1) ha.2 (fun v hv'=>⟨by have:=ha.1 v hv';omega,(hv v (by simp[hv'])).2⟩) Ah;simp only[List.length_cons];omega
structure Pz (l:CB):Prop where
 c:0≤l.const∧l.const≤100
 asc:SD l.vars
 rg:∀v∈l.vars,(0≤v.plus∧v.plus≤100)∧ -65536≤v.index∧v.index<8
theorem Pz.len {l:CB}(h:Pz l):l.vars.length≤65544:=by
 have:=PN (lo:= -65536) h.asc (fun v hv=>(h.rg v hv).2) Ah;omega
theorem Pz.nd {l:CB}(h:Pz l):X8 l :=
 ⟨by have:=h.len;simp only[Cr];omega,by have:=h.c;unfold Gy;omega,fun v hv=>by have:=h.rg v hv;unfold Gy;omega⟩
theorem Pz.of {l:CB}(h:DB l=true):Pz l:=by
 have h0:=Ua h;have h':=h;simp only[DB,Bool.and_eq_true,decide_eq_true_eq] at h';exact⟨h0,(ON h'.2).1,fun v hv=>by obtain⟨i,hi⟩:=List.mem_iff_getElem?.1 hv;exact ZB h hi⟩
theorem Pz.one {v:B9}(h:(0≤v.plus∧v.plus≤100)∧ -65536≤v.index∧v.index<8):Pz ⟨0,[v]⟩:=⟨by simp,by simp[SD],by simpa using h⟩
theorem Pz.num {n:Int}(h:0≤n∧n≤100):Pz ⟨n,[]⟩:=⟨h,by simp[SD],by simp⟩
theorem Pz.plus {l:CB}{n:Int}(hl:DB l=true) (h0:0≤n) (h1:n≤100) (he:(Ky l n).2=0):Pz (Ky l n).1:=by
 rcases QT hl h0 h1 with ⟨e,_⟩ | ⟨e,q1,q2⟩
 ·rw[e] at he;simp at he
 have h:=Pz.of hl;have hc:=h.c;rw[e];refine⟨?_,Z6 h.asc,fun w hw=>?_⟩
 ·simp only[OQ];split<;>omega
 simp only[List.mem_map] at hw;obtain⟨u,hu,rfl⟩:=hw;have:=h.rg u hu;have:=q2 u hu;simp only[aS];omega
section
variable {ps:List CB}{q p:CB}{vs:List B9}{v:B9}{i:Nat}
theorem JU {α:Type} [Inhabited α] {l:List α}{i:Nat}{x:α}(h:l[i]?=some x):l.getD i default=x:=by rw[List.getD_eq_getElem?_getD,h];rfl
end
end Go.Eu
namespace Go.Proofs.YtifphifongokcaaGreat
open Go.Abs Go.Eu
theorem _root_.Go.AN {α:Prop}(h:α:=by first | omega | (simp only;omega)):α:=h
theorem _root_.Go.AF {α:Prop}(h:α:=by first | rfl | (refine pB ?_;simp_all;done) | (refine pB ?_;simp_all<;>(intros;omega))):α:=h
theorem V1:∀(l:CB),(X8 l)→Df Tryz.prog 123 [.agg ((Bz l).map .p)] (.p (.bool (DB l))):=by
 intro l h1;have hl:=h1.vars;simp only[Cr] at hl;refine Aw Tryz.func123 O cu (n:=67) O O (Ar (A5 O (BF O) fun b1=>Ak As 1 [] O (Am (Am (BO [1] 12 (fun y=>y= .p (.bool ((decide ((l.const:Int)<(0:Int)))||(decide ((l.const:Int) > (100:Int)))))) ?_ ?_)))))
 ·refine Au (Ap As 4 [0] O (BE 8 O (fun g=>?_) (fun g=>?_)))
  ·(try simp only[sd,se] at g);exact Ak As 4 [] O (⟨O,O,AG,AF,⟨O,Aj⟩⟩)
  (try simp only[sd,se] at g);exact Ak As 4 [0] O (⟨O,O,AG,AF,⟨O,Aj⟩⟩)
 rintro _ rfl;refine Ao O (fun c=>?_) (fun c=>?_)
 ·(try simp only[sd,se] at c);refine An As 1 [] O (Av (⟨O,_,_,⟨_,_,O,O,O⟩,(List.nil_sublist _),?_⟩))
  all_goals exact⟨pB (aE c),rfl⟩
 (try simp only[sd,se] at c);refine Aq (Am (An As 1 [] O (A1 (BZ (α:=Nat) (fun i=>⟨67,mk [(1,.ptr b1 0),(3,.p (I (i:Int)))],[.box b1 [.p (I l.const),.p (.lst (List.map I9 l.vars))]],[]⟩) (fun i=>l.vars.length - i) (fun i=>i≤l.vars.length∧(Cc l.const l.vars 0=Cc l.const l.vars i)) 0 (⟨by omega,rfl⟩) ?_ ?_))))
 ·exact BM ⟨we O,we O,Aj⟩ (leH (is:=[0]) O (wl (oe O) (C8)))
 rintro i hC
 try simp only at hC
 obtain⟨hi,hC⟩:=hC;refine Am (Ar (Ap As 3 [0] O (Al O (BB Fv O (List.length_map _)) (Ak As 1 [] O (Ao O (fun c1=>?_) (fun c1=>?_))))))
 ·(try simp only[sd,se] at c1);refine Aq (Am (A1 (Ar (Ap As 3 [0] O ?_))));obtain⟨x,hx⟩:=A0 (l:=l.vars) (i:=i) Ah;refine Al O (A3 Fv O O Ah (D8 hx) (O)) (Al O (BL ZS O (O)) (A5 O (Az Y3 O) fun b4=>Ak As 1 [0,1] O (Am (Am (BO [1,3,4] 42 (fun y=>y= .p (.bool ((((decide ((x.index:Int)<(-65536:Int)))||(decide ((x.index:Int)≥(8:Int))))||(decide ((x.plus:Int)<(0:Int))))||(decide ((x.plus:Int) > (100:Int)))))) ?_ ?_)))))
  ·refine Au (Ap As 4 [0] O (BE 28 O (fun g=>?_) (fun g=>?_)))
   ·(try simp only[sd,se] at g);exact Ak As 14 [] O (⟨O,O,AG,AF,⟨O,O,O,Aj⟩⟩)
   (try simp only[sd,se] at g);refine Ap As 5 [0] O (BE 33 O (fun g1=>?_) (fun g1=>?_))
   ·(try simp only[sd,se] at g1);exact Ak As 9 [] O (⟨O,O,AG,AF,⟨O,O,O,Aj⟩⟩)
   (try simp only[sd,se] at g1);refine Ap As 5 [0] O (BE 38 O (fun g2=>?_) (fun g2=>?_))
   ·(try simp only[sd,se] at g2);exact Ak As 4 [] O (⟨O,O,AG,AF,⟨O,O,O,Aj⟩⟩)
   (try simp only[sd,se] at g2);exact Ak As 4 [0] O (⟨O,O,AG,AF,⟨O,O,O,Aj⟩⟩)
  rintro _ rfl;refine Ao O (fun c2=>?_) (fun c2=>?_)
  ·(try simp only[sd,se] at c2);refine An As 1 [] O (Av (⟨O,_,_,⟨_,_,O,O,O⟩,(List.nil_sublist _),?_⟩))
   all_goals exact⟨pB (PS hC (UO hx (Z7 c2))),rfl⟩
  (try simp only[sd,se] at c2);refine Aq (Am (Am (BO [1,3,4] 56 (fun y=>y= .p (.bool (!(Ij (Ir l.vars i) x.index)))) ?_ ?_)))
  ·refine By (fun k=>false) Eg (BU As 3 [] O (Fh 45 O (fun g=>?_) (fun g=>?_)))
   ·(try simp only[sd,se] at g);refine BU As 4 [1] O ?_;obtain⟨x1,hx1⟩:=A0 (l:=l.vars) (i:=(((i:Int):Int) - (1:Int):Int).toNat) Ah;exact B8 O (fun _=>A3 Fv O O Ah (D8 hx1) (O)) Aj (B1 As 6 [0] O (⟨O,O,AG,(by first | (refine pB ?_;exact(MK Ah).symm) | (refine pB ?_;exact(Na hx1 Ah).symm)),⟨O,O,O,Aj⟩⟩))
   (try simp only[sd,se] at g);exact B1 As 11 [] O (⟨O,O,AG,(by first | (refine pB ?_;exact(MK Ah).symm) | (refine pB ?_;exact(Na hx1 Ah).symm)),⟨O,O,O,Aj⟩⟩)
  rintro _ rfl;refine Ao O (fun c3=>?_) (fun c3=>?_)
  ·(try simp only[sd,se] at c3);refine An As 1 [] O (Av (⟨O,_,_,⟨_,_,O,O,O⟩,(List.nil_sublist _),?_⟩))
   all_goals exact⟨pB (PS hC (by rw[Ol hx];rw[c3];simp)),rfl⟩
  (try simp only[sd,se] at c3);refine Aq (Am (BO [1,3] 66 (fun y=>y= .p (.bool ((decide ((l.const:Int) > (0:Int)))&&(decide ((x.plus:Int)≥(l.const:Int)))))) ?_ ?_))
  ·refine Au (Ap As 4 [1] O (BE 60 O (fun g=>?_) (fun g=>?_)))
   ·(try simp only[sd,se] at g);exact Ak As 6 [0,1] O (⟨O,O,AG,AF,⟨O,O,Aj⟩⟩)
   (try simp only[sd,se] at g);exact Ak As 6 [] O (⟨O,O,AG,AF,⟨O,O,Aj⟩⟩)
  rintro _ rfl;refine Ao O (fun c4=>?_) (fun c4=>?_)
  ·(try simp only[sd,se] at c4);refine An As 1 [] O (Av (⟨O,_,_,⟨_,_,O,O,O⟩,(List.nil_sublist _),?_⟩))
   all_goals exact⟨pB (PS hC (UO hx (WD c4.1 c4.2))),rfl⟩
  (try simp only[sd,se] at c4);refine Aq (Au (Ak As 3 [] O (⟨(i+1),AN,⟨by omega,(hC.trans (Xg hx (WO Ah (by simpa using c4)) (by simpa using c3)))⟩,BM ⟨we rfl,we rfl,trivial⟩ (leH (is:=[1]) rfl (wl (oe rfl) (C8)))⟩)))
 (try simp only[sd,se] at c1);refine Bc (An As 1 [] O (Av (⟨O,_,_,⟨_,_,O,O,O⟩,(List.nil_sublist _),?_⟩)))
 all_goals exact⟨pB (Wj Ah Ah hC Ah),rfl⟩
end Go.Proofs.YtifphifongokcaaGreat
namespace Go.Eu
def Xz:Tm→Prop
 | .mk k i n l _=>(i≠0→k=0∨k=12)∧(n≠⟨#[]⟩→k=3)∧(k=2→l.length=1)∧(k≠2→k≠3→l.length=0)
mutual
def Cw:Tm→Prop
 | .mk k i n l ks=>Xz (.mk k i n l ks)∧fg ks
def fg:List Tm→Prop
 | []=>True
 | t::ts=>Cw t∧fg ts
end
theorem G3:∀{ts:List Tm},(∀t∈ts,Cw t)→fg ts
 | [],_=>trivial
 | t::ts,h=>⟨h t List.mem_cons_self,G3 fun x hx=>h x (List.mem_cons_of_mem _ hx)⟩
end Go.Eu
namespace Go.Proofs.YtifphifongokcaaGreat
open Go.Abs Go.Eu
theorem QW:∀(c:Int),IW Tryz.prog 63 [.p (.int .u8 c)] (Lq):=by
 intro c;refine Aw Tryz.func63 O fK (n:=21) O O (An As 1 [] O (Am (BO [] 2 (fun y=>y= .p (.bool ((((decide ((c:Int)≥(97:Int)))&&(decide ((c:Int)≤(122:Int))))||((decide ((c:Int)≥(65:Int)))&&(decide ((c:Int)≤(90:Int)))))||((c:Int)==(95:Int))))) ?_ ?_)))
 ·refine Au (Ap As 3 [] O (BE 5 O (fun g=>?_) (fun g=>?_)))
  ·(try simp only[sd,se] at g);refine Ap As 4 [] O (BE 9 O (fun g1=>?_) (fun g1=>?_))
   ·(try simp only[sd,se] at g1);exact Ak As 12 [] O ⟨O,O,AG,AF,Aj⟩
   (try simp only[sd,se] at g1);refine Ap As 3 [] O (BE 12 O (fun g2=>?_) (fun g2=>?_))
   ·(try simp only[sd,se] at g2);refine Ap As 5 [] O (BE 17 O (fun g3=>?_) (fun g3=>?_))
    ·(try simp only[sd,se] at g3);exact Ak As 4 [] O ⟨O,O,AG,AF,Aj⟩
    (try simp only[sd,se] at g3);exact Ak As 4 [] O ⟨O,O,AG,AF,Aj⟩
   (try simp only[sd,se] at g2);exact Ak As 9 [] O ⟨O,O,AG,AF,Aj⟩
  (try simp only[sd,se] at g);refine Ap As 7 [] O (BE 12 O (fun g1=>?_) (fun g1=>?_))
  ·(try simp only[sd,se] at g1);refine Ap As 5 [] O (BE 17 O (fun g2=>?_) (fun g2=>?_))
   ·(try simp only[sd,se] at g2);exact Ak As 4 [] O ⟨O,O,AG,AF,Aj⟩
   (try simp only[sd,se] at g2);exact Ak As 4 [] O ⟨O,O,AG,AF,Aj⟩
  (try simp only[sd,se] at g1);exact Ak As 9 [] O ⟨O,O,AG,AF,Aj⟩
 rintro _ rfl;refine Av (⟨O,_,_,⟨_,_,O,O,O⟩,(List.nil_sublist _),?_⟩)
 all_goals exact⟨⟨_,rfl⟩,rfl⟩
theorem _root_.Go.AK {α:Prop}(h:α:=by first | trivial | omega | simp | (simp;omega)):α:=h
theorem ZH:∀(s:ByteArray),(s.size<Cr)→IW Tryz.prog 22 [.p (.str s)] (Lq):=by
 intro s h1;simp only[Cr] at h1;refine Aw Tryz.func22 O gK (n:=45) O O (An As 1 [] O (Am (Am (BO [0] 12 Lq ?_ ?_))))
 ·refine Au (Bu O (Al O (Gr O O) (Bu O (BE 8 O (fun g=>?_) (fun g=>?_)))))
  ·(try simp only[sd,se] at g);exact Ak As 4 [] O (⟨O,O,AG,⟨_,O⟩,⟨O,Aj⟩⟩)
  (try simp only[sd,se] at g);exact BI O (CF O) (BI O (Hw eu O) (Ak As 2 [] O (⟨O,O,AG,⟨_,O⟩,⟨O,Aj⟩⟩)))
 rintro _ ⟨q,rfl⟩;refine Ao O (fun c=>?_) (fun c=>?_)
 ·(try simp only[sd,se] at c);refine An As 1 [] O (Av (⟨O,_,_,⟨_,_,O,O,O⟩,(List.nil_sublist _),?_⟩))
  all_goals exact⟨⟨_,rfl⟩,rfl⟩
 (try simp only[sd,se] at c);refine Aq (An As 1 [] O (Am (An As 1 [] O (A1 (BZ (α:=Nat×Bool) (fun(i,f)=>⟨45,mk [(0,.p (.str s)),(3,.p (.bool f)),(4,.p (I (i:Int)))],[],[]⟩) (fun(i,f)=>s.size - i) (fun(i,f)=>i≤s.size) ⟨0,true⟩ AK ?_ ?_)))))
 ·exact BM ⟨we O,we O,we O,Aj⟩ (leH (is:=[]) O (C8))
 rintro⟨i,f⟩ hC
 try simp only at hC
 have hi:=hC;refine Am (Ar (Ap As 2 [] O (Al O (Hw eu O) (Ak As 1 [] O (Ao O (fun c1=>?_) (fun c1=>?_))))))
 ·(try simp only[sd,se] at c1);refine Aq (Am (A1 (Ar (Ap As 2 [] O ?_))));obtain⟨ch,hch⟩:∃c,(s)[i]?=some c:=⟨_,getElem?_pos s i Ah⟩;refine Al O (NU eu O O Ah (by simpa using hch)) (Ak As 1 [] O (Am (An As 1 [] O (Ao O (fun c2=>?_) (fun c2=>?_)))))
  ·(try simp only[sd,se] at c2);refine Am (Ar (Bu O (Gb O O (C4 O O (QW ch.toNat) (.inl O)) ?_)));rintro _ ⟨q1,rfl⟩;refine Ak As 1 [] O (Ao O (fun c3=>?_) (fun c3=>?_))
   ·(try simp only[sd,se] at c3);refine An As 1 [] O (Av (⟨O,_,_,⟨_,_,O,O,O⟩,(List.nil_sublist _),?_⟩))
    all_goals exact⟨⟨_,rfl⟩,rfl⟩
   (try simp only[sd,se] at c3);refine Aq (An As 1 [] O (Bc (Au (Ak As 3 [] O ?_))));refine⟨⟨i+1,false⟩,AN,by omega,BM ⟨we rfl,we rfl,we rfl,trivial⟩ (leH (is:=[]) rfl (C8))⟩
  (try simp only[sd,se] at c2);refine Aq (Am (An As 2 [] O (Ao O (fun c3=>?_) (fun c3=>?_))))
  ·(try simp only[sd,se] at c3);refine An As 1 [] O (Bc (Au (Ak As 3 [] O ?_)));refine⟨⟨i+1,true⟩,AN,by omega,BM ⟨we rfl,we rfl,we rfl,trivial⟩ (leH (is:=[]) rfl (C8))⟩
  (try simp only[sd,se] at c3);refine Aq (Am (BO [0,3,4] 42 Lq ?_ ?_))
  ·refine Au (Bu O (Gb O O (C4 O O (QW ch.toNat) (.inl O)) ?_));rintro _ ⟨q1,rfl⟩;refine Ap As 2 [] O (BE 31 O (fun g=>?_) (fun g=>?_))
   ·(try simp only[sd,se] at g);refine Ap As 4 [] O (BE 35 O (fun g1=>?_) (fun g1=>?_))
    ·(try simp only[sd,se] at g1);refine Ap As 3 [] O (BE 38 O (fun g2=>?_) (fun g2=>?_))
     ·(try simp only[sd,se] at g2);exact Ak As 4 [] O (⟨O,O,AG,⟨_,O⟩,⟨O,O,O,Aj⟩⟩)
     (try simp only[sd,se] at g2);exact Ak As 4 [] O (⟨O,O,AG,⟨_,O⟩,⟨O,O,O,Aj⟩⟩)
    (try simp only[sd,se] at g1);exact Ak As 7 [] O (⟨O,O,AG,⟨_,O⟩,⟨O,O,O,Aj⟩⟩)
   (try simp only[sd,se] at g);exact Ak As 11 [] O (⟨O,O,AG,⟨_,O⟩,⟨O,O,O,Aj⟩⟩)
  rintro _ ⟨r,rfl⟩;refine Ao O (fun c4=>?_) (fun c4=>?_)
  ·(try simp only[sd,se] at c4);refine An As 1 [] O (Av (⟨O,_,_,⟨_,_,O,O,O⟩,(List.nil_sublist _),?_⟩))
   all_goals exact⟨⟨_,rfl⟩,rfl⟩
  (try simp only[sd,se] at c4);refine Aq (Au (Ak As 3 [] O ?_));refine⟨⟨i+1,f⟩,AN,by omega,BM ⟨we rfl,we rfl,we rfl,trivial⟩ (leH (is:=[]) rfl (C8))⟩
 (try simp only[sd,se] at c1);refine Bc (An As 3 [] O (Av (⟨O,_,_,⟨_,_,O,O,O⟩,(List.nil_sublist _),?_⟩)))
 all_goals exact⟨⟨_,rfl⟩,rfl⟩
theorem _root_.Go.AX {α:Prop}(h:α:=by simp_all [arity]):α:=h
theorem ZU:∀(k:Int),Df Tryz.prog 122 [.p (I k)] (.p (I (arity k))):=by
 intro k;refine Aw Tryz.func122 O bZ (n:=15) O O (An As 1 [] O (Am (An As 1 [] O (A1 (Am (An As 2 [] O (Ao O (fun c=>?_) (fun c=>?_))))))))
 ·(try simp only[sd,se] at c);refine Aq (Ao O (fun c1=>?_) (fun c1=>?_))
  ·(try simp only[sd,se] at c1);refine An As 1 [] O (Av (⟨O,_,_,⟨_,_,O,O,O⟩,(List.nil_sublist _),?_⟩))
   all_goals exact⟨pI AX,rfl⟩
  (try simp only[sd,se] at c1);refine Am (An As 2 [] O (Ao O (fun c2=>?_) (fun c2=>?_)))
  ·(try simp only[sd,se] at c2);refine Aq (Ao O (fun c3=>?_) (fun c3=>?_))
   ·(try simp only[sd,se] at c3);refine An As 1 [] O (Av (⟨O,_,_,⟨_,_,O,O,O⟩,(List.nil_sublist _),?_⟩))
    all_goals exact⟨pI AX,rfl⟩
   (try simp only[sd,se] at c3);refine Am (An As 2 [] O (Ao O (fun c4=>?_) (fun c4=>?_)))
   ·(try simp only[sd,se] at c4);refine Aq (Ao O (fun c5=>?_) (fun c5=>?_))
    ·(try simp only[sd,se] at c5);refine An As 1 [] O (Av (⟨O,_,_,⟨_,_,O,O,O⟩,(List.nil_sublist _),?_⟩))
     all_goals exact⟨pI AX,rfl⟩
    (try simp only[sd,se] at c5);refine Aq (An As 1 [] O (Av (⟨O,_,_,⟨_,_,O,O,O⟩,(List.nil_sublist _),?_⟩)))
    all_goals exact⟨pI AX,rfl⟩
   (try simp only[sd,se] at c4);refine Au (Ak As 2 [] O (Ao O (fun c5=>?_) (fun c5=>?_)))
   ·(try simp only[sd,se] at c5);refine An As 1 [] O (Av (⟨O,_,_,⟨_,_,O,O,O⟩,(List.nil_sublist _),?_⟩))
    all_goals exact⟨pI AX,rfl⟩
   (try simp only[sd,se] at c5);refine Aq (An As 1 [] O (Av (⟨O,_,_,⟨_,_,O,O,O⟩,(List.nil_sublist _),?_⟩)))
   all_goals exact⟨pI AX,rfl⟩
  (try simp only[sd,se] at c2);refine Au (Ak As 2 [] O (Ao O (fun c3=>?_) (fun c3=>?_)))
  ·(try simp only[sd,se] at c3);refine An As 1 [] O (Av (⟨O,_,_,⟨_,_,O,O,O⟩,(List.nil_sublist _),?_⟩))
   all_goals exact⟨pI AX,rfl⟩
  (try simp only[sd,se] at c3);refine Am (An As 2 [] O (Ao O (fun c4=>?_) (fun c4=>?_)))
  ·(try simp only[sd,se] at c4);refine Aq (Ao O (fun c5=>?_) (fun c5=>?_))
   ·(try simp only[sd,se] at c5);refine An As 1 [] O (Av (⟨O,_,_,⟨_,_,O,O,O⟩,(List.nil_sublist _),?_⟩))
    all_goals exact⟨pI AX,rfl⟩
   (try simp only[sd,se] at c5);refine Aq (An As 1 [] O (Av (⟨O,_,_,⟨_,_,O,O,O⟩,(List.nil_sublist _),?_⟩)))
   all_goals exact⟨pI AX,rfl⟩
  (try simp only[sd,se] at c4);refine Au (Ak As 2 [] O (Ao O (fun c5=>?_) (fun c5=>?_)))
  ·(try simp only[sd,se] at c5);refine An As 1 [] O (Av (⟨O,_,_,⟨_,_,O,O,O⟩,(List.nil_sublist _),?_⟩))
   all_goals exact⟨pI AX,rfl⟩
  (try simp only[sd,se] at c5);refine Aq (An As 1 [] O (Av (⟨O,_,_,⟨_,_,O,O,O⟩,(List.nil_sublist _),?_⟩)))
  all_goals exact⟨pI AX,rfl⟩
 (try simp only[sd,se] at c);refine An As 2 [] O (Ao O (fun c1=>?_) (fun c1=>?_))
 ·(try simp only[sd,se] at c1);refine Aq (Ao O (fun c2=>?_) (fun c2=>?_))
  ·(try simp only[sd,se] at c2);refine An As 1 [] O (Av (⟨O,_,_,⟨_,_,O,O,O⟩,(List.nil_sublist _),?_⟩))
   all_goals exact⟨pI AX,rfl⟩
  (try simp only[sd,se] at c2);refine Am (An As 2 [] O (Ao O (fun c3=>?_) (fun c3=>?_)))
  ·(try simp only[sd,se] at c3);refine Aq (Ao O (fun c4=>?_) (fun c4=>?_))
   ·(try simp only[sd,se] at c4);refine An As 1 [] O (Av (⟨O,_,_,⟨_,_,O,O,O⟩,(List.nil_sublist _),?_⟩))
    all_goals exact⟨pI AX,rfl⟩
   (try simp only[sd,se] at c4);refine Am (An As 2 [] O (Ao O (fun c5=>?_) (fun c5=>?_)))
   ·(try simp only[sd,se] at c5);refine Aq (Ao O (fun c6=>?_) (fun c6=>?_))
    ·(try simp only[sd,se] at c6);refine An As 1 [] O (Av (⟨O,_,_,⟨_,_,O,O,O⟩,(List.nil_sublist _),?_⟩))
     all_goals exact⟨pI AX,rfl⟩
    (try simp only[sd,se] at c6);refine Aq (An As 1 [] O (Av (⟨O,_,_,⟨_,_,O,O,O⟩,(List.nil_sublist _),?_⟩)))
    all_goals exact⟨pI AX,rfl⟩
   (try simp only[sd,se] at c5);refine Au (Ak As 2 [] O (Ao O (fun c6=>?_) (fun c6=>?_)))
   ·(try simp only[sd,se] at c6);refine An As 1 [] O (Av (⟨O,_,_,⟨_,_,O,O,O⟩,(List.nil_sublist _),?_⟩))
    all_goals exact⟨pI AX,rfl⟩
   (try simp only[sd,se] at c6);refine Aq (An As 1 [] O (Av (⟨O,_,_,⟨_,_,O,O,O⟩,(List.nil_sublist _),?_⟩)))
   all_goals exact⟨pI AX,rfl⟩
  (try simp only[sd,se] at c3);refine Au (Ak As 2 [] O (Ao O (fun c4=>?_) (fun c4=>?_)))
  ·(try simp only[sd,se] at c4);refine An As 1 [] O (Av (⟨O,_,_,⟨_,_,O,O,O⟩,(List.nil_sublist _),?_⟩))
   all_goals exact⟨pI AX,rfl⟩
  (try simp only[sd,se] at c4);refine Am (An As 2 [] O (Ao O (fun c5=>?_) (fun c5=>?_)))
  ·(try simp only[sd,se] at c5);refine Aq (Ao O (fun c6=>?_) (fun c6=>?_))
   ·(try simp only[sd,se] at c6);refine An As 1 [] O (Av (⟨O,_,_,⟨_,_,O,O,O⟩,(List.nil_sublist _),?_⟩))
    all_goals exact⟨pI AX,rfl⟩
   (try simp only[sd,se] at c6);refine Aq (An As 1 [] O (Av (⟨O,_,_,⟨_,_,O,O,O⟩,(List.nil_sublist _),?_⟩)))
   all_goals exact⟨pI AX,rfl⟩
  (try simp only[sd,se] at c5);refine Au (Ak As 2 [] O (Ao O (fun c6=>?_) (fun c6=>?_)))
  ·(try simp only[sd,se] at c6);refine An As 1 [] O (Av (⟨O,_,_,⟨_,_,O,O,O⟩,(List.nil_sublist _),?_⟩))
   all_goals exact⟨pI AX,rfl⟩
  (try simp only[sd,se] at c6);refine Aq (An As 1 [] O (Av (⟨O,_,_,⟨_,_,O,O,O⟩,(List.nil_sublist _),?_⟩)))
  all_goals exact⟨pI AX,rfl⟩
 (try simp only[sd,se] at c1);refine An As 2 [] O (Ao O (fun c2=>?_) (fun c2=>?_))
 ·(try simp only[sd,se] at c2);refine Aq (Ao O (fun c3=>?_) (fun c3=>?_))
  ·(try simp only[sd,se] at c3);refine An As 1 [] O (Av (⟨O,_,_,⟨_,_,O,O,O⟩,(List.nil_sublist _),?_⟩))
   all_goals exact⟨pI AX,rfl⟩
  (try simp only[sd,se] at c3);refine Am (An As 2 [] O (Ao O (fun c4=>?_) (fun c4=>?_)))
  ·(try simp only[sd,se] at c4);refine Aq (Ao O (fun c5=>?_) (fun c5=>?_))
   ·(try simp only[sd,se] at c5);refine An As 1 [] O (Av (⟨O,_,_,⟨_,_,O,O,O⟩,(List.nil_sublist _),?_⟩))
    all_goals exact⟨pI AX,rfl⟩
   (try simp only[sd,se] at c5);refine Am (An As 2 [] O (Ao O (fun c6=>?_) (fun c6=>?_)))
   ·(try simp only[sd,se] at c6);refine Aq (Ao O (fun c7=>?_) (fun c7=>?_))
    ·(try simp only[sd,se] at c7);refine An As 1 [] O (Av (⟨O,_,_,⟨_,_,O,O,O⟩,(List.nil_sublist _),?_⟩))
     all_goals exact⟨pI AX,rfl⟩
    (try simp only[sd,se] at c7);refine Aq (An As 1 [] O (Av (⟨O,_,_,⟨_,_,O,O,O⟩,(List.nil_sublist _),?_⟩)))
    all_goals exact⟨pI AX,rfl⟩
   (try simp only[sd,se] at c6);refine Au (Ak As 2 [] O (Ao O (fun c7=>?_) (fun c7=>?_)))
   ·(try simp only[sd,se] at c7);refine An As 1 [] O (Av (⟨O,_,_,⟨_,_,O,O,O⟩,(List.nil_sublist _),?_⟩))
    all_goals exact⟨pI AX,rfl⟩
   (try simp only[sd,se] at c7);refine Aq (An As 1 [] O (Av (⟨O,_,_,⟨_,_,O,O,O⟩,(List.nil_sublist _),?_⟩)))
   all_goals exact⟨pI AX,rfl⟩
  (try simp only[sd,se] at c4);refine Au (Ak As 2 [] O (Ao O (fun c5=>?_) (fun c5=>?_)))
  ·(try simp only[sd,se] at c5);refine An As 1 [] O (Av (⟨O,_,_,⟨_,_,O,O,O⟩,(List.nil_sublist _),?_⟩))
   all_goals exact⟨pI AX,rfl⟩
  (try simp only[sd,se] at c5);refine Am (An As 2 [] O (Ao O (fun c6=>?_) (fun c6=>?_)))
  ·(try simp only[sd,se] at c6);refine Aq (Ao O (fun c7=>?_) (fun c7=>?_))
   ·(try simp only[sd,se] at c7);refine An As 1 [] O (Av (⟨O,_,_,⟨_,_,O,O,O⟩,(List.nil_sublist _),?_⟩))
    all_goals exact⟨pI AX,rfl⟩
   (try simp only[sd,se] at c7);refine Aq (An As 1 [] O (Av (⟨O,_,_,⟨_,_,O,O,O⟩,(List.nil_sublist _),?_⟩)))
   all_goals exact⟨pI AX,rfl⟩
  (try simp only[sd,se] at c6);refine Au (Ak As 2 [] O (Ao O (fun c7=>?_) (fun c7=>?_)))
  ·(try simp only[sd,se] at c7);refine An As 1 [] O (Av (⟨O,_,_,⟨_,_,O,O,O⟩,(List.nil_sublist _),?_⟩))
   all_goals exact⟨pI AX,rfl⟩
  (try simp only[sd,se] at c7);refine Aq (An As 1 [] O (Av (⟨O,_,_,⟨_,_,O,O,O⟩,(List.nil_sublist _),?_⟩)))
  all_goals exact⟨pI AX,rfl⟩
 (try simp only[sd,se] at c2);refine Au (Ak As 2 [] O (Ao O (fun c3=>?_) (fun c3=>?_)))
 ·(try simp only[sd,se] at c3);refine An As 1 [] O (Av (⟨O,_,_,⟨_,_,O,O,O⟩,(List.nil_sublist _),?_⟩))
  all_goals exact⟨pI AX,rfl⟩
 (try simp only[sd,se] at c3);refine Am (An As 2 [] O (Ao O (fun c4=>?_) (fun c4=>?_)))
 ·(try simp only[sd,se] at c4);refine Aq (Ao O (fun c5=>?_) (fun c5=>?_))
  ·(try simp only[sd,se] at c5);refine An As 1 [] O (Av (⟨O,_,_,⟨_,_,O,O,O⟩,(List.nil_sublist _),?_⟩))
   all_goals exact⟨pI AX,rfl⟩
  (try simp only[sd,se] at c5);refine Am (An As 2 [] O (Ao O (fun c6=>?_) (fun c6=>?_)))
  ·(try simp only[sd,se] at c6);refine Aq (Ao O (fun c7=>?_) (fun c7=>?_))
   ·(try simp only[sd,se] at c7);refine An As 1 [] O (Av (⟨O,_,_,⟨_,_,O,O,O⟩,(List.nil_sublist _),?_⟩))
    all_goals exact⟨pI AX,rfl⟩
   (try simp only[sd,se] at c7);refine Aq (An As 1 [] O (Av (⟨O,_,_,⟨_,_,O,O,O⟩,(List.nil_sublist _),?_⟩)))
   all_goals exact⟨pI AX,rfl⟩
  (try simp only[sd,se] at c6);refine Au (Ak As 2 [] O (Ao O (fun c7=>?_) (fun c7=>?_)))
  ·(try simp only[sd,se] at c7);refine An As 1 [] O (Av (⟨O,_,_,⟨_,_,O,O,O⟩,(List.nil_sublist _),?_⟩))
   all_goals exact⟨pI AX,rfl⟩
  (try simp only[sd,se] at c7);refine Aq (An As 1 [] O (Av (⟨O,_,_,⟨_,_,O,O,O⟩,(List.nil_sublist _),?_⟩)))
  all_goals exact⟨pI AX,rfl⟩
 (try simp only[sd,se] at c4);refine Au (Ak As 2 [] O (Ao O (fun c5=>?_) (fun c5=>?_)))
 ·(try simp only[sd,se] at c5);refine An As 1 [] O (Av (⟨O,_,_,⟨_,_,O,O,O⟩,(List.nil_sublist _),?_⟩))
  all_goals exact⟨pI AX,rfl⟩
 (try simp only[sd,se] at c5);refine Am (An As 2 [] O (Ao O (fun c6=>?_) (fun c6=>?_)))
 ·(try simp only[sd,se] at c6);refine Aq (Ao O (fun c7=>?_) (fun c7=>?_))
  ·(try simp only[sd,se] at c7);refine An As 1 [] O (Av (⟨O,_,_,⟨_,_,O,O,O⟩,(List.nil_sublist _),?_⟩))
   all_goals exact⟨pI AX,rfl⟩
  (try simp only[sd,se] at c7);refine Aq (An As 1 [] O (Av (⟨O,_,_,⟨_,_,O,O,O⟩,(List.nil_sublist _),?_⟩)))
  all_goals exact⟨pI AX,rfl⟩
 (try simp only[sd,se] at c6);refine Au (Ak As 2 [] O (Ao O (fun c7=>?_) (fun c7=>?_)))
 ·(try simp only[sd,se] at c7);refine An As 1 [] O (Av (⟨O,_,_,⟨_,_,O,O,O⟩,(List.nil_sublist _),?_⟩))
  all_goals exact⟨pI AX,rfl⟩
 (try simp only[sd,se] at c7);refine Aq (An As 1 [] O (Av (⟨O,_,_,⟨_,_,O,O,O⟩,(List.nil_sublist _),?_⟩)))
 all_goals exact⟨pI AX,rfl⟩
theorem Pa : ∀ (k i : Int), Df Tryz.prog 100 [.p (I k), .p (I i)] (.p (I (below k i))) := by
 intro k i
 refine Aw Tryz.func100 O dA (n := 27) O O ?_
 refine An As 1 [] O ?_
 refine Am ?_
 refine Am ?_
 refine BO [] 26 (fun y => y = .p (.bool ((i == 1 && (k == 5 || k == 6 || k == 7)) || (i == 2 && k == 11)))) ?_ ?_
 ·refine Au ?_
  refine Ap As 3 [] O ?_
  refine BE 7 O (fun g => ?_) (fun g => ?_)
  ·(try simp only [sd, se] at g)
   refine Ap As 3 [] O ?_
   refine BE 10 O (fun g1 => ?_) (fun g1 => ?_)
   ·(try simp only [sd, se] at g1)
    refine Ak As 16 [] O ?_
    exact ⟨O, O, AG, pB Af, Aj⟩
   (try simp only [sd, se] at g1)
   refine Ap As 4 [] O ?_
   refine BE 14 O (fun g2 => ?_) (fun g2 => ?_)
   ·(try simp only [sd, se] at g2)
    refine Ak As 12 [] O ?_
    exact ⟨O, O, AG, pB Af, Aj⟩
   (try simp only [sd, se] at g2)
   refine Ap As 5 [] O ?_
   refine BE 19 O (fun g3 => ?_) (fun g3 => ?_)
   ·(try simp only [sd, se] at g3)
    refine Ak As 7 [] O ?_
    exact ⟨O, O, AG, pB Af, Aj⟩
   (try simp only [sd, se] at g3)
   refine Ap As 3 [] O ?_
   refine BE 22 O (fun g4 => ?_) (fun g4 => ?_)
   ·(try simp only [sd, se] at g4)
    refine Ak As 4 [] O ?_
    exact ⟨O, O, AG, pB Af, Aj⟩
   (try simp only [sd, se] at g4)
   refine Ak As 4 [] O ?_
   exact ⟨O, O, AG, pB Af, Aj⟩
  (try simp only [sd, se] at g)
  refine Ap As 15 [] O ?_
  refine BE 22 O (fun g1 => ?_) (fun g1 => ?_)
  ·(try simp only [sd, se] at g1)
   refine Ak As 4 [] O ?_
   exact ⟨O, O, AG, pB Af, Aj⟩
  (try simp only [sd, se] at g1)
  refine Ak As 4 [] O ?_
  exact ⟨O, O, AG, pB Af, Aj⟩
 rintro _ rfl
 refine Ao O (fun c => ?_) (fun c => ?_)
 ·(try simp only [sd, se] at c)
  refine An As 1 [] O ?_
  refine Av ?_
  refine ⟨O, _, _, ⟨_, _, O, O, O⟩, (List.nil_sublist _), ?_⟩
  all_goals exact ⟨pI (by unfold below; first | (rw [if_pos (by simp only [Bool.or_eq_true, Bool.and_eq_true, beq_iff_eq]; omega)]) | (rw [if_neg (by simp only [Bool.or_eq_true, Bool.and_eq_true, beq_iff_eq]; omega)])), rfl⟩
 (try simp only [sd, se] at c)
 refine Aq ?_
 refine An As 1 [] O ?_
 refine Av ?_
 refine ⟨O, _, _, ⟨_, _, O, O, O⟩, (List.nil_sublist _), ?_⟩
 all_goals exact ⟨pI (by unfold below; first | (rw [if_pos (by simp only [Bool.or_eq_true, Bool.and_eq_true, beq_iff_eq]; omega)]) | (rw [if_neg (by simp only [Bool.or_eq_true, Bool.and_eq_true, beq_iff_eq]; omega)])), rfl⟩
theorem We:∀(l:CB) (a b:Int),(X8 l)→IW Tryz.prog 99 [.agg ((Bz l).map .p),.p (I a),.p (I b)] (bX):=by
 intro l a b h1;have hl:=h1.vars;simp only[Cr] at hl;refine Aw Tryz.func99 O iS (n:=61) O O (Ar (A5 O (BF O) fun b3=>Ak As 1 [] O (Am (Ar (Al O (Ba (i:=0) S6 O O (by simp[DT])) (Al O (BA O O (V1 l h1) O) (Ak As 1 [] O (Ao O (fun c=>?_) (fun c=>?_)))))))))
 ·(try simp only[sd,se] at c);refine An As 1 [] O (Av (⟨O,_,_,⟨_,_,O,O,O⟩,(List.nil_sublist _),?_⟩))
  all_goals exact⟨⟨_,rfl⟩,rfl⟩
 (try simp only[sd,se] at c);refine Aq (Am (An As 1 [] O (A1 (BZ (α:=Nat) (fun i=>⟨61,mk [(1,.p (I a)),(2,.p (I b)),(3,.ptr b3 0),(7,.p (I (i:Int)))],[.box b3 ((Bz l).map .p)],[]⟩) (fun i=>l.vars.length - i) (fun i=>i≤l.vars.length) 0 AK ?_ ?_))))
 ·exact BM ⟨we O,we O,we O,we O,Aj⟩ (leH (is:=[0]) O (wl (oe O) (C8)))
 rintro i hC
 try simp only at hC
 have hi:=hC;refine Am (Ar (Ap As 3 [0] O (Al O (BB Fv O (List.length_map _)) (Ak As 1 [] O (Ao O (fun c1=>?_) (fun c1=>?_))))))
 ·(try simp only[sd,se] at c1);refine Aq (Am (A1 (Am (BO [1,2,3,7] 35 Lq ?_ ?_))))
  ·refine Au (Ap As 3 [0] O ?_);obtain⟨x,hx⟩:=A0 (l:=l.vars) (i:=i) Ah;refine Al O (A3 Fv O O Ah (D8 hx) (O)) (Ap As 4 [] O (BE 26 O (fun g=>?_) (fun g=>?_)))
   ·(try simp only[sd,se] at g);exact Ap As 3 [0] O (BI O (A3 Fv O O Ah (D8 hx) (O)) (Ak As 5 [] O (⟨O,O,AG,⟨_,O⟩,⟨O,O,O,O,Aj⟩⟩)))
   (try simp only[sd,se] at g);exact Ak As 9 [] O (⟨O,O,AG,⟨_,O⟩,⟨O,O,O,O,Aj⟩⟩)
  rintro _ ⟨q,rfl⟩;refine Ao O (fun c2=>?_) (fun c2=>?_)
  ·(try simp only[sd,se] at c2);refine An As 1 [] O (Av (⟨O,_,_,⟨_,_,O,O,O⟩,(List.nil_sublist _),?_⟩))
   all_goals exact⟨⟨_,rfl⟩,rfl⟩
  (try simp only[sd,se] at c2);refine Aq (Au (Ak As 3 [] O ?_));refine⟨(i+1),AN,by omega,BM ⟨we rfl,we rfl,we rfl,we rfl,trivial⟩ (leH (is:=[0]) rfl (wl (oe rfl) (C8)))⟩
 (try simp only[sd,se] at c1);refine Bc (Am (An As 1 [] O (A1 (BZ (α:=Nat) (fun i=>⟨61,mk [(2,.p (I b)),(3,.ptr b3 0),(8,.p (I (i:Int)))],[.box b3 [.p (I l.const),.p (.lst (List.map I9 l.vars))]],[]⟩) (fun i=>l.vars.length - i) (fun i=>i≤l.vars.length) 0 AK ?_ ?_))))
 ·exact BM ⟨we O,we O,we O,Aj⟩ (leH (is:=[0]) O (wl (oe O) (C8)))
 rintro i hC1
 try simp only at hC1
 have hi:=hC1;refine Am (Ar (Ap As 3 [0] O (Al O (BB Fv O (List.length_map _)) (Ak As 1 [] O (Ao O (fun c2=>?_) (fun c2=>?_))))))
 ·(try simp only[sd,se] at c2);refine Aq (Am (A1 (Am (BO [2,3,8] 60 Lq ?_ ?_))))
  ·refine Au (Ap As 3 [0] O ?_);obtain⟨x,hx⟩:=A0 (l:=l.vars) (i:=i) Ah;refine Al O (A3 Fv O O Ah (D8 hx) (O)) (Ap As 4 [] O (BE 50 O (fun g=>?_) (fun g=>?_)))
   ·(try simp only[sd,se] at g);exact Ap As 3 [0] O (BI O (A3 Fv O O Ah (D8 hx) (O)) (Ap As 2 [] O (BI O (FF O O) (Ak As 3 [] O (⟨O,O,AG,⟨_,O⟩,⟨O,O,O,Aj⟩⟩)))))
   (try simp only[sd,se] at g);exact Ak As 10 [] O (⟨O,O,AG,⟨_,O⟩,⟨O,O,O,Aj⟩⟩)
  rintro _ ⟨q,rfl⟩;refine Ao O (fun c3=>?_) (fun c3=>?_)
  ·(try simp only[sd,se] at c3);refine An As 1 [] O (Av (⟨O,_,_,⟨_,_,O,O,O⟩,(List.nil_sublist _),?_⟩))
   all_goals exact⟨⟨_,rfl⟩,rfl⟩
  (try simp only[sd,se] at c3);refine Aq (Au (Ak As 3 [] O ?_));refine⟨(i+1),AN,by omega,BM ⟨we rfl,we rfl,we rfl,trivial⟩ (leH (is:=[0]) rfl (wl (oe rfl) (C8)))⟩
 (try simp only[sd,se] at c2);refine Bc (An As 1 [] O (Av (⟨O,_,_,⟨_,_,O,O,O⟩,(List.nil_sublist _),?_⟩)))
 all_goals exact⟨⟨_,rfl⟩,rfl⟩
theorem Z1:∀(t:Tm),IW Tryz.prog 98 [.agg ((BQ t).map .p)] (fun v=>∃bb:Bool,v= .p (.bool bb)∧(bb=true→RM t∧Xz t)):=by
 intro t;obtain⟨tk,ti,tn,tl,ts⟩:=t;refine Aw Tryz.func98 O gf (n:=57) O O (Ar (A5 O (BF O) fun b1=>Ak As 1 [] O (Am (Am (BO [1] 19 (fun y=>y= .p (.bool (decide (tk<0)||decide (tk≥13)||(ts.length:Int) !=arity tk))) ?_ ?_)))))
 ·refine By (fun k=>false) Eg (BU As 4 [0] O (Fh 6 O (fun g=>?_) (fun g=>?_)))
  ·(try simp only[sd,se] at g);exact B1 As 13 [] O (⟨O,O,AG,(by refine pB ?_;first | (simp_all;done) | (rw[decide_eq_false (by omega:¬tk<0),decide_eq_false (by omega:¬tk≥13)];simp[A8];done)),⟨O,Aj⟩⟩)
  (try simp only[sd,se] at g);refine BU As 5 [0] O (Fh 11 O (fun g1=>?_) (fun g1=>?_))
  ·(try simp only[sd,se] at g1);exact B1 As 8 [] O (⟨O,O,AG,(by refine pB ?_;first | (simp_all;done) | (rw[decide_eq_false (by omega:¬tk<0),decide_eq_false (by omega:¬tk≥13)];simp[A8];done)),⟨O,Aj⟩⟩)
  (try simp only[sd,se] at g1);exact BU As 2 [0] O (B8 O (fun _=>BB BP O (A8 _)) Aj (BU As 2 [0] O (B8 O (fun _=>BA O O (ZU tk) O) Aj (B1 As 2 [] O (⟨O,O,AG,(by refine pB ?_;first | (simp_all;done) | (rw[decide_eq_false (by omega:¬tk<0),decide_eq_false (by omega:¬tk≥13)];simp[A8];done)),⟨O,Aj⟩⟩)))))
 rintro _ rfl;refine Ao O (fun c=>?_) (fun c=>?_)
 ·(try simp only[sd,se] at c);refine An As 1 [] O (Av (⟨O,_,_,⟨_,_,O,O,O⟩,(List.nil_sublist _),?_⟩))
  all_goals exact⟨⟨_,rfl,by first | exact fun h=>absurd h Ag | exact fun h=>⟨hf,hi,hn,by simp only[beq_iff_eq,decide_eq_true_eq] at *;intro _;omega,by simp only[beq_iff_eq,decide_eq_true_eq] at *;intro _ _;omega⟩⟩,rfl⟩
 (try simp only[sd,se] at c);have hf:RM (.mk tk ti tn tl ts):=by simp only[RM];omega
 refine Aq (Am (Am (BO [1] 32 (fun y=>∃b:Bool,y= .p (.bool b)∧(b=false→ti≠0→tk=0∨tk=12)) ?_ ?_)))
 ·refine Au (Ap As 4 [0] O (BE 23 O (fun g=>?_) (fun g=>?_)))
  ·(try simp only[sd,se] at g);refine Ap As 5 [0] O (BE 28 O (fun g1=>?_) (fun g1=>?_))
   ·(try simp only[sd,se] at g1);exact Ak As 4 [0] O (⟨O,O,AG,(by refine⟨_,rfl,fun h=>?_⟩;first | omega | (simp_all;done) | (simp_all;omega)),⟨O,Aj⟩⟩)
   (try simp only[sd,se] at g1);exact Ak As 4 [] O (⟨O,O,AG,(by refine⟨_,rfl,fun h=>?_⟩;first | omega | (simp_all;done) | (simp_all;omega)),⟨O,Aj⟩⟩)
  (try simp only[sd,se] at g);exact Ak As 9 [] O (⟨O,O,AG,(by refine⟨_,rfl,fun h=>?_⟩;first | omega | (simp_all;done) | (simp_all;omega)),⟨O,Aj⟩⟩)
 rintro _ ⟨q1,rfl,hq1⟩;refine Ao O (fun c1=>?_) (fun c1=>?_)
 ·(try simp only[sd,se] at c1);refine An As 1 [] O (Av (⟨O,_,_,⟨_,_,O,O,O⟩,(List.nil_sublist _),?_⟩))
  all_goals exact⟨⟨_,rfl,by first | exact fun h=>absurd h Ag | exact fun h=>⟨hf,hi,hn,by simp only[beq_iff_eq,decide_eq_true_eq] at *;intro _;omega,by simp only[beq_iff_eq,decide_eq_true_eq] at *;intro _ _;omega⟩⟩,rfl⟩
 (try simp only[sd,se] at c1);have hi:=hq1 (by simpa using c1);refine Aq (Am (Am (BO [1] 40 (fun y=>∃b:Bool,y= .p (.bool b)∧(b=false→tn≠⟨#[]⟩→tk=3)) ?_ ?_)))
 ·refine Au (Ap As 2 [0] O (Al O (Gs O O) (Bu O (BE 36 O (fun g=>?_) (fun g=>?_)))))
  ·(try simp only[sd,se] at g);exact Ak As 4 [0] O (⟨O,O,AG,(by refine⟨_,rfl,fun h hne=>?_⟩;first | exact absurd (Gl g) hne | (simp only[bne_eq_false_iff_eq] at h;exact h)),⟨O,Aj⟩⟩)
  (try simp only[sd,se] at g);exact Ak As 4 [] O (⟨O,O,AG,(by refine⟨_,rfl,fun h hne=>?_⟩;first | exact absurd (Gl g) hne | (simp only[bne_eq_false_iff_eq] at h;exact h)),⟨O,Aj⟩⟩)
 rintro _ ⟨q2,rfl,hq2⟩;refine Ao O (fun c2=>?_) (fun c2=>?_)
 ·(try simp only[sd,se] at c2);refine An As 1 [] O (Av (⟨O,_,_,⟨_,_,O,O,O⟩,(List.nil_sublist _),?_⟩))
  all_goals exact⟨⟨_,rfl,by first | exact fun h=>absurd h Ag | exact fun h=>⟨hf,hi,hn,by simp only[beq_iff_eq,decide_eq_true_eq] at *;intro _;omega,by simp only[beq_iff_eq,decide_eq_true_eq] at *;intro _ _;omega⟩⟩,rfl⟩
 (try simp only[sd,se] at c2);have hn:=hq2 (by simpa using c2);refine Aq (Am (An As 3 [0] O (Ao O (fun c3=>?_) (fun c3=>?_))))
 ·(try simp only[sd,se] at c3);refine Ar (Ap As 2 [0] O (Al O (BB Eh O (List.length_map _)) (Ak As 2 [] O (Av (⟨O,_,_,⟨_,_,O,O,O⟩,(List.nil_sublist _),?_⟩)))))
  all_goals exact⟨⟨_,rfl,by first | exact fun h=>absurd h Ag | exact fun h=>⟨hf,hi,hn,by simp only[beq_iff_eq,decide_eq_true_eq] at *;intro _;omega,by simp only[beq_iff_eq,decide_eq_true_eq] at *;intro _ _;omega⟩⟩,rfl⟩
 (try simp only[sd,se] at c3);refine Aq (Ar (Ap As 2 [0] O (Al O (BB Eh O (List.length_map _)) (Ap As 2 [] O (BE 52 O (fun g=>?_) (fun g=>?_))))))
 ·(try simp only[sd,se] at g);refine Ak As 5 [] O (Av (⟨O,_,_,⟨_,_,O,O,O⟩,(List.nil_sublist _),?_⟩))
  all_goals exact⟨⟨_,rfl,by first | exact fun h=>absurd h Ag | exact fun h=>⟨hf,hi,hn,by simp only[beq_iff_eq,decide_eq_true_eq] at *;intro _;omega,by simp only[beq_iff_eq,decide_eq_true_eq] at *;intro _ _;omega⟩⟩,rfl⟩
 (try simp only[sd,se] at g);refine Ak As 5 [0] O (Av (⟨O,_,_,⟨_,_,O,O,O⟩,(List.nil_sublist _),?_⟩))
 all_goals exact⟨⟨_,rfl,by first | exact fun h=>absurd h Ag | exact fun h=>⟨hf,hi,hn,by simp only[beq_iff_eq,decide_eq_true_eq] at *;intro _;omega,by simp only[beq_iff_eq,decide_eq_true_eq] at *;intro _ _;omega⟩⟩,rfl⟩
theorem _root_.Go.AB {α:Prop}(h:α:=by repeat' first | exact trivial | refine And.intro ?_ ?_ | ((refine Or.inr (And.intro ?_ ?_)<;>repeat (first | exact List.Mem.head _ | apply List.Mem.tail));done) | exact Or.inl (by kernel_rfl)):α:=h
theorem _root_.Go.Ae {α:Prop}(h:α:=by assumption):α:=h
theorem Ws:∀(n:Nat) (t:Tm) (d vars params metas levels:Int),(size t≤n)→(Nd t)→(0≤d)→(d+n<Cr)→IW Tryz.prog 49 [.agg ((BQ t).map .p),.p (I d),.p (I vars),.p (I params),.p (I metas),.p (I levels)] (fun v=>∃ee:Int,v= .p (I ee)∧(ee=0→wf vars metas d t∧Cw t)):=by
 intro n
 induction n with
 | zero=>intro t d vars params metas levels h;cases t;simp[size] at h
 | succ n ih =>
  intro t d vars params metas levels h1 h2 h3 h4;simp only[Cr] at h4;obtain⟨tk,ti,tn,tl,ts⟩:=t;simp only[size] at h1;simp only[Nd,Gy,Cr] at h2;have hks:=DK ts;refine Aw Tryz.func49 O fG (n:=107) O O (Ar (A5 O (BF O) fun b6=>Ak As 1 [] O (Am (Ar (Al O (Ba (i:=0) Bf O O O) (Gb O O (C4 O O (Z1 (.mk tk ti tn tl ts:Tm)) (.inl O)) ?_))))));rintro _ ⟨q,rfl,hq⟩;refine Ak As 1 [] O (Ao O (fun c=>?_) (fun c=>?_))
  ·(try simp only[sd,se] at c);refine An As 1 [] O (Av (⟨O,_,_,⟨_,_,O,O,O⟩,(List.nil_sublist _),?_⟩))
   all_goals exact⟨⟨_,rfl,by first | exact fun h=>absurd h Ag | exact fun h=>absurd h Ae | exact fun _=>⟨⟨hf.1,hf.2.1,hf.2.2,hv1,hv2,G0 fun j x hx=>by have h9:=(hC j (by have:=(List.getElem?_eq_some_iff.1 hx).1;omega) x hx).1;simpa using h9⟩,hcn,G3 fun x hx=>by obtain⟨j,hj⟩:=List.mem_iff_getElem?.1 hx;exact(hC j (by have:=(List.getElem?_eq_some_iff.1 hj).1;omega) x hj).2⟩⟩,rfl⟩
  (try simp only[sd,se] at c);obtain⟨hf,hcn⟩:=hq (by simpa using c);refine Aq (Am (Am (BO [1,2,3,4,5,6] 28 Lq ?_ ?_)))
  ·refine Au (Ap As 4 [0] O (BE 23 O (fun g=>?_) (fun g=>?_)))
   ·(try simp only[sd,se] at g);refine Ap As 2 [0] O (IE O O O O (C4 O O (ZH tn h2.1) (.inl O)) ?_);rintro _ ⟨q1,rfl⟩;exact Ak As 2 [] O (⟨O,O,AG,⟨_,O⟩,⟨O,O,O,O,O,O,Aj⟩⟩)
   (try simp only[sd,se] at g);exact Ak As 5 [] O (⟨O,O,AG,⟨_,O⟩,⟨O,O,O,O,O,O,Aj⟩⟩)
  rintro _ ⟨q1,rfl⟩;refine Ao O (fun c1=>?_) (fun c1=>?_)
  ·(try simp only[sd,se] at c1);refine An As 1 [] O (Av (⟨O,_,_,⟨_,_,O,O,O⟩,(List.nil_sublist _),?_⟩))
   all_goals exact⟨⟨_,rfl,by first | exact fun h=>absurd h Ag | exact fun h=>absurd h Ae | exact fun _=>⟨⟨hf.1,hf.2.1,hf.2.2,hv1,hv2,G0 fun j x hx=>by have h9:=(hC j (by have:=(List.getElem?_eq_some_iff.1 hx).1;omega) x hx).1;simpa using h9⟩,hcn,G3 fun x hx=>by obtain⟨j,hj⟩:=List.mem_iff_getElem?.1 hx;exact(hC j (by have:=(List.getElem?_eq_some_iff.1 hj).1;omega) x hj).2⟩⟩,rfl⟩
  (try simp only[sd,se] at c1);refine Aq (Am (Ar (Ap As 2 [0] O (Al O (BB Eh O (List.length_map _)) (Ak As 1 [] O (Ao O (fun c2=>?_) (fun c2=>?_)))))))
  ·(try simp only[sd,se] at c2);refine An As 1 [] O (Av (⟨O,_,_,⟨_,_,O,O,O⟩,(List.nil_sublist _),?_⟩))
   all_goals exact⟨⟨_,rfl,by first | exact fun h=>absurd h Ag | exact fun h=>absurd h Ae | exact fun _=>⟨⟨hf.1,hf.2.1,hf.2.2,hv1,hv2,G0 fun j x hx=>by have h9:=(hC j (by have:=(List.getElem?_eq_some_iff.1 hx).1;omega) x hx).1;simpa using h9⟩,hcn,G3 fun x hx=>by obtain⟨j,hj⟩:=List.mem_iff_getElem?.1 hx;exact(hC j (by have:=(List.getElem?_eq_some_iff.1 hj).1;omega) x hj).2⟩⟩,rfl⟩
  (try simp only[sd,se] at c2);refine Aq (Am (An As 1 [] O (A1 (BZ (α:=Nat) (fun i=>⟨107,mk [(1,.p (I d)),(2,.p (I vars)),(3,.p (I params)),(4,.p (I metas)),(5,.p (I levels)),(6,.ptr b6 0),(13,.p (I (i:Int)))],[.box b6 [.p (I tk),.p (I ti),.p (.str tn),.p (.lst (List.map Bz tl)),.p (.lst (Ay ts))]],[]⟩) (fun i=>tl.length - i) (fun i=>i≤tl.length) 0 AK ?_ ?_))))
  ·exact BM ⟨we O,we O,we O,we O,we O,we O,we O,Aj⟩ (leH (is:=[0]) O (wl (oe O) (C8)))
  rintro i hC
  try simp only at hC
  have hi:=hC;refine Am (Ar (Ap As 3 [0] O (Al O (BB Eh O (List.length_map _)) (Ak As 1 [] O (Ao O (fun c3=>?_) (fun c3=>?_))))))
  ·(try simp only[sd,se] at c3);refine Aq (Am (A1 (Ar (Ap As 3 [0] O ?_))));obtain⟨x,hx⟩:=A0 (l:=tl) (i:=i) Ah;refine Al O (A3 Eh O O Ah (F6 hx) (DT _)) (Ap As 3 [] O (Gb O O (C4 O O (We x params levels (h2.2.2.1 _ (List.mem_of_getElem? hx))) (.inl O)) ?_));rintro _ ⟨le,rfl⟩;refine Ak As 1 [] O (An As 2 [] O (Ao O (fun c4=>?_) (fun c4=>?_)))
   ·(try simp only[sd,se] at c4);refine An As 2 [] O (Av (⟨O,_,_,⟨_,_,O,O,O⟩,(List.nil_sublist _),?_⟩))
    all_goals exact⟨⟨_,rfl,by first | exact fun h=>absurd h Ag | exact fun h=>absurd h Ae | exact fun _=>⟨⟨hf.1,hf.2.1,hf.2.2,hv1,hv2,G0 fun j x hx=>by have h9:=(hC j (by have:=(List.getElem?_eq_some_iff.1 hx).1;omega) x hx).1;simpa using h9⟩,hcn,G3 fun x hx=>by obtain⟨j,hj⟩:=List.mem_iff_getElem?.1 hx;exact(hC j (by have:=(List.getElem?_eq_some_iff.1 hj).1;omega) x hj).2⟩⟩,rfl⟩
   (try simp only[sd,se] at c4);refine Aq (Au (Ak As 3 [] O ?_));refine⟨(i+1),AN,by omega,BM ⟨we rfl,we rfl,we rfl,we rfl,we rfl,we rfl,we rfl,trivial⟩ (leH (is:=[0]) rfl (wl (oe rfl) (C8)))⟩
  (try simp only[sd,se] at c3);refine Bc (Am (Am (BO [1,2,3,4,5,6] 66 (fun y=>∃b:Bool,y= .p (.bool b)∧(b=false→tk=0→0≤ti∧ti - d<vars)) ?_ ?_)))
  ·refine Au (Ap As 4 [0] O (BE 54 O (fun g=>?_) (fun g=>?_)))
   ·(try simp only[sd,se] at g);refine Ap As 4 [0] O (BE 58 O (fun g1=>?_) (fun g1=>?_))
    ·(try simp only[sd,se] at g1);refine Ak As 8 [] O ?_;exact⟨rfl,rfl,AG,(by refine⟨_,rfl,fun h=>?_⟩;first | (simp_all;done) | (simp_all<;>omega)),⟨rfl,rfl,rfl,rfl,rfl,rfl,trivial⟩⟩
    (try simp only[sd,se] at g1);refine Ak As 8 [0] O ?_;exact⟨rfl,rfl,AG,(by refine⟨_,rfl,fun h=>?_⟩;first | (simp_all;done) | (simp_all<;>omega)),⟨rfl,rfl,rfl,rfl,rfl,rfl,trivial⟩⟩
   (try simp only[sd,se] at g);refine Ak As 12 [] O ?_;exact⟨rfl,rfl,AG,(by refine⟨_,rfl,fun h=>?_⟩;first | (simp_all;done) | (simp_all<;>omega)),⟨rfl,rfl,rfl,rfl,rfl,rfl,trivial⟩⟩
  rintro _ ⟨r,rfl,hr⟩;refine Ao O (fun c4=>?_) (fun c4=>?_)
  ·(try simp only[sd,se] at c4);refine An As 1 [] O (Av (⟨O,_,_,⟨_,_,O,O,O⟩,(List.nil_sublist _),?_⟩))
   all_goals exact⟨⟨_,rfl,by first | exact fun h=>absurd h Ag | exact fun h=>absurd h Ae | exact fun _=>⟨⟨hf.1,hf.2.1,hf.2.2,hv1,hv2,G0 fun j x hx=>by have h9:=(hC j (by have:=(List.getElem?_eq_some_iff.1 hx).1;omega) x hx).1;simpa using h9⟩,hcn,G3 fun x hx=>by obtain⟨j,hj⟩:=List.mem_iff_getElem?.1 hx;exact(hC j (by have:=(List.getElem?_eq_some_iff.1 hj).1;omega) x hj).2⟩⟩,rfl⟩
  (try simp only[sd,se] at c4);have hv1:=hr (by simpa using c4);refine Aq (Am (Am (BO [1,2,3,4,5,6] 80 (fun y=>∃b:Bool,y= .p (.bool b)∧(b=false→tk=12→0≤ti∧ti<metas)) ?_ ?_)))
  ·refine Au (Ap As 4 [0] O (BE 70 O (fun g=>?_) (fun g=>?_)))
   ·(try simp only[sd,se] at g);refine Ap As 4 [0] O (BE 74 O (fun g1=>?_) (fun g1=>?_))
    ·(try simp only[sd,se] at g1);refine Ak As 6 [] O ?_;exact⟨rfl,rfl,AG,(by refine⟨_,rfl,fun h=>?_⟩;first | (simp_all;done) | (simp_all<;>omega)),⟨rfl,rfl,rfl,rfl,rfl,rfl,trivial⟩⟩
    (try simp only[sd,se] at g1);refine Ak As 6 [0] O ?_;exact⟨rfl,rfl,AG,(by refine⟨_,rfl,fun h=>?_⟩;first | (simp_all;done) | (simp_all<;>omega)),⟨rfl,rfl,rfl,rfl,rfl,rfl,trivial⟩⟩
   (try simp only[sd,se] at g);refine Ak As 10 [] O ?_;exact⟨rfl,rfl,AG,(by refine⟨_,rfl,fun h=>?_⟩;first | (simp_all;done) | (simp_all<;>omega)),⟨rfl,rfl,rfl,rfl,rfl,rfl,trivial⟩⟩
  rintro _ ⟨r2,rfl,hr2⟩;refine Ao O (fun c5=>?_) (fun c5=>?_)
  ·(try simp only[sd,se] at c5);refine An As 1 [] O (Av (⟨O,_,_,⟨_,_,O,O,O⟩,(List.nil_sublist _),?_⟩))
   all_goals exact⟨⟨_,rfl,by first | exact fun h=>absurd h Ag | exact fun h=>absurd h Ae | exact fun _=>⟨⟨hf.1,hf.2.1,hf.2.2,hv1,hv2,G0 fun j x hx=>by have h9:=(hC j (by have:=(List.getElem?_eq_some_iff.1 hx).1;omega) x hx).1;simpa using h9⟩,hcn,G3 fun x hx=>by obtain⟨j,hj⟩:=List.mem_iff_getElem?.1 hx;exact(hC j (by have:=(List.getElem?_eq_some_iff.1 hj).1;omega) x hj).2⟩⟩,rfl⟩
  (try simp only[sd,se] at c5);have hv2:=hr2 (by simpa using c5);refine Aq (Am (An As 1 [] O (A1 ?_)));refine BZ (α:=Nat) (fun i=>⟨107,mk [(1,.p (I d)),(2,.p (I vars)),(3,.p (I params)),(4,.p (I metas)),(5,.p (I levels)),(6,.ptr b6 0),(15,.p (I (i:Int)))],[.box b6 [.p (I tk),.p (I ti),.p (.str tn),.p (.lst (List.map Bz tl)),.p (.lst (Ay ts))]],[]⟩) (fun i=>ts.length - i) (fun i=>i≤ts.length∧(∀j,j<i→∀x,ts[j]?=some x→wf vars metas (d+below tk j) x∧Cw x)) 0 (⟨by omega,fun j h=>by omega⟩) ?_ ?_
  ·exact BM ⟨we O,we O,we O,we O,we O,we O,we O,Aj⟩ (leH (is:=[0]) O (wl (oe O) (C8)))
  rintro i hC1
  try simp only at hC1
  obtain⟨hi,hC⟩:=hC1;have hbl:=CE tk i;refine Am (Ar (Ap As 3 [0] O (Al O (BB BP O (A8 _)) (Ak As 1 [] O (Ao O (fun c6=>?_) (fun c6=>?_))))))
  ·(try simp only[sd,se] at c6);refine Aq (Am (A1 (Am (By (fun k=>Nat.beq k 15) Eg (BU As 3 [0] O ?_)))));obtain⟨x,hx⟩:=A0 (l:=ts) (i:=i) Ah;refine BG O (fun _=>A3 BP O O Ah (Be hx) (A7 _)) Aj (BU As 5 [0] O (BG O (fun _=>BA O O (Pa tk (i:Int)) O) Aj (BU As 5 [] O (ZL [] O O (C4 O O (ih x ((d:Int)+(below tk (i:Int):Int)) vars params metas levels (by have:=Bw hx;omega) (CY h2.2.2.2.2.1 hx) (by have:=CE tk i;omega) (by have:=CE tk i;simp only[Cr];omega)) (.inl O)) Ad (⟨_,1,O,fun h=>absurd h Ag⟩) AB ?_))));rintro _ ⟨e,rfl,he⟩;refine⟨Aj,?_⟩;refine B1 As 1 [] O (An As 2 [] O (Ao O (fun c7=>?_) (fun c7=>?_)))
   ·(try simp only[sd,se] at c7);refine An As 2 [] O (Av (⟨O,_,_,⟨_,_,O,O,O⟩,(List.nil_sublist _),?_⟩))
    all_goals exact⟨⟨_,rfl,by first | exact fun h=>absurd h Ag | exact fun h=>absurd h Ae | exact fun _=>⟨⟨hf.1,hf.2.1,hf.2.2,hv1,hv2,G0 fun j x hx=>by have h9:=(hC j (by have:=(List.getElem?_eq_some_iff.1 hx).1;omega) x hx).1;simpa using h9⟩,hcn,G3 fun x hx=>by obtain⟨j,hj⟩:=List.mem_iff_getElem?.1 hx;exact(hC j (by have:=(List.getElem?_eq_some_iff.1 hj).1;omega) x hj).2⟩⟩,rfl⟩
   (try simp only[sd,se] at c7);refine Aq (Au (Ak As 3 [] O (⟨(i+1),AN,⟨by omega,DQ hC hx (he Ah)⟩,BM ⟨we rfl,we rfl,we rfl,we rfl,we rfl,we rfl,we rfl,trivial⟩ (leH (is:=[0]) rfl (wl (oe rfl) (C8)))⟩)))
  (try simp only[sd,se] at c6);refine Bc (An As 1 [] O (Av (⟨O,_,_,⟨_,_,O,O,O⟩,(List.nil_sublist _),?_⟩)))
  all_goals exact⟨⟨_,rfl,by first | exact fun h=>absurd h Ag | exact fun h=>absurd h Ae | exact fun _=>⟨⟨hf.1,hf.2.1,hf.2.2,hv1,hv2,G0 fun j x hx=>by have h9:=(hC j (by have:=(List.getElem?_eq_some_iff.1 hx).1;omega) x hx).1;simpa using h9⟩,hcn,G3 fun x hx=>by obtain⟨j,hj⟩:=List.mem_iff_getElem?.1 hx;exact(hC j (by have:=(List.getElem?_eq_some_iff.1 hj).1;omega) x hj).2⟩⟩,rfl⟩
theorem _root_.Go.Aa {α:Prop}(h:α:=by simp[A7]):α:=h
theorem Uh:∀(f:Tm) (xs:List Tm),(xs.length<Cr)→Df Tryz.prog 39 [.agg ((BQ f).map .p),.p (.lst (Ay xs))] (.agg ((BQ (apply f xs)).map .p)):=by
 intro f xs h1;simp only[Cr] at h1;refine Aw Tryz.func39 O fQ (n:=20) O O (Ar (A5 O (BF O) fun b2=>A5 O (Az Bj O) fun b4=>BR O (Am (An As 1 [] O (A1 (BZ (α:=Nat) (fun i=>⟨20,mk [(1,.p (.lst (Ay xs))),(2,.ptr b2 0),(4,.ptr b4 0),(5,.p (I (i:Int)))],[.box b4 [.p (I 0),.p (I 0),.p (.str ⟨#[]⟩),.p (.nils),.p (.nils)],.box b2 ((BQ (apply f (xs.take i))).map .p)],[]⟩) (fun i=>xs.length - i) (fun i=>i≤xs.length) 0 AK ?_ ?_))))))
 ·exact BM ⟨we O,we O,we O,we O,Aj⟩ (leH (is:=[0,1]) O (wl (oe O) (wl (oe O) (C8))))
 rintro i hC
 try simp only at hC
 have hi:=hC;refine Am (Ar (Ap As 2 [] O (Al O (BB BP O (A8 _)) (Ak As 1 [] O (Ao O (fun c=>?_) (fun c=>?_))))))
 ·(try simp only[sd,se] at c);refine Aq (Am (A1 (By (fun k=>false) Eg (BU As 3 [1] O ?_))));obtain⟨x,hx⟩:=A0 (l:=xs) (i:=i) Ah;refine BG O (fun _=>A3 BP O O Ah (Be hx) (A7 _)) Aj (BG O (fun _=>BL Bf O (A7 _)) Aj ?_);generalize hz:(apply f (xs.take i))=z;obtain⟨zk,zi,zn,zl,zs⟩:=z;obtain⟨xk,xi,xn,xl,xs1⟩:=x;refine BG O (fun _=>BT BP Bj O O O O O) Aj (B1 As 2 [1,0] O (Au (Ak As 3 [] O ?_)));refine⟨(i+1),AN,by omega,BM ⟨we rfl,we rfl,we rfl,we rfl,trivial⟩ (leH (is:=[0,1]) rfl (wl (oe rfl) (wl (on (by rw[M9 hx,hz];rfl)) (C8))))⟩
 (try simp only[sd,se] at c);refine Bc (An As 2 [1,0,1] O (Av (⟨O,_,_,⟨_,_,O,(BD (i:=0) Bf O O Aa),O⟩,(List.nil_sublist _),?_⟩)))
 all_goals exact⟨by show (.agg ((BQ (apply f (xs.take i))).map .p):AV)=_;rw[show i=xs.length by omega,List.take_length],rfl⟩
theorem Xs:∀(n:Nat) (t:Tm),(size t≤n)→(Nd t)→Df Tryz.prog 50 [.agg ((BQ t).map .p)] (.p (I (FX t))):=by
 intro n
 induction n with
 | zero=>intro t h;cases t;simp[size] at h
 | succ n ih =>
  intro t h1 h2;obtain⟨tk,ti,tn,tl,ts⟩:=t;simp only[size] at h1;simp only[Nd,Cr] at h2;refine Aw Tryz.func50 O eZ (n:=21) O O (Ar (A5 O (BF O) fun b1=>Ak As 1 [] O (An As 1 [] O (Am (An As 1 [] O (A1 (BZ (α:=Nat×Int) (fun(i,m)=>⟨21,mk [(1,.ptr b1 0),(3,.p (I m)),(4,.p (I (i:Int)))],[.box b1 [.p (I tk),.p (I ti),.p (.str tn),.p (.lst (List.map Bz tl)),.p (.lst (Ay ts))]],[]⟩) (fun(i,m)=>ts.length - i) (fun(i,m)=>i≤ts.length∧(G2 m (ts.drop i)=G2 1 ts)) ⟨0,1⟩ Ai ?_ ?_)))))))
  ·exact BM ⟨we O,we O,we O,Aj⟩ (leH (is:=[0]) O (wl (oe O) (C8)))
  rintro⟨i,m⟩ hC
  try simp only at hC
  obtain⟨hi,hC⟩:=hC;refine Am (Ar (Ap As 3 [0] O (Al O (BB BP O (A8 _)) (Ak As 1 [] O (Ao O (fun c=>?_) (fun c=>?_))))))
  ·(try simp only[sd,se] at c);refine Aq (Am (A1 (Au (Ap As 4 [0] O ?_))));obtain⟨x,hx⟩:=A0 (l:=ts) (i:=i) Ah;refine Al O (A3 BP O O Ah (Be hx) (A7 _)) (Al O (BL Bf O (A7 _)) (Al O (BA O O (ih x (by have:=Bw hx;omega) (CY h2.2.2.2.2.1 hx)) O) (Al O (DJ O O) (Ak As 1 [] O (Au (Ak As 3 [] O ?_))))));refine⟨⟨i+1,wr (m+FX x)⟩,AN,⟨by omega,by rw[←hC,CH hx];rfl⟩,BM ⟨we rfl,we rfl,we rfl,trivial⟩ (leH (is:=[0]) rfl (wl (oe rfl) (C8)))⟩
  (try simp only[sd,se] at c);refine Bc (An As 2 [] O (Av (⟨O,_,_,⟨_,_,O,O,O⟩,(List.nil_sublist _),?_⟩)))
  all_goals exact⟨pI (by rw[show FX (.mk tk ti tn tl ts)=G2 1 ts from rfl,←hC,show i=ts.length by omega,List.drop_length];rfl),rfl⟩
theorem T9:∀(n:Nat) (t:Tm),(size t≤n)→(Nd t)→Df Tryz.prog 51 [.agg ((BQ t).map .p)] (.p (I (De t))):=by
 intro n
 induction n with
 | zero=>intro t h;cases t;simp[size] at h
 | succ n ih =>
  intro t h1 h2;obtain⟨tk,ti,tn,tl,ts⟩:=t;simp only[size] at h1;simp only[Nd,Cr] at h2;refine Aw Tryz.func51 O dB (n:=22) O O (Ar (A5 O (BF O) fun b1=>Ak As 1 [] O (An As 1 [] O (Am (An As 1 [] O (A1 (BZ (α:=Nat×Int) (fun(i,m)=>⟨22,mk [(1,.ptr b1 0),(3,.p (I m)),(4,.p (I (i:Int)))],[.box b1 [.p (I tk),.p (I ti),.p (.str tn),.p (.lst (List.map Bz tl)),.p (.lst (Ay ts))]],[]⟩) (fun(i,m)=>ts.length - i) (fun(i,m)=>i≤ts.length∧(GH m (ts.drop i)=GH 0 ts)) ⟨0,0⟩ Ai ?_ ?_)))))))
  ·exact BM ⟨we O,we O,we O,Aj⟩ (leH (is:=[0]) O (wl (oe O) (C8)))
  rintro⟨i,m⟩ hC
  try simp only at hC
  obtain⟨hi,hC⟩:=hC;refine Am (Ar (Ap As 3 [0] O (Al O (BB BP O (A8 _)) (Ak As 1 [] O (Ao O (fun c=>?_) (fun c=>?_))))))
  ·(try simp only[sd,se] at c);refine Aq (Am (A1 (Au (Ap As 4 [0] O ?_))));obtain⟨x,hx⟩:=A0 (l:=ts) (i:=i) Ah;refine Al O (A3 BP O O Ah (Be hx) (A7 _)) (Al O (BL Bf O (A7 _)) (Al O (BA O O (ih x (by have:=Bw hx;omega) (CY h2.2.2.2.2.1 hx)) O) (Al O (LN O O) (Ak As 1 [] O (Au (Ak As 3 [] O ?_))))));refine⟨⟨i+1,max m (De x)⟩,AN,⟨by omega,by rw[←hC,CH hx];rfl⟩,BM ⟨we rfl,we rfl,we rfl,trivial⟩ (leH (is:=[0]) rfl (wl (oe rfl) (C8)))⟩
  (try simp only[sd,se] at c);refine Bc (Ar (Bu O (Al O (DJ O O) (Ak As 1 [] O (Av (⟨O,_,_,⟨_,_,O,O,O⟩,(List.nil_sublist _),?_⟩))))))
  all_goals exact⟨pI (by rw[show De (.mk tk ti tn tl ts)=wr (GH 0 ts+1) from rfl,←hC,show i=ts.length by omega,List.drop_length];rfl),rfl⟩
theorem Uq:∀(b:Nat) (er nd e:Int),Bb Tryz.prog 145 [.ptr b 0,.p (I e)] [.box b [.p (I er),.p (I nd)]] (Dz (.tup []) [.box b [.p (I (Gw er e)),.p (I nd)]]):=by
 intro b er nd e;refine Aw Tryz.func145 O bA (n:=13) O O (An As 5 [0] O (Ao O (fun c=>?_) (fun c=>?_)))
 ·(try simp only[sd,se] at c);refine Au (Ak As 5 [0,0] O ⟨O,_,_,O,(CM (is:=[0]) O),?_⟩);refine⟨O,?_⟩;show ([.box b [.p (I e),.p (I nd)]]:List Ax)=_;simp[Gw,c]
 (try simp only[sd,se] at c);refine Aq ⟨O,_,_,O,(CM (is:=[0]) O),?_⟩;refine⟨O,?_⟩;show ([.box b [.p (I er),.p (I nd)]]:List Ax)=_;simp[Gw,c]
theorem Mz:∀(b:Nat) (er nd i:Int),Bb Tryz.prog 146 [.ptr b 0,.p (I i)] [.box b [.p (I er),.p (I nd)]] (Dz (.agg ((BQ (Cn i)).map .p)) [.box b [.p (I (KW er i)),.p (I nd)]]):=by
 intro b er nd i;refine Aw Tryz.func146 O cr (n:=11) O O (Ar (A5 O (Az Bj O) fun b4=>BR O (Am (An As 2 [] O (Ao O (fun c=>?_) (fun c=>?_))))))
 ·(try simp only[sd,se] at c);refine Au (Bu O (Al O (Bq [1] O (.inl ⟨O,O,O⟩) (Uq b er nd 24) ⟨_,_,O,O,O⟩ Ag O (.inl O)) (BR O (An As 3 [0,0] O (BK (Bm (i:=0) O) (Av (⟨O,_,_,⟨_,_,O,(BD (i:=0) Bf O O O),O⟩,(CM (is:=[1]) O),?_⟩)))))));refine⟨O,?_⟩;show ([.box b [.p (I (Gw er 24)),.p (I nd)]]:List Ax)=_;simp[KW,show i > 65535 by omega]
 (try simp only[sd,se] at c);refine Aq (An As 3 [0,0] O (BK (Bm (i:=0) O) (Av (⟨O,_,_,⟨_,_,O,(BD (i:=0) Bf O O O),O⟩,(CM (is:=[1]) O),?_⟩))));refine⟨O,?_⟩;show ([.box b [.p (I er),.p (I nd)]]:List Ax)=_;simp[KW,show ¬i > 65535 by omega]
theorem _root_.Go.AD {α:Prop}(h:α:=by simp only[A8,List.length_map,List.length_cons,List.length_nil,List.nil_append,List.length_append];omega):α:=h
theorem Su:∀(n:Nat) (t:Tm) (b:Nat) (by' fr d er nd:Int),(size t≤n)→(Nd t)→(0≤d)→(d+n<2 ^ 62)→Bb Tryz.prog 121 [.ptr b 0,.agg ((BQ t).map .p),.p (I by'),.p (I fr),.p (I d)] [.box b [.p (I er),.p (I nd)]] (Dz (.agg ((BQ ((B4 by' fr d er t).1)).map .p)) [.box b [.p (I ((B4 by' fr d er t).2)),.p (I nd)]]):=by
 intro n
 induction n with
 | zero=>intro t b by' fr d er nd h;cases t;simp[size] at h
 | succ n ih =>
  intro t b by' fr d er nd h1 h2 h3 h4
  obtain⟨tk,ti,tn,tl,ts⟩:=t;simp only[size] at h1;simp only[Nd,Cr] at h2;refine Aw Tryz.func121 O dv (n:=68) O O (Ar (A5 O (BF O) fun b6=>A5 O (Az Bj O) fun b10=>BR O (Am (An As 3 [1] O (Ao O (fun c=>?_) (fun c=>?_))))))
  ·(try simp only[sd,se] at c);refine Am (Ar (Ap As 4 [1] O (Al O (DJ O O) (Ak As 1 [] O (Ao O (fun c1=>?_) (fun c1=>?_))))))
   ·(try simp only[sd,se] at c1);refine An As 2 [1,0,0] O (Av (⟨O,_,_,⟨_,_,O,(BD (i:=0) Bf O O O),O⟩,(CM (is:=[2]) O),?_⟩));refine⟨by show (.agg [.p (I tk),.p (I ti),.p (.str tn),.p (.lst (List.map Bz tl)),.p (.lst (Ay ts))]:AV)=_;rw[B4,if_pos c,if_pos c1];rfl,?_⟩;show ([.box b [.p (I er),.p (I nd)]]:List Ax)=_;rw[B4,if_pos c,if_pos c1]
   (try simp only[sd,se] at c1);refine Aq (Am (Ar (Ap As 3 [1] O (Al O (DJ O O) (Ap As 2 [] O (Al O (DJ O O) (Ak As 1 [] O (Ao O (fun c2=>?_) (fun c2=>?_)))))))))
   ·(try simp only[sd,se] at c2);refine Ar (Bu O (Al O (Bq [2] O (.inl ⟨O,O,O⟩) (Uq b er nd 24) ⟨_,_,O,O,O⟩ Ag O (.inl O)) (BR O (An As 2 [1,0,0] O (Av (⟨O,_,_,⟨_,_,O,(BD (i:=0) Bf O O O),O⟩,(CM (is:=[2]) O),?_⟩))))));refine⟨by show (.agg [.p (I tk),.p (I ti),.p (.str tn),.p (.lst (List.map Bz tl)),.p (.lst (Ay ts))]:AV)=_;rw[B4,if_pos c,if_neg Ah,if_pos c2];rfl,?_⟩;show ([.box b [.p (I (Gw er 24)),.p (I nd)]]:List Ax)=_;rw[B4,if_pos c,if_neg Ah,if_pos c2]
   (try simp only[sd,se] at c2);refine Aq (Ar (Ap As 4 [1] O (Al O (DJ O O) (Al O (Bq [2] O (.inl ⟨O,O,O⟩) (Mz b er nd (wr ((ti:Int)+(by':Int)))) ⟨_,_,rfl,rfl,rfl⟩ Ag rfl (.inl rfl)) (Ak As 1 [0,1] O (Av (⟨O,_,_,⟨_,_,O,(BD (i:=0) Bf O O Aa),O⟩,(CM (is:=[2]) O),?_⟩)))))));refine⟨by show (.agg ((BQ (Cn (wr ((ti:Int)+(by':Int))))).map .p):AV)=_;rw[B4,if_pos c,if_neg Ah,if_neg Ah],?_⟩;show ([.box b [.p (I (KW er (wr ((ti:Int)+(by':Int))))),.p (I nd)]]:List Ax)=_;rw[B4,if_pos c,if_neg Ah,if_neg Ah]
  (try simp only[sd,se] at c);refine Aq (An As 1 [] O (Am (An As 1 [] O (A1 (BK (EM (t:=11) (sz:=5) O) (BZ (α:=Nat×List Tm×Int×Option Nat×Nat) (fun(i,ys,e,o,cp)=>⟨68,mk [(0,.ptr b 0),(2,.p (I by')),(3,.p (I fr)),(4,.p (I d)),(6,.ptr b6 0),(10,.ptr b10 0),(11,.vs o (Ay ys).length cp),(12,.p (I (i:Int)))],[.vec o 5 (Ay ys) cp,.box b10 [.p (I 0),.p (I 0),.p (.str ⟨#[]⟩),.p (.nils),.p (.nils)],.box b6 [.p (I tk),.p (I ti),.p (.str tn),.p (.lst (List.map Bz tl)),.p (.lst (Ay ts))],.box b [.p (I e),.p (I nd)]],[]⟩) (fun(i,ys,e,o,cp)=>ts.length - i) (fun(i,ys,e,o,cp)=>i≤ts.length∧(ys.length=i∧(ys++(Ce by' fr tk d i e (ts.drop i)).1,(Ce by' fr tk d i e (ts.drop i)).2)=Ce by' fr tk d 0 er ts)) ⟨0,[],er,none,0⟩ Ai ?_ ?_))))))
  ·exact BM ⟨we O,we O,we O,we O,we O,we O,we O,we O,Aj⟩ (leH (is:=[0,1,2,3]) O (wl (oe O) (wl (oe O) (wl (oe O) (wl (oe O) (C8))))))
  rintro⟨i,ys,e,o,cp⟩ hC
  try simp only at hC
  obtain⟨hi,hl,hC⟩:=hC;refine Am (Ar (Ap As 3 [2] O (Al O (BB BP O (A8 _)) (Ak As 1 [] O (Ao O (fun c1=>?_) (fun c1=>?_))))))
  ·(try simp only[sd,se] at c1);refine Aq (Am (A1 (By (fun k=>Nat.beq k 17) Eg (BU As 5 [2] O ?_))));obtain⟨x,hx⟩:=A0 (l:=ts) (i:=i) Ah;refine BG O (fun _=>A3 BP O O Ah (Be hx) (A7 _)) Aj (BU As 7 [2] O (BG O (fun _=>BA O O (Pa tk (i:Int)) O) Aj (BG O (fun _=>IP O O (by have:=CE tk i;omega) (by have:=CE tk i;omega)) Aj (Eo O O (Bq [3] O (.inl ⟨O,O,O⟩) (ih x b by' fr ((d:Int)+(below tk (i:Int):Int)) e nd (by have:=Bw hx;omega) (CY h2.2.2.2.2.1 hx) (by have:=CE tk i;omega) (by have:=CE tk i;omega)) ⟨_,_,rfl,rfl,rfl⟩ Ag rfl (.inl rfl)) AB trivial ?_))));generalize hz:(B4 by' fr ((d:Int)+(below tk (i:Int):Int)) e x).1=z;obtain⟨zk,zi,zn,zl,zs⟩:=z;refine BG O (fun _=>BT BP Bj O O O O O) Aj (KU [] O O (Cb (i:=0) (rows':=Ay [(.mk zk zi zn zl zs:Tm)]) BP BP Bj O O O O O O (CD _) AD (Nn ys [(.mk zk zi zn zl zs:Tm)])) Ad fun o1 cp1=>⟨AB,Aj,?_⟩);refine B1 As 1 [] O (Au (Ak As 3 [] O ?_));refine⟨⟨i+1,ys++[(B4 by' fr (d+below tk i) e x).1],(B4 by' fr (d+below tk i) e x).2,o1,cp1⟩,AN,⟨by omega,⟨by simp[hl],by rw[←hC,CH hx];simp[Ce]⟩⟩,BM ⟨we rfl,we rfl,we rfl,we rfl,we rfl,we rfl,we (H6 (ys++[(.mk zk zi zn zl zs:Tm)]) (by rw[hz])),we rfl,trivial⟩ (leH (is:=[0,1,2,3]) rfl (wl (EI (ys++[(.mk zk zi zn zl zs:Tm)]) (by rw[hz])) (wl (oe rfl) (wl (oe rfl) (wl (oe rfl) (C8))))))⟩
  (try simp only[sd,se] at c1);refine Bc (Ar (Ap As 2 [] O (CJ (CX (i:=0) [11,65] O (DV ⟨O,O,Aj⟩)) (Ak As 1 [1,0] O (An As 2 [1,0,0] O (Av (⟨O,_,_,⟨_,_,O,(BD (i:=0) Bf O O O),O⟩,(CM (is:=[2]) O),?_⟩)))))));refine⟨by show (.agg [.p (I tk),.p (I ti),.p (.str tn),.p (.lst (List.map Bz tl)),.p (.lst (Ay ys))]:AV)=_;rw[B4,if_neg c];rw[show i=ts.length by omega,List.drop_length] at hC;rw[←hC];simp[Ce];rfl,?_⟩;show ([.box b [.p (I e),.p (I nd)]]:List Ax)=_;rw[B4,if_neg c];rw[show i=ts.length by omega,List.drop_length] at hC;rw[←hC];simp[Ce]
theorem W0:∀(n:Nat) (t:Tm) (vs:List Tm) (b:Nat) (d er nd:Int),(size t≤n)→(Nd t)→(Ej vs)→(BC vs+d+n<2 ^ 62)→(0≤d)→Bb Tryz.prog 130 [.ptr b 0,.agg ((BQ t).map .p),.p (.lst (Ay vs)),.p (I d)] [.box b [.p (I er),.p (I nd)]] (Dz (.agg ((BQ ((Bh vs d er nd t).1)).map .p)) [.box b [.p (I ((Bh vs d er nd t).2.1)),.p (I ((Bh vs d er nd t).2.2))]]):=by
 intro n
 induction n with
 | zero=>intro t vs b d er nd h;cases t;simp[size] at h
 | succ n ih =>
  intro t vs b d er nd h1 h2 h3 h4 h5;obtain⟨tk,ti,tn,tl,ts⟩:=t;simp only[size] at h1;simp only[Nd,Gy,Cr] at h2;have hvl:=DK vs;refine Aw Tryz.func130 O a8 (n:=105) O O (Ar (A5 O (BF O) fun b5=>A5 O (Az Bj O) fun b8=>BR O (Am (An As 5 [2] O (Ao O (fun c=>?_) (fun c=>?_))))))
  ·(try simp only[sd,se] at c);refine An As 2 [1,0,0] O (Av (⟨O,_,_,⟨_,_,O,(BD (i:=0) Bf O O O),O⟩,(CM (is:=[2]) O),?_⟩));refine⟨by show (.agg [.p (I tk),.p (I ti),.p (.str tn),.p (.lst (List.map Bz tl)),.p (.lst (Ay ts))]:AV)=_;rw[Bh,if_pos Ah];rfl,?_⟩;show ([.box b [.p (I er),.p (I nd)]]:List Ax)=_;rw[Bh,if_pos Ah]
  (try simp only[sd,se] at c);refine Aq (Am (Am (BO [0,2,3,5,8] 35 (fun y=>y= .p (.bool ((((tk:Int)==(0:Int))&&(decide ((ti:Int)≥(d:Int))))&&(decide (((ti:Int) - (d:Int):Int)<((vs.length:Nat):Int)))))) ?_ ?_)))
  ·refine Au (Ap As 4 [1] O (BE 21 O (fun g=>?_) (fun g=>?_)))
   ·(try simp only[sd,se] at g);refine Ap As 6 [1] O (BE 27 O (fun g1=>?_) (fun g1=>?_))
    ·(try simp only[sd,se] at g1);exact Ap As 5 [1] O (BI O (BB BP O (A8 _)) (Ak As 2 [] O (⟨O,O,AG,AF,⟨O,O,O,O,O,Aj⟩⟩)))
    (try simp only[sd,se] at g1);exact Ak As 8 [] O (⟨O,O,AG,AF,⟨O,O,O,O,O,Aj⟩⟩)
   (try simp only[sd,se] at g);exact Ak As 14 [] O (⟨O,O,AG,AF,⟨O,O,O,O,O,Aj⟩⟩)
  rintro _ rfl;refine Ao O (fun c1=>?_) (fun c1=>?_)
  ·(try simp only[sd,se] at c1);refine Ar (Ap As 5 [1] O ?_);obtain⟨x,hx⟩:=A0 (l:=vs) (i:=((ti:Int) - (d:Int):Int).toNat) Ah;refine Al O (A3 BP O O Ah (Be hx) (A7 _)) (Al O (BL Bf O (A7 _)) (A5 O (Az Bj O) fun b9=>Ak As 1 [0,1] O (Am (By (fun k=>false) Eg (BU As 5 [3,0] O (BG O (fun _=>BA O O (Xs _ x (Nat.le_refl _) (CY h3 hx)) O) Aj (BG O (fun _=>DJ O O) Aj (B1 As 3 [3,0] O (Ar (Ap As 3 [0] O (Al O (Bq [3] O (.inl ⟨O,O,O⟩) (Su _ x b d 0 0 er (wr ((nd:Int)+(FX x:Int))) (Nat.le_refl _) (CY h3 hx) Ah (by have:=Bw hx;omega)) ⟨_,_,O,O,O⟩ Ag O (.inl O)) (Ak As 1 [1,1] O (Av (⟨O,_,_,⟨_,_,O,(BD (i:=1) Bf O O Aa),O⟩,(CM (is:=[3]) O),?_⟩))))))))))))));refine⟨by show (.agg ((BQ ((B4 d 0 0 er x).1)).map .p):AV)=_;rw[Bh,if_neg Ah,if_pos Ah,LJ hx],?_⟩;show ([.box b [.p (I ((B4 d 0 0 er x).2)),.p (I (wr ((nd:Int)+(FX x:Int))))]]:List Ax)=_;rw[Bh,if_neg Ah,if_pos Ah,LJ hx]
  (try simp only[sd,se] at c1);refine Aq (Ar (Ap As 4 [2] O (Al O (DJ O O) (Ak As 3 [2,0] O (Am (An As 3 [1] O (Ao O (fun c2=>?_) (fun c2=>?_))))))))
  ·(try simp only[sd,se] at c2);refine Am (An As 4 [1] O (Ao O (fun c3=>?_) (fun c3=>?_)))
   ·(try simp only[sd,se] at c3);refine Ar (Ap As 4 [1] O (Al O (BB BP O (A8 _)) (Al O (FF O O) (Al O (Bq [2] O (.inl ⟨O,O,O⟩) (Mz b er (wr ((nd:Int)+(1:Int))) (wr ((ti:Int) - ((vs.length:Nat):Int)))) ⟨_,_,O,O,O⟩ Ag O (.inl O)) (Ak As 1 [0,1] O (Av (⟨O,_,_,⟨_,_,O,(BD (i:=0) Bf O O Aa),O⟩,(CM (is:=[2]) O),?_⟩)))))));refine⟨by show (.agg ((BQ (Cn (wr ((ti:Int) - ((vs.length:Nat):Int))))).map .p):AV)=_;rw[Bh,if_neg Ah,if_neg Ah,if_pos Ah,if_pos Ah],?_⟩;show ([.box b [.p (I (KW er (wr ((ti:Int) - ((vs.length:Nat):Int))))),.p (I (wr ((nd:Int)+(1:Int))))]]:List Ax)=_;rw[Bh,if_neg Ah,if_neg Ah,if_pos Ah,if_pos Ah]
   (try simp only[sd,se] at c3);refine Aq (An As 2 [1,0,0] O (Av (⟨O,_,_,⟨_,_,O,(BD (i:=0) Bf O O O),O⟩,(CM (is:=[2]) O),?_⟩)));refine⟨by show (.agg [.p (I tk),.p (I ti),.p (.str tn),.p (.lst (List.map Bz tl)),.p (.lst (Ay ts))]:AV)=_;rw[Bh,if_neg Ah,if_neg Ah,if_pos Ah,if_neg Ah];rfl,?_⟩;show ([.box b [.p (I er),.p (I (wr ((nd:Int)+(1:Int))))]]:List Ax)=_;rw[Bh,if_neg Ah,if_neg Ah,if_pos Ah,if_neg Ah]
  (try simp only[sd,se] at c2);refine Aq (An As 1 [] O (Am (An As 1 [] O (A1 (BK (EM (t:=10) (sz:=5) O) (BZ (α:=Nat×List Tm×Int×Int×Option Nat×Nat) (fun(i,ys,e,m,o,cp)=>⟨105,mk [(0,.ptr b 0),(2,.p (.lst (Ay vs))),(3,.p (I d)),(5,.ptr b5 0),(8,.ptr b8 0),(10,.vs o (Ay ys).length cp),(11,.p (I (i:Int)))],[.vec o 5 (Ay ys) cp,.box b8 [.p (I 0),.p (I 0),.p (.str ⟨#[]⟩),.p (.nils),.p (.nils)],.box b5 [.p (I tk),.p (I ti),.p (.str tn),.p (.lst (List.map Bz tl)),.p (.lst (Ay ts))],.box b [.p (I e),.p (I m)]],[]⟩) (fun(i,ys,e,m,o,cp)=>ts.length - i) (fun(i,ys,e,m,o,cp)=>i≤ts.length∧(ys.length=i∧(ys++(B6 vs tk d i e m (ts.drop i)).1,(B6 vs tk d i e m (ts.drop i)).2)=B6 vs tk d 0 er (wr (nd+1)) ts)) ⟨0,[],er,wr (nd+1),none,0⟩ Ai ?_ ?_))))))
  ·exact BM ⟨we O,we O,we O,we O,we O,we O,we O,Aj⟩ (leH (is:=[0,1,2,3]) O (wl (oe O) (wl (oe O) (wl (oe O) (wl (oe O) (C8))))))
  rintro⟨i,ys,e,m,o,cp⟩ hC
  try simp only at hC
  obtain⟨hi,hl,hC⟩:=hC;refine Am (Ar (Ap As 3 [2] O (Al O (BB BP O (A8 _)) (Ak As 1 [] O (Ao O (fun c3=>?_) (fun c3=>?_))))))
  ·(try simp only[sd,se] at c3);refine Aq (Am (A1 (By (fun k=>Nat.beq k 16) Eg (BU As 5 [2] O ?_))));obtain⟨x,hx⟩:=A0 (l:=ts) (i:=i) Ah;refine BG O (fun _=>A3 BP O O Ah (Be hx) (A7 _)) Aj (BU As 6 [2] O (BG O (fun _=>BA O O (Pa tk (i:Int)) O) Aj (BG O (fun _=>IP O O (by have:=CE tk i;omega) (by have:=CE tk i;omega)) Aj (Eo O O (Bq [3] O (.inl ⟨O,O,O⟩) (ih x vs b ((d:Int)+(below tk (i:Int):Int)) e m (by have:=Bw hx;omega) (CY h2.2.2.2.2.1 hx) h3 (by have:=CE tk i;omega) (by have:=CE tk i;omega)) ⟨_,_,O,O,O⟩ Ag O (.inl O)) AB Aj ?_))));generalize hz:(Bh vs ((d:Int)+(below tk (i:Int):Int)) e m x).1=z;obtain⟨zk,zi,zn,zl,zs⟩:=z;refine BG O (fun _=>BT BP Bj O O O O O) Aj (KU [] O O (Cb (i:=0) (rows':=Ay [(.mk zk zi zn zl zs:Tm)]) BP BP Bj O O O O O O (CD _) AD (Nn ys [(.mk zk zi zn zl zs:Tm)])) Ad fun o1 cp1=>⟨AB,Aj,?_⟩);refine B1 As 1 [] O (Au (Ak As 3 [] O ?_));refine⟨⟨i+1,ys++[(Bh vs (d+below tk i) e m x).1],(Bh vs (d+below tk i) e m x).2.1,(Bh vs (d+below tk i) e m x).2.2,o1,cp1⟩,AN,⟨by omega,⟨by simp[hl],by rw[←hC,CH hx];simp[B6]⟩⟩,BM ⟨we rfl,we rfl,we rfl,we rfl,we rfl,we (H6 (ys++[(.mk zk zi zn zl zs:Tm)]) (by rw[hz])),we rfl,trivial⟩ (leH (is:=[0,1,2,3]) rfl (wl (EI (ys++[(.mk zk zi zn zl zs:Tm)]) (by rw[hz])) (wl (oe rfl) (wl (oe rfl) (wl (oe rfl) (C8))))))⟩
  (try simp only[sd,se] at c3);refine Bc (Ar (Ap As 2 [] O (CJ (CX (i:=0) [10,102] O (DV ⟨O,O,Aj⟩)) (Ak As 1 [1,0] O (An As 2 [1,0,0] O (Av (⟨O,_,_,⟨_,_,O,(BD (i:=0) Bf O O O),O⟩,(CM (is:=[2]) O),?_⟩)))))));refine⟨by show (.agg [.p (I tk),.p (I ti),.p (.str tn),.p (.lst (List.map Bz tl)),.p (.lst (Ay ys))]:AV)=_;rw[Bh,if_neg Ah,if_neg Ah,if_neg Ah];rw[show i=ts.length by omega,List.drop_length] at hC;rw[←hC];simp[B6];rfl,?_⟩;show ([.box b [.p (I e),.p (I m)]]:List Ax)=_;rw[Bh,if_neg Ah,if_neg Ah,if_neg Ah];rw[show i=ts.length by omega,List.drop_length] at hC;rw[←hC];simp[B6]
theorem UT:∀(t:Tm) (vs:List Tm) (d:Int),(size t<2 ^ 60)→(Nd t)→(Ej vs)→(BC vs<2 ^ 60)→(0≤d)→Df Tryz.prog 105 [.agg ((BQ t).map .p),.p (.lst (Ay vs)),.p (I d)] (.tup [.agg ((BQ ((Cz t vs d).1)).map .p),.p (I ((Cz t vs d).2))]):=by
 intro t vs d h1 h2 h3 h4 h5;generalize hr:Bh vs (min d 65536) 0 0 t=r;refine Aw Tryz.func105 O dF (n:=42) O O (Ar (A5 O (BF O) fun b3=>A5 O (Az Bj O) fun b6=>Ak As 1 [] O (Am (An As 2 [] O (Ao O (fun c=>?_) (fun c=>?_))))))
 ·(try simp only[sd,se] at c);exact An As 3 [0,0] O (BK (Bm (i:=0) O) (Av (absurd c Ah)))
 (try simp only[sd,se] at c);refine Aq (Ar (Al O (B5 YG Yf O) (A5 O (BF O) fun b14=>Ak As 1 [] O (Ar (Ap As 4 [2] O (Al O (Sn O O) (Al O (Bq [0] O (.inl ⟨O,O,O⟩) (W0 _ t vs b14 (min (d:Int) (65536:Int)) 0 0 (Nat.le_refl _) h2 h3 Ah Ah) ⟨_,_,O,O,O⟩ Ag O (.inl O)) (A5 O (Az Bj O) fun b9=>Ak As 1 [0,1] O (Am (An As 5 [1] O (Ao O (fun c1=>?_) (fun c1=>?_))))))))))))
 ·(try simp only[sd,se] at c1);refine An As 3 [2,0] O (BK (Bm (i:=2) O) (Av (⟨O,_,_,⟨_,_,O,(BD (i:=2) Bf O O O),⟨_,_,O,O,O⟩⟩,(List.nil_sublist _),?_⟩)));unfold Cz;rw[if_pos (by simpa using c1)]
  all_goals exact⟨rfl,rfl⟩
 (try simp only[sd,se] at c1);refine Aq (Am (An As 5 [1] O (Ao O (fun c2=>?_) (fun c2=>?_))))
 ·(try simp only[sd,se] at c2);refine Am (By (fun k=>false) Eg (B1 As 7 [1,2,0] O (BK (Bm (i:=2) O) (Av (⟨O,_,_,⟨_,_,O,(BD (i:=2) Bf O O O),⟨_,_,O,O,O⟩⟩,(List.nil_sublist _),?_⟩)))));unfold Cz;rw[if_neg Ah,if_pos c2]
  all_goals exact⟨rfl,rfl⟩
 (try simp only[sd,se] at c2);refine Aq (Am (Ar (Al O (Ba (i:=0) Bf O O Aa) (Al O (BA O O (T9 _ ((Bh vs (min (d:Int) (65536:Int)) 0 0 t).1) (Nat.le_refl _) (KQ t vs _ _ _ h2 h3)) O) (Ak As 1 [] O (Ao O (fun c3=>?_) (fun c3=>?_)))))))
 ·(try simp only[sd,se] at c3);refine An As 3 [2,0] O (BK (Bm (i:=2) O) (Av (⟨O,_,_,⟨_,_,O,(BD (i:=2) Bf O O O),⟨_,_,O,O,O⟩⟩,(List.nil_sublist _),?_⟩)));unfold Cz;rw[if_neg Ah,if_neg (by simpa using c2),if_pos c3]
  all_goals exact⟨rfl,rfl⟩
 (try simp only[sd,se] at c3);refine Aq (An As 3 [0,2,1] O (Av (⟨O,_,_,⟨_,_,O,(BD (i:=2) Bf O O Aa),⟨_,_,O,O,O⟩⟩,(List.nil_sublist _),?_⟩)));unfold Cz;rw[if_neg Ah,if_neg (by simpa using c2),if_neg Ah]
 all_goals exact⟨rfl,rfl⟩
theorem V4:∀(t:Tm) (vs:List Tm),(size t<2 ^ 60)→(Nd t)→(Ej vs)→(BC vs<2 ^ 60)→Df Tryz.prog 59 [.agg ((BQ t).map .p),.p (.lst (Ay vs))] (.tup [.agg ((BQ ((Cz t vs 0).1)).map .p),.p (I ((Cz t vs 0).2))]):=by
 intro t vs h1 h2 h3 h4;refine Aw Tryz.func59 O gI (n:=11) O O (Ar (A5 O (BF O) fun b2=>A5 O (Az Bj O) fun b4=>Ak As 1 [] O (Ar (Ap As 2 [1] O (Al O (BA O O (UT t vs 0 h1 h2 h3 h4 Ah) O) (Ak As 4 [0,1] O (Av (⟨O,_,_,⟨_,_,O,(BD (i:=0) Bf O O Aa),⟨_,_,O,O,O⟩⟩,(List.nil_sublist _),?_⟩))))))))
 all_goals exact⟨rfl,rfl⟩
theorem Xd:∀{σ:Type}(st:σ→Int→Tm→σ×Bool) (Inv:Nat→σ→Prop) (HP:Bool→σ→List Ax→Prop) (l b2 b3 b4:Nat) (hI:∀m s d t,Inv (m+1) s→Inv m (st s d t).1) (hy:∀m s d t T,Nd t→Inv (m+1) s→HP true s T→Em Tryz.prog l [.p (I d),TV t] T (Jw (.p (.bool (st s d t).2)) (HP (st s d t).2 (st s d t).1))) (n:Nat) (t:Tm) (d:Int) (s:σ) (T0:List Ax) (m:Nat),size t≤n→Nd t→0≤d→d+n<4611686018427387904→Inv (m+size t) s→HP true s T0→Bb Tryz.prog 144 [TV t,.p (I d),.ptr b2 0,.ptr b3 0,.ptr b4 0] (.box b2 [.fn (.yield l) [] []]:: .box b3 KT:: .box b4 [.fn (.func 144) [] [.ptr b2 0,.ptr b3 0,.ptr b4 0]]::T0) (Jw (.p (.bool (Cy st t d s).2)) (fun H=>∃T,HP (Cy st t d s).2 (Cy st t d s).1 T∧H= .box b2 [.fn (.yield l) [] []]:: .box b3 KT:: .box b4 [.fn (.func 144) [] [.ptr b2 0,.ptr b3 0,.ptr b4 0]]::T)):=by
 intro σ st Inv HP l b2 b3 b4 hI hy n
 induction n with
 | zero=>intro t d s T0 m h;cases t;simp[size] at h
 | succ n ih =>
  intro t d s T0 m h1 h2 h3 h4 h5 h6;obtain⟨tk,ti,tn,tl,ts⟩:=t;have h2':=h2;simp only[size] at h1 h5;simp only[Nd,Gy,Cr] at h2;refine Aw Tryz.func144 O eL (n:=50) O O (Ar (A5 O (BF O) fun b5=>Ak As 1 [] O (Am (Ar (Ap As 3 [1,0] O (Es [_,_,_,_] O O O O (hy (m+BC ts) _ _ _ _ h2' (by rw[Nat.add_assoc,Nat.add_comm (BC ts)];exact h5) h6) O ?_ (fun _ _ h=>h.elim)))))));rintro _ T ⟨rfl,hT⟩;refine Ak As 1 [] O (Ao O (fun c=>?_) (fun c=>?_))
  ·(try simp only[sd,se] at c);refine An As 1 [] O (Av (⟨O,_,_,⟨_,_,O,O,O⟩,(D4 [1,2,3] [_,_,_,_] O),?_⟩));rw[Kw c];rw[c] at hT;exact⟨O,_,hT,O⟩
  (try simp only[sd,se] at c);rw[c] at hT;refine Aq (An As 1 [] O (Am (Am (BO [1,3,4,5,8] 24 (fun y=>y= .p (.bool ((decide ((tk:Int)≥(0:Int)))&&(decide ((tk:Int)<(13:Int)))))) ?_ ?_))))
  ·refine Au (Ap As 4 [0] O (BE 20 O (fun g=>?_) (fun g=>?_)))
   ·(try simp only[sd,se] at g);exact Ak As 4 [0] O (⟨O,O,AG,AF,⟨O,O,O,O,O,Aj⟩⟩)
   (try simp only[sd,se] at g);exact Ak As 4 [] O (⟨O,O,AG,AF,⟨O,O,O,O,O,Aj⟩⟩)
  rintro _ rfl;refine Ao O (fun c1=>?_) (fun c1=>?_)
  ·(try simp only[sd,se] at c1);refine Au (Ap As 2 [0] O (Al O (Mw YX Ys O O Ah Ah) (Al O (A2 br O O) (Al O (Bd (i:=2) FW O O (Ug Ah)) (Ak As 1 [] O (Am (Ar (Ap As 2 [0] O (Al O (BB BP O (A8 _)) (Ak As 1 [] O (A1 ?_)))))))))));refine BZ (α:=Nat×σ×List Ax) (fun(i,q,U)=>⟨50,mk [(1,.p (I d)),(4,.ptr b4 0),(8,.p (I (GJ tk))),(31,.p (.lst (Ay ts))),(32,.p (I (ts.length:Nat))),(33,.p (I (i:Int)))],(.box b2 [.fn (.yield l) [] []]:: .box b3 KT:: .box b4 [.fn (.func 144) [] [.ptr b2 0,.ptr b3 0,.ptr b4 0]]::U),[]⟩) (fun(i,q,U)=>ts.length - i) (fun(i,q,U)=>i≤ts.length∧(C7 st tk d i q (ts.drop i)=C7 st tk d 0 (st s d (.mk tk ti tn tl ts)).1 ts∧Inv (m+BC (ts.drop i)) q∧HP true q U)) ⟨0,(st s d (.mk tk ti tn tl ts)).1,T⟩ (⟨by omega,by simp,by simpa using hI _ _ _ _ (by rw[Nat.add_assoc,Nat.add_comm (BC ts)];exact h5),by assumption⟩) ?_ ?_
   ·exact BM ⟨we O,we O,we O,we O,we O,we O,Aj⟩ (Qr [1,2,3] [_,_,_,_] (l':=[_,_,_]) O (wl (oe O) (wl (oe O) (wl (oe O) (C8)))))
   rintro⟨i,q,U⟩ hC
   try simp only at hC
   obtain⟨hi,hC,hJ,hK⟩:=hC;refine An As 1 [] O (Am (Ao O (fun c2=>?_) (fun c2=>?_)))
   ·(try simp only[sd,se] at c2);refine Aq (Am (A1 (Ar (Bu O ?_))));obtain⟨x,hx⟩:=A0 (l:=ts) (i:=i) Ah;refine Al O (A3 BP O O Ah (Be hx) (A7 _)) (Al O (BL Bf O (A7 _)) (A5 O (Az Bj O) fun b10=>Ak As 2 [0,1] O (An As 2 [] O (Am (An As 3 [] O (Ao O (fun c3=>?_) (fun c3=>?_)))))))
    ·(try simp only[sd,se] at c3);refine Au (Ak As 3 [] O (BK (FE (t:=11) (x:= .p (I (d+below tk i))) (pI (by have:=Qb (k:=tk) (i:=i) Ah Ah;omega))) (Ar (Ap As 3 [3,0] O (Fs [_] O O O (.inr O) (ih x (d+below tk i) q _ (m+BC (ts.drop (i+1))) (by have:=Bw hx;omega) (CY h2.2.2.2.2.1 hx) (by have:=CE tk i;omega) (by have:=CE tk i;omega) (by rw[CH hx,BC] at hJ;rw[Nat.add_assoc,Nat.add_comm (BC _)];exact hJ) hK) (aw (we O) (aw (we O) (aw (we O) (aw (we O) (aw (we O) (HX)))))) ?_ (fun _ _ h=>h.elim))))));rintro _ _ ⟨rfl,T1,hT1,rfl⟩;refine Ak As 1 [] O (Ao O (fun c4=>?_) (fun c4=>?_))
     ·(try simp only[sd,se] at c4);refine An As 1 [] O (Av (⟨O,_,_,⟨_,_,O,O,O⟩,(D4 [1,2,3] [_,_,_,_] O),?_⟩));rw[Et Ae,←hC,Fb hx c4];rw[c4] at hT1;exact⟨O,_,hT1,O⟩
     (try simp only[sd,se] at c4);rw[c4] at hT1;refine Aq (Au (Ak As 2 [] O ?_));refine⟨⟨i+1,(Cy st x (d+below tk i) q).1,T1⟩,AN,⟨by omega,⟨by rw[←hC];exact(G7 hx Ae).symm,by rw[CH hx,BC] at hJ;exact F7 hI x _ _ _ (by rw[Nat.add_assoc,Nat.add_comm (BC _)];exact hJ) Ae,by assumption⟩⟩,BM ⟨we rfl,we rfl,we rfl,we rfl,we rfl,we rfl,trivial⟩ (Qr [1,2,3] [_,_,_,_] (l':=[_,_,_]) rfl (wl (oe rfl) (wl (oe rfl) (wl (oe rfl) (C8)))))⟩
    (try simp only[sd,se] at c3);refine Aq (BK (FE (t:=11) (x:= .p (I (d+below tk i))) (pI (by have:=OI (k:=tk) (i:=i) Ah;omega))) (Ar (Ap As 3 [3,0] O (Fs [_] O O O (.inr O) (ih x (d+below tk i) q _ (m+BC (ts.drop (i+1))) (by have:=Bw hx;omega) (CY h2.2.2.2.2.1 hx) (by have:=CE tk i;omega) (by have:=CE tk i;omega) (by rw[CH hx,BC] at hJ;rw[Nat.add_assoc,Nat.add_comm (BC _)];exact hJ) hK) (aw (we O) (aw (we O) (aw (we O) (aw (we O) (aw (we O) (HX)))))) ?_ (fun _ _ h=>h.elim)))));rintro _ _ ⟨rfl,T1,hT1,rfl⟩;refine Ak As 1 [] O (Ao O (fun c4=>?_) (fun c4=>?_))
    ·(try simp only[sd,se] at c4);refine An As 1 [] O (Av (⟨O,_,_,⟨_,_,O,O,O⟩,(D4 [1,2,3] [_,_,_,_] O),?_⟩));rw[Et Ae,←hC,Fb hx c4];rw[c4] at hT1;exact⟨O,_,hT1,O⟩
    (try simp only[sd,se] at c4);rw[c4] at hT1;refine Aq (Au (Ak As 2 [] O ?_));refine⟨⟨i+1,(Cy st x (d+below tk i) q).1,T1⟩,AN,⟨by omega,⟨by rw[←hC];exact(G7 hx Ae).symm,by rw[CH hx,BC] at hJ;exact F7 hI x _ _ _ (by rw[Nat.add_assoc,Nat.add_comm (BC _)];exact hJ) Ae,by assumption⟩⟩,BM ⟨we rfl,we rfl,we rfl,we rfl,we rfl,we rfl,trivial⟩ (Qr [1,2,3] [_,_,_,_] (l':=[_,_,_]) rfl (wl (oe rfl) (wl (oe rfl) (wl (oe rfl) (C8)))))⟩
   (try simp only[sd,se] at c2);refine Bc (An As 1 [] O (Av (⟨O,_,_,⟨_,_,O,O,O⟩,(D4 [0,1,2] [_,_,_] O),?_⟩)));rw[Et Ae,←hC,show i=ts.length by omega,List.drop_length];exact⟨O,_,hK,O⟩
  (try simp only[sd,se] at c1);have hbx:=Px (k:=tk) Ah;refine Aq (Am (Ar (Ap As 2 [0] O (Al O (BB BP O (A8 _)) (Ak As 1 [] O (A1 ?_))))));refine BZ (α:=Nat×σ×List Ax) (fun(i,q,U)=>⟨50,mk [(1,.p (I d)),(4,.ptr b4 0),(8,.p (I (-1))),(31,.p (.lst (Ay ts))),(32,.p (I (ts.length:Nat))),(33,.p (I (i:Int)))],(.box b2 [.fn (.yield l) [] []]:: .box b3 KT:: .box b4 [.fn (.func 144) [] [.ptr b2 0,.ptr b3 0,.ptr b4 0]]::U),[]⟩) (fun(i,q,U)=>ts.length - i) (fun(i,q,U)=>i≤ts.length∧(C7 st tk d i q (ts.drop i)=C7 st tk d 0 (st s d (.mk tk ti tn tl ts)).1 ts∧Inv (m+BC (ts.drop i)) q∧HP true q U)) ⟨0,(st s d (.mk tk ti tn tl ts)).1,T⟩ (⟨by omega,by simp,by simpa using hI _ _ _ _ (by rw[Nat.add_assoc,Nat.add_comm (BC ts)];exact h5),by assumption⟩) ?_ ?_
  ·exact BM ⟨we O,we O,we O,we O,we O,we O,Aj⟩ (Qr [1,2,3] [_,_,_,_] (l':=[_,_,_]) O (wl (oe O) (wl (oe O) (wl (oe O) (C8)))))
  rintro⟨i,q,U⟩ hC
  try simp only at hC
  obtain⟨hi,hC,hJ,hK⟩:=hC;refine An As 1 [] O (Am (Ao O (fun c2=>?_) (fun c2=>?_)))
  ·(try simp only[sd,se] at c2);refine Aq (Am (A1 (Ar (Bu O ?_))));obtain⟨x,hx⟩:=A0 (l:=ts) (i:=i) Ah;refine Al O (A3 BP O O Ah (Be hx) (A7 _)) (Al O (BL Bf O (A7 _)) (A5 O (Az Bj O) fun b10=>Ak As 2 [0,1] O (An As 2 [] O (Am (An As 3 [] O (Ao O (fun c3=>?_) (fun c3=>?_)))))))
   ·(try simp only[sd,se] at c3);refine Au (Ak As 3 [] O (BK (FE (t:=11) (x:= .p (I (d+below tk i))) (pI (by have:=Qb (k:=tk) (i:=i) Ah Ah;omega))) (Ar (Ap As 3 [3,0] O (Fs [_] O O O (.inr O) (ih x (d+below tk i) q _ (m+BC (ts.drop (i+1))) (by have:=Bw hx;omega) (CY h2.2.2.2.2.1 hx) (by have:=CE tk i;omega) (by have:=CE tk i;omega) (by rw[CH hx,BC] at hJ;rw[Nat.add_assoc,Nat.add_comm (BC _)];exact hJ) hK) (aw (we O) (aw (we O) (aw (we O) (aw (we O) (aw (we O) (HX)))))) ?_ (fun _ _ h=>h.elim))))));rintro _ _ ⟨rfl,T1,hT1,rfl⟩;refine Ak As 1 [] O (Ao O (fun c4=>?_) (fun c4=>?_))
    ·(try simp only[sd,se] at c4);refine An As 1 [] O (Av (⟨O,_,_,⟨_,_,O,O,O⟩,(D4 [1,2,3] [_,_,_,_] O),?_⟩));rw[Et Ae,←hC,Fb hx c4];rw[c4] at hT1;exact⟨O,_,hT1,O⟩
    (try simp only[sd,se] at c4);rw[c4] at hT1;refine Aq (Au (Ak As 2 [] O ?_));refine⟨⟨i+1,(Cy st x (d+below tk i) q).1,T1⟩,AN,⟨by omega,⟨by rw[←hC];exact(G7 hx Ae).symm,by rw[CH hx,BC] at hJ;exact F7 hI x _ _ _ (by rw[Nat.add_assoc,Nat.add_comm (BC _)];exact hJ) Ae,by assumption⟩⟩,BM ⟨we rfl,we rfl,we rfl,we rfl,we rfl,we rfl,trivial⟩ (Qr [1,2,3] [_,_,_,_] (l':=[_,_,_]) rfl (wl (oe rfl) (wl (oe rfl) (wl (oe rfl) (C8)))))⟩
   (try simp only[sd,se] at c3);refine Aq (BK (FE (t:=11) (x:= .p (I (d+below tk i))) (pI (by have:=OI (k:=tk) (i:=i) Ah;omega))) (Ar (Ap As 3 [3,0] O (Fs [_] O O O (.inr O) (ih x (d+below tk i) q _ (m+BC (ts.drop (i+1))) (by have:=Bw hx;omega) (CY h2.2.2.2.2.1 hx) (by have:=CE tk i;omega) (by have:=CE tk i;omega) (by rw[CH hx,BC] at hJ;rw[Nat.add_assoc,Nat.add_comm (BC _)];exact hJ) hK) (aw (we O) (aw (we O) (aw (we O) (aw (we O) (aw (we O) (HX)))))) ?_ (fun _ _ h=>h.elim)))));rintro _ _ ⟨rfl,T1,hT1,rfl⟩;refine Ak As 1 [] O (Ao O (fun c4=>?_) (fun c4=>?_))
   ·(try simp only[sd,se] at c4);refine An As 1 [] O (Av (⟨O,_,_,⟨_,_,O,O,O⟩,(D4 [1,2,3] [_,_,_,_] O),?_⟩));rw[Et Ae,←hC,Fb hx c4];rw[c4] at hT1;exact⟨O,_,hT1,O⟩
   (try simp only[sd,se] at c4);rw[c4] at hT1;refine Aq (Au (Ak As 2 [] O ?_));refine⟨⟨i+1,(Cy st x (d+below tk i) q).1,T1⟩,AN,⟨by omega,⟨by rw[←hC];exact(G7 hx Ae).symm,by rw[CH hx,BC] at hJ;exact F7 hI x _ _ _ (by rw[Nat.add_assoc,Nat.add_comm (BC _)];exact hJ) Ae,by assumption⟩⟩,BM ⟨we rfl,we rfl,we rfl,we rfl,we rfl,we rfl,trivial⟩ (Qr [1,2,3] [_,_,_,_] (l':=[_,_,_]) rfl (wl (oe rfl) (wl (oe rfl) (wl (oe rfl) (C8)))))⟩
  (try simp only[sd,se] at c2);refine Bc (An As 1 [] O (Av (⟨O,_,_,⟨_,_,O,O,O⟩,(D4 [0,1,2] [_,_,_] O),?_⟩)));rw[Et Ae,←hC,show i=ts.length by omega,List.drop_length];exact⟨O,_,hK,O⟩
theorem Z4:Df Tryz.prog 143 [] (.agg KT):=by
 refine Aw Tryz.func143 O eQ (n:=15) O O (Ar (A5 O (Az Vs O) fun b0=>BR O (Ar (Ap As 13 [] O (Al O (Hh YX Ys Vs O) (Ak As 1 [0,0] O (Av (⟨O,_,_,⟨_,_,O,(BD (i:=0) eG O O O),O⟩,(List.nil_sublist _),?_⟩))))))))
 all_goals exact⟨rfl,rfl⟩
theorem QA:∀(t:Tm),Bb Tryz.prog 118 [.agg ((BQ t).map .p)] [] (fun r H'=>∃b,r= .val (.fn (.func 142) [] [.ptr b 0])∧H'=[.box b ((BQ t).map .p)]):=by
 intro t;refine Aw Tryz.func118 O aa (n:=4) O O (Ar (A5 O (BF O) fun b1=>Ak As 1 [] O (An As 2 [] O (Av (⟨O,_,_,⟨_,_,O,O,O⟩,(CM (is:=[0]) O),?_⟩)))));exact⟨_,O,O⟩
theorem QX:∀{σ:Type}(st:σ→Int→Tm→σ×Bool) (Inv:Nat→σ→Prop) (HP:Bool→σ→List Ax→Prop) (l b1:Nat) (hI:∀m s d t,Inv (m+1) s→Inv m (st s d t).1) (hy:∀m s d t T,Nd t→Inv (m+1) s→HP true s T→Em Tryz.prog l [.p (I d),TV t] T (Jw (.p (.bool (st s d t).2)) (HP (st s d t).2 (st s d t).1))) (t:Tm) (s:σ) (T0:List Ax) (m:Nat),Nd t→size t<4611686018427387904→Inv (m+size t) s→HP true s T0→Bb Tryz.prog 142 [.fn (.yield l) [] [],.ptr b1 0] (.box b1 ((BQ t).map .p)::T0) (Jw (.tup []) (fun H=>∃T,HP (Cy st t 0 s).2 (Cy st t 0 s).1 T∧H= .box b1 ((BQ t).map .p)::T)):=by
 intro σ st Inv HP l b1 hI hy t s T0 m h1 h2 h3 h4;refine Aw Tryz.func142 O ay (n:=10) O O (Ar (A5 O (BF O) fun b2=>BR O (Ar (Al O (BA O O (Z4 ) O) (A5 O (Az Vs O) fun b3=>Ak As 1 [0,0] O (Ar (A5 O (Az eI O) fun b4=>BR O (An As 2 [0,0] O (Au (Ap As 2 [0,3] O (Je ((List.reverse_perm [_,_,_,_]).symm.append_right _) (Fs [_] O O O (.inr O) (Xd st Inv HP l b2 b3 b4 hI hy _ t 0 s T0 m (Nat.le_refl _) h1 Ah Ah h3 h4) (aw (we O) (aw (we O) (aw (we O) (aw (we O) (aw (we O) (HX)))))) ?_ (fun _ _ h=>h.elim)))))))))))));rintro _ _ ⟨rfl,T,hT,rfl⟩;refine BR O ⟨O,_,_,O,(D4 [0] [_,_,_,_] O),?_⟩;exact⟨O,_,hT,O⟩
theorem XH:∀(t:Tm),(Nd t)→(size t<1152921504606846976)→Df Tryz.prog 78 [.agg ((BQ t).map .p)] (.p (I (size t:Nat))):=by
 intro t h1 h2;refine C9 Tryz.func78 O gw (n:=11) O O (Ar (A5 O (BF O) fun b1=>Ak As 1 [] O (Ar (A5 O (Az dR O) fun b3=>Ak As 1 [0,0] O (Am (Ar (Al O (Ba (i:=1) Bf O O Aa) ?_)))))));refine Hj [] O O O (.inl ⟨O,O,O⟩) (QA t) O Ai (aw (we O) HX) ?_ (fun _ _ ⟨_,h,_⟩=>by cases h);rintro _ _ ⟨bn,h,rfl⟩;cases h;refine BR O (A1 (Fu (.inr O) fun dd l L hL=>⟨_,_,CK (is:=[2,0,3]) Ag ⟨_,_,O,O,⟨_,_,O,O,⟨_,_,O,O,O⟩⟩⟩,?_⟩));have hy:∀(m:Nat) (s:Int) (d:Int) (t:Tm) (T:List Ax),Nd t→(fun _ _=>True) (m+1) s→(fun(_:Bool) (s:Int) (T:List Ax)=>T=[.loop l L,.box b3 [.p (I s)]]) true s T→Em Tryz.prog l [.p (I d),TV t] T (Jw (.p (.bool (RU s d t).2)) ((fun(_:Bool) (s:Int) (T:List Ax)=>T=[.loop l L,.box b3 [.p (I s)]]) (RU s d t).2 (RU s d t).1)):=by
  rintro m s d tt T hnd hinv rfl;subst hL;refine Gp (i:=0) O O O O (Aq ⟨O,0,O,?_⟩);refine A1 (Au (Al O (Bd (i:=1) FW O O O) (Al O (DJ O O) (Ak As 1 [1,0] O ⟨0,_,O,CM (is:=[0,1]) O,?_⟩))));exact⟨O,O⟩
 refine(QX RU (fun _ _=>True) (fun(_:Bool) (s:Int) (T:List Ax)=>T=[.loop l L,.box b3 [.p (I s)]]) l bn (fun _ _ _ _ _=>Aj) hy t 0 _ 0 (h1) Ah (Aj) O).mono ?_;rintro(v | v) H' hR
 rotate_left
 ·exact hR.elim
 obtain⟨rfl,_,rfl,rfl⟩:=hR;subst hL;refine⟨1,_,O,Ai,?_⟩;refine An As 2 [1] O (Av (⟨2,O,_,_,⟨_,_,O,O,O⟩,(List.nil_sublist _),?_⟩))
 all_goals exact⟨pI (by rw[Qi 4611686018427387904 (Int.le_refl _) t 0 0 Ah Ah];simp),rfl⟩
theorem VX:∀(n:Nat) (t:Tm),(size t≤n)→(Nd t)→Df Tryz.prog 79 [.agg ((BQ t).map .p)] (.p (I (De t))):=by
 intro n
 induction n with
 | zero=>intro t h;cases t;simp[size] at h
 | succ n ih =>
  intro t h1 h2;obtain⟨tk,ti,tn,tl,ts⟩:=t;simp only[size] at h1;simp only[Nd,Cr] at h2;refine Aw Tryz.func79 O fk (n:=20) O O (Ar (A5 O (BF O) fun b1=>Ak As 1 [] O (An As 1 [] O (Am (Ar (Ap As 2 [0] O (Al O (BB BP O (A8 _)) (Ak As 1 [] O (A1 (BZ (α:=Nat×Int) (fun(i,m)=>⟨20,mk [(3,.p (I m)),(7,.p (.lst (Ay ts))),(8,.p (I (ts.length:Nat))),(9,.p (I (i:Int)))],[],[]⟩) (fun(i,m)=>ts.length - i) (fun(i,m)=>i≤ts.length∧(GH m (ts.drop i)=GH 0 ts)) ⟨0,0⟩ Ai ?_ ?_))))))))))
  ·exact BM ⟨we O,we O,we O,we O,Aj⟩ (leH (is:=[]) O (C8))
  rintro⟨i,m⟩ hC
  try simp only at hC
  obtain⟨hi,hC⟩:=hC;refine An As 1 [] O (Am (Ao O (fun c=>?_) (fun c=>?_)))
  ·(try simp only[sd,se] at c);refine Aq (Am (A1 (Ar ?_)));obtain⟨x,hx⟩:=A0 (l:=ts) (i:=i) Ah;refine Al O (A3 BP O O Ah (Be hx) (A7 _)) (Al O (BL Bf O (A7 _)) (A5 O (Az Bj O) fun b5=>Ak As 1 [0,1] O (Au (Ap As 2 [0] O (Al O (BA O O (ih x (by have:=Bw hx;omega) (CY h2.2.2.2.2.1 hx)) O) (Al O (LN O O) (Ak As 1 [] O (Au (Ak As 2 [] O ?_)))))))));refine⟨⟨i+1,max m (De x)⟩,AN,⟨by omega,by rw[←hC,CH hx];rfl⟩,BM ⟨we rfl,we rfl,we rfl,we rfl,trivial⟩ (leH (is:=[]) rfl (C8))⟩
  (try simp only[sd,se] at c);refine Bc (Ar (Bu O (Al O (DJ O O) (Ak As 1 [] O (Av (⟨O,_,_,⟨_,_,O,O,O⟩,(List.nil_sublist _),?_⟩))))))
  all_goals exact⟨pI (by rw[show De (.mk tk ti tn tl ts)=wr (GH 0 ts+1) from rfl,←hC,show i=ts.length by omega,List.drop_length];rfl),rfl⟩
theorem UB:∀(f:Tm) (xs:List Tm),(xs.length<Cr)→Df Tryz.prog 74 [.agg ((BQ f).map .p),.p (.lst (Ay xs))] (.agg ((BQ (apply f xs)).map .p)):=by
 intro f xs h1;simp only[Cr] at h1;refine Aw Tryz.func74 O fq (n:=19) O O (Ar (A5 O (BF O) fun b2=>A5 O (Az Bj O) fun b4=>BR O (Am (Ar (Bu O (Al O (BB BP O (A8 _)) (Ak As 1 [] O (A1 (BZ (α:=Nat) (fun i=>⟨19,mk [(2,.ptr b2 0),(4,.ptr b4 0),(7,.p (.lst (Ay xs))),(8,.p (I (xs.length:Nat))),(9,.p (I (i:Int)))],[.box b4 [.p (I 0),.p (I 0),.p (.str ⟨#[]⟩),.p (.nils),.p (.nils)],.box b2 ((BQ (apply f (xs.take i))).map .p)],[]⟩) (fun i=>xs.length - i) (fun i=>i≤xs.length) 0 AK ?_ ?_)))))))))
 ·exact BM ⟨we O,we O,we O,we O,we O,Aj⟩ (leH (is:=[0,1]) O (wl (oe O) (wl (oe O) (C8))))
 rintro i hC
 try simp only at hC
 have hi:=hC;refine An As 1 [] O (Am (Ao O (fun c=>?_) (fun c=>?_)))
 ·(try simp only[sd,se] at c);refine Aq (Am (A1 (Ar ?_)));obtain⟨x,hx⟩:=A0 (l:=xs) (i:=i) Ah;refine Al O (A3 BP O O Ah (Be hx) (A7 _)) (Al O (BL Bf O (A7 _)) (A5 O (Az Bj O) fun b6=>Ak As 1 [0,1] O (Au (Ap As 2 [2,0] O ?_))));generalize hz:(apply f (xs.take i))=z;obtain⟨zk,zi,zn,zl,zs⟩:=z;obtain⟨xk,xi,xn,xl,xs1⟩:=x;refine Al O (BT BP Bj O O O O O) (Ak As 2 [2,0] O (Au (Ak As 2 [] O ?_)));refine⟨(i+1),AN,by omega,BM ⟨we rfl,we rfl,we rfl,we rfl,we rfl,trivial⟩ (leH (is:=[1,2]) rfl (wl (oe rfl) (wl (on (by rw[M9 hx,hz];rfl)) (C8))))⟩
 (try simp only[sd,se] at c);refine Bc (An As 2 [1,0,1] O (Av (⟨O,_,_,⟨_,_,O,(BD (i:=0) Bf O O Aa),O⟩,(List.nil_sublist _),?_⟩)))
 all_goals exact⟨by show (.agg ((BQ (apply f (xs.take i))).map .p):AV)=_;rw[show i=xs.length by omega,List.take_length],rfl⟩
theorem _root_.Go.AS {α:Prop}(h:α:=by simp only[A8];omega):α:=h
theorem _root_.Go.AT {α:Prop}(h:α:=by simp[A8];omega):α:=h
theorem Yv:∀(xs:List Tm) (o0:Option Nat) (c0:Nat),(xs.length<Cr)→Bb Tryz.prog 182 [.vs o0 (Ay xs).length c0] [.vec o0 5 (Ay xs) c0] (Dz (.tup []) [.vec o0 5 (Ay xs.reverse) c0]):=by
 intro xs o0 c0 h1;simp only[Cr] at h1;refine Aw Tryz.func182 O bS (n:=28) O O (Ar (Bu O (Al O (DP BP O (A8 _)) (Ak As 3 [] O (A1 (BZ (α:=Nat×List Tm×Option Nat×Nat) (fun(i,ys,o,cp)=>⟨28,mk [(0,.vs o (Ay ys).length cp),(2,.p (I (i:Int))),(3,.p (I ((xs.length:Int) - 1 - (i:Int))))],[.vec o 5 (Ay ys) cp],[]⟩) (fun(i,ys,o,cp)=>xs.length - i) (fun(i,ys,o,cp)=>i≤xs.length∧QZ xs ys i∧o=o0∧cp=c0) ⟨0,xs,o0,c0⟩ (⟨by omega,RG xs,rfl,rfl⟩) ?_ ?_))))))
 ·exact BM ⟨we O,we O,we (pI Ah),Aj⟩ (leH (is:=[0]) O (wl (oe O) (C8)))
 rintro⟨i,ys,o,cp⟩ hC
 try simp only at hC
 obtain⟨hi,hR,ho,hcp⟩:=hC;have hyl:=hR.1;have hjn:((xs.length:Int) - 1 - (i:Int)).toNat=xs.length - 1 - i:=by omega
 refine Am (An As 3 [] O (Ao O (fun c=>?_) (fun c=>?_)))
 ·(try simp only[sd,se] at c);refine Aq (Am (A1 (H4 (i:=0) O AT fun b hb=>?_)));subst hb;refine By (fun k=>false) Eg (BU As 6 [] O (BG O (fun _=>B0 BP O O Ah AS) Aj ?_));obtain⟨y,hy⟩:=A0 (l:=ys) (i:=((xs.length:Int) - 1 - (i:Int):Int).toNat) Ah;refine DC (j:=0) O O O (fun H i hi=>Fg (i:=i) Bf O hi (Be hy)) AB Aj (BU As 2 [] O (BG O (fun _=>B0 BP O O Ah AS) Aj ?_));obtain⟨y1,hy1⟩:=A0 (l:=ys) (i:=i) Ah;refine DC (j:=0) O O O (fun H i hi=>Fg (i:=i) Bf O hi (Be hy1)) AB Aj (BG O (fun _=>B0 BP O O Ah AS) Aj (Eo O O (CA (i:=0) (j:=i) Bf O O O (by simp only[A8,List.length_map,List.length_set];omega) O (F5 _) (A7 _) (Gf _) (Iv ys i y)) AB Aj (BG O (fun _=>B0 BP O O Ah AS) Aj (Eo O O (CA (i:=0) (j:=(((xs.length:Int) - 1 - (i:Int):Int).toNat)) Bf O O O (by simp only[A8,List.length_map,List.length_set];omega) O (F5 _) (A7 _) (Gf _) (Iv ((ys).set i y) (((xs.length:Int) - 1 - (i:Int):Int).toNat) y1)) AB Aj (El O Ad (Au (Ak As 6 [] O ?_)))))));refine⟨⟨i+1,(ys.set i y).set (xs.length - 1 - i) y1,(some b),cp⟩,AN,⟨by omega,Re hR Ah hy1 (hjn▸hy),ho,hcp⟩,BM ⟨we (DU ys Ai),we rfl,we (pI Ah),trivial⟩ (leH (is:=[0]) rfl (wl (EI (((ys).set i y).set (((xs.length:Int) - 1 - (i:Int):Int).toNat) y1) (by rw[hjn])) (C8)))⟩
 (try simp only[sd,se] at c);refine Bc ⟨O,_,_,O,(CM (is:=[0]) O),?_⟩;refine⟨O,?_⟩;show ([.vec o 5 (Ay ys) cp]:List Ax)=_;rw[RI hR Ah,ho,hcp]
theorem _root_.Go.AU {α:Prop}(h:α:=by simp only[Cr];omega):α:=h
theorem J2:∀(t:Tm),(Nd t)→(size t<Cr)→Df Tryz.prog 151 [.agg ((BQ t).map .p)] (.tup [.agg ((BQ ((A4 t).1)).map .p),.p (.lst (Ay ((A4 t).2)))]):=by
 intro t h1 h2;simp only[Cr] at h2;refine Aw Tryz.func151 O eX (n:=29) O O (Ar (A5 O (BF O) fun b1=>A5 O (Az Bj O) fun b2=>Ak As 1 [] O (An As 1 [] O (Am (A1 (BK (EM (t:=4) (sz:=5) O) ?_))))));refine BZ (α:=Tm×List Tm×Option Nat×Nat) (fun(tt,ys,o,cp)=>⟨29,mk [(1,.ptr b1 0),(2,.ptr b2 0),(4,.vs o (Ay ys).length cp)],[.vec o 5 (Ay ys) cp,.box b2 [.p (I 0),.p (I 0),.p (.str ⟨#[]⟩),.p (.nils),.p (.nils)],.box b1 ((BQ tt).map .p)],[]⟩) (fun(tt,ys,o,cp)=>size tt) (fun(tt,ys,o,cp)=>A4 t=((A4 tt).1,(A4 tt).2++ys.reverse)∧Nd tt∧size tt+ys.length≤size t) ⟨t,[],none,0⟩ (⟨by simp,h1,by simp⟩) ?_ ?_
 ·exact BM ⟨we O,we O,we O,Aj⟩ (leH (is:=[0,1,2]) O (wl (oe O) (wl (oe O) (wl (oe O) (C8)))))
 rintro⟨tt,ys,o,cp⟩ hC
 try simp only at hC
 obtain⟨hS,hN,hL⟩:=hC;refine Am (Am ?_);obtain⟨ttk,tti,ttn,ttl,tts⟩:=tt;simp only[size] at hL;refine BO [1,2,4] 13 (fun y=>y= .p (.bool (((ttk:Int)==(4:Int))&&(((tts.length:Nat):Int)==(2:Int))))) ?_ ?_
 ·refine Au (Ap As 4 [2] O (BE 8 O (fun g=>?_) (fun g=>?_)))
  ·(try simp only[sd,se] at g);exact Ap As 2 [2] O (BI O (BB BP O (A8 _)) (Ak As 2 [] O (⟨O,O,AG,AF,⟨O,O,O,Aj⟩⟩)))
  (try simp only[sd,se] at g);exact Ak As 5 [] O (⟨O,O,AG,AF,⟨O,O,O,Aj⟩⟩)
 rintro _ rfl;refine Ao O (fun c=>?_) (fun c=>?_)
 ·(try simp only[sd,se] at c);refine Aq (A1 (Ar (Ap As 3 [2] O ?_)));obtain⟨x,hx⟩:=A0 (l:=tts) (i:=1) Ah;refine Al O (A3 BP O O Ah (Be hx) (A7 _)) (Al O (BL Bf O (A7 _)) ?_);obtain⟨xk,xi,xn,xl,xs⟩:=x;refine Al O (BT BP Bj O O O O O) (JB O O (Cb (i:=0) (rows':=Ay [(.mk xk xi xn xl xs:Tm)]) BP BP Bj O O O O O O (CD _) AD (Nn ys [(.mk xk xi xn xl xs:Tm)])) fun o1 cp1=>Ak As 1 [] O (Au (Ap As 2 [2] O ?_)));obtain⟨x1,hx1⟩:=A0 (l:=tts) (i:=0) Ah;refine Al O (A3 BP O O Ah (Be hx1) (A7 _)) (Ak As 2 [2,1] O ?_);refine⟨⟨x1,ys++[.mk xk xi xn xl xs],o1,cp1⟩,(by have:=Bw hx1;simp only[size];omega),⟨by rw[hS,To c hx1 hx];simp,CY hN.2.2.2.2.1 hx1,by have:=Bw hx1;simp;omega⟩,BM ⟨we rfl,we rfl,we rfl,trivial⟩ (leH (is:=[0,1,2]) rfl (wl (oe rfl) (wl (oe rfl) (wl (oe rfl) (C8)))))⟩
 (try simp only[sd,se] at c);refine Bc (Ar (Bu O (Al O (Bq [0] O (.inl ⟨O,O,O⟩) (Yv ys o cp AU) ⟨_,_,O,O,O⟩ Ag O (.inl O)) (BR O (An As 4 [2,1,0] O (BK (FE (t:=4) (x:= .vs o (Ay ys.reverse).length cp) (DU ys (l':=ys.reverse) Ai)) (BK (FE (t:=25) (x:= .vs o (Ay ys.reverse).length cp) (DU ys (l':=ys.reverse) Ai)) (BK (FE (t:=28) (x:= .vs o (Ay ys.reverse).length cp) (DU ys (l':=ys.reverse) Ai)) (BK (FE (t:=3) (x:= .vs o (Ay ys.reverse).length cp) (DU ys (l':=ys.reverse) Ai)) (BK (CX (i:=0) [4,25,28,3] O (DV ⟨O,O,O,O,Aj⟩)) (Av (⟨O,_,_,⟨_,_,O,(BD (i:=0) Bf O O O),⟨_,_,O,O,O⟩⟩,(List.nil_sublist _),?_⟩))))))))))));rw[hS,Rr (Classical.or_iff_not_imp_left.2 fun h=>by simp at h;exact fun e=>absurd (c h) (by simp[e]))]
 all_goals exact⟨rfl,rfl⟩
theorem O1:∀(e:Int),Bb Tryz.prog 176 [.p (I e)] [] (Of (.p (.iface 245 (I e))) []):=by
 intro e;exact Aw Tryz.func176 O cg (n:=4) O O (Au (Bu O (Al O (ND Yr (by intro ms h;cases h) O) (UG O O (TS O) (⟨O,_,List.nil_sublist _,⟨O,O⟩⟩)))))
theorem Tu:∀(e:Int),Df Tryz.prog 157 [.p (.iface 245 (I e))] (.p (I e)):=by
 intro e;refine Aw Tryz.func157 O eK (n:=14) O O (An As 1 [] O (Ar (Bu O (Al O (RT Yr O O) (Ak As 5 [] O (Am (An As 2 [] O ?_)))))));refine Ao O (fun c=>by cases c) (fun c=>?_);refine Aq (An As 2 [] O (Av (⟨O,_,_,⟨_,_,O,O,O⟩,(List.nil_sublist _),?_⟩)))
 all_goals exact⟨rfl,rfl⟩
theorem VJ:∀(k i:Int),Df Tryz.prog 187 [.p (I k),.p (I i)] (.p (I (below k i))):=by
 intro k i;refine Aw Tryz.func187 O eB (n:=26) O O (An As 1 [] O (Am (A1 (Am (Am (BO [0,1] 5 (fun y=>y= .p (.bool (((i:Int)==(1:Int))&&((((k:Int)==(5:Int))||((k:Int)==(6:Int)))||((k:Int)==(7:Int)))))) ?_ ?_))))))
 ·refine Au (Ap As 3 [] O (BE 8 O (fun g=>?_) (fun g=>?_)))
  ·(try simp only[sd,se] at g);refine Ap As 3 [] O (BE 11 O (fun g1=>?_) (fun g1=>?_))
   ·(try simp only[sd,se] at g1);exact Ak As 9 [] O (⟨O,O,AG,AF,⟨O,O,Aj⟩⟩)
   (try simp only[sd,se] at g1);refine Ap As 4 [] O (BE 15 O (fun g2=>?_) (fun g2=>?_))
   ·(try simp only[sd,se] at g2);exact Ak As 5 [] O (⟨O,O,AG,AF,⟨O,O,Aj⟩⟩)
   (try simp only[sd,se] at g2);exact Ak As 5 [] O (⟨O,O,AG,AF,⟨O,O,Aj⟩⟩)
  (try simp only[sd,se] at g);exact Ak As 12 [] O (⟨O,O,AG,AF,⟨O,O,Aj⟩⟩)
 rintro _ rfl;refine Ao O (fun c=>?_) (fun c=>?_)
 ·(try simp only[sd,se] at c);refine Aq (Ao O (fun c1=>?_) (fun c1=>?_))
  ·(try simp only[sd,se] at c1);refine An As 1 [] O (Av (⟨O,_,_,⟨_,_,O,O,O⟩,(List.nil_sublist _),?_⟩))
   all_goals exact⟨pI (by unfold below;simp_all),rfl⟩
  (try simp only[sd,se] at c1);refine Aq (An As 1 [] O (Av (⟨O,_,_,⟨_,_,O,O,O⟩,(List.nil_sublist _),?_⟩)))
  all_goals exact⟨pI (by unfold below;simp_all),rfl⟩
 (try simp only[sd,se] at c);refine BO [] 5 (fun y=>y= .p (.bool (((i:Int)==(2:Int))&&((k:Int)==(11:Int))))) ?_ ?_
 ·refine Au (Ap As 3 [] O (BE 22 O (fun g=>?_) (fun g=>?_)))
  ·(try simp only[sd,se] at g);exact Ak As 4 [] O ⟨O,O,AG,AF,Aj⟩
  (try simp only[sd,se] at g);exact Ak As 4 [] O ⟨O,O,AG,AF,Aj⟩
 rintro _ rfl;refine Ao O (fun c1=>?_) (fun c1=>?_)
 ·(try simp only[sd,se] at c1);refine An As 1 [] O (Av (⟨O,_,_,⟨_,_,O,O,O⟩,(List.nil_sublist _),?_⟩))
  all_goals exact⟨pI (by unfold below;simp_all),rfl⟩
 (try simp only[sd,se] at c1);refine Aq (An As 1 [] O (Av (⟨O,_,_,⟨_,_,O,O,O⟩,(List.nil_sublist _),?_⟩)))
 all_goals exact⟨pI (by unfold below;simp_all),rfl⟩
theorem Ph:∀(i:Int),Bb Tryz.prog 166 [.p (I i)] [] (Qp (fun(r:Tm)=>TV r) (fun e=> .p (.iface 245 (I e))) (fun r H'=>H'=[]) (FR i)):=by
 intro i;refine Aw Tryz.func166 O dV (n:=8) O O (Ar (A5 O (Az Bj O) fun b2=>BR O (Am (An As 2 [] O (Ao O (fun c=>?_) (fun c=>?_))))))
 ·(try simp only[sd,se] at c);refine Au (ML O O O (.inl ⟨O,O,O⟩) (O1 24) (aw (we O) (HX)) ?_);exact⟨O,_,List.nil_sublist _,⟨_,by unfold FR;rw[if_pos Ah],rfl⟩⟩
 (try simp only[sd,se] at c);refine Aq (An As 3 [0,0] O (BK (Bm (i:=0) O) (Av (⟨O,_,_,⟨_,_,O,(BD (i:=0) Bf O O O),O⟩,(List.nil_sublist _),?_⟩))));exact⟨(.mk 0 i ⟨#[]⟩ [] []:Tm),by unfold FR;rw[if_neg Ah];rfl,rfl,rfl⟩
theorem UK:∀(bc:Nat) (n m:Int),Bb Tryz.prog 160 [.ptr bc 0,.p (I m)] [.box bc [.p (I n)]] (Qp (fun(r:Int)=> .tup []) (fun e=> .p (.iface 245 (I e))) (fun r H'=>H'=[.box bc [.p (I r)]]) (Qh n m)):=by
 intro bc n m;refine Aw Tryz.func160 O di (n:=18) O O (Ar (Ap As 5 [0] O (Al O (DJ O O) (Ak As 3 [0,0] O (An As 5 [0] O (Ao O (fun c=>?_) (fun c=>?_)))))))
 ·(try simp only[sd,se] at c);refine Au (ML O O O (.inl ⟨O,O,O⟩) (O1 5) (aw (we O) (HX)) ?_);exact⟨O,_,List.nil_sublist _,⟨_,by unfold Qh;rw[if_pos Ah],rfl⟩⟩
 (try simp only[sd,se] at c);refine Aq ⟨O,_,_,O,(CM (is:=[0]) O),?_⟩;exact⟨(wr (n+m)),by unfold Qh;rw[if_neg Ah],rfl,rfl⟩
theorem MA:∀(t:Tm),(Nd t)→Df Tryz.prog 165 [.agg ((BQ t).map .p)] (.agg ((BQ (J8 t)).map .p)):=by
 intro t h1;obtain⟨tk,ti,tn,tl,ts⟩:=t;simp only[Nd,Cr] at h1;refine Aw Tryz.func165 O dg (n:=33) O O (Ar (A5 O (BF O) fun b1=>A5 O (Az Bj O) fun b2=>BR O (Ar (Ap As 7 [1,1,1] O (A5 O (Az Bj O) fun b3=>Ak As 1 [0,0] O (Am (Ar (CJ (IT (i:=0) O (X2 (aw (we O) (aw (we O) (aw (we O) (aw (KR) (aw (we O) (HX)))))))) (CJ (I0 (sz:=2)) (Ap As 2 [3] O (Al O (BB Eh O (List.length_map _)) (Ak As 1 [] O (A1 ?_)))))))))))));refine BZ (α:=Nat×Option Nat×Nat) (fun(i,o,cp)=>⟨33,mk [(2,.ptr b2 0),(3,.ptr b3 0),(14,.p (.lst (List.map Bz tl))),(15,.p (I (tl.length:Nat))),(16,.p (I (i:Int)))],[.vec o 2 (List.map Bz (tl.take i)) cp,.box b3 [.p (I tk),.p (I ti),.p (.str tn),.vs o (List.map Bz (tl.take i)).length cp,.p (.nils)],.box b2 [.p (I 0),.p (I 0),.p (.str ⟨#[]⟩),.p (.nils),.p (.nils)]],[]⟩) (fun(i,o,cp)=>tl.length - i) (fun(i,o,cp)=>i≤tl.length) ⟨0,none,0⟩ AK ?_ ?_
 ·exact BM ⟨we O,we O,we O,we O,we O,Aj⟩ (leH (is:=[0,1,2]) O (wl (oe O) (wl (oe O) (wl (oe O) (C8)))))
 rintro⟨i,o,cp⟩ hC
 try simp only at hC
 have hi:=hC;refine An As 1 [] O (Am (Ao O (fun c=>?_) (fun c=>?_)))
 ·(try simp only[sd,se] at c);refine Aq (Am (A1 (Ar ?_)));obtain⟨x,hx⟩:=A0 (l:=tl) (i:=i) Ah;refine Al O (A3 Eh O O Ah (F6 hx) (DT _)) (Al O (BL S6 O (DT _)) (A5 O (Az Li O) fun b5=>Ak As 1 [0,0] O (By (fun k=>Nat.beq k 9) Eg (BU As 6 [2,0,0] O (BG O (fun _=>MI (rows':=List.map I9 x.vars) Fv Fv Y3 O O (fun _ _ _ h=>Rx h) O (RE _) (by have:=h1.2.2.1 x (List.mem_of_getElem? hx);have:=this.1;simp only[Cr] at this;simp only[List.length_map];omega)) Aj (BG O (fun _=>B5 Zs Li O) Aj (BG O (fun _=>BT Eh Li O O O O O) Aj ?_)))))));refine KU [] O O (Cb (i:=1) (rows':=List.map Bz [(CB.mk x.const x.vars)]) Eh Eh Li O O O O O O (Nz _) (by simp only[List.length_map,List.length_take,List.length_cons,List.length_nil];omega) (I2 (f:=Bz) (tl.take i) [(CB.mk x.const x.vars)])) Ad fun o1 cp1=>⟨AB,Aj,?_⟩;refine B1 As 2 [2,0] O (Au (Ak As 2 [] O ?_));refine⟨⟨i+1,o1,cp1⟩,AN,by omega,BM ⟨we rfl,we rfl,we rfl,we rfl,we rfl,trivial⟩ (leH (is:=[1,2,3]) rfl (wl (GR (f:=Bz) (tl.take i++[(CB.mk x.const x.vars)]) (by rw[List.take_add_one,hx];rfl)) (wl (X2 (aw (we rfl) (aw (we rfl) (aw (we rfl) (aw (we (HC (f:=Bz) (tl.take i++[(CB.mk x.const x.vars)]) (by rw[List.take_add_one,hx];rfl))) (aw (we rfl) (HX))))))) (wl (oe rfl) (C8)))))⟩
 (try simp only[sd,se] at c);refine Bc (Ar (CJ (Ch (i:=0) (j:=1) (q:=3) [] O O O (DV Aj)) (Ak As 2 [0,1,0] O (BK (Bm (i:=1) O) (Av (⟨O,_,_,⟨_,_,O,(BD (i:=1) Bf O O O),O⟩,(List.nil_sublist _),?_⟩))))))
 all_goals exact⟨by show (.agg [.p (I tk),.p (I ti),.p (.str tn),.p (.lst (List.map Bz (tl.take i))),.p (.lst [])]:AV)=_;rw[show i=tl.length by omega,List.take_length];rfl,rfl⟩
theorem My:∀{σ:Type}(vis:σ→Tm→Int→Except Int ((Tm×Bool)×σ)) (HP:σ→List Ax→Prop) (fid:Nat) (caps:List AV) (hv:∀(s:σ) (t:Tm) (d:Int) (T:List Ax),Nd t→Vp t→0≤d→d<Cr→HP s T→Bb Tryz.prog fid ([TV t,.p (I d)]++caps) T (Qp (fun(r:(Tm×Bool)×σ)=> .tup [TV r.1.1,.p (.bool r.1.2)]) (fun e=> .p (.iface 245 (I e))) (fun r=>HP r.2) (vis s t d))) (n:Nat) (t:Tm) (d:Int) (s:σ) (T0:List Ax),size t≤n→Nd t→Vp t→0≤d→d+size t<Cr→HP s T0→Bb Tryz.prog 161 [.agg [.fn (.func fid) [] caps],TV t,.p (I d)] T0 (Qp (fun(r:Tm×σ)=>TV r.1) (fun e=> .p (.iface 245 (I e))) (fun r=>HP r.2) (Cp vis t d s)):=by
 intro σ vis HP fid caps hv n
 induction n with
 | zero=>intro t d s T0 h1;exact absurd h1 (by have:=size_pos t;omega)
 | succ n ih =>
  intro t d s T0 h1 h2 h3 h4 h5 h6;simp only[Cr] at h5;refine Aw Tryz.func161 O da (n:=54) O O (Ar (A5 O (BF O) fun b3=>A5 O (BF O) fun b4=>A5 O (Az Bj O) fun b6=>BR O (Ar (Ap As 4 [2,1] O (YV [_,_,_] O O O (.inr O) (hv s t d T0 h2 h3 h4 (by simp only[Cr];have:=size_pos t;omega) h6) (Dx _) ?_ ?_)))))
  rotate_left
  ·intro e _ he;exact⟨O,_,List.nil_sublist _,⟨_,E0 he,O⟩⟩
  rintro⟨⟨z,dn⟩,q⟩ T hz hT;refine Ap As 3 [] O (A5 O (Az Bj O) fun b7=>Ak As 2 [0,1] O (Am (An As 1 [] O (Ao O (fun c=>?_) (fun c=>?_)))))
  ·(try simp only[sd,se] at c);refine An As 2 [0,1,1] O (Av (⟨O,_,_,⟨_,_,O,(BD (i:=1) Bf O O Aa),O⟩,(D4 [] [_,_,_,_] O),?_⟩));exact⟨⟨z,q⟩,Dq (by rw[hz,c]),O,hT⟩
  (try simp only[sd,se] at c);refine Aq (Ar (Al O (A2 D0 O O) ?_));obtain⟨zk,zi,zn,zl,zs⟩:=z;refine Ak As 1 [0,0] O (Am (Ar (Al O (A2 D0 O O) ?_)));obtain⟨tk,ti,tn,tl,ts⟩:=t;simp only[size] at h1 h5;have hn2:=h2;simp only[Nd,Cr] at hn2;refine Al O (Bd (i:=2) NK O O O) (Al O (BB BP O (A8 _)) (Ak As 1 [] O (Ao O (fun c1=>?_) (fun c1=>?_))))
  ·(try simp only[sd,se] at c1);refine Ar (Ap As 2 [2] O (Al O (BB BP O (A8 _)) (Mk O O (Cf BP Bj O O Ag O O O Ah Ah Ah (OP (((ts.length:Nat):Int).toNat) (.mk 0 0 ⟨#[]⟩ [] []:Tm))) fun b29 cp=>Ak As 2 [1,0] O (Ar (Ap As 2 [3] O (Al O (BB BP O (A8 _)) (Ak As 1 [] O (A1 ?_))))))));refine BZ (α:=Nat×List Tm×σ×List Ax×Option Nat×Nat) (fun(i,ys,q1,U,o,cp1)=>⟨54,mk [(2,.p (I d)),(3,.ptr b3 0),(4,.ptr b4 0),(6,.ptr b6 0),(7,.ptr b7 0),(32,.p (.lst (Ay ts))),(33,.p (I (ts.length:Nat))),(34,.p (I (i:Int)))],(.vec o 5 (Ay (ys++List.replicate (ts.length - i) BH)) cp1:: .box b7 [.p (I zk),.p (I zi),.p (.str zn),.p (.lst (List.map Bz zl)),.vs o (Ay (ys++List.replicate (ts.length - i) BH)).length cp1]:: .box b6 [.p (I 0),.p (I 0),.p (.str ⟨#[]⟩),.p (.nils),.p (.nils)]:: .box b4 [.p (I tk),.p (I ti),.p (.str tn),.p (.lst (List.map Bz tl)),.p (.lst (Ay ts))]:: .box b3 [.fn (.func fid) [] caps]::U),[]⟩) (fun(i,ys,q1,U,o,cp1)=>ts.length - i) (fun(i,ys,q1,U,o,cp1)=>i≤ts.length∧(Ls vis tk ts d q i ys q1∧HP q1 U)) ⟨0,[],q,T,(some b29),cp⟩ (⟨by omega,Ls.zero _ _ _ _,hT⟩) ?_ ?_
   ·exact BM ⟨we O,we O,we O,we O,we O,we O,we O,we O,Aj⟩ (Qr [0,1,2,3,4] [_,_,_,_,_] (l':=[_,_,_,_,_]) O (wl (oe O) (wl (oe O) (wl (oe O) (wl (oe O) (wl (oe O) (C8)))))))
   rintro⟨i,ys,q1,U,o,cp1⟩ hC
   try simp only at hC
   obtain⟨hi,hB,hU⟩:=hC;have hbl:=CE tk i;refine An As 1 [] O (Am (Ao O (fun c2=>?_) (fun c2=>?_)))
   ·(try simp only[sd,se] at c2);refine Aq (Am (A1 (Ar (Bu O ?_))));obtain⟨x,hx⟩:=A0 (l:=ts) (i:=i) Ah;refine Al O (A3 BP O O Ah (Be hx) (A7 _)) (Al O (BL Bf O (A7 _)) (A5 O (Az Bj O) fun b10=>Ak As 2 [0,1] O (H4 (i:=1) O AT fun b hb=>?_)));subst hb;refine By (fun k=>Nat.beq k 11) Eg (BU As 9 [2,5,0,4] O (BG O (fun _=>BA O O (VJ tk (i:Int)) O) Aj (BU As 1 [] O (dj [_,_,_,_,_,_] O O O (.inl ⟨O,O,O⟩) (ih x (d+below tk i) q1 U (by have:=Bw hx;omega) (CY h2.2.2.2.2.1 hx) (JO h3.2 hx) (by have:=(CE tk i).1;omega) (by have:=Bw hx;have:=CE tk i;simp only[Cr];omega) hU) (Dx _) Ad Ad O AB ?_ ?_))))
    rotate_left
    ·intro e he _ _ hτ;exact⟨O,_,List.nil_sublist _,⟨_,GL (by rw[hz,c]) (hB.err hx he),O⟩⟩
    rintro⟨y,q2⟩ T1 hz1 hT1;refine⟨AB,Aj,?_⟩;refine BG O (fun _=>B0 BP O O Ah (by simp only[A8,List.length_append,List.length_replicate,hB.1];omega)) Aj (Eo O O (CA (i:=1) (j:=i) Bf O O O (by simp only[A8,List.length_append,List.length_replicate,hB.1];omega) O (F5 _) (A7 _) (Gf _) (Iv (ys++List.replicate (ts.length - i) BH) i y)) AB Aj (El O Ad (Au (Ak As 2 [] O ?_))));refine⟨⟨i+1,ys++[y],q2,T1,(some b),cp1⟩,AN,⟨by omega,⟨hB.succ hx hz1,hT1⟩⟩,BM ⟨we rfl,we rfl,we rfl,we rfl,we rfl,we rfl,we rfl,we rfl,trivial⟩ (Qr [1,2,3,4,5] [_,_,_,_,_,_] (l':=[_,_,_,_,_]) rfl (wl (EI ((ys++List.replicate (ts.length - i) BH).set i y) (by rw[M7 hB.1 Ah];congr 2)) (wl (X2 (aw (we rfl) (aw (we rfl) (aw (we rfl) (aw (we rfl) (aw (we (DU (ys++List.replicate (ts.length - i) BH) Ac)) (HX))))))) (wl (oe rfl) (wl (oe rfl) (wl (oe rfl) (C8)))))))⟩
   (try simp only[sd,se] at c2);refine Bc (Ar (CJ (Ch (i:=0) (j:=1) (q:=4) [] O O O (DV Aj)) (Ak As 2 [0,1,0] O (Av (⟨O,_,_,⟨_,_,O,(BD (i:=1) Bf O O O),O⟩,(D4 [] [_,_,_,_] O),?_⟩)))));rw[show ts.length - i=0 by omega,List.replicate_zero,List.append_nil];exact⟨⟨.mk zk zi zn zl ys,q1⟩,E6 (by rw[hz,c]) (hB.fin Ah),O,hU⟩
  (try simp only[sd,se] at c1);refine Aq (An As 2 [0,1,0] O (BK (Bm (i:=1) O) (Av (⟨O,_,_,⟨_,_,O,(BD (i:=1) Bf O O O),O⟩,(D4 [] [_,_,_,_] O),?_⟩))));exact⟨⟨.mk zk zi zn zl [],q⟩,E6 (o:= .mk zk zi zn zl zs) (q:=q) (ys:=[]) (by rw[hz,c]) (by rw[show ts=[] by (cases ts with | nil=>rfl | cons a b=>simp at c1;omega)];rfl),O,hT⟩
theorem R1:∀(fid:Nat) (caps:List AV),Bb Tryz.prog 162 [.fn (.func fid) [] caps] [] (bC (fun b=> .agg [.fn (.func 188) [] [.ptr b 0]]) [.fn (.func fid) [] caps]):=by
 intro fid caps;refine Aw Tryz.func162 O dI (n:=5) O O (Ar (A5 O (BF O) fun b1=>A5 O (Az eH O) fun b2=>BR O (An As 3 [0,0] O (Av (⟨O,_,_,⟨_,_,O,(BD (i:=0) bY O O O),O⟩,(CM (is:=[1]) O),?_⟩)))));exact⟨_,O,O⟩
theorem Pp:∀(rep:Tm→Int→Except Int Tm) (fid:Nat) (caps:List AV) (T:List Ax) (hr:∀(t:Tm) (d:Int),Nd t→Vp t→t.kind=0→0≤d→d<Cr→Bb Tryz.prog fid ([TV t,.p (I d)]++caps) T (Qp (fun(r:Tm)=>TV r) (fun e=> .p (.iface 245 (I e))) (fun r H'=>H'=T) (rep t d))) (bR:Nat) (s:Unit) (t:Tm) (d:Int),Nd t→Vp t→0≤d→d<Cr→Bb Tryz.prog 188 [TV t,.p (I d),.ptr bR 0] (.box bR [.fn (.func fid) [] caps]::T) (Qp (fun(r:(Tm×Bool)×Unit)=> .tup [TV r.1.1,.p (.bool r.1.2)]) (fun e=> .p (.iface 245 (I e))) (fun r H'=>H'= .box bR [.fn (.func fid) [] caps]::T) (Gv rep s t d)):=by
 intro rep fid caps T hr bR s t d h1 h2 h3 h4;refine Aw Tryz.func188 O bO (n:=16) O O (Ar (A5 O (BF O) fun b3=>A5 O (Az Bj O) fun b5=>Ak As 1 [] O (Am (Ar (Al O (A2 D0 O O) ?_)))));obtain⟨tk,ti,tn,tl,ts⟩:=t;refine Ak As 2 [1] O (Ao O (fun c=>?_) (fun c=>?_))
 ·(try simp only[sd,se] at c);refine Ar (Ap As 3 [2,1] O (YV [_,_,_] O O O (.inr O) (hr (.mk tk ti tn tl ts) d h1 h2 c h3 h4) (Dx _) ?_ ?_))
  rotate_left
  ·intro e _ he;exact⟨O,_,List.nil_sublist _,⟨_,Jr c he,O⟩⟩
  rintro z _ hz rfl;refine Ak As 2 [0,1] O (Av (⟨O,_,_,⟨_,_,O,(BD (i:=0) Bf O O Aa),⟨_,_,O,O,O⟩⟩,(D4 [2] [_,_,_] O),?_⟩));exact⟨⟨⟨z,true⟩,()⟩,IU c hz,O,O⟩
 (try simp only[sd,se] at c);refine Aq (Ar (Al O (Ba (i:=1) Bf O O O) (Al O (BA O O (MA (.mk tk ti tn tl ts:Tm) h1) O) (Ak As 2 [0,1] O (Av (⟨O,_,_,⟨_,_,O,(BD (i:=0) Bf O O Aa),⟨_,_,O,O,O⟩⟩,(D4 [2] [_,_,_] O),?_⟩))))));exact⟨⟨⟨.mk tk ti tn tl [],false⟩,()⟩,Jv c,O,O⟩
theorem Tc:∀(t:Tm) (d:Int) (bf bb:Nat) (fr b:Int),(Nd t)→(Vp t)→(t.kind=0)→(0≤d)→(d<Cr)→(-4611686018427387904≤b∧b≤4611686018427387904)→(-2305843009213693952≤fr∧fr≤2305843009213693952)→Bb Tryz.prog 189 [.agg ((BQ t).map .p),.p (I d),.ptr bf 0,.ptr bb 0] [.box bf [.p (I fr)],.box bb [.p (I b)]] (Qp (fun(r:Tm)=>TV r) (fun e=> .p (.iface 245 (I e))) (fun r H'=>H'=[.box bf [.p (I fr)],.box bb [.p (I b)]]) (SQ b fr t d)):=by
 intro t d bf bb fr b h1 h2 h3 h4 h5 h6 h7;obtain⟨tk,ti,tn,tl,ts⟩:=t;have hi:=h2.1 h3;simp only[Cr] at h5;refine Aw Tryz.func189 O cj (n:=32) O O (Ar (A5 O (BF O) fun b4=>A5 O (Az Bj O) fun b6=>BR O (An As 5 [1] O (Am (An As 3 [2] O (Ao O (fun c=>?_) (fun c=>?_)))))))
 ·(try simp only[sd,se] at c);refine Ar (Al O (Ba (i:=1) Bf O O O) (Al O (BA O O (MA (.mk tk ti tn tl ts:Tm) h1) O) (Ak As 1 [0,1] O (Av (⟨O,_,_,⟨_,_,O,(BD (i:=0) Bf O O Aa),O⟩,(CM (is:=[2,3]) O),?_⟩)))));exact⟨(.mk tk ti tn tl []),SU c,O,O⟩
 (try simp only[sd,se] at c);refine Aq (Am (Am (BO [3,4,6] 25 (fun y=>y= .p (.bool ((decide ((b:Int)<(0:Int)))&&(decide (((ti:Int) - (d:Int):Int)<((fr:Int) - (b:Int):Int)))))) ?_ ?_)))
 ·refine Au (Ap As 3 [3] O (BE 19 O (fun g=>?_) (fun g=>?_)))
  ·(try simp only[sd,se] at g);exact Ak As 6 [2,3] O (⟨O,O,AG,AF,⟨O,O,O,Aj⟩⟩)
  (try simp only[sd,se] at g);exact Ak As 6 [] O (⟨O,O,AG,AF,⟨O,O,O,Aj⟩⟩)
 rintro _ rfl;refine Ao O (fun c1=>?_) (fun c1=>?_)
 ·(try simp only[sd,se] at c1);exact Au (ML O O O (.inl ⟨O,O,O⟩) (O1 24) (aw (we O) (HX)) (⟨O,_,List.nil_sublist _,⟨_,XV Ah Ah Ah,O⟩⟩))
 (try simp only[sd,se] at c1);refine Aq (Ar (Ap As 4 [1,3] O (PO [] O O O (.inl ⟨O,O,O⟩) (Ph ((ti:Int)+(b:Int))) O Ag (aw (we O) (HX)) (fun _ _ h=>(congrArg List.length h).trans O) ?_ ?_)))
 rotate_left
 ·intro e _ he;exact⟨O,_,List.nil_sublist _,⟨_,by rw[RP Ah Ah,he],rfl⟩⟩
 rintro z _ hz rfl;refine Ak As 1 [0,1] O (Av (⟨O,_,_,⟨_,_,O,(BD (i:=0) Bf O O Aa),O⟩,(CM (is:=[2,3]) O),?_⟩));exact⟨z,by rw[RP Ah Ah,hz],rfl,rfl⟩
theorem Qx:∀(t:Tm) (b fr:Int),(Nd t)→(Vp t)→(size t<Cr)→(-4611686018427387904≤b∧b≤4611686018427387904)→(-2305843009213693952≤fr∧fr≤2305843009213693952)→Bb Tryz.prog 164 [.agg ((BQ t).map .p),.p (I b),.p (I fr)] [] (Qp (fun(r:Tm)=>TV r) (fun e=> .p (.iface 245 (I e))) (fun r H'=>H'=[]) (Ge b fr t)):=by
 intro t b fr h1 h2 h3 h4 h5;refine Aw Tryz.func164 O eO (n:=11) O O (Ar (A5 O (BF O) fun b3=>A5 O (BF O) fun b4=>A5 O (BF O) fun b5=>A5 O (Az Bj O) fun b6=>BR O (Am (By (fun k=>Nat.beq k 1||Nat.beq k 3) Eg (BG O (fun _=>DZ O O) Aj (R0 [(2,.read [.box b3 ((BQ t).map .p)] (.agg ((BQ t).map .p)))] O O O (.inl ⟨O,O,O⟩) (R1 189 [.ptr b5 0,.ptr b4 0]) (.inl O) Ad fun bn=>⟨AB,Aj,?_⟩))))));refine BU As 1 [4] O ?_;refine O8 [0,2,3] O O O (.inl ⟨O,O,O⟩) (My (Gv (SQ b fr)) (fun _ T=>T=[.box bn [.fn (.func 189) [] [.ptr b5 0,.ptr b4 0]],.box b5 [.p (I fr)],.box b4 [.p (I b)]]) 188 [.ptr bn 0] (fun s t d T hn hp h0 hb hT=>by subst hT;exact Pp (SQ b fr) 189 [.ptr b5 0,.ptr b4 0] _ (fun t d g1 g2 g3 g4 g5=>Tc t d b5 b4 fr b g1 g2 g3 g4 g5 h4 h5) bn s t d hn hp h0 hb) _ t 0 () _ (Nat.le_refl _) h1 h2 Ah Ah rfl) ⟨_,_,rfl,rfl,⟨_,_,rfl,rfl,⟨_,_,rfl,rfl,rfl⟩⟩⟩ Ag (Dx _) (fun _ _ h=>(congrArg List.length h).trans rfl) Ad Ad rfl AB ?_ ?_
 rotate_left
 ·intro e he _ _ hτ;exact⟨O,_,List.nil_sublist _,⟨_,KA he,O⟩⟩
 rintro⟨z,_⟩ _ hz rfl;refine⟨AB,(by repeat' first | exact trivial | rfl | refine And.intro ?_ ?_),?_⟩;refine B1 As 1 [1,1] O (Av (⟨O,_,_,⟨_,_,O,(BD (i:=1) Bf O O Aa),O⟩,(List.nil_sublist _),?_⟩));exact⟨z,Mu hz,O,O⟩
theorem Nl:∀(bo be:Nat) (co ce:List AV),D1 Tryz.prog 156 [.ptr bo 0,.ptr be 0] (.ret) [.box bo co,.box be ce] (fun H'=>H'=[.box bo co,.box be ce]):=by
 intro bo be co ce;refine I1 (ty2:=0) Tryz.func156 O Yg (n:=9) O O O O O O (Ar (Bu O (Al O (Hv Y1 O O O) (BR O ?_))));refine Ao O (fun c=>by cases c) (fun c=>?_);exact Aq ⟨.inl O,O,_,(CM (is:=[0,1]) O),O⟩
theorem N4:∀(bo be:Nat) (e:Int),D1 Tryz.prog 156 [.ptr bo 0,.ptr be 0] (.pan (.p (.iface 245 (I e)))) [.box bo [.p (I 0),.p (I 0),.p (.str ⟨#[]⟩),.p (.nils),.p (.nils)],.box be [.p (I 0)]] (fun H'=>H'=[.box bo [.p (I 0),.p (I 0),.p (.str ⟨#[]⟩),.p (.lst []),.p (.lst [])],.box be [.p (I e)]]):=by
 intro bo be e;refine I1 (ty2:=0) Tryz.func156 O Yg (n:=9) O O O O O O (Ar (Bu O (Al O (Hv Y1 O O O) (CJ (Bm (i:=0) O) (BR O ?_)))));refine Ao O (fun c=>?_) (fun c=>by cases c);exact Au (Ap As 2 [] O (Al O (BA O O (Tu _) O) (Ap As 2 [0,0,1,0] O (CJ (Bm (i:=0) O) (BR O ⟨.inl O,O,_,(CM (is:=[0,1]) O),O⟩)))))
theorem OV:∀(t:Tm) (d:Int) (bd bv:Nat) (dp:Int) (vs:List Tm),Bb Tryz.prog 158 [.agg ((BQ t).map .p),.p (I d),.ptr bd 0,.ptr bv 0] [.box bd [.p (I dp)],.box bv [.p (.lst (Ay vs))]] (Dz (.p (I (GA vs dp t.index d))) [.box bd [.p (I dp)],.box bv [.p (.lst (Ay vs))]]):=by
 intro t d bd bv dp vs;obtain⟨tk,ti,tn,tl,ts⟩:=t;refine Aw Tryz.func158 O db (n:=23) O O (Ar (A5 O (BF O) fun b4=>Ak As 1 [] O (Am (Ar (Ap As 3 [0] O (Al O (FF O O) (Al O (Bd (i:=1) FW O O O) (Al O (FF O O) (Ak As 1 [] O (Am (BO [7] 21 (fun y=>y= .p (.bool ((decide ((wr ((wr ((ti:Int) - (d:Int)):Int) - (dp:Int)):Int)≥(0:Int)))&&(decide ((wr ((wr ((ti:Int) - (d:Int)):Int) - (dp:Int)):Int)<((vs.length:Nat):Int)))))) ?_ ?_)))))))))))
 ·refine Au (Ap As 3 [] O (BE 16 O (fun g=>?_) (fun g=>?_)))
  ·(try simp only[sd,se] at g);exact Ap As 2 [2] O (BI O (BB BP O (A8 _)) (Ak As 2 [] O (⟨O,O,AG,AF,⟨O,Aj⟩⟩)))
  (try simp only[sd,se] at g);exact Ak As 5 [] O (⟨O,O,AG,AF,⟨O,Aj⟩⟩)
 rintro _ rfl;refine Ao O (fun c=>?_) (fun c=>?_)
 ·(try simp only[sd,se] at c);refine An As 2 [] O (Av (⟨O,_,_,⟨_,_,O,O,O⟩,(CM (is:=[1,2]) O),?_⟩))
  all_goals exact⟨pI (VR Ah Ah).symm,rfl⟩
 (try simp only[sd,se] at c);refine Aq (An As 1 [] O (Av (⟨O,_,_,⟨_,_,O,O,O⟩,(CM (is:=[1,2]) O),?_⟩)))
 all_goals exact⟨pI (WG (ti:=ti) Ah).symm,rfl⟩
theorem TM:∀(t:Tm) (d:Int) (bv bc bs bd bvs cb:Nat) (dp n:Int) (vs:List Tm) (sz:List Int),(sz.length=vs.length)→Bb Tryz.prog 159 [.agg ((BQ t).map .p),.p (I d),.ptr bv 0,.ptr bc 0,.ptr bs 0] [.box bv [.fn (.func 158) [] [.ptr bd 0,.ptr bvs 0]],.box bc [.ptr cb 0],.box bs [.p (.lst (List.map Ix sz))],.box bd [.p (I dp)],.box bvs [.p (.lst (Ay vs))],.box cb [.p (I n)]] (Qp (fun(r:(Tm×Bool)×Int)=> .tup [TV r.1.1,.p (.bool r.1.2)]) (fun e=> .p (.iface 245 (I e))) (fun r H'=>H'=[.box bv [.fn (.func 158) [] [.ptr bd 0,.ptr bvs 0]],.box bc [.ptr cb 0],.box bs [.p (.lst (List.map Ix sz))],.box bd [.p (I dp)],.box bvs [.p (.lst (Ay vs))],.box cb [.p (I r.2)]]) (MP vs sz dp n t d)):=by
 intro t d bv bc bs bd bvs cb dp n vs sz h1;obtain⟨tk,ti,tn,tl,ts⟩:=t;refine Aw Tryz.func159 O cU (n:=33) O O (Ar (A5 O (BF O) fun b5=>A5 O (Az Bj O) fun b7=>Ak As 1 [] O (Am (Ar (Ap As 3 [2,1] O (Al O (Bq [5,6] O (.inr O) (OV (.mk tk ti tn tl ts:Tm) d bd bvs dp vs) ⟨_,_,O,O,⟨_,_,O,O,O⟩⟩ Ag O (.inl O)) (Ak As 1 [] O (Am (BO [3,4,5,7,9] 20 (fun y=>y= .p (.bool (((tk:Int)==(0:Int))&&(decide ((GA vs dp (.mk tk ti tn tl ts:Tm).index d:Int)≥(0:Int)))))) ?_ ?_)))))))))
 ·refine Au (Ap As 4 [1] O (BE 17 O (fun g=>?_) (fun g=>?_)))
  ·(try simp only[sd,se] at g);exact Ak As 3 [] O (⟨O,O,AG,AF,⟨O,O,O,O,O,Aj⟩⟩)
  (try simp only[sd,se] at g);exact Ak As 3 [] O (⟨O,O,AG,AF,⟨O,O,O,O,O,Aj⟩⟩)
 rintro _ rfl;refine Ao O (fun c=>?_) (fun c=>?_)
 ·(try simp only[sd,se] at c);have hvl:=Ow (vs:=vs) (dp:=dp) (ti:=(Tm.mk tk ti tn tl ts).index) (d:=d) c.2;refine By (fun k=>Nat.beq k 5) Eg (BU As 3 [3,4] O ?_);obtain⟨x,hx⟩:=A0 (l:=sz) (i:=(GA vs dp (.mk tk ti tn tl ts:Tm).index d:Int).toNat) Ah;refine BG O (fun _=>A3 Po O O Ah (Qj hx) (O)) Aj (BG O (fun _=>GZ FW O) Aj (O8 [7] O O O (.inl ⟨O,O,O⟩) (UK cb n x) ⟨_,_,O,O,O⟩ Ag (aw (we O) (aw (we O) (HX))) (fun _ _ h=>(congrArg List.length h).trans O) Ad Ad O AB ?_ ?_))
  rotate_left
  ·intro e he _ _ hτ;exact⟨O,_,List.nil_sublist _,⟨_,Jf (Ll c hx) he,O⟩⟩
  rintro r _ hz rfl;refine⟨AB,Aj,?_⟩;refine El O Ad (Am (By (fun k=>false) Eg (B1 As 6 [1,0,0] O (BK (Bm (i:=0) O) (Av (⟨O,_,_,⟨_,_,O,(BD (i:=0) Bf O O O),⟨_,_,O,O,O⟩⟩,(CM (is:=[2,3,4,5,6,7]) O),?_⟩))))));exact⟨⟨⟨BH,decide (tk=0)⟩,r⟩,LP (Ll c hx) hz,O,O⟩
 (try simp only[sd,se] at c);refine Au (Al O (Bd (i:=3) aY O O O) (PO [7] O O O (.inl ⟨O,O,O⟩) (UK cb n 1) ⟨_,_,O,O,O⟩ Ag (aw (we O) (aw (we O) (HX))) (fun _ _ h=>(congrArg List.length h).trans O) ?_ ?_))
 rotate_left
 ·intro e _ he;exact⟨O,_,List.nil_sublist _,⟨_,Jf (LU (by simp_all [Tm.index])) he,O⟩⟩
 rintro r _ hz rfl;refine BR O (Am (By (fun k=>false) Eg (B1 As 6 [1,0,0] O (BK (Bm (i:=0) O) (Av (⟨O,_,_,⟨_,_,O,(BD (i:=0) Bf O O O),⟨_,_,O,O,O⟩⟩,(CM (is:=[2,3,4,5,6,7]) O),?_⟩))))));exact⟨⟨⟨BH,decide (tk=0)⟩,r⟩,LP (LU (by simp_all [Tm.index])) hz,O,O⟩
theorem TJ:∀(t:Tm) (d:Int) (bv bvs bd:Nat) (dp:Int) (vs:List Tm),(Nd t)→(Vp t)→(t.kind=0)→(0≤d)→(d<Cr)→(Ej vs)→(Pf vs)→(∀v∈vs,size v<Cr)→(0≤dp∧dp≤65536)→(vs.length<Cr)→Bb Tryz.prog 163 [.agg ((BQ t).map .p),.p (I d),.ptr bv 0,.ptr bvs 0,.ptr bd 0] [.box bv [.fn (.func 158) [] [.ptr bd 0,.ptr bvs 0]],.box bvs [.p (.lst (Ay vs))],.box bd [.p (I dp)]] (Qp (fun(r:Tm)=>TV r) (fun e=> .p (.iface 245 (I e))) (fun r H'=>H'=[.box bv [.fn (.func 158) [] [.ptr bd 0,.ptr bvs 0]],.box bvs [.p (.lst (Ay vs))],.box bd [.p (I dp)]]) (HI vs dp t d)):=by
 intro t d bv bvs bd dp vs h1 h2 h3 h4 h5 h6 h7 h8 h9 h10;obtain⟨tk,ti,tn,tl,ts⟩:=t;have hti:=h2.1 h3;simp only[Cr] at h5;have hw:wr (dp+d)=dp+d:=DX (by unfold Gy;omega);refine Aw Tryz.func163 O cN (n:=37) O O (Ar (A5 O (BF O) fun b5=>A5 O (Az Bj O) fun b7=>BR O (Am (Ar (Ap As 3 [2,1] O (Al O (Bq [4,3] O (.inr O) (OV (.mk tk ti tn tl ts:Tm) d bd bvs dp vs) ⟨_,_,O,O,⟨_,_,O,O,O⟩⟩ Ag O (.inl O)) (Ak As 1 [] O (An As 2 [] O (Ao O (fun c=>?_) (fun c=>?_))))))))))
 ·(try simp only[sd,se] at c);have hvl:=Ow (vs:=vs) (dp:=dp) (ti:=(Tm.mk tk ti tn tl ts).index) (d:=d) c;refine Am (By (fun k=>Nat.beq k 7) Eg (BU As 2 [3] O ?_));obtain⟨x,hx⟩:=A0 (l:=vs) (i:=(GA vs dp (.mk tk ti tn tl ts:Tm).index d:Int).toNat) Ah;refine BG O (fun _=>A3 BP O O Ah (Be hx) (A7 _)) Aj (BU As 3 [4] O (BG O (fun _=>DJ O O) Aj (O8 [] O O O (.inl ⟨O,O,O⟩) (Qx x (wr ((dp:Int)+(d:Int))) 0 (CY h6 hx) (JO h7 hx) (h8 x (List.mem_of_getElem? hx)) (by rw[hw];omega) Ah) O Ag (aw (we O) (aw (we O) (aw (we O) (HX)))) (fun _ _ h=>(congrArg List.length h).trans O) Ad Ad O AB ?_ ?_)))
  rotate_left
  ·intro e he _ _ hτ;exact⟨O,_,List.nil_sublist _,⟨_,(Lh (i:=ti) c hx).trans he,O⟩⟩
  rintro z _ hz rfl;refine⟨AB,Aj,?_⟩;refine B1 As 1 [0,1] O (Av (⟨O,_,_,⟨_,_,O,(BD (i:=0) Bf O O Aa),O⟩,(CM (is:=[2,3,4]) O),?_⟩));exact⟨z,(Lh (i:=ti) c hx).trans hz,O,O⟩
 (try simp only[sd,se] at c);refine Aq (Am (Ar (Ap As 3 [1] O (Al O (FF O O) (Ak As 2 [4] O (Ao O (fun c1=>?_) (fun c1=>?_)))))))
 ·(try simp only[sd,se] at c1);refine Ar (Al O (Ba (i:=1) Bf O O O) (Al O (BA O O (MA (.mk tk ti tn tl ts:Tm) h1) O) (Ak As 1 [0,1] O (Av (⟨O,_,_,⟨_,_,O,(BD (i:=0) Bf O O Aa),O⟩,(CM (is:=[2,3,4]) O),?_⟩)))));exact⟨(.mk tk ti tn tl []),Qa (by simpa [Tm.index] using c) Ah,O,O⟩
 (try simp only[sd,se] at c1);refine Aq (Ar (Ap As 3 [1,3] O (Al O (BB BP O (A8 _)) (Al O (FF O O) (PO [] O O O (.inl ⟨O,O,O⟩) (Ph (wr ((ti:Int) - ((vs.length:Nat):Int)))) O Ag (aw (we O) (HX)) (fun _ _ h=>(congrArg List.length h).trans O) ?_ ?_)))))
 rotate_left
 ·intro e _ he;exact⟨O,_,List.nil_sublist _,⟨_,by rw[Oy (by simpa [Tm.index] using c) Ah,he],rfl⟩⟩
 rintro z _ hz rfl;refine Ak As 1 [0,1] O (Av (⟨O,_,_,⟨_,_,O,(BD (i:=0) Bf O O Aa),O⟩,(CM (is:=[2,3,4]) O),?_⟩));exact⟨z,by rw[Oy (by simpa [Tm.index] using c) Ah,hz],rfl,rfl⟩
theorem _root_.Go.AE {α:Prop}(h:α:=by simp only[List.length_append,List.length_map,List.length_take,List.length_replicate];omega):α:=h
set_option maxHeartbeats 2000000 in
theorem Ta:∀(t:Tm) (vs:List Tm) (dp:Int),(Nd t)→(Vp t)→(size t<1099511627776)→(Ej vs)→(Pf vs)→(∀v∈vs,size v<Cr)→(0≤dp∧dp≤65536)→(vs.length<Cr)→Df Tryz.prog 129 [.agg ((BQ t).map .p),.p (.lst (Ay vs)),.p (I dp)] (.tup [.agg ((BQ ((CZ t vs dp).1)).map .p),.p (I ((CZ t vs dp).2))]):=by
 intro t vs dp h1 h2 h3 h4 h5 h6 h7 h8;have h8b:=h8;simp only[Cr] at h8b;refine C9 Tryz.func129 O eS (n:=49) O O (Ar (A5 O (BF O) fun b3=>A5 O (BF O) fun b4=>A5 O (BF O) fun b5=>A5 O (Az Bj O) fun b6=>A5 O (Az ZV O) fun b7=>BR O (Am (An As 2 [2] O (Ao O (fun c=>?_) (fun c=>?_))))))
 ·(try simp only[sd,se] at c);exact absurd c Ah
 (try simp only[sd,se] at c);refine Aq (Ar (Al O (DZ O O) (Qm O O O O (BR O (Ar (Al O (DZ O O) (A5 O (Az bM O) fun b8=>Ak As 1 [0,0] O (Ar (Al O (Bd (i:=4) NK O O O) (Al O (BB BP O (A8 _)) (Mk O O (Cf Po dR O O Ag O O O Ah Ah Ah (RA (f:=Ix) (((vs.length:Nat):Int).toNat) 0)) fun b20 cp=>A5 O (Az bg O) fun b9=>Ak As 1 [0,0] O (Am (Ar (Al O (Bd (i:=6) NK O O O) (Al O (BB BP O (A8 _)) (Ak As 1 [] O (A1 ?_)))))))))))))))));refine BZ (α:=Nat×Option Nat×Nat) (fun(i,o,cp1)=>⟨49,mk [(3,.ptr b3 0),(4,.ptr b4 0),(5,.ptr b5 0),(6,.ptr b6 0),(7,.ptr b7 0),(8,.ptr b8 0),(9,.ptr b9 0),(21,.p (.lst (Ay vs))),(22,.p (I (vs.length:Nat))),(23,.p (I (i:Int)))],[.box b9 [.vs o (List.map Ix (((vs.take i).map fun v=>(size v:Int))++List.replicate (vs.length - i) 0)).length cp1],.vec o 1 (List.map Ix (((vs.take i).map fun v=>(size v:Int))++List.replicate (vs.length - i) 0)) cp1,.box b8 [.fn (.func 158) [] [.ptr b5 0,.ptr b4 0]],.box b7 [.p (I 0)],.box b6 [.p (I 0),.p (I 0),.p (.str ⟨#[]⟩),.p (.nils),.p (.nils)],.box b5 [.p (I dp)],.box b4 [.p (.lst (Ay vs))],.box b3 ((BQ t).map .p)],[.clo (.func 156) [.ptr b6 0,.ptr b7 0]]⟩) (fun(i,o,cp1)=>vs.length - i) (fun(i,o,cp1)=>i≤vs.length) ⟨0,(some b20),cp⟩ AK ?_ ?_
 ·exact BM ⟨we O,we O,we O,we O,we O,we O,we O,we O,we O,we O,Aj⟩ (leH (is:=[0,1,2,3,4,5,6,7]) O (wl (X2 (aw (we (HC (f:=Ix) (List.replicate (((vs.length:Nat):Int).toNat) 0) Ai)) (HX))) (wl (GR (f:=Ix) (List.replicate (((vs.length:Nat):Int).toNat) 0) Ai) (wl (oe O) (wl (oe O) (wl (oe O) (wl (oe O) (wl (oe O) (wl (oe O) (C8))))))))))
 rintro⟨i,o,cp1⟩ hC
 try simp only at hC
 have hi:=hC;refine An As 1 [] O (Am (Ao O (fun c1=>?_) (fun c1=>?_)))
 ·(try simp only[sd,se] at c1);refine Aq (Am (A1 (Ar (Bu O ?_))));obtain⟨x,hx⟩:=A0 (l:=vs) (i:=i) Ah;refine Al O (A3 BP O O Ah (Be hx) (A7 _)) (Al O (BL Bf O (A7 _)) (A5 O (Az Bj O) fun b11=>Ak As 2 [0,1] O (H4 (i:=2) O AT fun b hb=>?_)));subst hb;refine By (fun k=>false) Eg (BU As 3 [1,0] O (BG O (fun _=>BA O O (XH x (CY h4 hx) (by have:=h6 x (List.mem_of_getElem? hx);simp only[Cr] at this;omega)) O) Aj (BG O (fun _=>B0 Po O O Ah AE) Aj (Eo O O (CA (i:=2) (j:=i) FW O O O AE O O O O (Q8 (f:=Ix) (((vs.take i).map fun v=>(size v:Int))++List.replicate (vs.length - i) 0) i (size x:Nat))) AB Aj (El O Ad (Au (Ak As 2 [] O ?_)))))));refine⟨⟨i+1,(some b),cp1⟩,AN,by omega,BM ⟨we rfl,we rfl,we rfl,we rfl,we rfl,we rfl,we rfl,we rfl,we rfl,we rfl,trivial⟩ (leH (is:=[1,2,3,4,5,6,7,8]) rfl (wl (X2 (aw (we (KI (f:=Ix) (((vs.take i).map fun v=>(size v:Int))++List.replicate (vs.length - i) 0) Ac)) (HX))) (wl (GR (f:=Ix) ((((vs.take i).map fun v=>(size v:Int))++List.replicate (vs.length - i) 0).set i (size x:Nat)) (aB hx)) (wl (oe rfl) (wl (oe rfl) (wl (oe rfl) (wl (oe rfl) (wl (oe rfl) (wl (oe rfl) (C8))))))))))⟩
 (try simp only[sd,se] at c1);refine Bc (Ar ?_);rw[cG (vs:=vs) (i:=i) Ah];refine CJ (Ch (i:=1) (j:=0) (q:=0) [] O O O (DV Aj)) (Al O (B5 bT dQ O) (A5 O (BF O) fun b35=>A5 O (Az ax O) fun b12=>Ak As 1 [0,0] O (Ar (Ap As 3 [8] O ?_))));refine PO [3,0,2,6,7,1] O O O (.inl ⟨O,O,O⟩) (My (MP vs (vs.map fun v=>(size v:Int)) dp) (fun n T=>T=[.box b8 [.fn (.func 158) [] [.ptr b5 0,.ptr b4 0]],.box b12 [.ptr b35 0],.box b9 [.p (.lst (List.map Ix (vs.map fun v=>(size v:Int))))],.box b5 [.p (I dp)],.box b4 [.p (.lst (Ay vs))],.box b35 [.p (I n)]]) 159 [.ptr b8 0,.ptr b12 0,.ptr b9 0] (fun n t d T hn hp h0 hb hT=>by subst hT;exact TM t d b8 b12 b9 b5 b4 b35 dp n vs (vs.map fun v=>(size v:Int)) Ai) _ t 0 0 _ (Nat.le_refl _) h1 h2 Ah AU rfl) ⟨_,_,rfl,rfl,⟨_,_,rfl,rfl,⟨_,_,rfl,rfl,⟨_,_,rfl,rfl,⟨_,_,rfl,rfl,⟨_,_,rfl,rfl,rfl⟩⟩⟩⟩⟩⟩ Ag (Dx _) (fun _ _ h=>(congrArg List.length h).trans rfl) ?_ ?_
 rotate_left
 ·intro e _ he;refine⟨_,_,_,O,OG (is:=[1,0]) _ Ag ⟨_,_,O,O,⟨_,_,O,O,O⟩⟩,D1.eq (N4 b6 b7 _) ?_⟩;refine⟨_,[],⟨_,_,O,(BD (i:=0) Bf O O O),⟨_,_,O,(EU (i:=1) Qw O O),O⟩⟩,(List.nil_sublist _),?_⟩;rw[FZ (Ku he)];exact⟨O,O⟩
 rintro⟨z,n1⟩ _ hz rfl;refine BR O (Am (By (fun k=>Nat.beq k 1||Nat.beq k 3) Eg (BG O (fun _=>DZ O O) Aj (R0 [(2,.read [.box b3 ((BQ t).map .p)] (.agg ((BQ t).map .p)))] O O O (.inl ⟨O,O,O⟩) (R1 163 [.ptr b8 0,.ptr b4 0,.ptr b5 0]) (.inl O) Ad fun bn=>⟨AB,Aj,?_⟩))));refine BU As 1 [9] O ?_;refine O8 [0,4,8,7] O O O (.inl ⟨O,O,O⟩) (My (Gv (HI vs dp)) (fun _ T=>T=[.box bn [.fn (.func 163) [] [.ptr b8 0,.ptr b4 0,.ptr b5 0]],.box b8 [.fn (.func 158) [] [.ptr b5 0,.ptr b4 0]],.box b4 [.p (.lst (Ay vs))],.box b5 [.p (I dp)]]) 188 [.ptr bn 0] (fun s t d T hn hp h0 hb hT=>by subst hT;exact Pp (HI vs dp) 163 [.ptr b8 0,.ptr b4 0,.ptr b5 0] [.box b8 [.fn (.func 158) [] [.ptr b5 0,.ptr b4 0]],.box b4 [.p (.lst (Ay vs))],.box b5 [.p (I dp)]] (fun t d g1 g2 g3 g4 g5=>TJ t d b8 b4 b5 dp vs g1 g2 g3 g4 g5 h4 h5 h6 h7 h8) bn s t d hn hp h0 hb) _ t 0 () _ (Nat.le_refl _) h1 h2 Ah AU rfl) ⟨_,_,rfl,rfl,⟨_,_,rfl,rfl,⟨_,_,rfl,rfl,⟨_,_,rfl,rfl,rfl⟩⟩⟩⟩ Ag (Dx _) (fun _ _ h=>(congrArg List.length h).trans rfl) Ad Ad rfl AB ?_ ?_
 rotate_left
 ·intro e he _ _ hτ;refine⟨_,_,_,O,OG (is:=[4,3]) _ Ag ⟨_,_,O,O,⟨_,_,O,O,O⟩⟩,D1.eq (N4 b6 b7 _) ?_⟩;refine⟨_,[],⟨_,_,O,(BD (i:=0) Bf (hτ 6 (M8 Ad)) O O),⟨_,_,O,(EU (i:=1) Qw (hτ 7 (M8 Ad)) O),O⟩⟩,(List.nil_sublist _),?_⟩;rw[FZ (Kh hz he)];exact⟨O,O⟩
 rintro⟨z1,_⟩ _ hz1 rfl;refine⟨AB,(by repeat' first | exact trivial | rfl | refine And.intro ?_ ?_),?_⟩;refine B1 As 1 [6,1] O (Am (Ar (Al O (Ba (i:=6) Bf O O Aa) (Al O (BA O O (VX _ z1 (Nat.le_refl _) (Wq h4 h5 h1 h2 hz1)) O) (Ak As 1 [] O (Ao O (fun c2=>?_) (fun c2=>?_)))))))
 ·(try simp only[sd,se] at c2);refine Ar (Al O (B5 D0 Bj O) ?_);obtain⟨z1k,z1i,z1n,z1l,z1s⟩:=z1;refine Ak As 2 [6,0,5,0] O (BK (Bm (i:=6) O) (Av (⟨_,_,_,O,CK (is:=[6,5]) Ag ⟨_,_,O,O,⟨_,_,O,O,O⟩⟩,D1.eq (Nl b6 b7 _ _) ?_⟩)));refine⟨_,_,⟨_,_,O,(BD (i:=0) Bf O O O),⟨_,_,O,(EU (i:=1) Qw O O),O⟩⟩,(List.nil_sublist _),?_⟩;rw[K0 (IC hz hz1) Ah]
  all_goals exact⟨rfl,rfl⟩
 (try simp only[sd,se] at c2);refine Aq (An As 3 [6,6,1,5,0] O (Av (⟨_,_,_,O,CK (is:=[6,5]) Ag ⟨_,_,O,O,⟨_,_,O,O,O⟩⟩,D1.eq (Nl b6 b7 _ _) ?_⟩)));refine⟨_,_,⟨_,_,O,(BD (i:=0) Bf O O Aa),⟨_,_,O,(EU (i:=1) Qw O O),O⟩⟩,(List.nil_sublist _),?_⟩;rw[OC (IC hz hz1) Ah]
 all_goals exact⟨rfl,rfl⟩
theorem N2:∀(t:Tm) (vs:List Tm),(Nd t)→(Vp t)→(size t<1099511627776)→(Ej vs)→(Pf vs)→(∀v∈vs,size v<Cr)→(vs.length<Cr)→Df Tryz.prog 104 [.agg ((BQ t).map .p),.p (.lst (Ay vs))] (.tup [.agg ((BQ ((CZ t vs 0).1)).map .p),.p (I ((CZ t vs 0).2))]):=by
 intro t vs h1 h2 h3 h4 h5 h6 h7;refine Aw Tryz.func104 O dE (n:=11) O O (Ar (A5 O (BF O) fun b2=>A5 O (Az Bj O) fun b4=>Ak As 1 [] O (Ar (Ap As 2 [1] O (Al O (BA O O (Ta t vs 0 h1 h2 h3 h4 h5 h6 Ah h7) O) (Ak As 4 [0,1] O (Av (⟨O,_,_,⟨_,_,O,(BD (i:=0) Bf O O Aa),⟨_,_,O,O,O⟩⟩,(List.nil_sublist _),?_⟩))))))))
 all_goals exact⟨rfl,rfl⟩
end Go.Proofs.YtifphifongokcaaGreat
namespace Go.Eu
open Go.Abs
mutual
def aU (x d:Int):Tm→Bool
 | .mk k i n l ks=>(decide (k=0)&&decide (d≤i)&&decide (i - d=x))||LG x d k 0 ks
def LG (x d k:Int) (j:Nat):List Tm→Bool
 | []=>false
 | t::ts=>aU x (d+below k j) t||LG x d k (j+1) ts
end
def Z5 (l:List Int) (n:Int) (l2:List Int):Prop:=(∀x,x∈l2↔x=n∨x∈l)∧l2.length≤l.length+1
theorem Z5.same {l:List Int}{n:Int}(h:n∈l):Z5 l n l:=⟨fun x=>⟨.inr,fun e=>e.elim (fun e=>e▸h) id⟩,by omega⟩
structure NX (l:List Int) (n:Int) (i:Nat) (f:Bool) (out:List Int):Prop where
 mem:∀x,x∈out↔(f=true∧x=n)∨x∈l.take i
 len:out.length≤i+(if f=true then 1 else 0)
theorem NX.zero (l:List Int) (n:Int):NX l n 0 false []:=⟨by simp,by simp⟩
theorem NX.step {l:List Int}{n:Int}{i:Nat}{f:Bool}{out:List Int}{y:Int}(h:NX l n i f out) (hy:l[i]?=some y):NX l n (i+1) f (out++[y]):=by
 refine⟨fun x=>?_,by have:=h.len;simp;omega⟩;rw[List.mem_append,h.mem,List.take_add_one,hy];simp only[List.mem_singleton,Option.toList_some,List.mem_append];constructor
 ·rintro((h | h) | h)
  ·exact .inl h
  ·exact .inr (.inl h)
  exact .inr (.inr h)
 rintro(h | h | h)
 ·exact .inl (.inl h)
 ·exact .inl (.inr h)
 exact .inr h
theorem NX.put {l:List Int}{n:Int}{i:Nat}{out:List Int}(h:NX l n i false out):NX l n i true (out++[n]):=by
 refine⟨fun x=>?_,by have:=h.len;simp at *;omega⟩;rw[List.mem_append,h.mem];simp only[List.mem_singleton,true_and,Bool.false_eq_true,false_and,false_or];constructor
 ·rintro(h | h)
  ·exact .inr h
  exact .inl h
 rintro(h | h)
 ·exact .inr h
 exact .inl h
theorem NX.done {l:List Int}{n:Int}{i:Nat}{out:List Int}(h:NX l n i true out) (hi:l.length≤i) (hi2:i≤l.length):Z5 l n out:=by
 refine⟨fun x=>?_,by have:=h.len;simp at this;omega⟩;rw[h.mem,List.take_of_length_le hi];simp
def ez (l:List Int) (d:Int) (t:Tm) (l2:List Int):Prop:=(∀x,x∈l2↔x∈l∨aU x d t=true)∧l2.length≤l.length+size t
structure dC (l:List Int) (d:Int) (k i0:Int) (ts:List Tm) (i:Nat) (l2:List Int):Prop where
 mem:∀x,x∈l2↔x∈l∨(k=0∧d≤i0∧i0 - d=x)∨LG x d k 0 (ts.take i)=true
 len:l2.length≤l.length+1+BC (ts.take i)
theorem Pj (x d k:Int):∀(ts us:List Tm) (j:Nat),LG x d k j (ts++us)=(LG x d k j ts||LG x d k (j+ts.length) us)
 | [],us,j=>by simp[LG]
 | t::ts,us,j=>by
  simp only[List.cons_append,LG,Pj x d k ts us (j+1),List.length_cons];rw[show j+1+ts.length=j+(ts.length+1) by omega,Bool.or_assoc]
theorem N9:∀(ts us:List Tm),BC (ts++us)=BC ts+BC us
 | [],us=>by simp[BC]
 | t::ts,us=>by simp only[List.cons_append,BC,N9 ts us];omega
theorem dC.step {l l2 l3:List Int}{d k i0:Int}{ts:List Tm}{i:Nat}{y:Tm}(h:dC l d k i0 ts i l2) (hy:ts[i]?=some y) (hf:ez l2 (d+below k i) y l3):dC l d k i0 ts (i+1) l3:=by
 have hi:i<ts.length:=(List.getElem?_eq_some_iff.1 hy).1;have ht:ts.take (i+1)=ts.take i++[y]:=by rw[List.take_add_one,hy];rfl
 refine⟨fun x=>?_,?_⟩
 ·rw[hf.1,h.mem,ht,Pj];have hl:(ts.take i).length=i:=by simp;omega
  simp only[LG,hl,Nat.zero_add,Bool.or_false,Bool.or_eq_true];constructor
  ·rintro((h | h | h) | h)
   ·exact .inl h
   ·exact .inr (.inl h)
   ·exact .inr (.inr (.inl h))
   exact .inr (.inr (.inr h))
  rintro(h | h | h | h)
  ·exact .inl (.inl h)
  ·exact .inl (.inr (.inl h))
  ·exact .inl (.inr (.inr h))
  exact .inr h
 have:=h.len;have:=hf.2;rw[ht,N9];simp only[BC];omega
theorem dC.done {l l2:List Int}{d k i0:Int}{n:ByteArray}{ls:List CB}{ts:List Tm}{i:Nat}(h:dC l d k i0 ts i l2) (hi:ts.length≤i):ez l d (.mk k i0 n ls ts) l2:=by
 refine⟨fun x=>?_,?_⟩
 ·rw[h.mem,List.take_of_length_le hi];simp[aU,and_assoc]
 have:=h.len;rw[List.take_of_length_le hi] at this;simp only[size];omega
mutual
def bp (d:Int):Tm→List Int
 | .mk k i n l ks=>(if k=0∧d≤i then [i - d] else [])++Tq d k 0 ks
def Tq (d k:Int) (j:Nat):List Tm→List Int
 | []=>[]
 | t::ts=>bp (d+below k j) t++Tq d k (j+1) ts
end
mutual
theorem Mc:∀(t:Tm) (d:Int),(∀x,x∈bp d t↔aU x d t=true)∧(bp d t).length≤size t
 | .mk k i n l ks,d=>by
  obtain⟨h1,h2⟩:=Ob ks d k 0;simp only[bp,aU,size];refine⟨fun x=>?_,?_⟩
  ·rw[List.mem_append,h1];split
   ·rename_i h;simp only[h.1,h.2,List.mem_singleton,decide_true,Bool.true_and,Bool.or_eq_true,decide_eq_true_eq];exact or_congr eq_comm Iff.rfl
   rename_i h;simp;intro e1 e2;exact absurd ⟨e1,e2⟩ h
  rw[List.length_append];split<;>simp<;>omega
theorem Ob:∀(ts:List Tm) (d k:Int) (j:Nat),(∀x,x∈Tq d k j ts↔LG x d k j ts=true)∧(Tq d k j ts).length≤BC ts
 | [],d,k,j=>by simp[Tq,LG]
 | t::ts,d,k,j=>by
  obtain⟨h1,h2⟩:=Mc t (d+below k j);obtain⟨h3,h4⟩:=Ob ts d k (j+1);simp only[Tq,LG,BC];exact⟨fun x=>by rw[List.mem_append,h1,h3];simp,by rw[List.length_append];omega⟩
end
theorem ez.ex (l:List Int) (d:Int) (t:Tm):ez l d t (l++bp d t):=⟨fun x=>by rw[List.mem_append,(Mc t d).1],by rw[List.length_append];have:=(Mc t d).2;omega⟩
end Go.Eu
namespace Go.Abs
section
variable {P:Program}{o:Oper}{ρ:Operand→AV}{H H':List Ax}{v v':AV}
end
section
variable {P:Program}{dst:Option Tmp}{ty:TypeId}{pos:String}{aft:Array Edge}{g:Option (Nat×Bool)}{ρ:Operand→AV}{H:List Ax}{x y z:Operand}{v:AV}
def kH (P:Program) (T:TypeId) (name:String):Option FuncId:=match P.info? T,P.underlying T with
 | some i,some (.pointer _)=>match i.methods.find? (·.name==name) with
  | some m=>match m.path.toList,m.func with
   | [],some (f,true)=>some f
   | _,_=>none
  | none=>none
 | _,_=>none
end
end Go.Abs
