/- Part of the proofs: an abstract program logic, plain models and contracts of functions. -/
import Derived.Test.YtldfmjoncbjldaaGreatPb
import Derived.Shelf.Sort.Plain
import Derived.Shelf.Slices.In.SortNone
import Derived.Test.YtldfmjoncbjldaaGreatPd
import Derived.Test.YtldfmjoncbjldaaGreatPc
set_option linter.unusedVariables false
set_option linter.unusedSimpArgs false
set_option maxRecDepth 100000
namespace Go.Eu
open Go.Abs Go.Sort
def Oh (zs:List Int):List Int:=zs.mergeSort fun x y=>decide (x≤y)
theorem Q9 (zs:List Int):(Oh zs).length=zs.length:=List.length_mergeSort _
end Go.Eu
namespace Go.Eu
open Go.Abs
def QM (c:Int) (v:Bm):Bool:=decide (-65536≤v.index)&&decide (v.index<8)&&decide (0≤v.plus)&&decide (v.plus≤100)&&(decide (c≤0)||decide (v.plus<c))
def Gt (p:Option Int) (i:Int):Bool:=match p with
 | none=>true
 | some j=>decide (j<i)
def E2 (c:Int):Option Int→List Bm→Bool
 | _,[]=>true
 | p,v::vs=>QM c v&&Gt p v.index&&E2 c (some v.index) vs
def Ca (l:B6):Bool:=decide (0≤l.const)&&decide (l.const≤100)&&E2 l.const none l.vars
def E4:B6:=⟨0,[]⟩
def dB (l:B6):Bool:=l.vars.any fun v=>decide (l.const≤v.plus)
def Yt (vs:List Bm):Int:=(vs.getD (vs.length - 1) default).index
def Q0 (l:B6):Int:=if Ca l=true∧l.vars≠[] then max 0 (Yt l.vars+1) else 0
def DY (x:Bm) (rec:List Bm→List Bm):List Bm→List Bm
 | []=>x::rec []
 | y::b=>if x.index<y.index then x::rec (y::b) else if y.index<x.index then y::DY x rec b else ⟨x.index,max x.plus y.plus⟩::rec b
def Ce:List Bm→List Bm→List Bm
 | [],b=>b
 | x::a,b=>DY x (Ce a) b
def MI (vs:List Bm):Int:=vs.foldl (fun m v=>max m v.plus) 0
def WK (c:Int) (vs:List Bm):B6:=⟨if vs≠[]∧c≤MI vs then 0 else c,vs⟩
def QY (a b:B6):B6:=WK (max a.const b.const) (Ce a.vars b.vars)
def YT (n:Int) (v:Bm):Bm:=⟨v.index,v.plus+n⟩
def L1 (l:B6) (n:Int):Int:=if l.const > 0∨l.vars=[] then l.const+n else 0
def I8 (l:B6) (n:Int):B6×Int :=
 if Ca l=false then (E4,3) else if n<0 then (E4,2) else if n > 100 then (E4,15)
 else if L1 l n > 100 then (E4,15)
 else if (l.vars.any fun v=>decide (v.plus+n > 100))=true then (E4,15)
 else (⟨L1 l n,l.vars.map (YT n)⟩,0)
def Se (ps:List B6):B6→List Bm→B6×Int
 | out,[]=>(out,0)
 | out,v::vs =>
  if 0≤v.index∧v.index<ps.length then
   (if (I8 (ps.getD v.index.toNat default) v.plus).2≠0 then (E4,(I8 (ps.getD v.index.toNat default) v.plus).2)
    else Se ps (QY out (I8 (ps.getD v.index.toNat default) v.plus).1) vs)
  else Se ps (QY out ⟨0,[v]⟩) vs
def IF (l:B6) (ps:List B6):B6×Int :=
 if Ca l=false∨ps.all Ca=false then (E4,3)
 else if Q0 l > ps.length then (E4,24)
 else Se ps ⟨l.const,[]⟩ l.vars
-- the program's way
def mg (k:Int):List (Int×Int)→Option Int
 | []=>none
 | (j,x)::r=>if j=k then some x else mg k r
def ms (k v:Int):List (Int×Int)→List (Int×Int)
 | []=>[(k,v)]
 | (j,x)::r=>if j=k then (j,v)::r else (j,x)::ms k v r
def F3 (m:List (Int×Int)) (i p:Int):List (Int×Int):=match mg i m with
 | some old=>if p > old then ms i p m else m
 | none=>ms i p m
def GJ (n:Int) (m:List (Int×Int)) (v:Bm):List (Int×Int):=F3 m v.index (v.plus+n)
def YQ (s:List (Int×Int)×Int) (l:B6) (n:Int):List (Int×Int)×Int:=(l.vars.foldl (GJ n) s.1,max s.2 (l.const+n))
def KF (ps:List B6) (s:List (Int×Int)×Int) (v:Bm):List (Int×Int)×Int :=
 if v.index<0 then (F3 s.1 v.index v.plus,s.2) else YQ s (ps.getD v.index.toNat default) v.plus
def L9 (m:List (Int×Int)):List Bm:=(Oh (m.map Prod.fst)).map fun i=>⟨i,(mg i m).getD 0⟩
def c8 (l:B6):B6×Int :=
 if (l.vars.any fun v=>decide (v.plus > 100))=true then (E4,15)
 else if l.const > 100 then (E4,15)
 else if dB l=true then (⟨0,l.vars⟩,0) else (l,0)
def cZ (l:B6) (ps:List B6):B6×Int :=
 if Ca l=false∨ps.all Ca=false then (E4,3)
 else if Q0 l > ps.length then (E4,24)
 else c8 ⟨(l.vars.foldl (KF ps) ([],l.const)).2,L9 (l.vars.foldl (KF ps) ([],l.const)).1⟩
-- offsets
def Mm:List Bm→Int→Int
 | [],_=> -1
 | v::vs,i=>if v.index=i then max v.plus (Mm vs i) else Mm vs i
abbrev ID (l:List Bm):Prop:=l.Pairwise fun a b=>a.index<b.index
-- merging
theorem GM {Q:Bm→Prop}{x:Bm}{rec:List Bm→List Bm}(hx:Q x) (hm:∀u v:Bm,Q u→Q v→u.index=v.index→Q ⟨u.index,max u.plus v.plus⟩) (hr:∀b,(∀v∈b,Q v)→∀v∈rec b,Q v):∀(b:List Bm),(∀v∈b,Q v)→∀v∈DY x rec b,Q v
 | [],hb,v,hv=>by
  simp only[DY,List.mem_cons] at hv;rcases hv with rfl | hv
  ·exact hx
  ·exact hr [] Ab v hv
 | y::b,hb,v,hv=>by
  simp only[DY] at hv;have hy:=hb y Ab;have hb':∀v∈b,Q v:=fun v hv=>hb v (by simp[hv]);split at hv
  ·rcases List.mem_cons.1 hv with rfl | hv
   ·exact hx
   exact hr _ hb v hv
  split at hv
  ·rcases List.mem_cons.1 hv with rfl | hv
   ·exact hy
   exact GM hx hm hr b hb' v hv
  rcases List.mem_cons.1 hv with rfl | hv
  ·exact hm x y hx hy Aa
  exact hr _ hb' v hv
theorem EZ {Q:Bm→Prop}(hm:∀u v:Bm,Q u→Q v→u.index=v.index→Q ⟨u.index,max u.plus v.plus⟩):∀(a b:List Bm),(∀v∈a,Q v)→(∀v∈b,Q v)→∀v∈Ce a b,Q v
 | [],b,_,hb=>by simpa [Ce] using hb
 | x::a,b,ha,hb=>by
  rw[Ce];exact GM (ha x Ab) hm (fun b hb=>EZ hm a b (fun v hv=>ha v (by simp[hv])) hb) b hb
theorem I2 {x:Bm}{a:List Bm}(hr:∀b,ID b→ID (Ce a b)) (hx:∀v∈a,x.index<v.index):∀(b:List Bm),ID b→ID (DY x (Ce a) b)
 | [],_=>by
  rw[DY,ID,List.pairwise_cons];exact⟨EZ (Q:=fun v=>x.index<v.index) (fun u v h _ _=>h) a [] hx Ab,hr [] (by simp[ID])⟩
 | y::b,hb=>by
  have hb':=hb;rw[ID,List.pairwise_cons] at hb';simp only[DY];split
  ·rename_i q;rw[ID,List.pairwise_cons];refine⟨EZ (Q:=fun v=>x.index<v.index) (fun u v h _ _=>h) a _ hx fun v hv=>?_,hr _ hb⟩;rcases List.mem_cons.1 hv with rfl | hv
   ·exact q
   have:=hb'.1 v hv;omega
  split
  ·rename_i q;rw[ID,List.pairwise_cons];refine⟨GM (Q:=fun v=>y.index<v.index) q (fun u v h _ _=>h) (fun c hc=>EZ (Q:=fun v=>y.index<v.index) (fun u v h _ _=>h) a c (fun v hv=>by have:=hx v hv;omega) hc) b hb'.1,I2 hr hx b hb'.2⟩
  have e:x.index=y.index:=by omega
  rw[ID,List.pairwise_cons];refine⟨EZ (Q:=fun v=>x.index<v.index) (fun u v h _ _=>h) a b hx (fun v hv=>by have:=hb'.1 v hv;omega),hr _ hb'.2⟩
theorem MO:∀{a b:List Bm},ID a→ID b→ID (Ce a b)
 | [],b,_,hb=>by simpa [Ce] using hb
 | x::a,b,ha,hb=>by
  rw[ID,List.pairwise_cons] at ha;rw[Ce];exact I2 (fun b hb=>MO ha.2 hb) ha.1 b hb
-- the greatest offset
def Y9 (c:Int) (vs:List Bm):Int:=if (vs.any fun v=>decide (c≤v.plus))=true then 0 else c
-- the offsets of the program
def Gk (m:List (Int×Int)) (i:Int):Int:=(mg i m).getD (-1)
theorem SS (k v:Int):∀(m:List (Int×Int)) (j:Int),mg j (ms k v m)=if k=j then some v else mg j m
 | [],j=>by simp[ms,mg]
 | (i,x)::m,j=>by
  have ih:=SS k v m j;simp only[ms];split
  ·rename_i q;subst q;simp only[mg];split<;>rfl
  rename_i q;simp only[mg,ih];by_cases h1:i=j
  ·subst h1;rw[if_pos rfl,if_neg (Ne.symm q),if_pos rfl]
  simp[h1]
theorem M3 (k v:Int):∀(m:List (Int×Int)),(ms k v m).map Prod.fst=if k∈m.map Prod.fst then m.map Prod.fst else m.map Prod.fst++[k]
 | []=>by simp[ms]
 | (i,x)::m=>by
  have ih:=M3 k v m;simp only[ms];split
  ·rename_i q;subst q;simp
  rename_i q;simp only[List.map_cons,ih,List.mem_cons,(show (k=i)=False by simp;exact fun h=>q h.symm),false_or];split<;>simp
structure NR (m:List (Int×Int)):Prop where
 nd:(m.map Prod.fst).Nodup
 pos:∀k v,mg k m=some v→0≤v
theorem NR.nil:NR []:=⟨by simp,fun k v h=>by simp[mg] at h⟩
theorem Sd {m:List (Int×Int)}(k v:Int) (h:(m.map Prod.fst).Nodup):((ms k v m).map Prod.fst).Nodup:=by
 rw[M3];split
 ·exact h
 rename_i q;rw[List.nodup_append];refine⟨h,by simp,fun a ha b hb=>?_⟩;simp only[List.mem_singleton] at hb;subst hb;exact fun e=>q (e▸ha)
theorem Nm {m:List (Int×Int)}{i p:Int}(h:NR m) (hp:0≤p):NR (F3 m i p):=by
 have hs:NR (ms i p m):=⟨Sd i p h.nd,fun k v hk=>by
  rw[SS] at hk;split at hk
  ·cases hk;exact hp
  exact h.pos k v hk⟩
 unfold F3;split
 ·split
  ·exact hs
  exact h
 exact hs
theorem Mg {m:List (Int×Int)}(h:NR m) (i:Int): -1≤Gk m i:=by
 unfold Gk;cases e:mg i m with
 | none=>simp
 | some v=>have:=h.pos i v e;simp;omega
theorem Jp {m:List (Int×Int)}{i p:Int}(h:NR m) (hp:0≤p) (j:Int):Gk (F3 m i p) j=max (Mm [⟨i,p⟩] j) (Gk m j):=by
 have h1:Gk (ms i p m) j=if i=j then p else Gk m j:=by unfold Gk;rw[SS];split<;>rfl
 have h2:=Mg h j;unfold F3;simp only[Mm];cases e:mg i m with
 | none =>
  simp only[h1];split
  ·rename_i q;subst q;simp only[Gk,e,Option.getD_none];omega
  ·omega
 | some old =>
  simp only;split
  ·rw[h1];split
   ·rename_i q;subst q;simp only[Gk,e,Option.getD_some];omega
   omega
  split
  ·rename_i q;subst q;simp only[Gk,e,Option.getD_some];omega
  omega
theorem KE {n:Int}:∀(vs:List Bm) (m:List (Int×Int)),NR m→(∀v∈vs,0≤v.plus+n)→NR (vs.foldl (GJ n) m)∧∀i,Gk (vs.foldl (GJ n) m) i=max (Mm (vs.map (YT n)) i) (Gk m i)
 | [],m,h,_=>⟨h,fun i=>by have:=Mg h i;simp only[List.foldl_nil,List.map_nil,Mm];omega⟩
 | v::vs,m,h,hv=>by
  have hp:=hv v Ab;have h1:NR (GJ n m v):=Nm h hp;obtain⟨h2,h3⟩:=KE vs (GJ n m v) h1 fun w hw=>hv w (by simp[hw]);refine⟨h2,fun i=>?_⟩;rw[List.foldl_cons,h3 i,show Gk (GJ n m v) i=max (Mm [⟨v.index,v.plus+n⟩] i) (Gk m i) from Jp h hp i];have:=Mg h i;simp only[List.map_cons,Mm,YT];split<;>omega
theorem LD (zs:List Int):(Oh zs).Perm zs:=List.mergeSort_perm _ _
theorem NN (zs:List Int):(Oh zs).Pairwise fun a b=>a≤b:=by
 have:=List.pairwise_mergeSort (le:=fun(x y:Int)=>decide (x≤y)) (fun a b c h1 h2=>by simp at *;omega) (fun a b=>by simp;omega) zs;exact this.imp fun h=>by simpa using h
theorem RW {m:List (Int×Int)}(h:NR m):ID (L9 m):=by
 have hn:(Oh (m.map Prod.fst)).Nodup:=(LD _).nodup_iff.2 h.nd;have hs:=NN (m.map Prod.fst);rw[ID,L9,List.pairwise_map];exact(hs.and hn).imp fun⟨h1,h2⟩=>by simp only;omega
-- valid levels
theorem Ii:∀{c:Int}{vs:List Bm}{p:Option Int},E2 c p vs=true→∀v∈vs,QM c v=true
 | c,w::vs,p,h,v,hv=>by
  simp only[E2,Bool.and_eq_true] at h;rcases List.mem_cons.1 hv with rfl | hv
  ·exact h.1.1
  exact Ii h.2 v hv
theorem VC {c:Int}{v:Bm}(h:QM c v=true):0≤v.plus∧v.plus≤100:=by
 simp only[QM,Bool.and_eq_true,decide_eq_true_eq] at h;exact⟨h.1.1.2,h.1.2⟩
theorem Lf:∀{c:Int}{vs:List Bm}{p:Option Int},E2 c p vs=true→ID vs∧∀v∈vs,Gt p v.index=true
 | c,[],p,_=>⟨by simp[ID],by simp⟩
 | c,w::vs,p,h=>by
  simp only[E2,Bool.and_eq_true] at h;obtain⟨h1,h2⟩:=Lf h.2;simp only[Gt,decide_eq_true_eq] at h2;refine⟨?_,fun v hv=>?_⟩
  ·rw[ID,List.pairwise_cons];exact⟨h2,h1⟩
  rcases List.mem_cons.1 hv with rfl | hv
  ·exact h.1.2
  have a:=h.1.2;have b:=h2 v hv;unfold Gt at a ⊢;cases p with
  | none=>rfl
  | some j=>simp only[decide_eq_true_eq] at a ⊢;omega
theorem Xy {n:Int}{vs:List Bm}(h:ID vs):ID (vs.map (YT n)):=by
 rw[ID,List.pairwise_map];exact h.imp fun h=>h
structure fS (m:List (Int×Int)) (c:Int) (out:B6):Prop where
 ok:NR m
 asc:ID out.vars
 pos:∀v∈out.vars,0≤v.plus∧v.plus≤100
 off:∀i,Mm out.vars i=Gk m i
 c0:0≤c
 c1:c≤100
 con:out.const=Y9 c out.vars
-- errors stay
def Z9 (s:List (Int×Int)×Int):Prop:=(∃i,100<Gk s.1 i)∨100<s.2
theorem Sv {ps:List B6}(hps:∀l∈ps,Ca l=true) {s:List (Int×Int)×Int}{v:Bm}(hm:NR s.1) (hv:0≤v.plus) (hi:v.index<ps.length):NR (KF ps s v).1∧(Z9 s→Z9 (KF ps s v)):=by
 unfold KF;split
 ·refine⟨Nm hm hv,fun h=>?_⟩;rcases h with ⟨i,h⟩ | h
  ·exact .inl ⟨i,by rw[Jp hm hv];omega⟩
  exact .inr h
 rename_i q;have hmem:ps.getD v.index.toNat default∈ps:=by
  have hlt:v.index.toNat<ps.length:=by omega
  rw[List.getD_eq_getElem?_getD,List.getElem?_eq_getElem hlt];exact List.getElem_mem hlt
 have hl:=hps _ hmem;simp only[Ca,Bool.and_eq_true,decide_eq_true_eq] at hl;obtain⟨h1,h2⟩:=KE (n:=v.plus) (ps.getD v.index.toNat default).vars s.1 hm fun w hw=>by have:=(VC (Ii hl.2 w hw)).1;omega
 refine⟨h1,fun h=>?_⟩;rcases h with ⟨i,h⟩ | h
 ·exact .inl ⟨i,by simp only[YQ,h2];omega⟩
 exact .inr (by simp only[YQ];omega)
theorem Ol {l:B6}{n:Int}(hl:Ca l=true) (h0:0≤n) (h1:n≤100) :
  (I8 l n=(E4,15)∧(100<l.const+n∨∃v∈l.vars,100<v.plus+n)) ∨
  (I8 l n=(⟨L1 l n,l.vars.map (YT n)⟩,0)∧l.const+n≤100∧∀v∈l.vars,v.plus+n≤100):=by
 have hl':=hl;simp only[Ca,Bool.and_eq_true,decide_eq_true_eq] at hl';unfold I8;rw[if_neg (by simp[hl]),if_neg Aa,if_neg Aa];split
 ·rename_i q;refine .inl ⟨O,.inl ?_⟩;unfold L1 at q;split at q<;>omega
 rename_i q;split
 ·rename_i q';simp only[List.any_eq_true,decide_eq_true_eq] at q';obtain⟨v,h1,h2⟩:=q';exact .inl ⟨O,.inr ⟨v,h1,by omega⟩⟩
 rename_i q';simp only[List.any_eq_true,decide_eq_true_eq,not_exists,not_and] at q';refine .inr ⟨O,?_,fun v hv=>by have:=q' v hv;omega⟩;unfold L1 at q;split at q<;>omega
def Oj (ps:List B6):Int→List B6→List B6×Int
 | er,[]=>([],er)
 | er,l::ls=>((IF l ps).1::(Oj ps (E1 er (IF l ps).2) ls).1,(Oj ps (E1 er (IF l ps).2) ls).2)
mutual
def Ro (ps:List B6):Int→Tm→Tm×Int
 | er,.mk k i n ls ks=>(.mk k i n (Oj ps er ls).1 (QE ps (Oj ps er ls).2 ks).1,(QE ps (Oj ps er ls).2 ks).2)
def QE (ps:List B6):Int→List Tm→List Tm×Int
 | er,[]=>([],er)
 | er,t::ts=>((Ro ps er t).1::(QE ps (Ro ps er t).2 ts).1,(QE ps (Ro ps er t).2 ts).2)
end
def DF (t:Tm) (ps:List B6):Tm×Int:=if (Ro ps 0 t).2≠0 then (BF,(Ro ps 0 t).2) else ((Ro ps 0 t).1,0)
inductive Out (α:Type) where
 | stuck
 | fail
 | ok (a:α)
def Out.bind {α β:Type}:Out α→(α→Out β)→Out β
 | .stuck,_=> .stuck
 | .fail,_=> .fail
 | .ok a,k=>k a
def Kc (n:Int):Bool:=decide (-9223372036854775808≤n)&&decide (n≤9223372036854775807)
def Ry (l:B6):Bool:=decide (l.vars.length<Cu)&&Kc l.const&&l.vars.all fun v=>Kc v.index&&Kc v.plus
mutual
def Qr:Tm→Bool
 | .mk k i n ls ks=>decide (n.size<Cu)&&decide (ls.length<Cu)&&ls.all Ry&&decide (ks.length<Cu)&&Kc k&&Kc i&&decide ((ks.length:Int)=arity k)&&(decide (k≠12)||decide (0≤i))&&(decide (k≠0)||decide (0≤i)&&decide (i<1099511627776))&&JS ks
def JS:List Tm→Bool
 | []=>true
 | t::ts=>Qr t&&JS ts
end
def okB (t:Tm):Bool:=Qr t&&decide (size t<549755813888)
def Out.chk {σ β:Type}(o:Out (Tm×σ)) (k:Tm×σ→Out β):Out β:=o.bind fun r=>if okB r.1=true then k r else .stuck
structure Sys (σ:Type) where
 over:σ→Bool
 res:σ→Tm→Int→Option σ
 many:Nat→Bool
def Sys.put {σ α:Type}(S:Sys σ) (s:σ) (x:Tm×Int) (k:Tm→σ→Out α):Out α :=
 if okB x.1=true then (match S.res s x.1 x.2 with
  | none=> .fail
  | some s'=>k x.1 s')
 else .stuck
def Gr.result (c:Gr) (t:Tm) (e:Int):Gr:=({ c with steps:=wr (c.steps+1),nodes:=wr (c.nodes+JI t) }).form t e
def fc:Sys Gr:=⟨Gr.over,fun c t e=>some (c.result t e),fun _=>false⟩
def ed:Sys Int:=⟨fun _=>false,fun n t e=>if n - 1<0∨e≠0 then none else some (n - 1),fun k=>decide (40960<k)⟩
def NZ:Tm→List Tm×Tm
 | .mk k i n l [a,b]=>if k=6 then (a::(NZ b).1,(NZ b).2) else ([],.mk k i n l [a,b])
 | t=>([],t)
section
variable (E:List Cc)
def CB (i:Int):Cc:=E.getD i.toNat default
def IU (d:Cc) (j:Int):RV:=d.ctors.getD j.toNat default
def G3 (d:Cc) (j:Int):Oq:=d.funs.getD j.toNat default
def XH (t:Tm):Int:=((NZ t).1.length:Int)
def Jh (d:Cc) (j:Int):Int:=max 0 (XH (IU d j).type - d.fixed)
def Hv (nm:ByteArray):Option (Cc×Int) :=
 if (C9 E nm).2≠0 then none
 else if (C9 E nm).1.kind=3 then some (CB E (C9 E nm).1.decl,-1)
 else if (C9 E nm).1.kind=4 then some (CB E (C9 E nm).1.decl,(C9 E nm).1.item)
 else if (C9 E nm).1.kind=5 then some (CB E (C9 E nm).1.decl,-2)
 else none
def GL (t:Tm):Option (Cc×Int×List Tm) :=
 if (Ay t).1.kind≠3 then none
 else match Hv E (Ay t).1.name with
  | none=>none
  | some (d,j)=>if j<0 then none else if ((Ay t).2.length:Int)≠d.fixed+Jh d j then none else some (d,j,(Ay t).2.drop d.fixed.toNat)
def S8 (d:Cc):Int:=max 0 (XH d.type - d.fixed)
def Fq (d:Cc):Int:=d.fixed+1+d.ctors.length+S8 d
def DL (nm:ByteArray):List HT→Option FW
 | []=>none
 | b::l=>if b.ctor=nm then (if b.absurd=true then none else some b.tree) else DL nm l
def JX (h:Tm):Option HQ:=if (C9 E h.name).2=0∧(h.levels.length:Int)=(C9 E h.name).1.params then some (C9 E h.name).1 else none
variable {σ:Type}(S:Sys σ)
def Nv (W:σ→Tm→Out (Tm×σ)):Nat→FW→List Tm→Tm→σ→Out ((Option (Tm×List Tm)×Tm)×σ)
 | 0,_,_,_,_=> .stuck
 | n+1,t,vars,last,s =>
  if t.kind=1 then
   if t.var<0∨t.var≥(vars.length:Int)∨S.over s=true then .ok ((none,last),s)
   else (W s (vars.getD t.var.toNat default)).chk fun r=>match GL E r.1 with
    | none=> .ok ((none,r.1),r.2)
    | some (d,j,fields)=>match DL (IU d j).name t.branches with
     | none=> .ok ((none,r.1),r.2)
     | some t'=>Nv W n t' (vars++fields) r.1 r.2
  else .ok ((some (t.body,vars),BF),s)
def SQ (d:Cc) (h:Tm) (a:List Tm) (s:σ):Out (Option Tm×σ) :=
 if (DF d.value h.levels).2≠0 then .ok (none,s)
 else S.put s ((DF d.value h.levels).1,0) fun t s'=> .ok (some (apply t a),s')
def Mz (d:Cc) (j:Int):Tm:=d.recs.rules.getD j.toNat default
def WD (d:Cc) (h:Tm) (a:List Tm) (m:Tm) (s:σ):Out (Option Tm×σ):=match GL E m with
 | none=> .ok (none,s)
 | some (e,j,fields) =>
  if e.name≠d.name∨j≥(d.recs.rules.length:Int) then .ok (none,s)
  else if (DF (Mz d j) h.levels).2≠0 then .ok (none,s)
  else S.put s (apply (apply (DF (Mz d j) h.levels).1 (a.take (d.fixed+1+d.ctors.length).toNat)) fields,0) fun t s'=> .ok (some (apply t (a.drop (Fq d+1).toNat)),s')
def SE (h:Tm) (b:Tm) (vars:List Tm) (rest:List Tm) (s:σ):Out (Option Tm×σ) :=
 if (DF b h.levels).2≠0 then .ok (none,s)
 else if okB (DF b h.levels).1=false∨vars.all okB=false∨1125899906842624≤A0 vars then .stuck
 else S.put s (GH (DF b h.levels).1 vars.reverse 0) fun t s'=> .ok (some (apply t rest),s')
def X4 (W:σ→Tm→Out (Tm×σ)) (n:Nat) (f:Oq) (h:Tm) (a:List Tm) (s:σ):Out (Option Tm×σ) :=
 if (a.length:Int)<f.arity then .ok (none,s)
 else (Nv E S W n f.tree (a.take f.arity.toNat) BF s).bind fun q=>match q.1.1 with
  | none=> .ok (none,q.2)
  | some (b,vars)=>if S.over q.2=true then .ok (none,q.2) else SE S h b vars (a.drop f.arity.toNat) q.2
def dK (W:σ→Tm→Out (Tm×σ)) (d:Cc) (h:Tm) (a:List Tm) (s:σ):Out (Option Tm×σ) :=
 if (a.length:Int)≤Fq d then .ok (none,s)
 else (W s (a.getD (Fq d).toNat default)).chk fun r=>WD E S d h a r.1 r.2
def XU (W:σ→Tm→Out (Tm×σ)) (n:Nat) (h:Tm) (a:List Tm) (s:σ):Out (Option Tm×σ):=match JX E h with
 | none=> .ok (none,s)
 | some x =>
  if x.kind=1 then SQ S (CB E x.decl) h a s
  else if x.kind=5 then dK E S W (CB E x.decl) h a s
  else if x.kind=6 then X4 E S W n (G3 (CB E x.decl) x.item) h a s
  else .ok (none,s)
def TT (k:Int) (p:Tm):Tm:= .mk k 0 ⟨#[]⟩ [] [p]
def V3 (h:Tm) (a:List Tm) (s:σ) {α:Type}(k:Tm→σ→Out α):Out α:=match h.kids[1]? with
 | none=> .stuck
 | some b=>S.put s (GH b (a.take 1) 0) fun x s'=>k (apply x (a.drop 1)) s'
def ZS (h:Tm) (a:List Tm) (s:σ) {α:Type}(k:Tm→σ→Out α):Out α:=match h.kids[1]?,h.kids[2]? with
 | some v,some b=>S.put s (GH b [v] 0) fun x s'=>k (apply x a) s'
 | _,_=> .stuck
def Tq (h p:Tm) (a:List Tm) (s:σ) {α:Type}(k:Tm→σ→Out α):Out α:=match p.kids[(1+h.kind - 9).toNat]? with
 | none=> .stuck
 | some q=>S.put s (q,0) fun x s'=>k (apply x a) s'
def SV:Nat→σ→Tm→Out (Tm×σ)
 | 0,_,_=> .stuck
 | n+1,s,t =>
  if okB t=false then .stuck
  else if S.over s=true then .ok (t,s)
  else if S.many (Ay t).2.length=true then .fail
  else if (Ay t).1.kind=5 then
   (if (Ay t).2.length=0 then .ok (t,s) else V3 S (Ay t).1 (Ay t).2 s fun x s'=>SV n s' x)
  else if (Ay t).1.kind=11 then ZS S (Ay t).1 (Ay t).2 s fun x s'=>SV n s' x
  else if (Ay t).1.kind=9∨(Ay t).1.kind=10 then match (Ay t).1.kids[0]? with
   | none=> .stuck
   | some p=>(SV n s p).chk fun r =>
    if r.1.kind≠8 then .ok (apply (TT (Ay t).1.kind r.1) (Ay t).2,r.2)
    else Tq S (Ay t).1 r.1 (Ay t).2 r.2 fun x s'=>SV n s' x
  else if (Ay t).1.kind=3 then (XU E S (SV n) n (Ay t).1 (Ay t).2 s).bind fun r=>match r.1 with
   | none=> .ok (t,r.2)
   | some x=>SV n r.2 x
  else .ok (t,s)
noncomputable def X7:Nat→σ→Tm→Out (Option Int×σ)
 | 0,_,_=> .stuck
 | n+1,s,t=>(SV E S n s t).chk fun r =>
  if (Ay r.1).1.kind=12 then .ok (some (Ay r.1).1.index,r.2)
  else if (Ay r.1).1.kind=9∨(Ay r.1).1.kind=10 then match (Ay r.1).1.kids[0]? with
   | none=> .stuck
   | some p=>X7 n r.2 p
  else if (Ay r.1).1.kind=3 then match JX E (Ay r.1).1 with
   | none=> .ok (none,r.2)
   | some x =>
    if S.over r.2=true then .ok (none,r.2)
    else if x.kind=5∧((Ay r.1).2.length:Int) > Fq (CB E x.decl) then X7 n r.2 ((Ay r.1).2.getD (Fq (CB E x.decl)).toNat default)
    else if x.kind=6∧((Ay r.1).2.length:Int)≥(G3 (CB E x.decl) x.item).arity then
     (Nv E S (SV E S n) n (G3 (CB E x.decl) x.item).tree ((Ay r.1).2.take (G3 (CB E x.decl) x.item).arity.toNat) BF r.2).bind fun q=>match q.1.1 with
      | some _=> .ok (none,q.2)
      | none=>if S.over q.2=false∧JW q.1.2 BF=false then X7 n q.2 q.1.2 else .ok (none,q.2)
    else .ok (none,r.2)
  else .ok (none,r.2)
def Wo:Tm→List Int→Tm→Option Tm
 | _,[],x=>some x
 | t,p::ps,x=>match (Ay t).2[p.toNat]? with
  | none=>none
  | some y=>(Wo y ps x).map fun z=>apply (Ay t).1 ((Ay t).2.set p.toNat z)
def Hc (a:Int×List Int) (fx:Int) (n:Nat):List (Int×List Int):=(List.range n).map fun i:Nat=>(a.1,a.2++[fx+(i:Int)])
def ZW (T:σ→Tm→Out (Option Tm×σ)) (h:Tm) (ar:Int) (a:List Tm):Nat→FW→List Tm→List (Int×List Int)→σ→Out (Option Tm×σ)
 | 0,_,_,_,_=> .stuck
 | n+1,t,vars,pl,s =>
  if t.kind=1 then
   if t.var<0∨t.var≥(vars.length:Int) then .ok (none,s)
   else match GL E (vars.getD t.var.toNat default) with
    | none=>(T s (vars.getD t.var.toNat default)).bind fun r=>match r.1 with
     | none=> .ok (none,r.2)
     | some x=>match Wo (a.getD (pl.getD t.var.toNat default).1.toNat default) (pl.getD t.var.toNat default).2 x with
      | none=> .stuck
      | some y=> .ok (some (apply h (a.set (pl.getD t.var.toNat default).1.toNat y)),r.2)
    | some (d,j,fields)=>match DL (IU d j).name t.branches with
     | none=> .ok (none,s)
     | some t'=>ZW T h ar a n t' (vars++fields) (pl++Hc (pl.getD t.var.toNat default) d.fixed fields.length) s
  else SE S h t.body vars (a.drop ar.toNat) s
def X6:Nat→σ→Tm→Out (Option Tm×σ)
 | 0,_,_=> .stuck
 | n+1,s,t =>
  if okB t=false then .stuck
  else if (Ay t).1.kind=5 then
   (if (Ay t).2.length=0 then .ok (none,s) else V3 S (Ay t).1 (Ay t).2 s fun x s'=> .ok (some x,s'))
  else if (Ay t).1.kind=11 then ZS S (Ay t).1 (Ay t).2 s fun x s'=> .ok (some x,s')
  else if (Ay t).1.kind=9∨(Ay t).1.kind=10 then match (Ay t).1.kids[0]? with
   | none=> .stuck
   | some p =>
    if p.kind=8 then Tq S (Ay t).1 p (Ay t).2 s fun x s'=> .ok (some x,s')
    else (X6 n s p).bind fun r=>match r.1 with
     | none=> .ok (none,r.2)
     | some x=> .ok (some (apply (TT (Ay t).1.kind x) (Ay t).2),r.2)
  else if (Ay t).1.kind=3 then match JX E (Ay t).1 with
   | none=> .ok (none,s)
   | some x =>
    if x.kind=1 then SQ S (CB E x.decl) (Ay t).1 (Ay t).2 s
    else if x.kind=5∧((Ay t).2.length:Int) > Fq (CB E x.decl) then match GL E ((Ay t).2.getD (Fq (CB E x.decl)).toNat default) with
     | some _=>WD E S (CB E x.decl) (Ay t).1 (Ay t).2 ((Ay t).2.getD (Fq (CB E x.decl)).toNat default) s
     | none=>(X6 n s ((Ay t).2.getD (Fq (CB E x.decl)).toNat default)).bind fun r=>match r.1 with
      | none=> .ok (none,r.2)
      | some y=> .ok (some (apply (Ay t).1 ((Ay t).2.set (Fq (CB E x.decl)).toNat y)),r.2)
    else if x.kind=6∧((Ay t).2.length:Int)≥(G3 (CB E x.decl) x.item).arity then
     ZW E S (X6 n) (Ay t).1 (G3 (CB E x.decl) x.item).arity (Ay t).2 n (G3 (CB E x.decl) x.item).tree ((Ay t).2.take (G3 (CB E x.decl) x.item).arity.toNat) ((List.range (G3 (CB E x.decl) x.item).arity.toNat).map fun i:Nat=>((i:Int),[])) s
    else .ok (none,s)
  else .ok (none,s)
def ff (n:Nat) (t:FW) (a:List Tm) (s:σ):Out (Option Tm×σ) :=
 (Nv E S (SV E S n) n t a BF s).bind fun q=>match q.1.1 with
  | none=> .ok (none,q.2)
  | some (b,vars)=>if okB b=false∨vars.all okB=false∨1125899906842624≤A0 vars then .stuck else S.put q.2 (GH b vars.reverse 0) fun x s'=> .ok (some x,s')
end
def aW (k i:Int) (n:ByteArray) (ls:List B6) (ks:Nat):Bool:=decide (n.size<Cu)&&decide (ls.length<Cu)&&ls.all Ry&&decide (ks<Cu)&&Kc k&&Kc i&&decide ((ks:Int)=arity k)&&(decide (k≠12)||decide (0≤i))&&(decide (k≠0)||decide (0≤i)&&decide (i<1099511627776))
theorem NM (k i:Int) (n:ByteArray) (ls:List B6) (ks:List Tm):Qr (.mk k i n ls ks)=(aW k i n ls ks.length&&JS ks):=by rw[Qr,aW]
theorem FP:∀{ts:List Tm},JS ts=true↔∀t∈ts,Qr t=true
 | []=>by simp[JS]
 | t::ts=>by simp only[JS,Bool.and_eq_true,FP (ts:=ts),List.mem_cons,forall_eq_or_imp]
theorem VN {l:B6}(h:Ry l=true):We l:=by
 simp only[Ry,Kc,Bool.and_eq_true,decide_eq_true_eq,List.all_eq_true] at h;exact⟨h.1.1,h.1.2,fun v hv=>h.2 v hv⟩
theorem Ud {l:B6}(h:We l):Ry l=true:=by
 simp only[Ry,Kc,Bool.and_eq_true,decide_eq_true_eq,List.all_eq_true];exact⟨⟨h.vars,h.c⟩,fun v hv=>h.v v hv⟩
mutual
theorem Ga:∀(t:Tm),Qr t=true→Nd t∧Wt t∧Vp t
 | .mk k i n ls ks,h=>by
  rw[NM,Bool.and_eq_true] at h;obtain⟨h1,h2⟩:=h;simp only[aW,Kc,Bool.and_eq_true,Bool.or_eq_true,decide_eq_true_eq,List.all_eq_true] at h1;obtain⟨a,b,c⟩:=HD ks h2;obtain⟨⟨⟨⟨⟨⟨⟨⟨g1,g2⟩,g3⟩,g4⟩,g5⟩,g6⟩,g7⟩,g8⟩,g9⟩:=h1;refine⟨⟨g1,g2,fun l hl=>VN (g3 l hl),g4,a,g5,g6⟩,⟨g7,fun e=>?_,b⟩,fun e=>?_,c⟩
  ·rcases g8 with g | g
   ·exact absurd e g
   exact g
  rcases g9 with g | g
  ·exact absurd e g
  exact g
theorem HD:∀(ts:List Tm),JS ts=true→JP ts∧KQ ts∧PZ ts
 | [],_=>⟨trivial,trivial,trivial⟩
 | t::ts,h=>by
  simp only[JS,Bool.and_eq_true] at h;obtain⟨a,b,c⟩:=Ga t h.1;obtain⟨a',b',c'⟩:=HD ts h.2;exact⟨⟨a,a'⟩,⟨b,b'⟩,⟨c,c'⟩⟩
end
mutual
theorem Lp:∀(t:Tm),Nd t→Wt t→Vp t→Qr t=true
 | .mk k i n ls ks,h1,h2,h3=>by
  rw[NM,Bool.and_eq_true];simp only[Nd] at h1;simp only[Wt] at h2;simp only[Vp] at h3;obtain⟨a1,a2,a3,a4,a5,a6,a7⟩:=h1;refine⟨?_,J4 ks a5 h2.2.2 h3.2⟩;simp only[aW,Kc,Bool.and_eq_true,Bool.or_eq_true,decide_eq_true_eq,List.all_eq_true];refine⟨⟨⟨⟨⟨⟨⟨⟨a1,a2⟩,fun l hl=>Ud (a3 l hl)⟩,a4⟩,a6⟩,a7⟩,h2.1⟩,?_⟩,?_⟩
  ·by_cases e:k=12
   ·exact .inr (h2.2.1 e)
   exact .inl e
  by_cases e:k=0
  ·exact .inr (h3.1 e)
  exact .inl e
theorem J4:∀(ts:List Tm),JP ts→KQ ts→PZ ts→JS ts=true
 | [],_,_,_=>rfl
 | t::ts,h1,h2,h3=>by
  simp only[JS,Bool.and_eq_true];exact⟨Lp t h1.1 h2.1 h3.1,J4 ts h1.2 h2.2 h3.2⟩
end
structure fP (t:Tm):Prop where
 nd:Nd t
 wt:Wt t
 vp:Vp t
 sz:size t<549755813888
theorem Ji {t:Tm}:okB t=true↔fP t:=by
 simp only[okB,Bool.and_eq_true,decide_eq_true_eq];exact⟨fun h=>by obtain⟨a,b,c⟩:=Ga t h.1;exact⟨a,b,c,h.2⟩,fun h=>⟨Lp t h.nd h.wt h.vp,h.sz⟩⟩
theorem Xi {t:Tm}(h:Qr t=true) (hs:size t<549755813888):okB t=true:=by simp[okB,h,hs]
theorem Wi {t:Tm}(h:okB t=true):Qr t=true:=by simp only[okB,Bool.and_eq_true] at h;exact h.1
theorem Po {t:Tm}(h:okB t=true):size t<549755813888:=by simp only[okB,Bool.and_eq_true,decide_eq_true_eq] at h;exact h.2
theorem Uf {t x:Tm}{i:Nat}(h:okB t=true) (hx:t.kids[i]?=some x):okB x=true:=by
 have h1:=Wi h;have h2:=Po h;obtain⟨k,j,n,ls,ks⟩:=t;rw[NM,Bool.and_eq_true] at h1;simp only[size] at h2;simp only[Tm.kids] at hx;have:=Bp hx;exact Xi (FP.1 h1.2 x (List.mem_of_getElem? hx)) Aa
theorem Li:∀(t:Tm),Qr t=true→Qr (Ay t).1=true∧JS (Ay t).2=true
 | .mk k i n l [f,a],h=>by
  unfold Ay;split
  ·rw[NM,Bool.and_eq_true] at h;simp only[JS,Bool.and_eq_true] at h;obtain⟨h1,h2⟩:=Li f h.2.1;refine⟨h1,FP.2 fun x hx=>?_⟩;rcases List.mem_append.1 hx with hx | hx
   ·exact FP.1 h2 x hx
   rw[List.mem_singleton.1 hx];exact h.2.2.1
  ·exact⟨h,O⟩
 | .mk k i n l [],h=>⟨h,rfl⟩
 | .mk k i n l [_],h=>⟨h,rfl⟩
 | .mk k i n l (_::_::_::_),h=>⟨h,rfl⟩
theorem IG {t:Tm}(h:okB t=true):okB (Ay t).1=true∧∀x∈(Ay t).2,okB x=true:=by
 simp only[okB,Bool.and_eq_true,decide_eq_true_eq] at h ⊢;obtain⟨h1,h2⟩:=Li t h.1;have hs:=Fs t;refine⟨⟨h1,by omega⟩,fun x hx=>⟨FP.1 h2 x hx,?_⟩⟩;obtain⟨i,hi⟩:=List.mem_iff_getElem?.1 hx;have:=Bp hi;omega
def Gw (l:List Bm) (i:Nat):Option Int:=if i=0 then none else (l[i - 1]?).map Bm.index
def B4 (c:Int) (l:List Bm) (i:Nat):Bool:=E2 c (Gw l i) (l.drop i)
theorem Mi {c:Int}{l:List Bm}{i:Nat}{v:Bm}(h:l[i]?=some v):B4 c l i=(QM c v&&Gt (Gw l i) v.index&&B4 c l (i+1)):=by
 have e:Gw l (i+1)=some v.index:=by simp[Gw,h]
 rw[B4,Bx h,E2,B4,e]
theorem Xr {c:Int}{l:List Bm}{i:Nat}(h:l.length≤i):B4 c l i=true:=by
 rw[B4,List.drop_eq_nil_of_le h];rfl
theorem Me (l:B6):Ca l=(decide (0≤l.const)&&decide (l.const≤100)&&B4 l.const l.vars 0):=rfl
theorem Tf {c:Int}{l:List Bm}{i:Nat}{v:Bm}(h:l[i]?=some v) (hb:QM c v=false):B4 c l i=false:=by rw[Mi h,hb];rfl
theorem U7 {c:Int}{l:List Bm}{i:Nat}{v:Bm}(h:l[i]?=some v) (h1:QM c v=true) (h2:Gt (Gw l i) v.index=true):B4 c l i=B4 c l (i+1):=by rw[Mi h,h1,h2];simp
theorem Xo {l:B6}(h:l.const<0∨100<l.const):false=Ca l:=by
 rw[Me];rcases h with h | h
 ·rw[decide_eq_false Aa];rfl
 rw[decide_eq_false (p:=l.const≤100) Aa];simp
theorem NJ {l:B6}{i:Nat}(h:B4 l.const l.vars 0=B4 l.const l.vars i) (hb:B4 l.const l.vars i=false):false=Ca l:=by
 rw[Me,h,hb];simp
theorem UZ {l:B6}{i:Nat}(h0:0≤l.const) (h1:l.const≤100) (h:B4 l.const l.vars 0=B4 l.const l.vars i) (hb:l.vars.length≤i):true=Ca l:=by
 rw[Me,h,Xr hb,decide_eq_true h0,decide_eq_true h1];rfl
theorem Xp {c:Int}{v:Bm}(h:((v.index < -65536∨8≤v.index)∨v.plus<0)∨100<v.plus):QM c v=false:=by
 simp only[QM,Bool.and_eq_false_iff,decide_eq_false_iff_not];omega
theorem Uk {c:Int}{v:Bm}(h1:0<c) (h:c≤v.plus):QM c v=false:=by
 simp only[QM,Bool.and_eq_false_iff,Bool.or_eq_false_iff,decide_eq_false_iff_not];omega
theorem Uv {c:Int}{v:Bm}(h: -65536≤v.index∧v.index<8∧0≤v.plus∧v.plus≤100) (h1:0<c→v.plus<c):QM c v=true:=by
 simp only[QM,Bool.and_eq_true,Bool.or_eq_true,decide_eq_true_eq];refine⟨⟨⟨⟨h.1,h.2.1⟩,h.2.2.1⟩,h.2.2.2⟩,?_⟩;by_cases q:c≤0
 ·exact .inl q
 exact .inr (h1 Aa)
theorem SW {l:B6}(h:Ca l=true):0≤l.const∧l.const≤100:=by
 simp only[Ca,Bool.and_eq_true,decide_eq_true_eq] at h;exact h.1
theorem XO {l:B6}{i:Nat}{x:Bm}(h:Ca l=true) (hx:l.vars[i]?=some x):(0≤x.plus∧x.plus≤100)∧ -65536≤x.index∧x.index<8:=by
 simp only[Ca,Bool.and_eq_true,decide_eq_true_eq] at h;have:=Ii h.2 x (List.mem_of_getElem? hx);simp only[QM,Bool.and_eq_true,decide_eq_true_eq] at this;exact⟨⟨this.1.1.2,this.1.2⟩,this.1.1.1⟩
theorem MP {l:List Bm}{i j:Nat}{u:Bm}{x:Int}(hj:l[j]?=some u) (he:i=j+1):(!Gt (Gw l i) x)=decide (u.index≥x):=by
 subst he;have e:Gw l (j+1)=some u.index:=by simp[Gw,hj]
 rw[e];simp only[Gt];rw[←decide_not,decide_eq_decide];omega
theorem Kb {l:List Bm}{i:Nat}{x:Int}(h:¬(i:Int) > 0):(!Gt (Gw l i) x)=false:=by
 have:i=0:=by omega
 subst this;rfl
theorem SC {x y:Bm}{a b:List Bm}(h:y.index<x.index):Ce (x::a) (y::b)=y::Ce (x::a) b:=by
 rw[Ce,DY,if_neg Aa,if_pos h];rfl
def T4 (a b:List Bm) (i k:Nat):Bool:=(k==b.length)||(match a[i]?,b[k]? with
 | some x,some y=>decide (x.index<y.index)
 | _,_=>false)
def VI (a b:List Bm) (i k:Nat):Bool:=(i==a.length)||(match a[i]?,b[k]? with
 | some x,some y=>decide (y.index<x.index)
 | _,_=>false)
section
variable {a b:List Bm}{i k:Nat}{vs:List Bm}{m:Int}{x y:Bm}
theorem QA (hx:a[i]?=some x) (hy:b[k]?=some y):decide (x.index<y.index)=T4 a b i k:=by
 have:=(List.getElem?_eq_some_iff.1 hy).1;simp only[T4,hx,hy];rw[show (k==b.length)=false by simp;omega,Bool.false_or]
theorem Qu (hx:a[i]?=some x) (hy:b[k]?=some y):decide (y.index<x.index)=VI a b i k:=by
 have:=(List.getElem?_eq_some_iff.1 hx).1;simp only[VI,hx,hy];rw[show (i==a.length)=false by simp;omega,Bool.false_or]
structure IW (a b:List Bm) (i k:Nat) (vs:List Bm) (m:Int):Prop where
 hi:i≤a.length
 hk:k≤b.length
 eq:vs++Ce (a.drop i) (b.drop k)=Ce a b
 mo:m=MI vs
 ln:vs.length≤i+k
theorem Iv (vs:List Bm) (v:Bm):MI (vs++[v])=max (MI vs) v.plus:=by simp[MI]
theorem IW.zero:IW a b 0 0 [] 0:=⟨by omega,by omega,by simp,rfl,by simp⟩
theorem IW.left (h:IW a b i k vs m) (hx:a[i]?=some x) (hs:T4 a b i k=true):IW a b (i+1) k (vs++[x]) (max m x.plus):=by
 have hl:=(List.getElem?_eq_some_iff.1 hx).1;have:=h.ln;refine⟨hl,h.hk,?_,by rw[Iv,←h.mo],by simp;omega⟩;rw[←h.eq,Bx hx,List.append_assoc];congr 1;by_cases q:k<b.length
 ·obtain⟨y,hy⟩:∃y,b[k]?=some y:=⟨_,List.getElem?_eq_getElem q⟩;rw[←QA hx hy,decide_eq_true_eq] at hs;rw[Bx hy,Ce,DY,if_pos hs];rfl
 rw[List.drop_eq_nil_of_le (show b.length≤k by omega),Ce,DY];rfl
theorem IW.right (h:IW a b i k vs m) (hy:b[k]?=some y) (hs:T4 a b i k=false) (h2:VI a b i k=true):IW a b i (k+1) (vs++[y]) (max m y.plus):=by
 have hl:=(List.getElem?_eq_some_iff.1 hy).1;have:=h.ln;refine⟨h.hi,hl,?_,by rw[Iv,←h.mo],by simp;omega⟩;rw[←h.eq,Bx hy,List.append_assoc];congr 1;by_cases q:i<a.length
 ·obtain⟨x,hx⟩:∃x,a[i]?=some x:=⟨_,List.getElem?_eq_getElem q⟩;rw[←Qu hx hy,decide_eq_true_eq] at h2;rw[Bx hx,SC h2];rfl
 rw[List.drop_eq_nil_of_le (show a.length≤i by omega),Ce,Ce];rfl
theorem IW.both (h:IW a b i k vs m) (hx:a[i]?=some x) (hy:b[k]?=some y) (hs:T4 a b i k=false) (h2:VI a b i k=false):IW a b (i+1) (k+1) (vs++[⟨x.index,max x.plus y.plus⟩]) (max m (max x.plus y.plus)):=by
 have hl:=(List.getElem?_eq_some_iff.1 hx).1;have hl':=(List.getElem?_eq_some_iff.1 hy).1;have:=h.ln;rw[←QA hx hy,decide_eq_false_iff_not] at hs;rw[←Qu hx hy,decide_eq_false_iff_not] at h2;refine⟨hl,hl',?_,by rw[Iv,←h.mo],by simp;omega⟩;rw[←h.eq,Bx hx,Bx hy,List.append_assoc,Ce,DY,if_neg hs,if_neg h2];rfl
theorem IW.fin (h:IW a b i k vs m) (hc:¬(i<a.length∨k<b.length)):vs=Ce a b∧m=MI vs:=by
 refine⟨?_,h.mo⟩;rw[←h.eq,List.drop_eq_nil_of_le Aa,List.drop_eq_nil_of_le Aa];simp[Ce]
end
theorem Mp:∀{vs:List Bm}{lo:Int},ID vs→(∀v∈vs,lo≤v.index∧v.index<8)→lo≤8→(vs.length:Int)≤8 - lo
 | [],lo,_,_,h=>by simp;omega
 | x::vs,lo,ha,hv,h=>by
  rw[ID,List.pairwise_cons] at ha;have hx:=hv x Ab;have:=Mp (vs:=vs) (lo:=x.index+1) ha.2 (fun v hv'=>⟨by have:=ha.1 v hv';omega,(hv v (by simp[hv'])).2⟩) Aa;simp only[List.length_cons];omega
structure LR (l:B6):Prop where
 c:0≤l.const∧l.const≤100
 asc:ID l.vars
 rg:∀v∈l.vars,(0≤v.plus∧v.plus≤100)∧ -65536≤v.index∧v.index<8
theorem LR.len {l:B6}(h:LR l):l.vars.length≤65544:=by
 have:=Mp (lo:= -65536) h.asc (fun v hv=>(h.rg v hv).2) Aa;omega
theorem LR.nd {l:B6}(h:LR l):We l :=
 ⟨by have:=h.len;simp only[Cu];omega,by have:=h.c;unfold FR;omega,fun v hv=>by have:=h.rg v hv;unfold FR;omega⟩
theorem LR.of {l:B6}(h:Ca l=true):LR l:=by
 have h0:=SW h;have h':=h;simp only[Ca,Bool.and_eq_true,decide_eq_true_eq] at h';exact⟨h0,(Lf h'.2).1,fun v hv=>by obtain⟨i,hi⟩:=List.mem_iff_getElem?.1 hv;exact XO h hi⟩
theorem LR.join {a b:B6}(h1:LR a) (h2:LR b):LR (QY a b):=by
 have hc1:=h1.c;have hc2:=h2.c;refine⟨?_,MO h1.asc h2.asc,EZ (Q:=fun v=>(0≤v.plus∧v.plus≤100)∧ -65536≤v.index∧v.index<8) (fun u v g1 g2 _=>by simp only;omega) _ _ h1.rg h2.rg⟩;simp only[QY,WK];split<;>omega
theorem LR.one {v:Bm}(h:(0≤v.plus∧v.plus≤100)∧ -65536≤v.index∧v.index<8):LR ⟨0,[v]⟩:=⟨by simp,by simp[ID],by simpa using h⟩
theorem LR.num {n:Int}(h:0≤n∧n≤100):LR ⟨n,[]⟩:=⟨h,by simp[ID],by simp⟩
theorem LR.plus {l:B6}{n:Int}(hl:Ca l=true) (h0:0≤n) (h1:n≤100) (he:(I8 l n).2=0):LR (I8 l n).1:=by
 rcases Ol hl h0 h1 with ⟨e,_⟩ | ⟨e,q1,q2⟩
 ·rw[e] at he;simp at he
 have h:=LR.of hl;have hc:=h.c;rw[e];refine⟨?_,Xy h.asc,fun w hw=>?_⟩
 ·simp only[L1];split<;>omega
 simp only[List.mem_map] at hw;obtain⟨u,hu,rfl⟩:=hw;have:=h.rg u hu;have:=q2 u hu;simp only[YT];omega
section
variable {ps:List B6}{q p:B6}{vs:List Bm}{v:Bm}{i:Nat}
theorem P6 {α:Type} [Inhabited α] {l:List α}{i:Nat}{x:α}(h:l[i]?=some x):l.getD i default=x:=by rw[List.getD_eq_getElem?_getD,h];rfl
end
end Go.Eu
namespace Go.Proofs.YtldfmjoncbjldaaGreat
open Go.Abs Go.Eu
theorem _root_.Go.AK {α:Prop}(h:α:=by first | omega | (simp only;omega)):α:=h
theorem _root_.Go.AF {α:Prop}(h:α:=by first | rfl | (refine pB ?_;simp_all;done) | (refine pB ?_;simp_all<;>(intros;omega))):α:=h
theorem SK:∀(l:B6),(We l)→Dl Tryz.prog 167 [.agg ((By l).map .p)] (.p (.bool (Ca l))):=by
 intro l h1;have hl:=h1.vars;simp only[Cu] at hl;refine An Tryz.func167 O Yp (n:=67) O O (Al (A2 O (A9 O) fun b1=>Ad Aj 1 [] O (Af (Af (BL [1] 12 (fun y=>y= .p (.bool ((decide ((l.const:Int)<(0:Int)))||(decide ((l.const:Int) > (100:Int)))))) ?_ ?_)))))
 ·refine Ao (Am Aj 4 [0] O (A6 8 O (fun g=>?_) (fun g=>?_)))
  ·(try simp only[sd,se] at g);exact Ad Aj 4 [] O (⟨O,O,AG,AF,⟨O,Ac⟩⟩)
  (try simp only[sd,se] at g);exact Ad Aj 4 [0] O (⟨O,O,AG,AF,⟨O,Ac⟩⟩)
 rintro _ rfl;refine Ag O (fun c=>?_) (fun c=>?_)
 ·(try simp only[sd,se] at c);refine Ae Aj 1 [] O (Ai (⟨O,_,_,⟨_,_,O,O,O⟩,(List.nil_sublist _),?_⟩))
  all_goals exact⟨pB (Xo c),rfl⟩
 (try simp only[sd,se] at c);refine Ak (Af (Ae Aj 1 [] O (Au (BZ (α:=Nat) (fun i=>⟨67,mk [(1,.ptr b1 0),(3,.p (I (i:Int)))],[.box b1 [.p (I l.const),.p (.lst (List.map HN l.vars))]],[]⟩) (fun i=>l.vars.length - i) (fun i=>i≤l.vars.length∧(B4 l.const l.vars 0=B4 l.const l.vars i)) 0 (⟨by omega,rfl⟩) ?_ ?_))))
 ·exact BO ⟨we O,we O,Ac⟩ (leH (is:=[0]) O (wl (oe O) (DM)))
 rintro i hC
 try simp only at hC
 obtain⟨hi,hC⟩:=hC;refine Af (Al (Am Aj 3 [0] O (Ah O (A7 DO O (List.length_map _)) (Ad Aj 1 [] O (Ag O (fun c1=>?_) (fun c1=>?_))))))
 ·(try simp only[sd,se] at c1);refine Ak (Af (Au (Al (Am Aj 3 [0] O ?_))));obtain⟨x,hx⟩:=Ar (l:=l.vars) (i:=i) Aa;refine Ah O (Aq DO O O Aa (DV hx) (O)) (Ah O (BE Sl O (O)) (A2 O (As Wf O) fun b4=>Ad Aj 1 [0,1] O (Af (Af (BL [1,3,4] 42 (fun y=>y= .p (.bool ((((decide ((x.index:Int)<(-65536:Int)))||(decide ((x.index:Int)≥(8:Int))))||(decide ((x.plus:Int)<(0:Int))))||(decide ((x.plus:Int) > (100:Int)))))) ?_ ?_)))))
  ·refine Ao (Am Aj 4 [0] O (A6 28 O (fun g=>?_) (fun g=>?_)))
   ·(try simp only[sd,se] at g);exact Ad Aj 14 [] O (⟨O,O,AG,AF,⟨O,O,O,Ac⟩⟩)
   (try simp only[sd,se] at g);refine Am Aj 5 [0] O (A6 33 O (fun g1=>?_) (fun g1=>?_))
   ·(try simp only[sd,se] at g1);exact Ad Aj 9 [] O (⟨O,O,AG,AF,⟨O,O,O,Ac⟩⟩)
   (try simp only[sd,se] at g1);refine Am Aj 5 [0] O (A6 38 O (fun g2=>?_) (fun g2=>?_))
   ·(try simp only[sd,se] at g2);exact Ad Aj 4 [] O (⟨O,O,AG,AF,⟨O,O,O,Ac⟩⟩)
   (try simp only[sd,se] at g2);exact Ad Aj 4 [0] O (⟨O,O,AG,AF,⟨O,O,O,Ac⟩⟩)
  rintro _ rfl;refine Ag O (fun c2=>?_) (fun c2=>?_)
  ·(try simp only[sd,se] at c2);refine Ae Aj 1 [] O (Ai (⟨O,_,_,⟨_,_,O,O,O⟩,(List.nil_sublist _),?_⟩))
   all_goals exact⟨pB (NJ hC (Tf hx (Xp c2))),rfl⟩
  (try simp only[sd,se] at c2);refine Ak (Af (Af (BL [1,3,4] 56 (fun y=>y= .p (.bool (!(Gt (Gw l.vars i) x.index)))) ?_ ?_)))
  ·refine Bq (fun k=>false) Er (BC Aj 3 [] O (E6 45 O (fun g=>?_) (fun g=>?_)))
   ·(try simp only[sd,se] at g);refine BC Aj 4 [1] O ?_;obtain⟨x1,hx1⟩:=Ar (l:=l.vars) (i:=(((i:Int):Int) - (1:Int):Int).toNat) Aa;exact Bh O (fun _=>Aq DO O O Aa (DV hx1) (O)) Ac (Bo Aj 6 [0] O (⟨O,O,AG,(by first | (refine pB ?_;exact(Kb Aa).symm) | (refine pB ?_;exact(MP hx1 Aa).symm)),⟨O,O,O,Ac⟩⟩))
   (try simp only[sd,se] at g);exact Bo Aj 11 [] O (⟨O,O,AG,(by first | (refine pB ?_;exact(Kb Aa).symm) | (refine pB ?_;exact(MP hx1 Aa).symm)),⟨O,O,O,Ac⟩⟩)
  rintro _ rfl;refine Ag O (fun c3=>?_) (fun c3=>?_)
  ·(try simp only[sd,se] at c3);refine Ae Aj 1 [] O (Ai (⟨O,_,_,⟨_,_,O,O,O⟩,(List.nil_sublist _),?_⟩))
   all_goals exact⟨pB (NJ hC (by rw[Mi hx];rw[c3];simp)),rfl⟩
  (try simp only[sd,se] at c3);refine Ak (Af (BL [1,3] 66 (fun y=>y= .p (.bool ((decide ((l.const:Int) > (0:Int)))&&(decide ((x.plus:Int)≥(l.const:Int)))))) ?_ ?_))
  ·refine Ao (Am Aj 4 [1] O (A6 60 O (fun g=>?_) (fun g=>?_)))
   ·(try simp only[sd,se] at g);exact Ad Aj 6 [0,1] O (⟨O,O,AG,AF,⟨O,O,Ac⟩⟩)
   (try simp only[sd,se] at g);exact Ad Aj 6 [] O (⟨O,O,AG,AF,⟨O,O,Ac⟩⟩)
  rintro _ rfl;refine Ag O (fun c4=>?_) (fun c4=>?_)
  ·(try simp only[sd,se] at c4);refine Ae Aj 1 [] O (Ai (⟨O,_,_,⟨_,_,O,O,O⟩,(List.nil_sublist _),?_⟩))
   all_goals exact⟨pB (NJ hC (Tf hx (Uk c4.1 c4.2))),rfl⟩
  (try simp only[sd,se] at c4);refine Ak (Ao (Ad Aj 3 [] O (⟨(i+1),AK,⟨by omega,(hC.trans (U7 hx (Uv Aa (by simpa using c4)) (by simpa using c3)))⟩,BO ⟨we rfl,we rfl,trivial⟩ (leH (is:=[1]) rfl (wl (oe rfl) (DM)))⟩)))
 (try simp only[sd,se] at c1);refine BS (Ae Aj 1 [] O (Ai (⟨O,_,_,⟨_,_,O,O,O⟩,(List.nil_sublist _),?_⟩)))
 all_goals exact⟨pB (UZ Aa Aa hC Aa),rfl⟩
end Go.Proofs.YtldfmjoncbjldaaGreat
namespace Go.Eu
def Wl:Tm→Prop
 | .mk k i n l _=>(i≠0→k=0∨k=12)∧(n≠⟨#[]⟩→k=3)∧(k=2→l.length=1)∧(k≠2→k≠3→l.length=0)
mutual
def Cw:Tm→Prop
 | .mk k i n l ks=>Wl (.mk k i n l ks)∧ad ks
def ad:List Tm→Prop
 | []=>True
 | t::ts=>Cw t∧ad ts
end
theorem Ff:∀{ts:List Tm},(∀t∈ts,Cw t)→ad ts
 | [],_=>trivial
 | t::ts,h=>⟨h t List.mem_cons_self,Ff fun x hx=>h x (List.mem_cons_of_mem _ hx)⟩
end Go.Eu
namespace Go.Proofs.YtldfmjoncbjldaaGreat
open Go.Abs Go.Eu
theorem OM:∀(c:Int),F4 Tryz.prog 166 [.p (.int .u8 c)] (KU):=by
 intro c;refine An Tryz.func166 O ZT (n:=21) O O (Ae Aj 1 [] O (Af (BL [] 2 (fun y=>y= .p (.bool ((((decide ((c:Int)≥(97:Int)))&&(decide ((c:Int)≤(122:Int))))||((decide ((c:Int)≥(65:Int)))&&(decide ((c:Int)≤(90:Int)))))||((c:Int)==(95:Int))))) ?_ ?_)))
 ·refine Ao (Am Aj 3 [] O (A6 5 O (fun g=>?_) (fun g=>?_)))
  ·(try simp only[sd,se] at g);refine Am Aj 4 [] O (A6 9 O (fun g1=>?_) (fun g1=>?_))
   ·(try simp only[sd,se] at g1);exact Ad Aj 12 [] O ⟨O,O,AG,AF,Ac⟩
   (try simp only[sd,se] at g1);refine Am Aj 3 [] O (A6 12 O (fun g2=>?_) (fun g2=>?_))
   ·(try simp only[sd,se] at g2);refine Am Aj 5 [] O (A6 17 O (fun g3=>?_) (fun g3=>?_))
    ·(try simp only[sd,se] at g3);exact Ad Aj 4 [] O ⟨O,O,AG,AF,Ac⟩
    (try simp only[sd,se] at g3);exact Ad Aj 4 [] O ⟨O,O,AG,AF,Ac⟩
   (try simp only[sd,se] at g2);exact Ad Aj 9 [] O ⟨O,O,AG,AF,Ac⟩
  (try simp only[sd,se] at g);refine Am Aj 7 [] O (A6 12 O (fun g1=>?_) (fun g1=>?_))
  ·(try simp only[sd,se] at g1);refine Am Aj 5 [] O (A6 17 O (fun g2=>?_) (fun g2=>?_))
   ·(try simp only[sd,se] at g2);exact Ad Aj 4 [] O ⟨O,O,AG,AF,Ac⟩
   (try simp only[sd,se] at g2);exact Ad Aj 4 [] O ⟨O,O,AG,AF,Ac⟩
  (try simp only[sd,se] at g1);exact Ad Aj 9 [] O ⟨O,O,AG,AF,Ac⟩
 rintro _ rfl;refine Ai (⟨O,_,_,⟨_,_,O,O,O⟩,(List.nil_sublist _),?_⟩)
 all_goals exact⟨⟨_,rfl⟩,rfl⟩
theorem _root_.Go.AJ {α:Prop}(h:α:=by first | trivial | omega | simp | (simp;omega)):α:=h
theorem W6:∀(s:ByteArray),(s.size<Cu)→F4 Tryz.prog 136 [.p (.str s)] (KU):=by
 intro s h1;simp only[Cu] at h1;refine An Tryz.func136 O Y2 (n:=45) O O (Ae Aj 1 [] O (Af (Af (BL [0] 12 KU ?_ ?_))))
 ·refine Ao (BY O (Ah O (MM O O) (BY O (A6 8 O (fun g=>?_) (fun g=>?_)))))
  ·(try simp only[sd,se] at g);exact Ad Aj 4 [] O (⟨O,O,AG,⟨_,O⟩,⟨O,Ac⟩⟩)
  (try simp only[sd,se] at g);exact Ba O (Ch O) (Ba O (F5 au O) (Ad Aj 2 [] O (⟨O,O,AG,⟨_,O⟩,⟨O,Ac⟩⟩)))
 rintro _ ⟨q,rfl⟩;refine Ag O (fun c=>?_) (fun c=>?_)
 ·(try simp only[sd,se] at c);refine Ae Aj 1 [] O (Ai (⟨O,_,_,⟨_,_,O,O,O⟩,(List.nil_sublist _),?_⟩))
  all_goals exact⟨⟨_,rfl⟩,rfl⟩
 (try simp only[sd,se] at c);refine Ak (Ae Aj 1 [] O (Af (Ae Aj 1 [] O (Au (BZ (α:=Nat×Bool) (fun(i,f)=>⟨45,mk [(0,.p (.str s)),(3,.p (.bool f)),(4,.p (I (i:Int)))],[],[]⟩) (fun(i,f)=>s.size - i) (fun(i,f)=>i≤s.size) ⟨0,true⟩ AJ ?_ ?_)))))
 ·exact BO ⟨we O,we O,we O,Ac⟩ (leH (is:=[]) O (DM))
 rintro⟨i,f⟩ hC
 try simp only at hC
 have hi:=hC;refine Af (Al (Am Aj 2 [] O (Ah O (F5 au O) (Ad Aj 1 [] O (Ag O (fun c1=>?_) (fun c1=>?_))))))
 ·(try simp only[sd,se] at c1);refine Ak (Af (Au (Al (Am Aj 2 [] O ?_))));obtain⟨ch,hch⟩:∃c,(s)[i]?=some c:=⟨_,getElem?_pos s i Aa⟩;refine Ah O (La au O O Aa (by simpa using hch)) (Ad Aj 1 [] O (Af (Ae Aj 1 [] O (Ag O (fun c2=>?_) (fun c2=>?_)))))
  ·(try simp only[sd,se] at c2);refine Af (Al (BY O (EM O O (CC O O (OM ch.toNat) (.inl O)) ?_)));rintro _ ⟨q1,rfl⟩;refine Ad Aj 1 [] O (Ag O (fun c3=>?_) (fun c3=>?_))
   ·(try simp only[sd,se] at c3);refine Ae Aj 1 [] O (Ai (⟨O,_,_,⟨_,_,O,O,O⟩,(List.nil_sublist _),?_⟩))
    all_goals exact⟨⟨_,rfl⟩,rfl⟩
   (try simp only[sd,se] at c3);refine Ak (Ae Aj 1 [] O (BS (Ao (Ad Aj 3 [] O ?_))));refine⟨⟨i+1,false⟩,AK,by omega,BO ⟨we rfl,we rfl,we rfl,trivial⟩ (leH (is:=[]) rfl (DM))⟩
  (try simp only[sd,se] at c2);refine Ak (Af (Ae Aj 2 [] O (Ag O (fun c3=>?_) (fun c3=>?_))))
  ·(try simp only[sd,se] at c3);refine Ae Aj 1 [] O (BS (Ao (Ad Aj 3 [] O ?_)));refine⟨⟨i+1,true⟩,AK,by omega,BO ⟨we rfl,we rfl,we rfl,trivial⟩ (leH (is:=[]) rfl (DM))⟩
  (try simp only[sd,se] at c3);refine Ak (Af (BL [0,3,4] 42 KU ?_ ?_))
  ·refine Ao (BY O (EM O O (CC O O (OM ch.toNat) (.inl O)) ?_));rintro _ ⟨q1,rfl⟩;refine Am Aj 2 [] O (A6 31 O (fun g=>?_) (fun g=>?_))
   ·(try simp only[sd,se] at g);refine Am Aj 4 [] O (A6 35 O (fun g1=>?_) (fun g1=>?_))
    ·(try simp only[sd,se] at g1);refine Am Aj 3 [] O (A6 38 O (fun g2=>?_) (fun g2=>?_))
     ·(try simp only[sd,se] at g2);exact Ad Aj 4 [] O (⟨O,O,AG,⟨_,O⟩,⟨O,O,O,Ac⟩⟩)
     (try simp only[sd,se] at g2);exact Ad Aj 4 [] O (⟨O,O,AG,⟨_,O⟩,⟨O,O,O,Ac⟩⟩)
    (try simp only[sd,se] at g1);exact Ad Aj 7 [] O (⟨O,O,AG,⟨_,O⟩,⟨O,O,O,Ac⟩⟩)
   (try simp only[sd,se] at g);exact Ad Aj 11 [] O (⟨O,O,AG,⟨_,O⟩,⟨O,O,O,Ac⟩⟩)
  rintro _ ⟨r,rfl⟩;refine Ag O (fun c4=>?_) (fun c4=>?_)
  ·(try simp only[sd,se] at c4);refine Ae Aj 1 [] O (Ai (⟨O,_,_,⟨_,_,O,O,O⟩,(List.nil_sublist _),?_⟩))
   all_goals exact⟨⟨_,rfl⟩,rfl⟩
  (try simp only[sd,se] at c4);refine Ak (Ao (Ad Aj 3 [] O ?_));refine⟨⟨i+1,f⟩,AK,by omega,BO ⟨we rfl,we rfl,we rfl,trivial⟩ (leH (is:=[]) rfl (DM))⟩
 (try simp only[sd,se] at c1);refine BS (Ae Aj 3 [] O (Ai (⟨O,_,_,⟨_,_,O,O,O⟩,(List.nil_sublist _),?_⟩)))
 all_goals exact⟨⟨_,rfl⟩,rfl⟩
theorem _root_.Go.AR {α:Prop}(h:α:=by simp_all [arity]):α:=h
theorem Wr:∀(k:Int),Dl Tryz.prog 165 [.p (I k)] (.p (I (arity k))):=by
 intro k;refine An Tryz.func165 O Zr (n:=15) O O (Ae Aj 1 [] O (Af (Ae Aj 1 [] O (Au (Af (Ae Aj 2 [] O (Ag O (fun c=>?_) (fun c=>?_))))))))
 ·(try simp only[sd,se] at c);refine Ak (Ag O (fun c1=>?_) (fun c1=>?_))
  ·(try simp only[sd,se] at c1);refine Ae Aj 1 [] O (Ai (⟨O,_,_,⟨_,_,O,O,O⟩,(List.nil_sublist _),?_⟩))
   all_goals exact⟨pI AR,rfl⟩
  (try simp only[sd,se] at c1);refine Af (Ae Aj 2 [] O (Ag O (fun c2=>?_) (fun c2=>?_)))
  ·(try simp only[sd,se] at c2);refine Ak (Ag O (fun c3=>?_) (fun c3=>?_))
   ·(try simp only[sd,se] at c3);refine Ae Aj 1 [] O (Ai (⟨O,_,_,⟨_,_,O,O,O⟩,(List.nil_sublist _),?_⟩))
    all_goals exact⟨pI AR,rfl⟩
   (try simp only[sd,se] at c3);refine Af (Ae Aj 2 [] O (Ag O (fun c4=>?_) (fun c4=>?_)))
   ·(try simp only[sd,se] at c4);refine Ak (Ag O (fun c5=>?_) (fun c5=>?_))
    ·(try simp only[sd,se] at c5);refine Ae Aj 1 [] O (Ai (⟨O,_,_,⟨_,_,O,O,O⟩,(List.nil_sublist _),?_⟩))
     all_goals exact⟨pI AR,rfl⟩
    (try simp only[sd,se] at c5);refine Ak (Ae Aj 1 [] O (Ai (⟨O,_,_,⟨_,_,O,O,O⟩,(List.nil_sublist _),?_⟩)))
    all_goals exact⟨pI AR,rfl⟩
   (try simp only[sd,se] at c4);refine Ao (Ad Aj 2 [] O (Ag O (fun c5=>?_) (fun c5=>?_)))
   ·(try simp only[sd,se] at c5);refine Ae Aj 1 [] O (Ai (⟨O,_,_,⟨_,_,O,O,O⟩,(List.nil_sublist _),?_⟩))
    all_goals exact⟨pI AR,rfl⟩
   (try simp only[sd,se] at c5);refine Ak (Ae Aj 1 [] O (Ai (⟨O,_,_,⟨_,_,O,O,O⟩,(List.nil_sublist _),?_⟩)))
   all_goals exact⟨pI AR,rfl⟩
  (try simp only[sd,se] at c2);refine Ao (Ad Aj 2 [] O (Ag O (fun c3=>?_) (fun c3=>?_)))
  ·(try simp only[sd,se] at c3);refine Ae Aj 1 [] O (Ai (⟨O,_,_,⟨_,_,O,O,O⟩,(List.nil_sublist _),?_⟩))
   all_goals exact⟨pI AR,rfl⟩
  (try simp only[sd,se] at c3);refine Af (Ae Aj 2 [] O (Ag O (fun c4=>?_) (fun c4=>?_)))
  ·(try simp only[sd,se] at c4);refine Ak (Ag O (fun c5=>?_) (fun c5=>?_))
   ·(try simp only[sd,se] at c5);refine Ae Aj 1 [] O (Ai (⟨O,_,_,⟨_,_,O,O,O⟩,(List.nil_sublist _),?_⟩))
    all_goals exact⟨pI AR,rfl⟩
   (try simp only[sd,se] at c5);refine Ak (Ae Aj 1 [] O (Ai (⟨O,_,_,⟨_,_,O,O,O⟩,(List.nil_sublist _),?_⟩)))
   all_goals exact⟨pI AR,rfl⟩
  (try simp only[sd,se] at c4);refine Ao (Ad Aj 2 [] O (Ag O (fun c5=>?_) (fun c5=>?_)))
  ·(try simp only[sd,se] at c5);refine Ae Aj 1 [] O (Ai (⟨O,_,_,⟨_,_,O,O,O⟩,(List.nil_sublist _),?_⟩))
   all_goals exact⟨pI AR,rfl⟩
  (try simp only[sd,se] at c5);refine Ak (Ae Aj 1 [] O (Ai (⟨O,_,_,⟨_,_,O,O,O⟩,(List.nil_sublist _),?_⟩)))
  all_goals exact⟨pI AR,rfl⟩
 (try simp only[sd,se] at c);refine Ae Aj 2 [] O (Ag O (fun c1=>?_) (fun c1=>?_))
 ·(try simp only[sd,se] at c1);refine Ak (Ag O (fun c2=>?_) (fun c2=>?_))
  ·(try simp only[sd,se] at c2);refine Ae Aj 1 [] O (Ai (⟨O,_,_,⟨_,_,O,O,O⟩,(List.nil_sublist _),?_⟩))
   all_goals exact⟨pI AR,rfl⟩
  (try simp only[sd,se] at c2);refine Af (Ae Aj 2 [] O (Ag O (fun c3=>?_) (fun c3=>?_)))
  ·(try simp only[sd,se] at c3);refine Ak (Ag O (fun c4=>?_) (fun c4=>?_))
   ·(try simp only[sd,se] at c4);refine Ae Aj 1 [] O (Ai (⟨O,_,_,⟨_,_,O,O,O⟩,(List.nil_sublist _),?_⟩))
    all_goals exact⟨pI AR,rfl⟩
   (try simp only[sd,se] at c4);refine Af (Ae Aj 2 [] O (Ag O (fun c5=>?_) (fun c5=>?_)))
   ·(try simp only[sd,se] at c5);refine Ak (Ag O (fun c6=>?_) (fun c6=>?_))
    ·(try simp only[sd,se] at c6);refine Ae Aj 1 [] O (Ai (⟨O,_,_,⟨_,_,O,O,O⟩,(List.nil_sublist _),?_⟩))
     all_goals exact⟨pI AR,rfl⟩
    (try simp only[sd,se] at c6);refine Ak (Ae Aj 1 [] O (Ai (⟨O,_,_,⟨_,_,O,O,O⟩,(List.nil_sublist _),?_⟩)))
    all_goals exact⟨pI AR,rfl⟩
   (try simp only[sd,se] at c5);refine Ao (Ad Aj 2 [] O (Ag O (fun c6=>?_) (fun c6=>?_)))
   ·(try simp only[sd,se] at c6);refine Ae Aj 1 [] O (Ai (⟨O,_,_,⟨_,_,O,O,O⟩,(List.nil_sublist _),?_⟩))
    all_goals exact⟨pI AR,rfl⟩
   (try simp only[sd,se] at c6);refine Ak (Ae Aj 1 [] O (Ai (⟨O,_,_,⟨_,_,O,O,O⟩,(List.nil_sublist _),?_⟩)))
   all_goals exact⟨pI AR,rfl⟩
  (try simp only[sd,se] at c3);refine Ao (Ad Aj 2 [] O (Ag O (fun c4=>?_) (fun c4=>?_)))
  ·(try simp only[sd,se] at c4);refine Ae Aj 1 [] O (Ai (⟨O,_,_,⟨_,_,O,O,O⟩,(List.nil_sublist _),?_⟩))
   all_goals exact⟨pI AR,rfl⟩
  (try simp only[sd,se] at c4);refine Af (Ae Aj 2 [] O (Ag O (fun c5=>?_) (fun c5=>?_)))
  ·(try simp only[sd,se] at c5);refine Ak (Ag O (fun c6=>?_) (fun c6=>?_))
   ·(try simp only[sd,se] at c6);refine Ae Aj 1 [] O (Ai (⟨O,_,_,⟨_,_,O,O,O⟩,(List.nil_sublist _),?_⟩))
    all_goals exact⟨pI AR,rfl⟩
   (try simp only[sd,se] at c6);refine Ak (Ae Aj 1 [] O (Ai (⟨O,_,_,⟨_,_,O,O,O⟩,(List.nil_sublist _),?_⟩)))
   all_goals exact⟨pI AR,rfl⟩
  (try simp only[sd,se] at c5);refine Ao (Ad Aj 2 [] O (Ag O (fun c6=>?_) (fun c6=>?_)))
  ·(try simp only[sd,se] at c6);refine Ae Aj 1 [] O (Ai (⟨O,_,_,⟨_,_,O,O,O⟩,(List.nil_sublist _),?_⟩))
   all_goals exact⟨pI AR,rfl⟩
  (try simp only[sd,se] at c6);refine Ak (Ae Aj 1 [] O (Ai (⟨O,_,_,⟨_,_,O,O,O⟩,(List.nil_sublist _),?_⟩)))
  all_goals exact⟨pI AR,rfl⟩
 (try simp only[sd,se] at c1);refine Ae Aj 2 [] O (Ag O (fun c2=>?_) (fun c2=>?_))
 ·(try simp only[sd,se] at c2);refine Ak (Ag O (fun c3=>?_) (fun c3=>?_))
  ·(try simp only[sd,se] at c3);refine Ae Aj 1 [] O (Ai (⟨O,_,_,⟨_,_,O,O,O⟩,(List.nil_sublist _),?_⟩))
   all_goals exact⟨pI AR,rfl⟩
  (try simp only[sd,se] at c3);refine Af (Ae Aj 2 [] O (Ag O (fun c4=>?_) (fun c4=>?_)))
  ·(try simp only[sd,se] at c4);refine Ak (Ag O (fun c5=>?_) (fun c5=>?_))
   ·(try simp only[sd,se] at c5);refine Ae Aj 1 [] O (Ai (⟨O,_,_,⟨_,_,O,O,O⟩,(List.nil_sublist _),?_⟩))
    all_goals exact⟨pI AR,rfl⟩
   (try simp only[sd,se] at c5);refine Af (Ae Aj 2 [] O (Ag O (fun c6=>?_) (fun c6=>?_)))
   ·(try simp only[sd,se] at c6);refine Ak (Ag O (fun c7=>?_) (fun c7=>?_))
    ·(try simp only[sd,se] at c7);refine Ae Aj 1 [] O (Ai (⟨O,_,_,⟨_,_,O,O,O⟩,(List.nil_sublist _),?_⟩))
     all_goals exact⟨pI AR,rfl⟩
    (try simp only[sd,se] at c7);refine Ak (Ae Aj 1 [] O (Ai (⟨O,_,_,⟨_,_,O,O,O⟩,(List.nil_sublist _),?_⟩)))
    all_goals exact⟨pI AR,rfl⟩
   (try simp only[sd,se] at c6);refine Ao (Ad Aj 2 [] O (Ag O (fun c7=>?_) (fun c7=>?_)))
   ·(try simp only[sd,se] at c7);refine Ae Aj 1 [] O (Ai (⟨O,_,_,⟨_,_,O,O,O⟩,(List.nil_sublist _),?_⟩))
    all_goals exact⟨pI AR,rfl⟩
   (try simp only[sd,se] at c7);refine Ak (Ae Aj 1 [] O (Ai (⟨O,_,_,⟨_,_,O,O,O⟩,(List.nil_sublist _),?_⟩)))
   all_goals exact⟨pI AR,rfl⟩
  (try simp only[sd,se] at c4);refine Ao (Ad Aj 2 [] O (Ag O (fun c5=>?_) (fun c5=>?_)))
  ·(try simp only[sd,se] at c5);refine Ae Aj 1 [] O (Ai (⟨O,_,_,⟨_,_,O,O,O⟩,(List.nil_sublist _),?_⟩))
   all_goals exact⟨pI AR,rfl⟩
  (try simp only[sd,se] at c5);refine Af (Ae Aj 2 [] O (Ag O (fun c6=>?_) (fun c6=>?_)))
  ·(try simp only[sd,se] at c6);refine Ak (Ag O (fun c7=>?_) (fun c7=>?_))
   ·(try simp only[sd,se] at c7);refine Ae Aj 1 [] O (Ai (⟨O,_,_,⟨_,_,O,O,O⟩,(List.nil_sublist _),?_⟩))
    all_goals exact⟨pI AR,rfl⟩
   (try simp only[sd,se] at c7);refine Ak (Ae Aj 1 [] O (Ai (⟨O,_,_,⟨_,_,O,O,O⟩,(List.nil_sublist _),?_⟩)))
   all_goals exact⟨pI AR,rfl⟩
  (try simp only[sd,se] at c6);refine Ao (Ad Aj 2 [] O (Ag O (fun c7=>?_) (fun c7=>?_)))
  ·(try simp only[sd,se] at c7);refine Ae Aj 1 [] O (Ai (⟨O,_,_,⟨_,_,O,O,O⟩,(List.nil_sublist _),?_⟩))
   all_goals exact⟨pI AR,rfl⟩
  (try simp only[sd,se] at c7);refine Ak (Ae Aj 1 [] O (Ai (⟨O,_,_,⟨_,_,O,O,O⟩,(List.nil_sublist _),?_⟩)))
  all_goals exact⟨pI AR,rfl⟩
 (try simp only[sd,se] at c2);refine Ao (Ad Aj 2 [] O (Ag O (fun c3=>?_) (fun c3=>?_)))
 ·(try simp only[sd,se] at c3);refine Ae Aj 1 [] O (Ai (⟨O,_,_,⟨_,_,O,O,O⟩,(List.nil_sublist _),?_⟩))
  all_goals exact⟨pI AR,rfl⟩
 (try simp only[sd,se] at c3);refine Af (Ae Aj 2 [] O (Ag O (fun c4=>?_) (fun c4=>?_)))
 ·(try simp only[sd,se] at c4);refine Ak (Ag O (fun c5=>?_) (fun c5=>?_))
  ·(try simp only[sd,se] at c5);refine Ae Aj 1 [] O (Ai (⟨O,_,_,⟨_,_,O,O,O⟩,(List.nil_sublist _),?_⟩))
   all_goals exact⟨pI AR,rfl⟩
  (try simp only[sd,se] at c5);refine Af (Ae Aj 2 [] O (Ag O (fun c6=>?_) (fun c6=>?_)))
  ·(try simp only[sd,se] at c6);refine Ak (Ag O (fun c7=>?_) (fun c7=>?_))
   ·(try simp only[sd,se] at c7);refine Ae Aj 1 [] O (Ai (⟨O,_,_,⟨_,_,O,O,O⟩,(List.nil_sublist _),?_⟩))
    all_goals exact⟨pI AR,rfl⟩
   (try simp only[sd,se] at c7);refine Ak (Ae Aj 1 [] O (Ai (⟨O,_,_,⟨_,_,O,O,O⟩,(List.nil_sublist _),?_⟩)))
   all_goals exact⟨pI AR,rfl⟩
  (try simp only[sd,se] at c6);refine Ao (Ad Aj 2 [] O (Ag O (fun c7=>?_) (fun c7=>?_)))
  ·(try simp only[sd,se] at c7);refine Ae Aj 1 [] O (Ai (⟨O,_,_,⟨_,_,O,O,O⟩,(List.nil_sublist _),?_⟩))
   all_goals exact⟨pI AR,rfl⟩
  (try simp only[sd,se] at c7);refine Ak (Ae Aj 1 [] O (Ai (⟨O,_,_,⟨_,_,O,O,O⟩,(List.nil_sublist _),?_⟩)))
  all_goals exact⟨pI AR,rfl⟩
 (try simp only[sd,se] at c4);refine Ao (Ad Aj 2 [] O (Ag O (fun c5=>?_) (fun c5=>?_)))
 ·(try simp only[sd,se] at c5);refine Ae Aj 1 [] O (Ai (⟨O,_,_,⟨_,_,O,O,O⟩,(List.nil_sublist _),?_⟩))
  all_goals exact⟨pI AR,rfl⟩
 (try simp only[sd,se] at c5);refine Af (Ae Aj 2 [] O (Ag O (fun c6=>?_) (fun c6=>?_)))
 ·(try simp only[sd,se] at c6);refine Ak (Ag O (fun c7=>?_) (fun c7=>?_))
  ·(try simp only[sd,se] at c7);refine Ae Aj 1 [] O (Ai (⟨O,_,_,⟨_,_,O,O,O⟩,(List.nil_sublist _),?_⟩))
   all_goals exact⟨pI AR,rfl⟩
  (try simp only[sd,se] at c7);refine Ak (Ae Aj 1 [] O (Ai (⟨O,_,_,⟨_,_,O,O,O⟩,(List.nil_sublist _),?_⟩)))
  all_goals exact⟨pI AR,rfl⟩
 (try simp only[sd,se] at c6);refine Ao (Ad Aj 2 [] O (Ag O (fun c7=>?_) (fun c7=>?_)))
 ·(try simp only[sd,se] at c7);refine Ae Aj 1 [] O (Ai (⟨O,_,_,⟨_,_,O,O,O⟩,(List.nil_sublist _),?_⟩))
  all_goals exact⟨pI AR,rfl⟩
 (try simp only[sd,se] at c7);refine Ak (Ae Aj 1 [] O (Ai (⟨O,_,_,⟨_,_,O,O,O⟩,(List.nil_sublist _),?_⟩)))
 all_goals exact⟨pI AR,rfl⟩
theorem Qb : ∀ (k i : Int), Dl Tryz.prog 99 [.p (I k), .p (I i)] (.p (I (below k i))) := by
 intro k i
 refine An Tryz.func99 O bF (n := 27) O O ?_
 refine Ae Aj 1 [] O ?_
 refine Af ?_
 refine Af ?_
 refine BL [] 26 (fun y => y = .p (.bool ((i == 1 && (k == 5 || k == 6 || k == 7)) || (i == 2 && k == 11)))) ?_ ?_
 ·refine Ao ?_
  refine Am Aj 3 [] O ?_
  refine A6 7 O (fun g => ?_) (fun g => ?_)
  ·(try simp only [sd, se] at g)
   refine Am Aj 3 [] O ?_
   refine A6 10 O (fun g1 => ?_) (fun g1 => ?_)
   ·(try simp only [sd, se] at g1)
    refine Ad Aj 16 [] O ?_
    exact ⟨O, O, AG, pB AY, Ac⟩
   (try simp only [sd, se] at g1)
   refine Am Aj 4 [] O ?_
   refine A6 14 O (fun g2 => ?_) (fun g2 => ?_)
   ·(try simp only [sd, se] at g2)
    refine Ad Aj 12 [] O ?_
    exact ⟨O, O, AG, pB AY, Ac⟩
   (try simp only [sd, se] at g2)
   refine Am Aj 5 [] O ?_
   refine A6 19 O (fun g3 => ?_) (fun g3 => ?_)
   ·(try simp only [sd, se] at g3)
    refine Ad Aj 7 [] O ?_
    exact ⟨O, O, AG, pB AY, Ac⟩
   (try simp only [sd, se] at g3)
   refine Am Aj 3 [] O ?_
   refine A6 22 O (fun g4 => ?_) (fun g4 => ?_)
   ·(try simp only [sd, se] at g4)
    refine Ad Aj 4 [] O ?_
    exact ⟨O, O, AG, pB AY, Ac⟩
   (try simp only [sd, se] at g4)
   refine Ad Aj 4 [] O ?_
   exact ⟨O, O, AG, pB AY, Ac⟩
  (try simp only [sd, se] at g)
  refine Am Aj 15 [] O ?_
  refine A6 22 O (fun g1 => ?_) (fun g1 => ?_)
  ·(try simp only [sd, se] at g1)
   refine Ad Aj 4 [] O ?_
   exact ⟨O, O, AG, pB AY, Ac⟩
  (try simp only [sd, se] at g1)
  refine Ad Aj 4 [] O ?_
  exact ⟨O, O, AG, pB AY, Ac⟩
 rintro _ rfl
 refine Ag O (fun c => ?_) (fun c => ?_)
 ·(try simp only [sd, se] at c)
  refine Ae Aj 1 [] O ?_
  refine Ai ?_
  refine ⟨O, _, _, ⟨_, _, O, O, O⟩, (List.nil_sublist _), ?_⟩
  all_goals exact ⟨pI (by unfold below; first | (rw [if_pos (by simp only [Bool.or_eq_true, Bool.and_eq_true, beq_iff_eq]; omega)]) | (rw [if_neg (by simp only [Bool.or_eq_true, Bool.and_eq_true, beq_iff_eq]; omega)])), rfl⟩
 (try simp only [sd, se] at c)
 refine Ak ?_
 refine Ae Aj 1 [] O ?_
 refine Ai ?_
 refine ⟨O, _, _, ⟨_, _, O, O, O⟩, (List.nil_sublist _), ?_⟩
 all_goals exact ⟨pI (by unfold below; first | (rw [if_pos (by simp only [Bool.or_eq_true, Bool.and_eq_true, beq_iff_eq]; omega)]) | (rw [if_neg (by simp only [Bool.or_eq_true, Bool.and_eq_true, beq_iff_eq]; omega)])), rfl⟩
theorem VK:∀(l:B6) (a b:Int),(We l)→F4 Tryz.prog 137 [.agg ((By l).map .p),.p (I a),.p (I b)] (Zq):=by
 intro l a b h1;have hl:=h1.vars;simp only[Cu] at hl;refine An Tryz.func137 O Zc (n:=61) O O (Al (A2 O (A9 O) fun b3=>Ad Aj 1 [] O (Af (Al (Ah O (BQ (i:=0) Ls O O (by simp[Cq])) (Ah O (Av O O (SK l h1) O) (Ad Aj 1 [] O (Ag O (fun c=>?_) (fun c=>?_)))))))))
 ·(try simp only[sd,se] at c);refine Ae Aj 1 [] O (Ai (⟨O,_,_,⟨_,_,O,O,O⟩,(List.nil_sublist _),?_⟩))
  all_goals exact⟨⟨_,rfl⟩,rfl⟩
 (try simp only[sd,se] at c);refine Ak (Af (Ae Aj 1 [] O (Au (BZ (α:=Nat) (fun i=>⟨61,mk [(1,.p (I a)),(2,.p (I b)),(3,.ptr b3 0),(7,.p (I (i:Int)))],[.box b3 ((By l).map .p)],[]⟩) (fun i=>l.vars.length - i) (fun i=>i≤l.vars.length) 0 AJ ?_ ?_))))
 ·exact BO ⟨we O,we O,we O,we O,Ac⟩ (leH (is:=[0]) O (wl (oe O) (DM)))
 rintro i hC
 try simp only at hC
 have hi:=hC;refine Af (Al (Am Aj 3 [0] O (Ah O (A7 DO O (List.length_map _)) (Ad Aj 1 [] O (Ag O (fun c1=>?_) (fun c1=>?_))))))
 ·(try simp only[sd,se] at c1);refine Ak (Af (Au (Af (BL [1,2,3,7] 35 KU ?_ ?_))))
  ·refine Ao (Am Aj 3 [0] O ?_);obtain⟨x,hx⟩:=Ar (l:=l.vars) (i:=i) Aa;refine Ah O (Aq DO O O Aa (DV hx) (O)) (Am Aj 4 [] O (A6 26 O (fun g=>?_) (fun g=>?_)))
   ·(try simp only[sd,se] at g);exact Am Aj 3 [0] O (Ba O (Aq DO O O Aa (DV hx) (O)) (Ad Aj 5 [] O (⟨O,O,AG,⟨_,O⟩,⟨O,O,O,O,Ac⟩⟩)))
   (try simp only[sd,se] at g);exact Ad Aj 9 [] O (⟨O,O,AG,⟨_,O⟩,⟨O,O,O,O,Ac⟩⟩)
  rintro _ ⟨q,rfl⟩;refine Ag O (fun c2=>?_) (fun c2=>?_)
  ·(try simp only[sd,se] at c2);refine Ae Aj 1 [] O (Ai (⟨O,_,_,⟨_,_,O,O,O⟩,(List.nil_sublist _),?_⟩))
   all_goals exact⟨⟨_,rfl⟩,rfl⟩
  (try simp only[sd,se] at c2);refine Ak (Ao (Ad Aj 3 [] O ?_));refine⟨(i+1),AK,by omega,BO ⟨we rfl,we rfl,we rfl,we rfl,trivial⟩ (leH (is:=[0]) rfl (wl (oe rfl) (DM)))⟩
 (try simp only[sd,se] at c1);refine BS (Af (Ae Aj 1 [] O (Au (BZ (α:=Nat) (fun i=>⟨61,mk [(2,.p (I b)),(3,.ptr b3 0),(8,.p (I (i:Int)))],[.box b3 [.p (I l.const),.p (.lst (List.map HN l.vars))]],[]⟩) (fun i=>l.vars.length - i) (fun i=>i≤l.vars.length) 0 AJ ?_ ?_))))
 ·exact BO ⟨we O,we O,we O,Ac⟩ (leH (is:=[0]) O (wl (oe O) (DM)))
 rintro i hC1
 try simp only at hC1
 have hi:=hC1;refine Af (Al (Am Aj 3 [0] O (Ah O (A7 DO O (List.length_map _)) (Ad Aj 1 [] O (Ag O (fun c2=>?_) (fun c2=>?_))))))
 ·(try simp only[sd,se] at c2);refine Ak (Af (Au (Af (BL [2,3,8] 60 KU ?_ ?_))))
  ·refine Ao (Am Aj 3 [0] O ?_);obtain⟨x,hx⟩:=Ar (l:=l.vars) (i:=i) Aa;refine Ah O (Aq DO O O Aa (DV hx) (O)) (Am Aj 4 [] O (A6 50 O (fun g=>?_) (fun g=>?_)))
   ·(try simp only[sd,se] at g);exact Am Aj 3 [0] O (Ba O (Aq DO O O Aa (DV hx) (O)) (Am Aj 2 [] O (Ba O (FQ O O) (Ad Aj 3 [] O (⟨O,O,AG,⟨_,O⟩,⟨O,O,O,Ac⟩⟩)))))
   (try simp only[sd,se] at g);exact Ad Aj 10 [] O (⟨O,O,AG,⟨_,O⟩,⟨O,O,O,Ac⟩⟩)
  rintro _ ⟨q,rfl⟩;refine Ag O (fun c3=>?_) (fun c3=>?_)
  ·(try simp only[sd,se] at c3);refine Ae Aj 1 [] O (Ai (⟨O,_,_,⟨_,_,O,O,O⟩,(List.nil_sublist _),?_⟩))
   all_goals exact⟨⟨_,rfl⟩,rfl⟩
  (try simp only[sd,se] at c3);refine Ak (Ao (Ad Aj 3 [] O ?_));refine⟨(i+1),AK,by omega,BO ⟨we rfl,we rfl,we rfl,trivial⟩ (leH (is:=[0]) rfl (wl (oe rfl) (DM)))⟩
 (try simp only[sd,se] at c2);refine BS (Ae Aj 1 [] O (Ai (⟨O,_,_,⟨_,_,O,O,O⟩,(List.nil_sublist _),?_⟩)))
 all_goals exact⟨⟨_,rfl⟩,rfl⟩
theorem Wx:∀(t:Tm),F4 Tryz.prog 135 [.agg ((A3 t).map .p)] (fun v=>∃bb:Bool,v= .p (.bool bb)∧(bb=true→O9 t∧Wl t)):=by
 intro t;obtain⟨tk,ti,tn,tl,ts⟩:=t;refine An Tryz.func135 O ZJ (n:=57) O O (Al (A2 O (A9 O) fun b1=>Ad Aj 1 [] O (Af (Af (BL [1] 19 (fun y=>y= .p (.bool (decide (tk<0)||decide (tk≥13)||(ts.length:Int) !=arity tk))) ?_ ?_)))))
 ·refine Bq (fun k=>false) Er (BC Aj 4 [0] O (E6 6 O (fun g=>?_) (fun g=>?_)))
  ·(try simp only[sd,se] at g);exact Bo Aj 13 [] O (⟨O,O,AG,(by refine pB ?_;first | (simp_all;done) | (rw[decide_eq_false (by omega:¬tk<0),decide_eq_false (by omega:¬tk≥13)];simp[A1];done)),⟨O,Ac⟩⟩)
  (try simp only[sd,se] at g);refine BC Aj 5 [0] O (E6 11 O (fun g1=>?_) (fun g1=>?_))
  ·(try simp only[sd,se] at g1);exact Bo Aj 8 [] O (⟨O,O,AG,(by refine pB ?_;first | (simp_all;done) | (rw[decide_eq_false (by omega:¬tk<0),decide_eq_false (by omega:¬tk≥13)];simp[A1];done)),⟨O,Ac⟩⟩)
  (try simp only[sd,se] at g1);exact BC Aj 2 [0] O (Bh O (fun _=>A7 BJ O (A1 _)) Ac (BC Aj 2 [0] O (Bh O (fun _=>Av O O (Wr tk) O) Ac (Bo Aj 2 [] O (⟨O,O,AG,(by refine pB ?_;first | (simp_all;done) | (rw[decide_eq_false (by omega:¬tk<0),decide_eq_false (by omega:¬tk≥13)];simp[A1];done)),⟨O,Ac⟩⟩)))))
 rintro _ rfl;refine Ag O (fun c=>?_) (fun c=>?_)
 ·(try simp only[sd,se] at c);refine Ae Aj 1 [] O (Ai (⟨O,_,_,⟨_,_,O,O,O⟩,(List.nil_sublist _),?_⟩))
  all_goals exact⟨⟨_,rfl,by first | exact fun h=>absurd h AZ | exact fun h=>⟨hf,hi,hn,by simp only[beq_iff_eq,decide_eq_true_eq] at *;intro _;omega,by simp only[beq_iff_eq,decide_eq_true_eq] at *;intro _ _;omega⟩⟩,rfl⟩
 (try simp only[sd,se] at c);have hf:O9 (.mk tk ti tn tl ts):=by simp only[O9];omega
 refine Ak (Af (Af (BL [1] 32 (fun y=>∃b:Bool,y= .p (.bool b)∧(b=false→ti≠0→tk=0∨tk=12)) ?_ ?_)))
 ·refine Ao (Am Aj 4 [0] O (A6 23 O (fun g=>?_) (fun g=>?_)))
  ·(try simp only[sd,se] at g);refine Am Aj 5 [0] O (A6 28 O (fun g1=>?_) (fun g1=>?_))
   ·(try simp only[sd,se] at g1);exact Ad Aj 4 [0] O (⟨O,O,AG,(by refine⟨_,rfl,fun h=>?_⟩;first | omega | (simp_all;done) | (simp_all;omega)),⟨O,Ac⟩⟩)
   (try simp only[sd,se] at g1);exact Ad Aj 4 [] O (⟨O,O,AG,(by refine⟨_,rfl,fun h=>?_⟩;first | omega | (simp_all;done) | (simp_all;omega)),⟨O,Ac⟩⟩)
  (try simp only[sd,se] at g);exact Ad Aj 9 [] O (⟨O,O,AG,(by refine⟨_,rfl,fun h=>?_⟩;first | omega | (simp_all;done) | (simp_all;omega)),⟨O,Ac⟩⟩)
 rintro _ ⟨q1,rfl,hq1⟩;refine Ag O (fun c1=>?_) (fun c1=>?_)
 ·(try simp only[sd,se] at c1);refine Ae Aj 1 [] O (Ai (⟨O,_,_,⟨_,_,O,O,O⟩,(List.nil_sublist _),?_⟩))
  all_goals exact⟨⟨_,rfl,by first | exact fun h=>absurd h AZ | exact fun h=>⟨hf,hi,hn,by simp only[beq_iff_eq,decide_eq_true_eq] at *;intro _;omega,by simp only[beq_iff_eq,decide_eq_true_eq] at *;intro _ _;omega⟩⟩,rfl⟩
 (try simp only[sd,se] at c1);have hi:=hq1 (by simpa using c1);refine Ak (Af (Af (BL [1] 40 (fun y=>∃b:Bool,y= .p (.bool b)∧(b=false→tn≠⟨#[]⟩→tk=3)) ?_ ?_)))
 ·refine Ao (Am Aj 2 [0] O (Ah O (Ij O O) (BY O (A6 36 O (fun g=>?_) (fun g=>?_)))))
  ·(try simp only[sd,se] at g);exact Ad Aj 4 [0] O (⟨O,O,AG,(by refine⟨_,rfl,fun h hne=>?_⟩;first | exact absurd (Hp g) hne | (simp only[bne_eq_false_iff_eq] at h;exact h)),⟨O,Ac⟩⟩)
  (try simp only[sd,se] at g);exact Ad Aj 4 [] O (⟨O,O,AG,(by refine⟨_,rfl,fun h hne=>?_⟩;first | exact absurd (Hp g) hne | (simp only[bne_eq_false_iff_eq] at h;exact h)),⟨O,Ac⟩⟩)
 rintro _ ⟨q2,rfl,hq2⟩;refine Ag O (fun c2=>?_) (fun c2=>?_)
 ·(try simp only[sd,se] at c2);refine Ae Aj 1 [] O (Ai (⟨O,_,_,⟨_,_,O,O,O⟩,(List.nil_sublist _),?_⟩))
  all_goals exact⟨⟨_,rfl,by first | exact fun h=>absurd h AZ | exact fun h=>⟨hf,hi,hn,by simp only[beq_iff_eq,decide_eq_true_eq] at *;intro _;omega,by simp only[beq_iff_eq,decide_eq_true_eq] at *;intro _ _;omega⟩⟩,rfl⟩
 (try simp only[sd,se] at c2);have hn:=hq2 (by simpa using c2);refine Ak (Af (Ae Aj 3 [0] O (Ag O (fun c3=>?_) (fun c3=>?_))))
 ·(try simp only[sd,se] at c3);refine Al (Am Aj 2 [0] O (Ah O (A7 Ek O (List.length_map _)) (Ad Aj 2 [] O (Ai (⟨O,_,_,⟨_,_,O,O,O⟩,(List.nil_sublist _),?_⟩)))))
  all_goals exact⟨⟨_,rfl,by first | exact fun h=>absurd h AZ | exact fun h=>⟨hf,hi,hn,by simp only[beq_iff_eq,decide_eq_true_eq] at *;intro _;omega,by simp only[beq_iff_eq,decide_eq_true_eq] at *;intro _ _;omega⟩⟩,rfl⟩
 (try simp only[sd,se] at c3);refine Ak (Al (Am Aj 2 [0] O (Ah O (A7 Ek O (List.length_map _)) (Am Aj 2 [] O (A6 52 O (fun g=>?_) (fun g=>?_))))))
 ·(try simp only[sd,se] at g);refine Ad Aj 5 [] O (Ai (⟨O,_,_,⟨_,_,O,O,O⟩,(List.nil_sublist _),?_⟩))
  all_goals exact⟨⟨_,rfl,by first | exact fun h=>absurd h AZ | exact fun h=>⟨hf,hi,hn,by simp only[beq_iff_eq,decide_eq_true_eq] at *;intro _;omega,by simp only[beq_iff_eq,decide_eq_true_eq] at *;intro _ _;omega⟩⟩,rfl⟩
 (try simp only[sd,se] at g);refine Ad Aj 5 [0] O (Ai (⟨O,_,_,⟨_,_,O,O,O⟩,(List.nil_sublist _),?_⟩))
 all_goals exact⟨⟨_,rfl,by first | exact fun h=>absurd h AZ | exact fun h=>⟨hf,hi,hn,by simp only[beq_iff_eq,decide_eq_true_eq] at *;intro _;omega,by simp only[beq_iff_eq,decide_eq_true_eq] at *;intro _ _;omega⟩⟩,rfl⟩
theorem _root_.Go.AB {α:Prop}(h:α:=by repeat' first | exact trivial | refine And.intro ?_ ?_ | ((refine Or.inr (And.intro ?_ ?_)<;>repeat (first | exact List.Mem.head _ | apply List.Mem.tail));done) | exact Or.inl (by kernel_rfl)):α:=h
theorem _root_.Go.AX {α:Prop}(h:α:=by assumption):α:=h
theorem U6:∀(n:Nat) (t:Tm) (d vars params metas levels:Int),(size t≤n)→(Nd t)→(0≤d)→(d+n<Cu)→F4 Tryz.prog 102 [.agg ((A3 t).map .p),.p (I d),.p (I vars),.p (I params),.p (I metas),.p (I levels)] (fun v=>∃ee:Int,v= .p (I ee)∧(ee=0→wf vars metas d t∧Cw t)):=by
 intro n
 induction n with
 | zero=>intro t d vars params metas levels h;cases t;simp[size] at h
 | succ n ih =>
  intro t d vars params metas levels h1 h2 h3 h4;simp only[Cu] at h4;obtain⟨tk,ti,tn,tl,ts⟩:=t;simp only[size] at h1;simp only[Nd,FR,Cu] at h2;have hks:=DN ts;refine An Tryz.func102 O aF (n:=107) O O (Al (A2 O (A9 O) fun b6=>Ad Aj 1 [] O (Af (Al (Ah O (BQ (i:=0) Bd O O O) (EM O O (CC O O (Wx (.mk tk ti tn tl ts:Tm)) (.inl O)) ?_))))));rintro _ ⟨q,rfl,hq⟩;refine Ad Aj 1 [] O (Ag O (fun c=>?_) (fun c=>?_))
  ·(try simp only[sd,se] at c);refine Ae Aj 1 [] O (Ai (⟨O,_,_,⟨_,_,O,O,O⟩,(List.nil_sublist _),?_⟩))
   all_goals exact⟨⟨_,rfl,by first | exact fun h=>absurd h AZ | exact fun h=>absurd h AX | exact fun _=>⟨⟨hf.1,hf.2.1,hf.2.2,hv1,hv2,Fc fun j x hx=>by have h9:=(hC j (by have:=(List.getElem?_eq_some_iff.1 hx).1;omega) x hx).1;simpa using h9⟩,hcn,Ff fun x hx=>by obtain⟨j,hj⟩:=List.mem_iff_getElem?.1 hx;exact(hC j (by have:=(List.getElem?_eq_some_iff.1 hj).1;omega) x hj).2⟩⟩,rfl⟩
  (try simp only[sd,se] at c);obtain⟨hf,hcn⟩:=hq (by simpa using c);refine Ak (Af (Af (BL [1,2,3,4,5,6] 28 KU ?_ ?_)))
  ·refine Ao (Am Aj 4 [0] O (A6 23 O (fun g=>?_) (fun g=>?_)))
   ·(try simp only[sd,se] at g);refine Am Aj 2 [0] O (Hj O O O O (CC O O (W6 tn h2.1) (.inl O)) ?_);rintro _ ⟨q1,rfl⟩;exact Ad Aj 2 [] O (⟨O,O,AG,⟨_,O⟩,⟨O,O,O,O,O,O,Ac⟩⟩)
   (try simp only[sd,se] at g);exact Ad Aj 5 [] O (⟨O,O,AG,⟨_,O⟩,⟨O,O,O,O,O,O,Ac⟩⟩)
  rintro _ ⟨q1,rfl⟩;refine Ag O (fun c1=>?_) (fun c1=>?_)
  ·(try simp only[sd,se] at c1);refine Ae Aj 1 [] O (Ai (⟨O,_,_,⟨_,_,O,O,O⟩,(List.nil_sublist _),?_⟩))
   all_goals exact⟨⟨_,rfl,by first | exact fun h=>absurd h AZ | exact fun h=>absurd h AX | exact fun _=>⟨⟨hf.1,hf.2.1,hf.2.2,hv1,hv2,Fc fun j x hx=>by have h9:=(hC j (by have:=(List.getElem?_eq_some_iff.1 hx).1;omega) x hx).1;simpa using h9⟩,hcn,Ff fun x hx=>by obtain⟨j,hj⟩:=List.mem_iff_getElem?.1 hx;exact(hC j (by have:=(List.getElem?_eq_some_iff.1 hj).1;omega) x hj).2⟩⟩,rfl⟩
  (try simp only[sd,se] at c1);refine Ak (Af (Al (Am Aj 2 [0] O (Ah O (A7 Ek O (List.length_map _)) (Ad Aj 1 [] O (Ag O (fun c2=>?_) (fun c2=>?_)))))))
  ·(try simp only[sd,se] at c2);refine Ae Aj 1 [] O (Ai (⟨O,_,_,⟨_,_,O,O,O⟩,(List.nil_sublist _),?_⟩))
   all_goals exact⟨⟨_,rfl,by first | exact fun h=>absurd h AZ | exact fun h=>absurd h AX | exact fun _=>⟨⟨hf.1,hf.2.1,hf.2.2,hv1,hv2,Fc fun j x hx=>by have h9:=(hC j (by have:=(List.getElem?_eq_some_iff.1 hx).1;omega) x hx).1;simpa using h9⟩,hcn,Ff fun x hx=>by obtain⟨j,hj⟩:=List.mem_iff_getElem?.1 hx;exact(hC j (by have:=(List.getElem?_eq_some_iff.1 hj).1;omega) x hj).2⟩⟩,rfl⟩
  (try simp only[sd,se] at c2);refine Ak (Af (Ae Aj 1 [] O (Au (BZ (α:=Nat) (fun i=>⟨107,mk [(1,.p (I d)),(2,.p (I vars)),(3,.p (I params)),(4,.p (I metas)),(5,.p (I levels)),(6,.ptr b6 0),(13,.p (I (i:Int)))],[.box b6 [.p (I tk),.p (I ti),.p (.str tn),.p (.lst (List.map By tl)),.p (.lst (Ax ts))]],[]⟩) (fun i=>tl.length - i) (fun i=>i≤tl.length) 0 AJ ?_ ?_))))
  ·exact BO ⟨we O,we O,we O,we O,we O,we O,we O,Ac⟩ (leH (is:=[0]) O (wl (oe O) (DM)))
  rintro i hC
  try simp only at hC
  have hi:=hC;refine Af (Al (Am Aj 3 [0] O (Ah O (A7 Ek O (List.length_map _)) (Ad Aj 1 [] O (Ag O (fun c3=>?_) (fun c3=>?_))))))
  ·(try simp only[sd,se] at c3);refine Ak (Af (Au (Al (Am Aj 3 [0] O ?_))));obtain⟨x,hx⟩:=Ar (l:=tl) (i:=i) Aa;refine Ah O (Aq Ek O O Aa (Ef hx) (Cq _)) (Am Aj 3 [] O (EM O O (CC O O (VK x params levels (h2.2.2.1 _ (List.mem_of_getElem? hx))) (.inl O)) ?_));rintro _ ⟨le,rfl⟩;refine Ad Aj 1 [] O (Ae Aj 2 [] O (Ag O (fun c4=>?_) (fun c4=>?_)))
   ·(try simp only[sd,se] at c4);refine Ae Aj 2 [] O (Ai (⟨O,_,_,⟨_,_,O,O,O⟩,(List.nil_sublist _),?_⟩))
    all_goals exact⟨⟨_,rfl,by first | exact fun h=>absurd h AZ | exact fun h=>absurd h AX | exact fun _=>⟨⟨hf.1,hf.2.1,hf.2.2,hv1,hv2,Fc fun j x hx=>by have h9:=(hC j (by have:=(List.getElem?_eq_some_iff.1 hx).1;omega) x hx).1;simpa using h9⟩,hcn,Ff fun x hx=>by obtain⟨j,hj⟩:=List.mem_iff_getElem?.1 hx;exact(hC j (by have:=(List.getElem?_eq_some_iff.1 hj).1;omega) x hj).2⟩⟩,rfl⟩
   (try simp only[sd,se] at c4);refine Ak (Ao (Ad Aj 3 [] O ?_));refine⟨(i+1),AK,by omega,BO ⟨we rfl,we rfl,we rfl,we rfl,we rfl,we rfl,we rfl,trivial⟩ (leH (is:=[0]) rfl (wl (oe rfl) (DM)))⟩
  (try simp only[sd,se] at c3);refine BS (Af (Af (BL [1,2,3,4,5,6] 66 (fun y=>∃b:Bool,y= .p (.bool b)∧(b=false→tk=0→0≤ti∧ti - d<vars)) ?_ ?_)))
  ·refine Ao (Am Aj 4 [0] O (A6 54 O (fun g=>?_) (fun g=>?_)))
   ·(try simp only[sd,se] at g);refine Am Aj 4 [0] O (A6 58 O (fun g1=>?_) (fun g1=>?_))
    ·(try simp only[sd,se] at g1);refine Ad Aj 8 [] O ?_;exact⟨rfl,rfl,AG,(by refine⟨_,rfl,fun h=>?_⟩;first | (simp_all;done) | (simp_all<;>omega)),⟨rfl,rfl,rfl,rfl,rfl,rfl,trivial⟩⟩
    (try simp only[sd,se] at g1);refine Ad Aj 8 [0] O ?_;exact⟨rfl,rfl,AG,(by refine⟨_,rfl,fun h=>?_⟩;first | (simp_all;done) | (simp_all<;>omega)),⟨rfl,rfl,rfl,rfl,rfl,rfl,trivial⟩⟩
   (try simp only[sd,se] at g);refine Ad Aj 12 [] O ?_;exact⟨rfl,rfl,AG,(by refine⟨_,rfl,fun h=>?_⟩;first | (simp_all;done) | (simp_all<;>omega)),⟨rfl,rfl,rfl,rfl,rfl,rfl,trivial⟩⟩
  rintro _ ⟨r,rfl,hr⟩;refine Ag O (fun c4=>?_) (fun c4=>?_)
  ·(try simp only[sd,se] at c4);refine Ae Aj 1 [] O (Ai (⟨O,_,_,⟨_,_,O,O,O⟩,(List.nil_sublist _),?_⟩))
   all_goals exact⟨⟨_,rfl,by first | exact fun h=>absurd h AZ | exact fun h=>absurd h AX | exact fun _=>⟨⟨hf.1,hf.2.1,hf.2.2,hv1,hv2,Fc fun j x hx=>by have h9:=(hC j (by have:=(List.getElem?_eq_some_iff.1 hx).1;omega) x hx).1;simpa using h9⟩,hcn,Ff fun x hx=>by obtain⟨j,hj⟩:=List.mem_iff_getElem?.1 hx;exact(hC j (by have:=(List.getElem?_eq_some_iff.1 hj).1;omega) x hj).2⟩⟩,rfl⟩
  (try simp only[sd,se] at c4);have hv1:=hr (by simpa using c4);refine Ak (Af (Af (BL [1,2,3,4,5,6] 80 (fun y=>∃b:Bool,y= .p (.bool b)∧(b=false→tk=12→0≤ti∧ti<metas)) ?_ ?_)))
  ·refine Ao (Am Aj 4 [0] O (A6 70 O (fun g=>?_) (fun g=>?_)))
   ·(try simp only[sd,se] at g);refine Am Aj 4 [0] O (A6 74 O (fun g1=>?_) (fun g1=>?_))
    ·(try simp only[sd,se] at g1);refine Ad Aj 6 [] O ?_;exact⟨rfl,rfl,AG,(by refine⟨_,rfl,fun h=>?_⟩;first | (simp_all;done) | (simp_all<;>omega)),⟨rfl,rfl,rfl,rfl,rfl,rfl,trivial⟩⟩
    (try simp only[sd,se] at g1);refine Ad Aj 6 [0] O ?_;exact⟨rfl,rfl,AG,(by refine⟨_,rfl,fun h=>?_⟩;first | (simp_all;done) | (simp_all<;>omega)),⟨rfl,rfl,rfl,rfl,rfl,rfl,trivial⟩⟩
   (try simp only[sd,se] at g);refine Ad Aj 10 [] O ?_;exact⟨rfl,rfl,AG,(by refine⟨_,rfl,fun h=>?_⟩;first | (simp_all;done) | (simp_all<;>omega)),⟨rfl,rfl,rfl,rfl,rfl,rfl,trivial⟩⟩
  rintro _ ⟨r2,rfl,hr2⟩;refine Ag O (fun c5=>?_) (fun c5=>?_)
  ·(try simp only[sd,se] at c5);refine Ae Aj 1 [] O (Ai (⟨O,_,_,⟨_,_,O,O,O⟩,(List.nil_sublist _),?_⟩))
   all_goals exact⟨⟨_,rfl,by first | exact fun h=>absurd h AZ | exact fun h=>absurd h AX | exact fun _=>⟨⟨hf.1,hf.2.1,hf.2.2,hv1,hv2,Fc fun j x hx=>by have h9:=(hC j (by have:=(List.getElem?_eq_some_iff.1 hx).1;omega) x hx).1;simpa using h9⟩,hcn,Ff fun x hx=>by obtain⟨j,hj⟩:=List.mem_iff_getElem?.1 hx;exact(hC j (by have:=(List.getElem?_eq_some_iff.1 hj).1;omega) x hj).2⟩⟩,rfl⟩
  (try simp only[sd,se] at c5);have hv2:=hr2 (by simpa using c5);refine Ak (Af (Ae Aj 1 [] O (Au ?_)));refine BZ (α:=Nat) (fun i=>⟨107,mk [(1,.p (I d)),(2,.p (I vars)),(3,.p (I params)),(4,.p (I metas)),(5,.p (I levels)),(6,.ptr b6 0),(15,.p (I (i:Int)))],[.box b6 [.p (I tk),.p (I ti),.p (.str tn),.p (.lst (List.map By tl)),.p (.lst (Ax ts))]],[]⟩) (fun i=>ts.length - i) (fun i=>i≤ts.length∧(∀j,j<i→∀x,ts[j]?=some x→wf vars metas (d+below tk j) x∧Cw x)) 0 (⟨by omega,fun j h=>by omega⟩) ?_ ?_
  ·exact BO ⟨we O,we O,we O,we O,we O,we O,we O,Ac⟩ (leH (is:=[0]) O (wl (oe O) (DM)))
  rintro i hC1
  try simp only at hC1
  obtain⟨hi,hC⟩:=hC1;have hbl:=Bn tk i;refine Af (Al (Am Aj 3 [0] O (Ah O (A7 BJ O (A1 _)) (Ad Aj 1 [] O (Ag O (fun c6=>?_) (fun c6=>?_))))))
  ·(try simp only[sd,se] at c6);refine Ak (Af (Au (Af (Bq (fun k=>Nat.beq k 15) Er (BC Aj 3 [0] O ?_)))));obtain⟨x,hx⟩:=Ar (l:=ts) (i:=i) Aa;refine A5 O (fun _=>Aq BJ O O Aa (BI hx) (Az _)) Ac (BC Aj 5 [0] O (A5 O (fun _=>Av O O (Qb tk (i:Int)) O) Ac (BC Aj 5 [] O (YA [] O O (CC O O (ih x ((d:Int)+(below tk (i:Int):Int)) vars params metas levels (by have:=Bp hx;omega) (CK h2.2.2.2.2.1 hx) (by have:=Bn tk i;omega) (by have:=Bn tk i;simp only[Cu];omega)) (.inl O)) AW (⟨_,1,O,fun h=>absurd h AZ⟩) AB ?_))));rintro _ ⟨e,rfl,he⟩;refine⟨Ac,?_⟩;refine Bo Aj 1 [] O (Ae Aj 2 [] O (Ag O (fun c7=>?_) (fun c7=>?_)))
   ·(try simp only[sd,se] at c7);refine Ae Aj 2 [] O (Ai (⟨O,_,_,⟨_,_,O,O,O⟩,(List.nil_sublist _),?_⟩))
    all_goals exact⟨⟨_,rfl,by first | exact fun h=>absurd h AZ | exact fun h=>absurd h AX | exact fun _=>⟨⟨hf.1,hf.2.1,hf.2.2,hv1,hv2,Fc fun j x hx=>by have h9:=(hC j (by have:=(List.getElem?_eq_some_iff.1 hx).1;omega) x hx).1;simpa using h9⟩,hcn,Ff fun x hx=>by obtain⟨j,hj⟩:=List.mem_iff_getElem?.1 hx;exact(hC j (by have:=(List.getElem?_eq_some_iff.1 hj).1;omega) x hj).2⟩⟩,rfl⟩
   (try simp only[sd,se] at c7);refine Ak (Ao (Ad Aj 3 [] O (⟨(i+1),AK,⟨by omega,Dk hC hx (he Aa)⟩,BO ⟨we rfl,we rfl,we rfl,we rfl,we rfl,we rfl,we rfl,trivial⟩ (leH (is:=[0]) rfl (wl (oe rfl) (DM)))⟩)))
  (try simp only[sd,se] at c6);refine BS (Ae Aj 1 [] O (Ai (⟨O,_,_,⟨_,_,O,O,O⟩,(List.nil_sublist _),?_⟩)))
  all_goals exact⟨⟨_,rfl,by first | exact fun h=>absurd h AZ | exact fun h=>absurd h AX | exact fun _=>⟨⟨hf.1,hf.2.1,hf.2.2,hv1,hv2,Fc fun j x hx=>by have h9:=(hC j (by have:=(List.getElem?_eq_some_iff.1 hx).1;omega) x hx).1;simpa using h9⟩,hcn,Ff fun x hx=>by obtain⟨j,hj⟩:=List.mem_iff_getElem?.1 hx;exact(hC j (by have:=(List.getElem?_eq_some_iff.1 hj).1;omega) x hj).2⟩⟩,rfl⟩
theorem SJ:∀(b:Nat) (er nd e:Int),BD Tryz.prog 97 [.ptr b 0,.p (I e)] [.box b [.p (I er),.p (I nd)]] (GB (.tup []) [.box b [.p (I (E1 er e)),.p (I nd)]]):=by
 intro b er nd e;refine An Tryz.func97 O da (n:=13) O O (Ae Aj 5 [0] O (Ag O (fun c=>?_) (fun c=>?_)))
 ·(try simp only[sd,se] at c);refine Ao (Ad Aj 5 [0,0] O ⟨O,_,_,O,(CX (is:=[0]) O),?_⟩);refine⟨O,?_⟩;show ([.box b [.p (I e),.p (I nd)]]:List Ap)=_;simp[E1,c]
 (try simp only[sd,se] at c);refine Ak ⟨O,_,_,O,(CX (is:=[0]) O),?_⟩;refine⟨O,?_⟩;show ([.box b [.p (I er),.p (I nd)]]:List Ap)=_;simp[E1,c]
theorem O1:∀(b:Nat) (er nd i:Int),BD Tryz.prog 98 [.ptr b 0,.p (I i)] [.box b [.p (I er),.p (I nd)]] (GB (.agg ((A3 (Bc i)).map .p)) [.box b [.p (I (Jt er i)),.p (I nd)]]):=by
 intro b er nd i;refine An Tryz.func98 O a8 (n:=11) O O (Al (A2 O (As Bf O) fun b4=>Bb O (Af (Ae Aj 2 [] O (Ag O (fun c=>?_) (fun c=>?_))))))
 ·(try simp only[sd,se] at c);refine Ao (BY O (Ah O (CD [1] O (.inl ⟨O,O,O⟩) (SJ b er nd 24) ⟨_,_,O,O,O⟩ AZ O (.inl O)) (Bb O (Ae Aj 3 [0,0] O (BP (Bv (i:=0) O) (Ai (⟨O,_,_,⟨_,_,O,(BA (i:=0) Bd O O O),O⟩,(CX (is:=[1]) O),?_⟩)))))));refine⟨O,?_⟩;show ([.box b [.p (I (E1 er 24)),.p (I nd)]]:List Ap)=_;simp[Jt,show i > 65535 by omega]
 (try simp only[sd,se] at c);refine Ak (Ae Aj 3 [0,0] O (BP (Bv (i:=0) O) (Ai (⟨O,_,_,⟨_,_,O,(BA (i:=0) Bd O O O),O⟩,(CX (is:=[1]) O),?_⟩))));refine⟨O,?_⟩;show ([.box b [.p (I er),.p (I nd)]]:List Ap)=_;simp[Jt,show ¬i > 65535 by omega]
theorem _root_.Go.AD {α:Prop}(h:α:=by simp only[A1,List.length_map,List.length_cons,List.length_nil,List.nil_append,List.length_append];omega):α:=h
theorem _root_.Go.AS {α:Prop}(h:α:=by simp[Az]):α:=h
theorem VH:∀(n:Nat) (t:Tm) (b:Nat) (by' fr d er nd:Int),(size t≤n)→(Nd t)→(0≤d)→(d+n<2 ^ 62)→BD Tryz.prog 49 [.ptr b 0,.agg ((A3 t).map .p),.p (I by'),.p (I fr),.p (I d)] [.box b [.p (I er),.p (I nd)]] (GB (.agg ((A3 ((Be by' fr d er t).1)).map .p)) [.box b [.p (I ((Be by' fr d er t).2)),.p (I nd)]]):=by
 intro n
 induction n with
 | zero=>intro t b by' fr d er nd h;cases t;simp[size] at h
 | succ n ih =>
  intro t b by' fr d er nd h1 h2 h3 h4
  obtain⟨tk,ti,tn,tl,ts⟩:=t;simp only[size] at h1;simp only[Nd,Cu] at h2;refine An Tryz.func49 O dQ (n:=68) O O (Al (A2 O (A9 O) fun b6=>A2 O (As Bf O) fun b10=>Bb O (Af (Ae Aj 3 [1] O (Ag O (fun c=>?_) (fun c=>?_))))))
  ·(try simp only[sd,se] at c);refine Af (Al (Am Aj 4 [1] O (Ah O (DR O O) (Ad Aj 1 [] O (Ag O (fun c1=>?_) (fun c1=>?_))))))
   ·(try simp only[sd,se] at c1);refine Ae Aj 2 [1,0,0] O (Ai (⟨O,_,_,⟨_,_,O,(BA (i:=0) Bd O O O),O⟩,(CX (is:=[2]) O),?_⟩));refine⟨by show (.agg [.p (I tk),.p (I ti),.p (.str tn),.p (.lst (List.map By tl)),.p (.lst (Ax ts))]:AV)=_;rw[Be,if_pos c,if_pos c1];rfl,?_⟩;show ([.box b [.p (I er),.p (I nd)]]:List Ap)=_;rw[Be,if_pos c,if_pos c1]
   (try simp only[sd,se] at c1);refine Ak (Af (Al (Am Aj 3 [1] O (Ah O (DR O O) (Am Aj 2 [] O (Ah O (DR O O) (Ad Aj 1 [] O (Ag O (fun c2=>?_) (fun c2=>?_)))))))))
   ·(try simp only[sd,se] at c2);refine Al (BY O (Ah O (CD [2] O (.inl ⟨O,O,O⟩) (SJ b er nd 24) ⟨_,_,O,O,O⟩ AZ O (.inl O)) (Bb O (Ae Aj 2 [1,0,0] O (Ai (⟨O,_,_,⟨_,_,O,(BA (i:=0) Bd O O O),O⟩,(CX (is:=[2]) O),?_⟩))))));refine⟨by show (.agg [.p (I tk),.p (I ti),.p (.str tn),.p (.lst (List.map By tl)),.p (.lst (Ax ts))]:AV)=_;rw[Be,if_pos c,if_neg Aa,if_pos c2];rfl,?_⟩;show ([.box b [.p (I (E1 er 24)),.p (I nd)]]:List Ap)=_;rw[Be,if_pos c,if_neg Aa,if_pos c2]
   (try simp only[sd,se] at c2);refine Ak (Al (Am Aj 4 [1] O (Ah O (DR O O) (Ah O (CD [2] O (.inl ⟨O,O,O⟩) (O1 b er nd (wr ((ti:Int)+(by':Int)))) ⟨_,_,rfl,rfl,rfl⟩ AZ rfl (.inl rfl)) (Ad Aj 1 [0,1] O (Ai (⟨O,_,_,⟨_,_,O,(BA (i:=0) Bd O O AS),O⟩,(CX (is:=[2]) O),?_⟩)))))));refine⟨by show (.agg ((A3 (Bc (wr ((ti:Int)+(by':Int))))).map .p):AV)=_;rw[Be,if_pos c,if_neg Aa,if_neg Aa],?_⟩;show ([.box b [.p (I (Jt er (wr ((ti:Int)+(by':Int))))),.p (I nd)]]:List Ap)=_;rw[Be,if_pos c,if_neg Aa,if_neg Aa]
  (try simp only[sd,se] at c);refine Ak (Ae Aj 1 [] O (Af (Ae Aj 1 [] O (Au (BP (II (t:=11) (sz:=5) O) (BZ (α:=Nat×List Tm×Int×Option Nat×Nat) (fun(i,ys,e,o,cp)=>⟨68,mk [(0,.ptr b 0),(2,.p (I by')),(3,.p (I fr)),(4,.p (I d)),(6,.ptr b6 0),(10,.ptr b10 0),(11,.vs o (Ax ys).length cp),(12,.p (I (i:Int)))],[.vec o 5 (Ax ys) cp,.box b10 [.p (I 0),.p (I 0),.p (.str ⟨#[]⟩),.p (.nils),.p (.nils)],.box b6 [.p (I tk),.p (I ti),.p (.str tn),.p (.lst (List.map By tl)),.p (.lst (Ax ts))],.box b [.p (I e),.p (I nd)]],[]⟩) (fun(i,ys,e,o,cp)=>ts.length - i) (fun(i,ys,e,o,cp)=>i≤ts.length∧(ys.length=i∧(ys++(Bk by' fr tk d i e (ts.drop i)).1,(Bk by' fr tk d i e (ts.drop i)).2)=Bk by' fr tk d 0 er ts)) ⟨0,[],er,none,0⟩ Ab ?_ ?_))))))
  ·exact BO ⟨we O,we O,we O,we O,we O,we O,we O,we O,Ac⟩ (leH (is:=[0,1,2,3]) O (wl (oe O) (wl (oe O) (wl (oe O) (wl (oe O) (DM))))))
  rintro⟨i,ys,e,o,cp⟩ hC
  try simp only at hC
  obtain⟨hi,hl,hC⟩:=hC;refine Af (Al (Am Aj 3 [2] O (Ah O (A7 BJ O (A1 _)) (Ad Aj 1 [] O (Ag O (fun c1=>?_) (fun c1=>?_))))))
  ·(try simp only[sd,se] at c1);refine Ak (Af (Au (Bq (fun k=>Nat.beq k 17) Er (BC Aj 5 [2] O ?_))));obtain⟨x,hx⟩:=Ar (l:=ts) (i:=i) Aa;refine A5 O (fun _=>Aq BJ O O Aa (BI hx) (Az _)) Ac (BC Aj 7 [2] O (A5 O (fun _=>Av O O (Qb tk (i:Int)) O) Ac (A5 O (fun _=>M4 O O (by have:=Bn tk i;omega) (by have:=Bn tk i;omega)) Ac (HC O O (CD [3] O (.inl ⟨O,O,O⟩) (ih x b by' fr ((d:Int)+(below tk (i:Int):Int)) e nd (by have:=Bp hx;omega) (CK h2.2.2.2.2.1 hx) (by have:=Bn tk i;omega) (by have:=Bn tk i;omega)) ⟨_,_,rfl,rfl,rfl⟩ AZ rfl (.inl rfl)) AB trivial ?_))));generalize hz:(Be by' fr ((d:Int)+(below tk (i:Int):Int)) e x).1=z;obtain⟨zk,zi,zn,zl,zs⟩:=z;refine A5 O (fun _=>Bt BJ Bf O O O O O) Ac (Pp [] O O (EF (i:=0) (rows':=Ax [(.mk zk zi zn zl zs:Tm)]) BJ BJ Bf O O O O O O (Bj _) AD (Q2 ys [(.mk zk zi zn zl zs:Tm)])) AW fun o1 cp1=>⟨AB,Ac,?_⟩);refine Bo Aj 1 [] O (Ao (Ad Aj 3 [] O ?_));refine⟨⟨i+1,ys++[(Be by' fr (d+below tk i) e x).1],(Be by' fr (d+below tk i) e x).2,o1,cp1⟩,AK,⟨by omega,⟨by simp[hl],by rw[←hC,Bx hx];simp[Bk]⟩⟩,BO ⟨we rfl,we rfl,we rfl,we rfl,we rfl,we rfl,we (O5 (ys++[(.mk zk zi zn zl zs:Tm)]) (by rw[hz])),we rfl,trivial⟩ (leH (is:=[0,1,2,3]) rfl (wl (Ip (ys++[(.mk zk zi zn zl zs:Tm)]) (by rw[hz])) (wl (oe rfl) (wl (oe rfl) (wl (oe rfl) (DM))))))⟩
  (try simp only[sd,se] at c1);refine BS (Al (Am Aj 2 [] O (Br (EU (i:=0) [11,65] O (Da ⟨O,O,Ac⟩)) (Ad Aj 1 [1,0] O (Ae Aj 2 [1,0,0] O (Ai (⟨O,_,_,⟨_,_,O,(BA (i:=0) Bd O O O),O⟩,(CX (is:=[2]) O),?_⟩)))))));refine⟨by show (.agg [.p (I tk),.p (I ti),.p (.str tn),.p (.lst (List.map By tl)),.p (.lst (Ax ys))]:AV)=_;rw[Be,if_neg c];rw[show i=ts.length by omega,List.drop_length] at hC;rw[←hC];simp[Bk];rfl,?_⟩;show ([.box b [.p (I e),.p (I nd)]]:List Ap)=_;rw[Be,if_neg c];rw[show i=ts.length by omega,List.drop_length] at hC;rw[←hC];simp[Bk]
theorem Ur:∀{σ:Type}(st:σ→Int→Tm→σ×Bool) (Inv:Nat→σ→Prop) (HP:Bool→σ→List Ap→Prop) (l b2 b3 b4:Nat) (hI:∀m s d t,Inv (m+1) s→Inv m (st s d t).1) (hy:∀m s d t T,Nd t→Inv (m+1) s→HP true s T→Iq Tryz.prog l [.p (I d),TV t] T (Sj (.p (.bool (st s d t).2)) (HP (st s d t).2 (st s d t).1))) (n:Nat) (t:Tm) (d:Int) (s:σ) (T0:List Ap) (m:Nat),size t≤n→Nd t→0≤d→d+n<4611686018427387904→Inv (m+size t) s→HP true s T0→BD Tryz.prog 158 [TV t,.p (I d),.ptr b2 0,.ptr b3 0,.ptr b4 0] (.box b2 [.fn (.yield l) [] []]:: .box b3 It:: .box b4 [.fn (.func 158) [] [.ptr b2 0,.ptr b3 0,.ptr b4 0]]::T0) (Sj (.p (.bool (CO st t d s).2)) (fun H=>∃T,HP (CO st t d s).2 (CO st t d s).1 T∧H= .box b2 [.fn (.yield l) [] []]:: .box b3 It:: .box b4 [.fn (.func 158) [] [.ptr b2 0,.ptr b3 0,.ptr b4 0]]::T)):=by
 intro σ st Inv HP l b2 b3 b4 hI hy n
 induction n with
 | zero=>intro t d s T0 m h;cases t;simp[size] at h
 | succ n ih =>
  intro t d s T0 m h1 h2 h3 h4 h5 h6;obtain⟨tk,ti,tn,tl,ts⟩:=t;have h2':=h2;simp only[size] at h1 h5;simp only[Nd,FR,Cu] at h2;refine An Tryz.func158 O Yd (n:=50) O O (Al (A2 O (A9 O) fun b5=>Ad Aj 1 [] O (Af (Al (Am Aj 3 [1,0] O (RF [_,_,_,_] O O O O (hy (m+A0 ts) _ _ _ _ h2' (by rw[Nat.add_assoc,Nat.add_comm (A0 ts)];exact h5) h6) O ?_ (fun _ _ h=>h.elim)))))));rintro _ T ⟨rfl,hT⟩;refine Ad Aj 1 [] O (Ag O (fun c=>?_) (fun c=>?_))
  ·(try simp only[sd,se] at c);refine Ae Aj 1 [] O (Ai (⟨O,_,_,⟨_,_,O,O,O⟩,(Co [1,2,3] [_,_,_,_] O),?_⟩));rw[N4 c];rw[c] at hT;exact⟨O,_,hT,O⟩
  (try simp only[sd,se] at c);rw[c] at hT;refine Ak (Ae Aj 1 [] O (Af (Af (BL [1,3,4,5,8] 24 (fun y=>y= .p (.bool ((decide ((tk:Int)≥(0:Int)))&&(decide ((tk:Int)<(13:Int)))))) ?_ ?_))))
  ·refine Ao (Am Aj 4 [0] O (A6 20 O (fun g=>?_) (fun g=>?_)))
   ·(try simp only[sd,se] at g);exact Ad Aj 4 [0] O (⟨O,O,AG,AF,⟨O,O,O,O,O,Ac⟩⟩)
   (try simp only[sd,se] at g);exact Ad Aj 4 [] O (⟨O,O,AG,AF,⟨O,O,O,O,O,Ac⟩⟩)
  rintro _ rfl;refine Ag O (fun c1=>?_) (fun c1=>?_)
  ·(try simp only[sd,se] at c1);refine Ao (Am Aj 2 [0] O (Ah O (LB WY Wh O O Aa Aa) (Ah O (BH Yf O O) (Ah O (BU (i:=2) YW O O (S0 Aa)) (Ad Aj 1 [] O (Af (Al (Am Aj 2 [0] O (Ah O (A7 BJ O (A1 _)) (Ad Aj 1 [] O (Au ?_)))))))))));refine BZ (α:=Nat×σ×List Ap) (fun(i,q,U)=>⟨50,mk [(1,.p (I d)),(4,.ptr b4 0),(8,.p (I (E8 tk))),(31,.p (.lst (Ax ts))),(32,.p (I (ts.length:Nat))),(33,.p (I (i:Int)))],(.box b2 [.fn (.yield l) [] []]:: .box b3 It:: .box b4 [.fn (.func 158) [] [.ptr b2 0,.ptr b3 0,.ptr b4 0]]::U),[]⟩) (fun(i,q,U)=>ts.length - i) (fun(i,q,U)=>i≤ts.length∧(CQ st tk d i q (ts.drop i)=CQ st tk d 0 (st s d (.mk tk ti tn tl ts)).1 ts∧Inv (m+A0 (ts.drop i)) q∧HP true q U)) ⟨0,(st s d (.mk tk ti tn tl ts)).1,T⟩ (⟨by omega,by simp,by simpa using hI _ _ _ _ (by rw[Nat.add_assoc,Nat.add_comm (A0 ts)];exact h5),by assumption⟩) ?_ ?_
   ·exact BO ⟨we O,we O,we O,we O,we O,we O,Ac⟩ (Ou [1,2,3] [_,_,_,_] (l':=[_,_,_]) O (wl (oe O) (wl (oe O) (wl (oe O) (DM)))))
   rintro⟨i,q,U⟩ hC
   try simp only at hC
   obtain⟨hi,hC,hJ,hK⟩:=hC;refine Ae Aj 1 [] O (Af (Ag O (fun c2=>?_) (fun c2=>?_)))
   ·(try simp only[sd,se] at c2);refine Ak (Af (Au (Al (BY O ?_))));obtain⟨x,hx⟩:=Ar (l:=ts) (i:=i) Aa;refine Ah O (Aq BJ O O Aa (BI hx) (Az _)) (Ah O (BE Bd O (Az _)) (A2 O (As Bf O) fun b10=>Ad Aj 2 [0,1] O (Ae Aj 2 [] O (Af (Ae Aj 3 [] O (Ag O (fun c3=>?_) (fun c3=>?_)))))))
    ·(try simp only[sd,se] at c3);refine Ao (Ad Aj 3 [] O (BP (Dp (t:=11) (x:= .p (I (d+below tk i))) (pI (by have:=OA (k:=tk) (i:=i) Aa Aa;omega))) (Al (Am Aj 3 [3,0] O (Eg [_] O O O (.inr O) (ih x (d+below tk i) q _ (m+A0 (ts.drop (i+1))) (by have:=Bp hx;omega) (CK h2.2.2.2.2.1 hx) (by have:=Bn tk i;omega) (by have:=Bn tk i;omega) (by rw[Bx hx,A0] at hJ;rw[Nat.add_assoc,Nat.add_comm (A0 _)];exact hJ) hK) (aw (we O) (aw (we O) (aw (we O) (aw (we O) (aw (we O) (G7)))))) ?_ (fun _ _ h=>h.elim))))));rintro _ _ ⟨rfl,T1,hT1,rfl⟩;refine Ad Aj 1 [] O (Ag O (fun c4=>?_) (fun c4=>?_))
     ·(try simp only[sd,se] at c4);refine Ae Aj 1 [] O (Ai (⟨O,_,_,⟨_,_,O,O,O⟩,(Co [1,2,3] [_,_,_,_] O),?_⟩));rw[D1 AX,←hC,EP hx c4];rw[c4] at hT1;exact⟨O,_,hT1,O⟩
     (try simp only[sd,se] at c4);rw[c4] at hT1;refine Ak (Ao (Ad Aj 2 [] O ?_));refine⟨⟨i+1,(CO st x (d+below tk i) q).1,T1⟩,AK,⟨by omega,⟨by rw[←hC];exact(Fo hx AX).symm,by rw[Bx hx,A0] at hJ;exact Eo hI x _ _ _ (by rw[Nat.add_assoc,Nat.add_comm (A0 _)];exact hJ) AX,by assumption⟩⟩,BO ⟨we rfl,we rfl,we rfl,we rfl,we rfl,we rfl,trivial⟩ (Ou [1,2,3] [_,_,_,_] (l':=[_,_,_]) rfl (wl (oe rfl) (wl (oe rfl) (wl (oe rfl) (DM)))))⟩
    (try simp only[sd,se] at c3);refine Ak (BP (Dp (t:=11) (x:= .p (I (d+below tk i))) (pI (by have:=Lh (k:=tk) (i:=i) Aa;omega))) (Al (Am Aj 3 [3,0] O (Eg [_] O O O (.inr O) (ih x (d+below tk i) q _ (m+A0 (ts.drop (i+1))) (by have:=Bp hx;omega) (CK h2.2.2.2.2.1 hx) (by have:=Bn tk i;omega) (by have:=Bn tk i;omega) (by rw[Bx hx,A0] at hJ;rw[Nat.add_assoc,Nat.add_comm (A0 _)];exact hJ) hK) (aw (we O) (aw (we O) (aw (we O) (aw (we O) (aw (we O) (G7)))))) ?_ (fun _ _ h=>h.elim)))));rintro _ _ ⟨rfl,T1,hT1,rfl⟩;refine Ad Aj 1 [] O (Ag O (fun c4=>?_) (fun c4=>?_))
    ·(try simp only[sd,se] at c4);refine Ae Aj 1 [] O (Ai (⟨O,_,_,⟨_,_,O,O,O⟩,(Co [1,2,3] [_,_,_,_] O),?_⟩));rw[D1 AX,←hC,EP hx c4];rw[c4] at hT1;exact⟨O,_,hT1,O⟩
    (try simp only[sd,se] at c4);rw[c4] at hT1;refine Ak (Ao (Ad Aj 2 [] O ?_));refine⟨⟨i+1,(CO st x (d+below tk i) q).1,T1⟩,AK,⟨by omega,⟨by rw[←hC];exact(Fo hx AX).symm,by rw[Bx hx,A0] at hJ;exact Eo hI x _ _ _ (by rw[Nat.add_assoc,Nat.add_comm (A0 _)];exact hJ) AX,by assumption⟩⟩,BO ⟨we rfl,we rfl,we rfl,we rfl,we rfl,we rfl,trivial⟩ (Ou [1,2,3] [_,_,_,_] (l':=[_,_,_]) rfl (wl (oe rfl) (wl (oe rfl) (wl (oe rfl) (DM)))))⟩
   (try simp only[sd,se] at c2);refine BS (Ae Aj 1 [] O (Ai (⟨O,_,_,⟨_,_,O,O,O⟩,(Co [0,1,2] [_,_,_] O),?_⟩)));rw[D1 AX,←hC,show i=ts.length by omega,List.drop_length];exact⟨O,_,hK,O⟩
  (try simp only[sd,se] at c1);have hbx:=Ng (k:=tk) Aa;refine Ak (Af (Al (Am Aj 2 [0] O (Ah O (A7 BJ O (A1 _)) (Ad Aj 1 [] O (Au ?_))))));refine BZ (α:=Nat×σ×List Ap) (fun(i,q,U)=>⟨50,mk [(1,.p (I d)),(4,.ptr b4 0),(8,.p (I (-1))),(31,.p (.lst (Ax ts))),(32,.p (I (ts.length:Nat))),(33,.p (I (i:Int)))],(.box b2 [.fn (.yield l) [] []]:: .box b3 It:: .box b4 [.fn (.func 158) [] [.ptr b2 0,.ptr b3 0,.ptr b4 0]]::U),[]⟩) (fun(i,q,U)=>ts.length - i) (fun(i,q,U)=>i≤ts.length∧(CQ st tk d i q (ts.drop i)=CQ st tk d 0 (st s d (.mk tk ti tn tl ts)).1 ts∧Inv (m+A0 (ts.drop i)) q∧HP true q U)) ⟨0,(st s d (.mk tk ti tn tl ts)).1,T⟩ (⟨by omega,by simp,by simpa using hI _ _ _ _ (by rw[Nat.add_assoc,Nat.add_comm (A0 ts)];exact h5),by assumption⟩) ?_ ?_
  ·exact BO ⟨we O,we O,we O,we O,we O,we O,Ac⟩ (Ou [1,2,3] [_,_,_,_] (l':=[_,_,_]) O (wl (oe O) (wl (oe O) (wl (oe O) (DM)))))
  rintro⟨i,q,U⟩ hC
  try simp only at hC
  obtain⟨hi,hC,hJ,hK⟩:=hC;refine Ae Aj 1 [] O (Af (Ag O (fun c2=>?_) (fun c2=>?_)))
  ·(try simp only[sd,se] at c2);refine Ak (Af (Au (Al (BY O ?_))));obtain⟨x,hx⟩:=Ar (l:=ts) (i:=i) Aa;refine Ah O (Aq BJ O O Aa (BI hx) (Az _)) (Ah O (BE Bd O (Az _)) (A2 O (As Bf O) fun b10=>Ad Aj 2 [0,1] O (Ae Aj 2 [] O (Af (Ae Aj 3 [] O (Ag O (fun c3=>?_) (fun c3=>?_)))))))
   ·(try simp only[sd,se] at c3);refine Ao (Ad Aj 3 [] O (BP (Dp (t:=11) (x:= .p (I (d+below tk i))) (pI (by have:=OA (k:=tk) (i:=i) Aa Aa;omega))) (Al (Am Aj 3 [3,0] O (Eg [_] O O O (.inr O) (ih x (d+below tk i) q _ (m+A0 (ts.drop (i+1))) (by have:=Bp hx;omega) (CK h2.2.2.2.2.1 hx) (by have:=Bn tk i;omega) (by have:=Bn tk i;omega) (by rw[Bx hx,A0] at hJ;rw[Nat.add_assoc,Nat.add_comm (A0 _)];exact hJ) hK) (aw (we O) (aw (we O) (aw (we O) (aw (we O) (aw (we O) (G7)))))) ?_ (fun _ _ h=>h.elim))))));rintro _ _ ⟨rfl,T1,hT1,rfl⟩;refine Ad Aj 1 [] O (Ag O (fun c4=>?_) (fun c4=>?_))
    ·(try simp only[sd,se] at c4);refine Ae Aj 1 [] O (Ai (⟨O,_,_,⟨_,_,O,O,O⟩,(Co [1,2,3] [_,_,_,_] O),?_⟩));rw[D1 AX,←hC,EP hx c4];rw[c4] at hT1;exact⟨O,_,hT1,O⟩
    (try simp only[sd,se] at c4);rw[c4] at hT1;refine Ak (Ao (Ad Aj 2 [] O ?_));refine⟨⟨i+1,(CO st x (d+below tk i) q).1,T1⟩,AK,⟨by omega,⟨by rw[←hC];exact(Fo hx AX).symm,by rw[Bx hx,A0] at hJ;exact Eo hI x _ _ _ (by rw[Nat.add_assoc,Nat.add_comm (A0 _)];exact hJ) AX,by assumption⟩⟩,BO ⟨we rfl,we rfl,we rfl,we rfl,we rfl,we rfl,trivial⟩ (Ou [1,2,3] [_,_,_,_] (l':=[_,_,_]) rfl (wl (oe rfl) (wl (oe rfl) (wl (oe rfl) (DM)))))⟩
   (try simp only[sd,se] at c3);refine Ak (BP (Dp (t:=11) (x:= .p (I (d+below tk i))) (pI (by have:=Lh (k:=tk) (i:=i) Aa;omega))) (Al (Am Aj 3 [3,0] O (Eg [_] O O O (.inr O) (ih x (d+below tk i) q _ (m+A0 (ts.drop (i+1))) (by have:=Bp hx;omega) (CK h2.2.2.2.2.1 hx) (by have:=Bn tk i;omega) (by have:=Bn tk i;omega) (by rw[Bx hx,A0] at hJ;rw[Nat.add_assoc,Nat.add_comm (A0 _)];exact hJ) hK) (aw (we O) (aw (we O) (aw (we O) (aw (we O) (aw (we O) (G7)))))) ?_ (fun _ _ h=>h.elim)))));rintro _ _ ⟨rfl,T1,hT1,rfl⟩;refine Ad Aj 1 [] O (Ag O (fun c4=>?_) (fun c4=>?_))
   ·(try simp only[sd,se] at c4);refine Ae Aj 1 [] O (Ai (⟨O,_,_,⟨_,_,O,O,O⟩,(Co [1,2,3] [_,_,_,_] O),?_⟩));rw[D1 AX,←hC,EP hx c4];rw[c4] at hT1;exact⟨O,_,hT1,O⟩
   (try simp only[sd,se] at c4);rw[c4] at hT1;refine Ak (Ao (Ad Aj 2 [] O ?_));refine⟨⟨i+1,(CO st x (d+below tk i) q).1,T1⟩,AK,⟨by omega,⟨by rw[←hC];exact(Fo hx AX).symm,by rw[Bx hx,A0] at hJ;exact Eo hI x _ _ _ (by rw[Nat.add_assoc,Nat.add_comm (A0 _)];exact hJ) AX,by assumption⟩⟩,BO ⟨we rfl,we rfl,we rfl,we rfl,we rfl,we rfl,trivial⟩ (Ou [1,2,3] [_,_,_,_] (l':=[_,_,_]) rfl (wl (oe rfl) (wl (oe rfl) (wl (oe rfl) (DM)))))⟩
  (try simp only[sd,se] at c2);refine BS (Ae Aj 1 [] O (Ai (⟨O,_,_,⟨_,_,O,O,O⟩,(Co [0,1,2] [_,_,_] O),?_⟩)));rw[D1 AX,←hC,show i=ts.length by omega,List.drop_length];exact⟨O,_,hK,O⟩
theorem W8:Dl Tryz.prog 157 [] (.agg It):=by
 refine An Tryz.func157 O aQ (n:=15) O O (Al (A2 O (As Ty O) fun b0=>Bb O (Al (Am Aj 13 [] O (Ah O (Ka WY Wh Ty O) (Ad Aj 1 [0,0] O (Ai (⟨O,_,_,⟨_,_,O,(BA (i:=0) ZN O O O),O⟩,(List.nil_sublist _),?_⟩))))))))
 all_goals exact⟨rfl,rfl⟩
theorem UD:∀(t:Tm),BD Tryz.prog 116 [.agg ((A3 t).map .p)] [] (fun r H'=>∃b,r= .val (.fn (.func 156) [] [.ptr b 0])∧H'=[.box b ((A3 t).map .p)]):=by
 intro t;refine An Tryz.func116 O Z6 (n:=4) O O (Al (A2 O (A9 O) fun b1=>Ad Aj 1 [] O (Ae Aj 2 [] O (Ai (⟨O,_,_,⟨_,_,O,O,O⟩,(CX (is:=[0]) O),?_⟩)))));exact⟨_,O,O⟩
theorem TS:∀{σ:Type}(st:σ→Int→Tm→σ×Bool) (Inv:Nat→σ→Prop) (HP:Bool→σ→List Ap→Prop) (l b1:Nat) (hI:∀m s d t,Inv (m+1) s→Inv m (st s d t).1) (hy:∀m s d t T,Nd t→Inv (m+1) s→HP true s T→Iq Tryz.prog l [.p (I d),TV t] T (Sj (.p (.bool (st s d t).2)) (HP (st s d t).2 (st s d t).1))) (t:Tm) (s:σ) (T0:List Ap) (m:Nat),Nd t→size t<4611686018427387904→Inv (m+size t) s→HP true s T0→BD Tryz.prog 156 [.fn (.yield l) [] [],.ptr b1 0] (.box b1 ((A3 t).map .p)::T0) (Sj (.tup []) (fun H=>∃T,HP (CO st t 0 s).2 (CO st t 0 s).1 T∧H= .box b1 ((A3 t).map .p)::T)):=by
 intro σ st Inv HP l b1 hI hy t s T0 m h1 h2 h3 h4;refine An Tryz.func156 O ZE (n:=10) O O (Al (A2 O (A9 O) fun b2=>Bb O (Al (Ah O (Av O O (W8 ) O) (A2 O (As Ty O) fun b3=>Ad Aj 1 [0,0] O (Al (A2 O (As bX O) fun b4=>Bb O (Ae Aj 2 [0,0] O (Ao (Am Aj 2 [0,3] O (FT ((List.reverse_perm [_,_,_,_]).symm.append_right _) (Eg [_] O O O (.inr O) (Ur st Inv HP l b2 b3 b4 hI hy _ t 0 s T0 m (Nat.le_refl _) h1 Aa Aa h3 h4) (aw (we O) (aw (we O) (aw (we O) (aw (we O) (aw (we O) (G7)))))) ?_ (fun _ _ h=>h.elim)))))))))))));rintro _ _ ⟨rfl,T,hT,rfl⟩;refine Bb O ⟨O,_,_,O,(Co [0] [_,_,_,_] O),?_⟩;exact⟨O,_,hT,O⟩
theorem Qc:∀(t:Tm),(Nd t)→(size t<1152921504606846976)→Dl Tryz.prog 68 [.agg ((A3 t).map .p)] (.p (I (size t:Nat))):=by
 intro t h1 h2;refine Cp Tryz.func68 O cP (n:=11) O O (Al (A2 O (A9 O) fun b1=>Ad Aj 1 [] O (Al (A2 O (As eC O) fun b3=>Ad Aj 1 [0,0] O (Af (Al (Ah O (BQ (i:=1) Bd O O AS) ?_)))))));refine SF [] O O O (.inl ⟨O,O,O⟩) (UD t) O Ab (aw (we O) G7) ?_ (fun _ _ ⟨_,h,_⟩=>by cases h);rintro _ _ ⟨bn,h,rfl⟩;cases h;refine Bb O (Au (PJ (.inr O) fun dd l L hL=>⟨_,_,B9 (is:=[2,0,3]) AZ ⟨_,_,O,O,⟨_,_,O,O,⟨_,_,O,O,O⟩⟩⟩,?_⟩));have hy:∀(m:Nat) (s:Int) (d:Int) (t:Tm) (T:List Ap),Nd t→(fun _ _=>True) (m+1) s→(fun(_:Bool) (s:Int) (T:List Ap)=>T=[.loop l L,.box b3 [.p (I s)]]) true s T→Iq Tryz.prog l [.p (I d),TV t] T (Sj (.p (.bool (PK s d t).2)) ((fun(_:Bool) (s:Int) (T:List Ap)=>T=[.loop l L,.box b3 [.p (I s)]]) (PK s d t).2 (PK s d t).1)):=by
  rintro m s d tt T hnd hinv rfl;subst hL;refine Ru (i:=0) O O O O (Ak ⟨O,0,O,?_⟩);refine Au (Ao (Ah O (BU (i:=1) YW O O O) (Ah O (DR O O) (Ad Aj 1 [1,0] O ⟨0,_,O,CX (is:=[0,1]) O,?_⟩))));exact⟨O,O⟩
 refine(TS PK (fun _ _=>True) (fun(_:Bool) (s:Int) (T:List Ap)=>T=[.loop l L,.box b3 [.p (I s)]]) l bn (fun _ _ _ _ _=>Ac) hy t 0 _ 0 (h1) Aa (Ac) O).mono ?_;rintro(v | v) H' hR
 rotate_left
 ·exact hR.elim
 obtain⟨rfl,_,rfl,rfl⟩:=hR;subst hL;refine⟨1,_,O,Ab,?_⟩;refine Ae Aj 2 [1] O (Ai (⟨2,O,_,_,⟨_,_,O,O,O⟩,(List.nil_sublist _),?_⟩))
 all_goals exact⟨pI (by rw[OC 4611686018427387904 (Int.le_refl _) t 0 0 Aa Aa];simp),rfl⟩
theorem Nl:∀(n:Nat) (t:Tm),(size t≤n)→(Nd t)→Dl Tryz.prog 69 [.agg ((A3 t).map .p)] (.p (I (Dg t))):=by
 intro n
 induction n with
 | zero=>intro t h;cases t;simp[size] at h
 | succ n ih =>
  intro t h1 h2;obtain⟨tk,ti,tn,tl,ts⟩:=t;simp only[size] at h1;simp only[Nd,Cu] at h2;refine An Tryz.func69 O dG (n:=20) O O (Al (A2 O (A9 O) fun b1=>Ad Aj 1 [] O (Ae Aj 1 [] O (Af (Al (Am Aj 2 [0] O (Ah O (A7 BJ O (A1 _)) (Ad Aj 1 [] O (Au (BZ (α:=Nat×Int) (fun(i,m)=>⟨20,mk [(3,.p (I m)),(7,.p (.lst (Ax ts))),(8,.p (I (ts.length:Nat))),(9,.p (I (i:Int)))],[],[]⟩) (fun(i,m)=>ts.length - i) (fun(i,m)=>i≤ts.length∧(Ho m (ts.drop i)=Ho 0 ts)) ⟨0,0⟩ Ab ?_ ?_))))))))))
  ·exact BO ⟨we O,we O,we O,we O,Ac⟩ (leH (is:=[]) O (DM))
  rintro⟨i,m⟩ hC
  try simp only at hC
  obtain⟨hi,hC⟩:=hC;refine Ae Aj 1 [] O (Af (Ag O (fun c=>?_) (fun c=>?_)))
  ·(try simp only[sd,se] at c);refine Ak (Af (Au (Al ?_)));obtain⟨x,hx⟩:=Ar (l:=ts) (i:=i) Aa;refine Ah O (Aq BJ O O Aa (BI hx) (Az _)) (Ah O (BE Bd O (Az _)) (A2 O (As Bf O) fun b5=>Ad Aj 1 [0,1] O (Ao (Am Aj 2 [0] O (Ah O (Av O O (ih x (by have:=Bp hx;omega) (CK h2.2.2.2.2.1 hx)) O) (Ah O (M5 O O) (Ad Aj 1 [] O (Ao (Ad Aj 2 [] O ?_)))))))));refine⟨⟨i+1,max m (Dg x)⟩,AK,⟨by omega,by rw[←hC,Bx hx];rfl⟩,BO ⟨we rfl,we rfl,we rfl,we rfl,trivial⟩ (leH (is:=[]) rfl (DM))⟩
  (try simp only[sd,se] at c);refine BS (Al (BY O (Ah O (DR O O) (Ad Aj 1 [] O (Ai (⟨O,_,_,⟨_,_,O,O,O⟩,(List.nil_sublist _),?_⟩))))))
  all_goals exact⟨pI (by rw[show Dg (.mk tk ti tn tl ts)=wr (Ho 0 ts+1) from rfl,←hC,show i=ts.length by omega,List.drop_length];rfl),rfl⟩
theorem J0:∀(f:Tm) (xs:List Tm),(xs.length<Cu)→Dl Tryz.prog 112 [.agg ((A3 f).map .p),.p (.lst (Ax xs))] (.agg ((A3 (apply f xs)).map .p)):=by
 intro f xs h1;simp only[Cu] at h1;refine An Tryz.func112 O ZV (n:=19) O O (Al (A2 O (A9 O) fun b2=>A2 O (As Bf O) fun b4=>Bb O (Af (Al (BY O (Ah O (A7 BJ O (A1 _)) (Ad Aj 1 [] O (Au (BZ (α:=Nat) (fun i=>⟨19,mk [(2,.ptr b2 0),(4,.ptr b4 0),(7,.p (.lst (Ax xs))),(8,.p (I (xs.length:Nat))),(9,.p (I (i:Int)))],[.box b4 [.p (I 0),.p (I 0),.p (.str ⟨#[]⟩),.p (.nils),.p (.nils)],.box b2 ((A3 (apply f (xs.take i))).map .p)],[]⟩) (fun i=>xs.length - i) (fun i=>i≤xs.length) 0 AJ ?_ ?_)))))))))
 ·exact BO ⟨we O,we O,we O,we O,we O,Ac⟩ (leH (is:=[0,1]) O (wl (oe O) (wl (oe O) (DM))))
 rintro i hC
 try simp only at hC
 have hi:=hC;refine Ae Aj 1 [] O (Af (Ag O (fun c=>?_) (fun c=>?_)))
 ·(try simp only[sd,se] at c);refine Ak (Af (Au (Al ?_)));obtain⟨x,hx⟩:=Ar (l:=xs) (i:=i) Aa;refine Ah O (Aq BJ O O Aa (BI hx) (Az _)) (Ah O (BE Bd O (Az _)) (A2 O (As Bf O) fun b6=>Ad Aj 1 [0,1] O (Ao (Am Aj 2 [2,0] O ?_))));generalize hz:(apply f (xs.take i))=z;obtain⟨zk,zi,zn,zl,zs⟩:=z;obtain⟨xk,xi,xn,xl,xs1⟩:=x;refine Ah O (Bt BJ Bf O O O O O) (Ad Aj 2 [2,0] O (Ao (Ad Aj 2 [] O ?_)));refine⟨(i+1),AK,by omega,BO ⟨we rfl,we rfl,we rfl,we rfl,we rfl,trivial⟩ (leH (is:=[1,2]) rfl (wl (oe rfl) (wl (on (by rw[Ps hx,hz];rfl)) (DM))))⟩
 (try simp only[sd,se] at c);refine BS (Ae Aj 2 [1,0,1] O (Ai (⟨O,_,_,⟨_,_,O,(BA (i:=0) Bd O O AS),O⟩,(List.nil_sublist _),?_⟩)))
 all_goals exact⟨by show (.agg ((A3 (apply f (xs.take i))).map .p):AV)=_;rw[show i=xs.length by omega,List.take_length],rfl⟩
theorem _root_.Go.AO {α:Prop}(h:α:=by simp only[A1];omega):α:=h
theorem XS:∀(xs:List Tm) (o0:Option Nat) (c0:Nat),(xs.length<Cu)→BD Tryz.prog 70 [.vs o0 (Ax xs).length c0] [.vec o0 5 (Ax xs) c0] (GB (.tup []) [.vec o0 5 (Ax xs.reverse) c0]):=by
 intro xs o0 c0 h1;simp only[Cu] at h1;refine An Tryz.func70 O bZ (n:=28) O O (Al (BY O (Ah O (K7 BJ O (A1 _)) (Ad Aj 3 [] O (Au (BZ (α:=Nat×List Tm×Option Nat×Nat) (fun(i,ys,o,cp)=>⟨28,mk [(0,.vs o (Ax ys).length cp),(2,.p (I (i:Int))),(3,.p (I ((xs.length:Int) - 1 - (i:Int))))],[.vec o 5 (Ax ys) cp],[]⟩) (fun(i,ys,o,cp)=>xs.length - i) (fun(i,ys,o,cp)=>i≤xs.length∧Nh xs ys i∧o=o0∧cp=c0) ⟨0,xs,o0,c0⟩ (⟨by omega,PT xs,rfl,rfl⟩) ?_ ?_))))))
 ·exact BO ⟨we O,we O,we (pI Aa),Ac⟩ (leH (is:=[0]) O (wl (oe O) (DM)))
 rintro⟨i,ys,o,cp⟩ hC
 try simp only at hC
 obtain⟨hi,hR,ho,hcp⟩:=hC;have hyl:=hR.1;have hjn:((xs.length:Int) - 1 - (i:Int)).toNat=xs.length - 1 - i:=by omega
 refine Af (Ae Aj 3 [] O (Ag O (fun c=>?_) (fun c=>?_)))
 ·(try simp only[sd,se] at c);refine Ak (Af (Au (Kn (i:=0) O (by simp[A1];omega) fun b hb=>?_)));subst hb;refine Bq (fun k=>false) Er (BC Aj 6 [] O (A5 O (fun _=>CV BJ O O Aa AO) Ac ?_));obtain⟨y,hy⟩:=Ar (l:=ys) (i:=((xs.length:Int) - 1 - (i:Int):Int).toNat) Aa;refine GY (j:=0) O O O (fun H i hi=>HX (i:=i) Bd O hi (BI hy)) AB Ac (BC Aj 2 [] O (A5 O (fun _=>CV BJ O O Aa AO) Ac ?_));obtain⟨y1,hy1⟩:=Ar (l:=ys) (i:=i) Aa;refine GY (j:=0) O O O (fun H i hi=>HX (i:=i) Bd O hi (BI hy1)) AB Ac (A5 O (fun _=>CV BJ O O Aa AO) Ac (HC O O (CY (i:=0) (j:=i) Bd O O O (by simp only[A1,List.length_map,List.length_set];omega) O (H6 _) (Az _) (HF _) (L0 ys i y)) AB Ac (A5 O (fun _=>CV BJ O O Aa AO) Ac (HC O O (CY (i:=0) (j:=(((xs.length:Int) - 1 - (i:Int):Int).toNat)) Bd O O O (by simp only[A1,List.length_map,List.length_set];omega) O (H6 _) (Az _) (HF _) (L0 ((ys).set i y) (((xs.length:Int) - 1 - (i:Int):Int).toNat) y1)) AB Ac (GU O AW (Ao (Ad Aj 6 [] O ?_)))))));refine⟨⟨i+1,(ys.set i y).set (xs.length - 1 - i) y1,(some b),cp⟩,AK,⟨by omega,O2 hR Aa hy1 (hjn▸hy),ho,hcp⟩,BO ⟨we (Ep ys Ab),we rfl,we (pI Aa),trivial⟩ (leH (is:=[0]) rfl (wl (Ip (((ys).set i y).set (((xs.length:Int) - 1 - (i:Int):Int).toNat) y1) (by rw[hjn])) (DM)))⟩
 (try simp only[sd,se] at c);refine BS ⟨O,_,_,O,(CX (is:=[0]) O),?_⟩;refine⟨O,?_⟩;show ([.vec o 5 (Ax ys) cp]:List Ap)=_;rw[PR hR Aa,ho,hcp]
theorem _root_.Go.AP {α:Prop}(h:α:=by simp only[Cu];omega):α:=h
theorem OT:∀(t:Tm),(Nd t)→(size t<Cu)→Dl Tryz.prog 38 [.agg ((A3 t).map .p)] (.tup [.agg ((A3 ((Ay t).1)).map .p),.p (.lst (Ax ((Ay t).2)))]):=by
 intro t h1 h2;simp only[Cu] at h2;refine An Tryz.func38 O cv (n:=29) O O (Al (A2 O (A9 O) fun b1=>A2 O (As Bf O) fun b2=>Ad Aj 1 [] O (Ae Aj 1 [] O (Af (Au (BP (II (t:=4) (sz:=5) O) ?_))))));refine BZ (α:=Tm×List Tm×Option Nat×Nat) (fun(tt,ys,o,cp)=>⟨29,mk [(1,.ptr b1 0),(2,.ptr b2 0),(4,.vs o (Ax ys).length cp)],[.vec o 5 (Ax ys) cp,.box b2 [.p (I 0),.p (I 0),.p (.str ⟨#[]⟩),.p (.nils),.p (.nils)],.box b1 ((A3 tt).map .p)],[]⟩) (fun(tt,ys,o,cp)=>size tt) (fun(tt,ys,o,cp)=>Ay t=((Ay tt).1,(Ay tt).2++ys.reverse)∧Nd tt∧size tt+ys.length≤size t) ⟨t,[],none,0⟩ (⟨by simp,h1,by simp⟩) ?_ ?_
 ·exact BO ⟨we O,we O,we O,Ac⟩ (leH (is:=[0,1,2]) O (wl (oe O) (wl (oe O) (wl (oe O) (DM)))))
 rintro⟨tt,ys,o,cp⟩ hC
 try simp only at hC
 obtain⟨hS,hN,hL⟩:=hC;refine Af (Af ?_);obtain⟨ttk,tti,ttn,ttl,tts⟩:=tt;simp only[size] at hL;refine BL [1,2,4] 13 (fun y=>y= .p (.bool (((ttk:Int)==(4:Int))&&(((tts.length:Nat):Int)==(2:Int))))) ?_ ?_
 ·refine Ao (Am Aj 4 [2] O (A6 8 O (fun g=>?_) (fun g=>?_)))
  ·(try simp only[sd,se] at g);exact Am Aj 2 [2] O (Ba O (A7 BJ O (A1 _)) (Ad Aj 2 [] O (⟨O,O,AG,AF,⟨O,O,O,Ac⟩⟩)))
  (try simp only[sd,se] at g);exact Ad Aj 5 [] O (⟨O,O,AG,AF,⟨O,O,O,Ac⟩⟩)
 rintro _ rfl;refine Ag O (fun c=>?_) (fun c=>?_)
 ·(try simp only[sd,se] at c);refine Ak (Au (Al (Am Aj 3 [2] O ?_)));obtain⟨x,hx⟩:=Ar (l:=tts) (i:=1) Aa;refine Ah O (Aq BJ O O Aa (BI hx) (Az _)) (Ah O (BE Bd O (Az _)) ?_);obtain⟨xk,xi,xn,xl,xs⟩:=x;refine Ah O (Bt BJ Bf O O O O O) (SX O O (EF (i:=0) (rows':=Ax [(.mk xk xi xn xl xs:Tm)]) BJ BJ Bf O O O O O O (Bj _) AD (Q2 ys [(.mk xk xi xn xl xs:Tm)])) fun o1 cp1=>Ad Aj 1 [] O (Ao (Am Aj 2 [2] O ?_)));obtain⟨x1,hx1⟩:=Ar (l:=tts) (i:=0) Aa;refine Ah O (Aq BJ O O Aa (BI hx1) (Az _)) (Ad Aj 2 [2,1] O ?_);refine⟨⟨x1,ys++[.mk xk xi xn xl xs],o1,cp1⟩,(by have:=Bp hx1;simp only[size];omega),⟨by rw[hS,Rf c hx1 hx];simp,CK hN.2.2.2.2.1 hx1,by have:=Bp hx1;simp;omega⟩,BO ⟨we rfl,we rfl,we rfl,trivial⟩ (leH (is:=[0,1,2]) rfl (wl (oe rfl) (wl (oe rfl) (wl (oe rfl) (DM)))))⟩
 (try simp only[sd,se] at c);refine BS (Al (BY O (Ah O (CD [0] O (.inl ⟨O,O,O⟩) (XS ys o cp AP) ⟨_,_,O,O,O⟩ AZ O (.inl O)) (Bb O (Ae Aj 4 [2,1,0] O (BP (Dp (t:=4) (x:= .vs o (Ax ys.reverse).length cp) (Ep ys (l':=ys.reverse) Ab)) (BP (Dp (t:=25) (x:= .vs o (Ax ys.reverse).length cp) (Ep ys (l':=ys.reverse) Ab)) (BP (Dp (t:=28) (x:= .vs o (Ax ys.reverse).length cp) (Ep ys (l':=ys.reverse) Ab)) (BP (Dp (t:=3) (x:= .vs o (Ax ys.reverse).length cp) (Ep ys (l':=ys.reverse) Ab)) (BP (EU (i:=0) [4,25,28,3] O (Da ⟨O,O,O,O,Ac⟩)) (Ai (⟨O,_,_,⟨_,_,O,(BA (i:=0) Bd O O O),⟨_,_,O,O,O⟩⟩,(List.nil_sublist _),?_⟩))))))))))));rw[hS,PX (Classical.or_iff_not_imp_left.2 fun h=>by simp at h;exact fun e=>absurd (c h) (by simp[e]))]
 all_goals exact⟨rfl,rfl⟩
theorem NK:∀(e:Int),BD Tryz.prog 129 [.p (I e)] [] (MY (.p (.iface 207 (I e))) []):=by
 intro e;exact An Tryz.func129 O Ye (n:=4) O O (Ao (BY O (Ah O (LP WQ (by intro ms h;cases h) O) (SL O O (RB O) (⟨O,_,List.nil_sublist _,⟨O,O⟩⟩)))))
theorem Ld:∀(e:Int),Dl Tryz.prog 80 [.p (.iface 207 (I e))] (.p (I e)):=by
 intro e;refine An Tryz.func80 O ca (n:=14) O O (Ae Aj 1 [] O (Al (BY O (Ah O (O4 WQ O O) (Ad Aj 5 [] O (Af (Ae Aj 2 [] O ?_)))))));refine Ag O (fun c=>by cases c) (fun c=>?_);refine Ak (Ae Aj 2 [] O (Ai (⟨O,_,_,⟨_,_,O,O,O⟩,(List.nil_sublist _),?_⟩)))
 all_goals exact⟨rfl,rfl⟩
theorem T6:∀(k i:Int),Dl Tryz.prog 132 [.p (I k),.p (I i)] (.p (I (below k i))):=by
 intro k i;refine An Tryz.func132 O Z2 (n:=26) O O (Ae Aj 1 [] O (Af (Au (Af (Af (BL [0,1] 5 (fun y=>y= .p (.bool (((i:Int)==(1:Int))&&((((k:Int)==(5:Int))||((k:Int)==(6:Int)))||((k:Int)==(7:Int)))))) ?_ ?_))))))
 ·refine Ao (Am Aj 3 [] O (A6 8 O (fun g=>?_) (fun g=>?_)))
  ·(try simp only[sd,se] at g);refine Am Aj 3 [] O (A6 11 O (fun g1=>?_) (fun g1=>?_))
   ·(try simp only[sd,se] at g1);exact Ad Aj 9 [] O (⟨O,O,AG,AF,⟨O,O,Ac⟩⟩)
   (try simp only[sd,se] at g1);refine Am Aj 4 [] O (A6 15 O (fun g2=>?_) (fun g2=>?_))
   ·(try simp only[sd,se] at g2);exact Ad Aj 5 [] O (⟨O,O,AG,AF,⟨O,O,Ac⟩⟩)
   (try simp only[sd,se] at g2);exact Ad Aj 5 [] O (⟨O,O,AG,AF,⟨O,O,Ac⟩⟩)
  (try simp only[sd,se] at g);exact Ad Aj 12 [] O (⟨O,O,AG,AF,⟨O,O,Ac⟩⟩)
 rintro _ rfl;refine Ag O (fun c=>?_) (fun c=>?_)
 ·(try simp only[sd,se] at c);refine Ak (Ag O (fun c1=>?_) (fun c1=>?_))
  ·(try simp only[sd,se] at c1);refine Ae Aj 1 [] O (Ai (⟨O,_,_,⟨_,_,O,O,O⟩,(List.nil_sublist _),?_⟩))
   all_goals exact⟨pI (by unfold below;simp_all),rfl⟩
  (try simp only[sd,se] at c1);refine Ak (Ae Aj 1 [] O (Ai (⟨O,_,_,⟨_,_,O,O,O⟩,(List.nil_sublist _),?_⟩)))
  all_goals exact⟨pI (by unfold below;simp_all),rfl⟩
 (try simp only[sd,se] at c);refine BL [] 5 (fun y=>y= .p (.bool (((i:Int)==(2:Int))&&((k:Int)==(11:Int))))) ?_ ?_
 ·refine Ao (Am Aj 3 [] O (A6 22 O (fun g=>?_) (fun g=>?_)))
  ·(try simp only[sd,se] at g);exact Ad Aj 4 [] O ⟨O,O,AG,AF,Ac⟩
  (try simp only[sd,se] at g);exact Ad Aj 4 [] O ⟨O,O,AG,AF,Ac⟩
 rintro _ rfl;refine Ag O (fun c1=>?_) (fun c1=>?_)
 ·(try simp only[sd,se] at c1);refine Ae Aj 1 [] O (Ai (⟨O,_,_,⟨_,_,O,O,O⟩,(List.nil_sublist _),?_⟩))
  all_goals exact⟨pI (by unfold below;simp_all),rfl⟩
 (try simp only[sd,se] at c1);refine Ak (Ae Aj 1 [] O (Ai (⟨O,_,_,⟨_,_,O,O,O⟩,(List.nil_sublist _),?_⟩)))
 all_goals exact⟨pI (by unfold below;simp_all),rfl⟩
theorem NU:∀(i:Int),BD Tryz.prog 96 [.p (I i)] [] (Ov (fun(r:Tm)=>TV r) (fun e=> .p (.iface 207 (I e))) (fun r H'=>H'=[]) (FF i)):=by
 intro i;refine An Tryz.func96 O bS (n:=8) O O (Al (A2 O (As Bf O) fun b2=>Bb O (Af (Ae Aj 2 [] O (Ag O (fun c=>?_) (fun c=>?_))))))
 ·(try simp only[sd,se] at c);refine Ao (KS O O O (.inl ⟨O,O,O⟩) (NK 24) (aw (we O) (G7)) ?_);exact⟨O,_,List.nil_sublist _,⟨_,by unfold FF;rw[if_pos Aa],rfl⟩⟩
 (try simp only[sd,se] at c);refine Ak (Ae Aj 3 [0,0] O (BP (Bv (i:=0) O) (Ai (⟨O,_,_,⟨_,_,O,(BA (i:=0) Bd O O O),O⟩,(List.nil_sublist _),?_⟩))));exact⟨(.mk 0 i ⟨#[]⟩ [] []:Tm),by unfold FF;rw[if_neg Aa];rfl,rfl,rfl⟩
theorem Sf:∀(bc:Nat) (n m:Int),BD Tryz.prog 91 [.ptr bc 0,.p (I m)] [.box bc [.p (I n)]] (Ov (fun(r:Int)=> .tup []) (fun e=> .p (.iface 207 (I e))) (fun r H'=>H'=[.box bc [.p (I r)]]) (Rh n m)):=by
 intro bc n m;refine An Tryz.func91 O bJ (n:=18) O O (Al (Am Aj 5 [0] O (Ah O (DR O O) (Ad Aj 3 [0,0] O (Ae Aj 5 [0] O (Ag O (fun c=>?_) (fun c=>?_)))))))
 ·(try simp only[sd,se] at c);refine Ao (KS O O O (.inl ⟨O,O,O⟩) (NK 5) (aw (we O) (G7)) ?_);exact⟨O,_,List.nil_sublist _,⟨_,by unfold Rh;rw[if_pos Aa],rfl⟩⟩
 (try simp only[sd,se] at c);refine Ak ⟨O,_,_,O,(CX (is:=[0]) O),?_⟩;exact⟨(wr (n+m)),by unfold Rh;rw[if_neg Aa],rfl,rfl⟩
theorem KC:∀(t:Tm),(Nd t)→Dl Tryz.prog 95 [.agg ((A3 t).map .p)] (.agg ((A3 (IL t)).map .p)):=by
 intro t h1;obtain⟨tk,ti,tn,tl,ts⟩:=t;simp only[Nd,Cu] at h1;refine An Tryz.func95 O bz (n:=33) O O (Al (A2 O (A9 O) fun b1=>A2 O (As Bf O) fun b2=>Bb O (Al (Am Aj 7 [1,1,1] O (A2 O (As Bf O) fun b3=>Ad Aj 1 [0,0] O (Af (Al (Br (C4 (i:=0) O (Sw (aw (we O) (aw (we O) (aw (we O) (aw (Lo) (aw (we O) (G7)))))))) (Br (Kk (sz:=2)) (Am Aj 2 [3] O (Ah O (A7 Ek O (List.length_map _)) (Ad Aj 1 [] O (Au ?_)))))))))))));refine BZ (α:=Nat×Option Nat×Nat) (fun(i,o,cp)=>⟨33,mk [(2,.ptr b2 0),(3,.ptr b3 0),(14,.p (.lst (List.map By tl))),(15,.p (I (tl.length:Nat))),(16,.p (I (i:Int)))],[.vec o 2 (List.map By (tl.take i)) cp,.box b3 [.p (I tk),.p (I ti),.p (.str tn),.vs o (List.map By (tl.take i)).length cp,.p (.nils)],.box b2 [.p (I 0),.p (I 0),.p (.str ⟨#[]⟩),.p (.nils),.p (.nils)]],[]⟩) (fun(i,o,cp)=>tl.length - i) (fun(i,o,cp)=>i≤tl.length) ⟨0,none,0⟩ AJ ?_ ?_
 ·exact BO ⟨we O,we O,we O,we O,we O,Ac⟩ (leH (is:=[0,1,2]) O (wl (oe O) (wl (oe O) (wl (oe O) (DM)))))
 rintro⟨i,o,cp⟩ hC
 try simp only at hC
 have hi:=hC;refine Ae Aj 1 [] O (Af (Ag O (fun c=>?_) (fun c=>?_)))
 ·(try simp only[sd,se] at c);refine Ak (Af (Au (Al ?_)));obtain⟨x,hx⟩:=Ar (l:=tl) (i:=i) Aa;refine Ah O (Aq Ek O O Aa (Ef hx) (Cq _)) (Ah O (BE Ls O (Cq _)) (A2 O (As Lr O) fun b5=>Ad Aj 1 [0,0] O (Bq (fun k=>Nat.beq k 9) Er (BC Aj 6 [2,0,0] O (A5 O (fun _=>Kz (rows':=List.map HN x.vars) DO DO Wf O O (fun _ _ _ h=>P2 h) O (O0 _) (by have:=h1.2.2.1 x (List.mem_of_getElem? hx);have:=this.1;simp only[Cu] at this;simp only[List.length_map];omega)) Ac (A5 O (fun _=>D6 Y0 Lr O) Ac (A5 O (fun _=>Bt Ek Lr O O O O O) Ac ?_)))))));refine Pp [] O O (EF (i:=1) (rows':=List.map By [(B6.mk x.const x.vars)]) Ek Ek Lr O O O O O O (R0 _) (by simp only[List.length_map,List.length_take,List.length_cons,List.length_nil];omega) (YD (f:=By) (tl.take i) [(B6.mk x.const x.vars)])) AW fun o1 cp1=>⟨AB,Ac,?_⟩;refine Bo Aj 2 [2,0] O (Ao (Ad Aj 2 [] O ?_));refine⟨⟨i+1,o1,cp1⟩,AK,by omega,BO ⟨we rfl,we rfl,we rfl,we rfl,we rfl,trivial⟩ (leH (is:=[1,2,3]) rfl (wl (MX (f:=By) (tl.take i++[(B6.mk x.const x.vars)]) (by rw[List.take_add_one,hx];rfl)) (wl (Sw (aw (we rfl) (aw (we rfl) (aw (we rfl) (aw (we (Px (f:=By) (tl.take i++[(B6.mk x.const x.vars)]) (by rw[List.take_add_one,hx];rfl))) (aw (we rfl) (G7))))))) (wl (oe rfl) (DM)))))⟩
 (try simp only[sd,se] at c);refine BS (Al (Br (B1 (i:=0) (j:=1) (q:=3) [] O O O (Da Ac)) (Ad Aj 2 [0,1,0] O (BP (Bv (i:=1) O) (Ai (⟨O,_,_,⟨_,_,O,(BA (i:=1) Bd O O O),O⟩,(List.nil_sublist _),?_⟩))))))
 all_goals exact⟨by show (.agg [.p (I tk),.p (I ti),.p (.str tn),.p (.lst (List.map By (tl.take i))),.p (.lst [])]:AV)=_;rw[show i=tl.length by omega,List.take_length];rfl,rfl⟩
theorem KJ:∀{σ:Type}(vis:σ→Tm→Int→Except Int ((Tm×Bool)×σ)) (HP:σ→List Ap→Prop) (fid:Nat) (caps:List AV) (hv:∀(s:σ) (t:Tm) (d:Int) (T:List Ap),Nd t→Vp t→0≤d→d<Cu→HP s T→BD Tryz.prog fid ([TV t,.p (I d)]++caps) T (Ov (fun(r:(Tm×Bool)×σ)=> .tup [TV r.1.1,.p (.bool r.1.2)]) (fun e=> .p (.iface 207 (I e))) (fun r=>HP r.2) (vis s t d))) (n:Nat) (t:Tm) (d:Int) (s:σ) (T0:List Ap),size t≤n→Nd t→Vp t→0≤d→d+size t<Cu→HP s T0→BD Tryz.prog 92 [.agg [.fn (.func fid) [] caps],TV t,.p (I d)] T0 (Ov (fun(r:Tm×σ)=>TV r.1) (fun e=> .p (.iface 207 (I e))) (fun r=>HP r.2) (CT vis t d s)):=by
 intro σ vis HP fid caps hv n
 induction n with
 | zero=>intro t d s T0 h1;exact absurd h1 (by have:=size_pos t;omega)
 | succ n ih =>
  intro t d s T0 h1 h2 h3 h4 h5 h6;simp only[Cu] at h5;refine An Tryz.func92 O bL (n:=54) O O (Al (A2 O (A9 O) fun b3=>A2 O (A9 O) fun b4=>A2 O (As Bf O) fun b6=>Bb O (Al (Am Aj 4 [2,1] O (Wn [_,_,_] O O O (.inr O) (hv s t d T0 h2 h3 h4 (by simp only[Cu];have:=size_pos t;omega) h6) (DA _) ?_ ?_)))))
  rotate_left
  ·intro e _ he;exact⟨O,_,List.nil_sublist _,⟨_,HH he,O⟩⟩
  rintro⟨⟨z,dn⟩,q⟩ T hz hT;refine Am Aj 3 [] O (A2 O (As Bf O) fun b7=>Ad Aj 2 [0,1] O (Af (Ae Aj 1 [] O (Ag O (fun c=>?_) (fun c=>?_)))))
  ·(try simp only[sd,se] at c);refine Ae Aj 2 [0,1,1] O (Ai (⟨O,_,_,⟨_,_,O,(BA (i:=1) Bd O O AS),O⟩,(Co [] [_,_,_,_] O),?_⟩));exact⟨⟨z,q⟩,GN (by rw[hz,c]),O,hT⟩
  (try simp only[sd,se] at c);refine Ak (Al (Ah O (BH K2 O O) ?_));obtain⟨zk,zi,zn,zl,zs⟩:=z;refine Ad Aj 1 [0,0] O (Af (Al (Ah O (BH K2 O O) ?_)));obtain⟨tk,ti,tn,tl,ts⟩:=t;simp only[size] at h1 h5;have hn2:=h2;simp only[Nd,Cu] at hn2;refine Ah O (BU (i:=2) Tl O O O) (Ah O (A7 BJ O (A1 _)) (Ad Aj 1 [] O (Ag O (fun c1=>?_) (fun c1=>?_))))
  ·(try simp only[sd,se] at c1);refine Al (Am Aj 2 [2] O (Ah O (A7 BJ O (A1 _)) (Pb O O (Ee BJ Bf O O AZ O O O Aa Aa Aa (WW (((ts.length:Nat):Int).toNat) (.mk 0 0 ⟨#[]⟩ [] []:Tm))) fun b29 cp=>Ad Aj 2 [1,0] O (Al (Am Aj 2 [3] O (Ah O (A7 BJ O (A1 _)) (Ad Aj 1 [] O (Au ?_))))))));refine BZ (α:=Nat×List Tm×σ×List Ap×Option Nat×Nat) (fun(i,ys,q1,U,o,cp1)=>⟨54,mk [(2,.p (I d)),(3,.ptr b3 0),(4,.ptr b4 0),(6,.ptr b6 0),(7,.ptr b7 0),(32,.p (.lst (Ax ts))),(33,.p (I (ts.length:Nat))),(34,.p (I (i:Int)))],(.vec o 5 (Ax (ys++List.replicate (ts.length - i) BF)) cp1:: .box b7 [.p (I zk),.p (I zi),.p (.str zn),.p (.lst (List.map By zl)),.vs o (Ax (ys++List.replicate (ts.length - i) BF)).length cp1]:: .box b6 [.p (I 0),.p (I 0),.p (.str ⟨#[]⟩),.p (.nils),.p (.nils)]:: .box b4 [.p (I tk),.p (I ti),.p (.str tn),.p (.lst (List.map By tl)),.p (.lst (Ax ts))]:: .box b3 [.fn (.func fid) [] caps]::U),[]⟩) (fun(i,ys,q1,U,o,cp1)=>ts.length - i) (fun(i,ys,q1,U,o,cp1)=>i≤ts.length∧(Kq vis tk ts d q i ys q1∧HP q1 U)) ⟨0,[],q,T,(some b29),cp⟩ (⟨by omega,Kq.zero _ _ _ _,hT⟩) ?_ ?_
   ·exact BO ⟨we O,we O,we O,we O,we O,we O,we O,we O,Ac⟩ (Ou [0,1,2,3,4] [_,_,_,_,_] (l':=[_,_,_,_,_]) O (wl (oe O) (wl (oe O) (wl (oe O) (wl (oe O) (wl (oe O) (DM)))))))
   rintro⟨i,ys,q1,U,o,cp1⟩ hC
   try simp only at hC
   obtain⟨hi,hB,hU⟩:=hC;have hbl:=Bn tk i;refine Ae Aj 1 [] O (Af (Ag O (fun c2=>?_) (fun c2=>?_)))
   ·(try simp only[sd,se] at c2);refine Ak (Af (Au (Al (BY O ?_))));obtain⟨x,hx⟩:=Ar (l:=ts) (i:=i) Aa;refine Ah O (Aq BJ O O Aa (BI hx) (Az _)) (Ah O (BE Bd O (Az _)) (A2 O (As Bf O) fun b10=>Ad Aj 2 [0,1] O (Kn (i:=1) O (by simp[A1];omega) fun b hb=>?_)));subst hb;refine Bq (fun k=>Nat.beq k 11) Er (BC Aj 9 [2,5,0,4] O (A5 O (fun _=>Av O O (T6 tk (i:Int)) O) Ac (BC Aj 1 [] O (Zy [_,_,_,_,_,_] O O O (.inl ⟨O,O,O⟩) (ih x (d+below tk i) q1 U (by have:=Bp hx;omega) (CK h2.2.2.2.2.1 hx) (Jb h3.2 hx) (by have:=(Bn tk i).1;omega) (by have:=Bp hx;have:=Bn tk i;simp only[Cu];omega) hU) (DA _) AW AW O AB ?_ ?_))))
    rotate_left
    ·intro e he _ _ hτ;exact⟨O,_,List.nil_sublist _,⟨_,I3 (by rw[hz,c]) (hB.err hx he),O⟩⟩
    rintro⟨y,q2⟩ T1 hz1 hT1;refine⟨AB,Ac,?_⟩;refine A5 O (fun _=>CV BJ O O Aa (by simp only[A1,List.length_append,List.length_replicate,hB.1];omega)) Ac (HC O O (CY (i:=1) (j:=i) Bd O O O (by simp only[A1,List.length_append,List.length_replicate,hB.1];omega) O (H6 _) (Az _) (HF _) (L0 (ys++List.replicate (ts.length - i) BF) i y)) AB Ac (GU O AW (Ao (Ad Aj 2 [] O ?_))));refine⟨⟨i+1,ys++[y],q2,T1,(some b),cp1⟩,AK,⟨by omega,⟨hB.succ hx hz1,hT1⟩⟩,BO ⟨we rfl,we rfl,we rfl,we rfl,we rfl,we rfl,we rfl,we rfl,trivial⟩ (Ou [1,2,3,4,5] [_,_,_,_,_,_] (l':=[_,_,_,_,_]) rfl (wl (Ip ((ys++List.replicate (ts.length - i) BF).set i y) (by rw[Ns hB.1 Aa];congr 2)) (wl (Sw (aw (we rfl) (aw (we rfl) (aw (we rfl) (aw (we rfl) (aw (we (Ep (ys++List.replicate (ts.length - i) BF) AU)) (G7))))))) (wl (oe rfl) (wl (oe rfl) (wl (oe rfl) (DM)))))))⟩
   (try simp only[sd,se] at c2);refine BS (Al (Br (B1 (i:=0) (j:=1) (q:=4) [] O O O (Da Ac)) (Ad Aj 2 [0,1,0] O (Ai (⟨O,_,_,⟨_,_,O,(BA (i:=1) Bd O O O),O⟩,(Co [] [_,_,_,_] O),?_⟩)))));rw[show ts.length - i=0 by omega,List.replicate_zero,List.append_nil];exact⟨⟨.mk zk zi zn zl ys,q1⟩,GO (by rw[hz,c]) (hB.fin Aa),O,hU⟩
  (try simp only[sd,se] at c1);refine Ak (Ae Aj 2 [0,1,0] O (BP (Bv (i:=1) O) (Ai (⟨O,_,_,⟨_,_,O,(BA (i:=1) Bd O O O),O⟩,(Co [] [_,_,_,_] O),?_⟩))));exact⟨⟨.mk zk zi zn zl [],q⟩,GO (o:= .mk zk zi zn zl zs) (q:=q) (ys:=[]) (by rw[hz,c]) (by rw[show ts=[] by (cases ts with | nil=>rfl | cons a b=>simp at c1;omega)];rfl),O,hT⟩
theorem QQ:∀(fid:Nat) (caps:List AV),BD Tryz.prog 93 [.fn (.func fid) [] caps] [] (Pu (fun b=> .agg [.fn (.func 133) [] [.ptr b 0]]) [.fn (.func fid) [] caps]):=by
 intro fid caps;refine An Tryz.func93 O bg (n:=5) O O (Al (A2 O (A9 O) fun b1=>A2 O (As Zj O) fun b2=>Bb O (Ae Aj 3 [0,0] O (Ai (⟨O,_,_,⟨_,_,O,(BA (i:=0) Yy O O O),O⟩,(CX (is:=[1]) O),?_⟩)))));exact⟨_,O,O⟩
theorem Of:∀(rep:Tm→Int→Except Int Tm) (fid:Nat) (caps:List AV) (T:List Ap) (hr:∀(t:Tm) (d:Int),Nd t→Vp t→t.kind=0→0≤d→d<Cu→BD Tryz.prog fid ([TV t,.p (I d)]++caps) T (Ov (fun(r:Tm)=>TV r) (fun e=> .p (.iface 207 (I e))) (fun r H'=>H'=T) (rep t d))) (bR:Nat) (s:Unit) (t:Tm) (d:Int),Nd t→Vp t→0≤d→d<Cu→BD Tryz.prog 133 [TV t,.p (I d),.ptr bR 0] (.box bR [.fn (.func fid) [] caps]::T) (Ov (fun(r:(Tm×Bool)×Unit)=> .tup [TV r.1.1,.p (.bool r.1.2)]) (fun e=> .p (.iface 207 (I e))) (fun r H'=>H'= .box bR [.fn (.func fid) [] caps]::T) (Fx rep s t d)):=by
 intro rep fid caps T hr bR s t d h1 h2 h3 h4;refine An Tryz.func133 O Zp (n:=16) O O (Al (A2 O (A9 O) fun b3=>A2 O (As Bf O) fun b5=>Ad Aj 1 [] O (Af (Al (Ah O (BH K2 O O) ?_)))));obtain⟨tk,ti,tn,tl,ts⟩:=t;refine Ad Aj 2 [1] O (Ag O (fun c=>?_) (fun c=>?_))
 ·(try simp only[sd,se] at c);refine Al (Am Aj 3 [2,1] O (Wn [_,_,_] O O O (.inr O) (hr (.mk tk ti tn tl ts) d h1 h2 c h3 h4) (DA _) ?_ ?_))
  rotate_left
  ·intro e _ he;exact⟨O,_,List.nil_sublist _,⟨_,KP c he,O⟩⟩
  rintro z _ hz rfl;refine Ad Aj 2 [0,1] O (Ai (⟨O,_,_,⟨_,_,O,(BA (i:=0) Bd O O AS),⟨_,_,O,O,O⟩⟩,(Co [2] [_,_,_] O),?_⟩));exact⟨⟨⟨z,true⟩,()⟩,NP c hz,O,O⟩
 (try simp only[sd,se] at c);refine Ak (Al (Ah O (BQ (i:=1) Bd O O O) (Ah O (Av O O (KC (.mk tk ti tn tl ts:Tm) h1) O) (Ad Aj 2 [0,1] O (Ai (⟨O,_,_,⟨_,_,O,(BA (i:=0) Bd O O AS),⟨_,_,O,O,O⟩⟩,(Co [2] [_,_,_] O),?_⟩))))));exact⟨⟨⟨.mk tk ti tn tl [],false⟩,()⟩,NA c,O,O⟩
theorem Q8:∀(t:Tm) (d:Int) (bf bb:Nat) (fr b:Int),(Nd t)→(Vp t)→(t.kind=0)→(0≤d)→(d<Cu)→(-4611686018427387904≤b∧b≤4611686018427387904)→(-2305843009213693952≤fr∧fr≤2305843009213693952)→BD Tryz.prog 128 [.agg ((A3 t).map .p),.p (I d),.ptr bf 0,.ptr bb 0] [.box bf [.p (I fr)],.box bb [.p (I b)]] (Ov (fun(r:Tm)=>TV r) (fun e=> .p (.iface 207 (I e))) (fun r H'=>H'=[.box bf [.p (I fr)],.box bb [.p (I b)]]) (QL b fr t d)):=by
 intro t d bf bb fr b h1 h2 h3 h4 h5 h6 h7;obtain⟨tk,ti,tn,tl,ts⟩:=t;have hi:=h2.1 h3;simp only[Cu] at h5;refine An Tryz.func128 O ZP (n:=32) O O (Al (A2 O (A9 O) fun b4=>A2 O (As Bf O) fun b6=>Bb O (Ae Aj 5 [1] O (Af (Ae Aj 3 [2] O (Ag O (fun c=>?_) (fun c=>?_)))))))
 ·(try simp only[sd,se] at c);refine Al (Ah O (BQ (i:=1) Bd O O O) (Ah O (Av O O (KC (.mk tk ti tn tl ts:Tm) h1) O) (Ad Aj 1 [0,1] O (Ai (⟨O,_,_,⟨_,_,O,(BA (i:=0) Bd O O AS),O⟩,(CX (is:=[2,3]) O),?_⟩)))));exact⟨(.mk tk ti tn tl []),P5 c,O,O⟩
 (try simp only[sd,se] at c);refine Ak (Af (Af (BL [3,4,6] 25 (fun y=>y= .p (.bool ((decide ((b:Int)<(0:Int)))&&(decide (((ti:Int) - (d:Int):Int)<((fr:Int) - (b:Int):Int)))))) ?_ ?_)))
 ·refine Ao (Am Aj 3 [3] O (A6 19 O (fun g=>?_) (fun g=>?_)))
  ·(try simp only[sd,se] at g);exact Ad Aj 6 [2,3] O (⟨O,O,AG,AF,⟨O,O,O,Ac⟩⟩)
  (try simp only[sd,se] at g);exact Ad Aj 6 [] O (⟨O,O,AG,AF,⟨O,O,O,Ac⟩⟩)
 rintro _ rfl;refine Ag O (fun c1=>?_) (fun c1=>?_)
 ·(try simp only[sd,se] at c1);exact Ao (KS O O O (.inl ⟨O,O,O⟩) (NK 24) (aw (we O) (G7)) (⟨O,_,List.nil_sublist _,⟨_,Qj Aa Aa Aa,O⟩⟩))
 (try simp only[sd,se] at c1);refine Ak (Al (Am Aj 4 [1,3] O (K9 [] O O O (.inl ⟨O,O,O⟩) (NU ((ti:Int)+(b:Int))) O AZ (aw (we O) (G7)) (fun _ _ h=>(congrArg List.length h).trans O) ?_ ?_)))
 rotate_left
 ·intro e _ he;exact⟨O,_,List.nil_sublist _,⟨_,by rw[PU Aa Aa,he],rfl⟩⟩
 rintro z _ hz rfl;refine Ad Aj 1 [0,1] O (Ai (⟨O,_,_,⟨_,_,O,(BA (i:=0) Bd O O AS),O⟩,(CX (is:=[2,3]) O),?_⟩));exact⟨z,by rw[PU Aa Aa,hz],rfl,rfl⟩
theorem _root_.Go.AH {α:Prop}(h:α:=by repeat' first | exact trivial | rfl | refine And.intro ?_ ?_):α:=h
theorem K6:∀(t:Tm) (b fr:Int),(Nd t)→(Vp t)→(size t<Cu)→(-4611686018427387904≤b∧b≤4611686018427387904)→(-2305843009213693952≤fr∧fr≤2305843009213693952)→BD Tryz.prog 81 [.agg ((A3 t).map .p),.p (I b),.p (I fr)] [] (Ov (fun(r:Tm)=>TV r) (fun e=> .p (.iface 207 (I e))) (fun r H'=>H'=[]) (FE b fr t)):=by
 intro t b fr h1 h2 h3 h4 h5;refine An Tryz.func81 O dO (n:=11) O O (Al (A2 O (A9 O) fun b3=>A2 O (A9 O) fun b4=>A2 O (A9 O) fun b5=>A2 O (As Bf O) fun b6=>Bb O (Af (Bq (fun k=>Nat.beq k 1||Nat.beq k 3) Er (A5 O (fun _=>CS O O) Ac (Hi [(2,.read [.box b3 ((A3 t).map .p)] (.agg ((A3 t).map .p)))] O O O (.inl ⟨O,O,O⟩) (QQ 128 [.ptr b5 0,.ptr b4 0]) (.inl O) AW fun bn=>⟨AB,Ac,?_⟩))))));refine BC Aj 1 [4] O ?_;refine Mj [0,2,3] O O O (.inl ⟨O,O,O⟩) (KJ (Fx (QL b fr)) (fun _ T=>T=[.box bn [.fn (.func 128) [] [.ptr b5 0,.ptr b4 0]],.box b5 [.p (I fr)],.box b4 [.p (I b)]]) 133 [.ptr bn 0] (fun s t d T hn hp h0 hb hT=>by subst hT;exact Of (QL b fr) 128 [.ptr b5 0,.ptr b4 0] _ (fun t d g1 g2 g3 g4 g5=>Q8 t d b5 b4 fr b g1 g2 g3 g4 g5 h4 h5) bn s t d hn hp h0 hb) _ t 0 () _ (Nat.le_refl _) h1 h2 Aa Aa rfl) ⟨_,_,rfl,rfl,⟨_,_,rfl,rfl,⟨_,_,rfl,rfl,rfl⟩⟩⟩ AZ (DA _) (fun _ _ h=>(congrArg List.length h).trans rfl) AW AW rfl AB ?_ ?_
 rotate_left
 ·intro e he _ _ hτ;exact⟨O,_,List.nil_sublist _,⟨_,IK he,O⟩⟩
 rintro⟨z,_⟩ _ hz rfl;refine⟨AB,AH,?_⟩;refine Bo Aj 1 [1,1] O (Ai (⟨O,_,_,⟨_,_,O,(BA (i:=1) Bd O O AS),O⟩,(List.nil_sublist _),?_⟩));exact⟨z,KG hz,O,O⟩
theorem Lz:∀(bo be:Nat) (co ce:List AV),CR Tryz.prog 88 [.ptr bo 0,.ptr be 0] (.ret) [.box bo co,.box be ce] (fun H'=>H'=[.box bo co,.box be ce]):=by
 intro bo be co ce;refine D7 (ty2:=0) Tryz.func88 O Yo (n:=9) O O O O O O (Al (BY O (Ah O (Di RH O O O) (Bb O ?_))));refine Ag O (fun c=>by cases c) (fun c=>?_);exact Ak ⟨.inl O,O,_,(CX (is:=[0,1]) O),O⟩
theorem MU:∀(bo be:Nat) (e:Int),CR Tryz.prog 88 [.ptr bo 0,.ptr be 0] (.pan (.p (.iface 207 (I e)))) [.box bo [.p (I 0),.p (I 0),.p (.str ⟨#[]⟩),.p (.nils),.p (.nils)],.box be [.p (I 0)]] (fun H'=>H'=[.box bo [.p (I 0),.p (I 0),.p (.str ⟨#[]⟩),.p (.lst []),.p (.lst [])],.box be [.p (I e)]]):=by
 intro bo be e;refine D7 (ty2:=0) Tryz.func88 O Yo (n:=9) O O O O O O (Al (BY O (Ah O (Di RH O O O) (Br (Bv (i:=0) O) (Bb O ?_)))));refine Ag O (fun c=>?_) (fun c=>by cases c);exact Ao (Am Aj 2 [] O (Ah O (Av O O (Ld _) O) (Am Aj 2 [0,0,1,0] O (Br (Bv (i:=0) O) (Bb O ⟨.inl O,O,_,(CX (is:=[0,1]) O),O⟩)))))
theorem MR:∀(t:Tm) (d:Int) (bd bv:Nat) (dp:Int) (vs:List Tm),BD Tryz.prog 89 [.agg ((A3 t).map .p),.p (I d),.ptr bd 0,.ptr bv 0] [.box bd [.p (I dp)],.box bv [.p (.lst (Ax vs))]] (GB (.p (I (FK vs dp t.index d))) [.box bd [.p (I dp)],.box bv [.p (.lst (Ax vs))]]):=by
 intro t d bd bv dp vs;obtain⟨tk,ti,tn,tl,ts⟩:=t;refine An Tryz.func89 O dW (n:=23) O O (Al (A2 O (A9 O) fun b4=>Ad Aj 1 [] O (Af (Al (Am Aj 3 [0] O (Ah O (FQ O O) (Ah O (BU (i:=1) YW O O O) (Ah O (FQ O O) (Ad Aj 1 [] O (Af (BL [7] 21 (fun y=>y= .p (.bool ((decide ((wr ((wr ((ti:Int) - (d:Int)):Int) - (dp:Int)):Int)≥(0:Int)))&&(decide ((wr ((wr ((ti:Int) - (d:Int)):Int) - (dp:Int)):Int)<((vs.length:Nat):Int)))))) ?_ ?_)))))))))))
 ·refine Ao (Am Aj 3 [] O (A6 16 O (fun g=>?_) (fun g=>?_)))
  ·(try simp only[sd,se] at g);exact Am Aj 2 [2] O (Ba O (A7 BJ O (A1 _)) (Ad Aj 2 [] O (⟨O,O,AG,AF,⟨O,Ac⟩⟩)))
  (try simp only[sd,se] at g);exact Ad Aj 5 [] O (⟨O,O,AG,AF,⟨O,Ac⟩⟩)
 rintro _ rfl;refine Ag O (fun c=>?_) (fun c=>?_)
 ·(try simp only[sd,se] at c);refine Ae Aj 2 [] O (Ai (⟨O,_,_,⟨_,_,O,O,O⟩,(CX (is:=[1,2]) O),?_⟩))
  all_goals exact⟨pI (S5 Aa Aa).symm,rfl⟩
 (try simp only[sd,se] at c);refine Ak (Ae Aj 1 [] O (Ai (⟨O,_,_,⟨_,_,O,O,O⟩,(CX (is:=[1,2]) O),?_⟩)))
 all_goals exact⟨pI (Uw (ti:=ti) Aa).symm,rfl⟩
theorem RY:∀(t:Tm) (d:Int) (bv bc bs bd bvs cb:Nat) (dp n:Int) (vs:List Tm) (sz:List Int),(sz.length=vs.length)→BD Tryz.prog 90 [.agg ((A3 t).map .p),.p (I d),.ptr bv 0,.ptr bc 0,.ptr bs 0] [.box bv [.fn (.func 89) [] [.ptr bd 0,.ptr bvs 0]],.box bc [.ptr cb 0],.box bs [.p (.lst (List.map H8 sz))],.box bd [.p (I dp)],.box bvs [.p (.lst (Ax vs))],.box cb [.p (I n)]] (Ov (fun(r:(Tm×Bool)×Int)=> .tup [TV r.1.1,.p (.bool r.1.2)]) (fun e=> .p (.iface 207 (I e))) (fun r H'=>H'=[.box bv [.fn (.func 89) [] [.ptr bd 0,.ptr bvs 0]],.box bc [.ptr cb 0],.box bs [.p (.lst (List.map H8 sz))],.box bd [.p (I dp)],.box bvs [.p (.lst (Ax vs))],.box cb [.p (I r.2)]]) (N0 vs sz dp n t d)):=by
 intro t d bv bc bs bd bvs cb dp n vs sz h1;obtain⟨tk,ti,tn,tl,ts⟩:=t;refine An Tryz.func90 O db (n:=33) O O (Al (A2 O (A9 O) fun b5=>A2 O (As Bf O) fun b7=>Ad Aj 1 [] O (Af (Al (Am Aj 3 [2,1] O (Ah O (CD [5,6] O (.inr O) (MR (.mk tk ti tn tl ts:Tm) d bd bvs dp vs) ⟨_,_,O,O,⟨_,_,O,O,O⟩⟩ AZ O (.inl O)) (Ad Aj 1 [] O (Af (BL [3,4,5,7,9] 20 (fun y=>y= .p (.bool (((tk:Int)==(0:Int))&&(decide ((FK vs dp (.mk tk ti tn tl ts:Tm).index d:Int)≥(0:Int)))))) ?_ ?_)))))))))
 ·refine Ao (Am Aj 4 [1] O (A6 17 O (fun g=>?_) (fun g=>?_)))
  ·(try simp only[sd,se] at g);exact Ad Aj 3 [] O (⟨O,O,AG,AF,⟨O,O,O,O,O,Ac⟩⟩)
  (try simp only[sd,se] at g);exact Ad Aj 3 [] O (⟨O,O,AG,AF,⟨O,O,O,O,O,Ac⟩⟩)
 rintro _ rfl;refine Ag O (fun c=>?_) (fun c=>?_)
 ·(try simp only[sd,se] at c);have hvl:=Mr (vs:=vs) (dp:=dp) (ti:=(Tm.mk tk ti tn tl ts).index) (d:=d) c.2;refine Bq (fun k=>Nat.beq k 5) Er (BC Aj 3 [3,4] O ?_);obtain⟨x,hx⟩:=Ar (l:=sz) (i:=(FK vs dp (.mk tk ti tn tl ts:Tm).index d:Int).toNat) Aa;refine A5 O (fun _=>Aq UF O O Aa (Sr hx) (O)) Ac (A5 O (fun _=>Gn YW O) Ac (Mj [7] O O O (.inl ⟨O,O,O⟩) (Sf cb n x) ⟨_,_,O,O,O⟩ AZ (aw (we O) (aw (we O) (G7))) (fun _ _ h=>(congrArg List.length h).trans O) AW AW O AB ?_ ?_))
  rotate_left
  ·intro e he _ _ hτ;exact⟨O,_,List.nil_sublist _,⟨_,OJ (N6 c hx) he,O⟩⟩
  rintro r _ hz rfl;refine⟨AB,Ac,?_⟩;refine GU O AW (Af (Bq (fun k=>false) Er (Bo Aj 6 [1,0,0] O (BP (Bv (i:=0) O) (Ai (⟨O,_,_,⟨_,_,O,(BA (i:=0) Bd O O O),⟨_,_,O,O,O⟩⟩,(CX (is:=[2,3,4,5,6,7]) O),?_⟩))))));exact⟨⟨⟨BF,decide (tk=0)⟩,r⟩,Qi (N6 c hx) hz,O,O⟩
 (try simp only[sd,se] at c);refine Ao (Ah O (BU (i:=3) Y4 O O O) (K9 [7] O O O (.inl ⟨O,O,O⟩) (Sf cb n 1) ⟨_,_,O,O,O⟩ AZ (aw (we O) (aw (we O) (G7))) (fun _ _ h=>(congrArg List.length h).trans O) ?_ ?_))
 rotate_left
 ·intro e _ he;exact⟨O,_,List.nil_sublist _,⟨_,OJ (QO (by simp_all [Tm.index])) he,O⟩⟩
 rintro r _ hz rfl;refine Bb O (Af (Bq (fun k=>false) Er (Bo Aj 6 [1,0,0] O (BP (Bv (i:=0) O) (Ai (⟨O,_,_,⟨_,_,O,(BA (i:=0) Bd O O O),⟨_,_,O,O,O⟩⟩,(CX (is:=[2,3,4,5,6,7]) O),?_⟩))))));exact⟨⟨⟨BF,decide (tk=0)⟩,r⟩,Qi (QO (by simp_all [Tm.index])) hz,O,O⟩
theorem RS:∀(t:Tm) (d:Int) (bv bvs bd:Nat) (dp:Int) (vs:List Tm),(Nd t)→(Vp t)→(t.kind=0)→(0≤d)→(d<Cu)→(JP vs)→(PZ vs)→(∀v∈vs,size v<Cu)→(0≤dp∧dp≤65536)→(vs.length<Cu)→BD Tryz.prog 94 [.agg ((A3 t).map .p),.p (I d),.ptr bv 0,.ptr bvs 0,.ptr bd 0] [.box bv [.fn (.func 89) [] [.ptr bd 0,.ptr bvs 0]],.box bvs [.p (.lst (Ax vs))],.box bd [.p (I dp)]] (Ov (fun(r:Tm)=>TV r) (fun e=> .p (.iface 207 (I e))) (fun r H'=>H'=[.box bv [.fn (.func 89) [] [.ptr bd 0,.ptr bvs 0]],.box bvs [.p (.lst (Ax vs))],.box bd [.p (I dp)]]) (H5 vs dp t d)):=by
 intro t d bv bvs bd dp vs h1 h2 h3 h4 h5 h6 h7 h8 h9 h10;obtain⟨tk,ti,tn,tl,ts⟩:=t;have hti:=h2.1 h3;simp only[Cu] at h5;have hw:wr (dp+d)=dp+d:=DT (by unfold FR;omega);refine An Tryz.func94 O dP (n:=37) O O (Al (A2 O (A9 O) fun b5=>A2 O (As Bf O) fun b7=>Bb O (Af (Al (Am Aj 3 [2,1] O (Ah O (CD [4,3] O (.inr O) (MR (.mk tk ti tn tl ts:Tm) d bd bvs dp vs) ⟨_,_,O,O,⟨_,_,O,O,O⟩⟩ AZ O (.inl O)) (Ad Aj 1 [] O (Ae Aj 2 [] O (Ag O (fun c=>?_) (fun c=>?_))))))))))
 ·(try simp only[sd,se] at c);have hvl:=Mr (vs:=vs) (dp:=dp) (ti:=(Tm.mk tk ti tn tl ts).index) (d:=d) c;refine Af (Bq (fun k=>Nat.beq k 7) Er (BC Aj 2 [3] O ?_));obtain⟨x,hx⟩:=Ar (l:=vs) (i:=(FK vs dp (.mk tk ti tn tl ts:Tm).index d:Int).toNat) Aa;refine A5 O (fun _=>Aq BJ O O Aa (BI hx) (Az _)) Ac (BC Aj 3 [4] O (A5 O (fun _=>DR O O) Ac (Mj [] O O O (.inl ⟨O,O,O⟩) (K6 x (wr ((dp:Int)+(d:Int))) 0 (CK h6 hx) (Jb h7 hx) (h8 x (List.mem_of_getElem? hx)) (by rw[hw];omega) Aa) O AZ (aw (we O) (aw (we O) (aw (we O) (G7)))) (fun _ _ h=>(congrArg List.length h).trans O) AW AW O AB ?_ ?_)))
  rotate_left
  ·intro e he _ _ hτ;exact⟨O,_,List.nil_sublist _,⟨_,(N9 (i:=ti) c hx).trans he,O⟩⟩
  rintro z _ hz rfl;refine⟨AB,Ac,?_⟩;refine Bo Aj 1 [0,1] O (Ai (⟨O,_,_,⟨_,_,O,(BA (i:=0) Bd O O AS),O⟩,(CX (is:=[2,3,4]) O),?_⟩));exact⟨z,(N9 (i:=ti) c hx).trans hz,O,O⟩
 (try simp only[sd,se] at c);refine Ak (Af (Al (Am Aj 3 [1] O (Ah O (FQ O O) (Ad Aj 2 [4] O (Ag O (fun c1=>?_) (fun c1=>?_)))))))
 ·(try simp only[sd,se] at c1);refine Al (Ah O (BQ (i:=1) Bd O O O) (Ah O (Av O O (KC (.mk tk ti tn tl ts:Tm) h1) O) (Ad Aj 1 [0,1] O (Ai (⟨O,_,_,⟨_,_,O,(BA (i:=0) Bd O O AS),O⟩,(CX (is:=[2,3,4]) O),?_⟩)))));exact⟨(.mk tk ti tn tl []),Tt (by simpa [Tm.index] using c) Aa,O,O⟩
 (try simp only[sd,se] at c1);refine Ak (Al (Am Aj 3 [1,3] O (Ah O (A7 BJ O (A1 _)) (Ah O (FQ O O) (K9 [] O O O (.inl ⟨O,O,O⟩) (NU (wr ((ti:Int) - ((vs.length:Nat):Int)))) O AZ (aw (we O) (G7)) (fun _ _ h=>(congrArg List.length h).trans O) ?_ ?_)))))
 rotate_left
 ·intro e _ he;exact⟨O,_,List.nil_sublist _,⟨_,by rw[P7 (by simpa [Tm.index] using c) Aa,he],rfl⟩⟩
 rintro z _ hz rfl;refine Ad Aj 1 [0,1] O (Ai (⟨O,_,_,⟨_,_,O,(BA (i:=0) Bd O O AS),O⟩,(CX (is:=[2,3,4]) O),?_⟩));exact⟨z,by rw[P7 (by simpa [Tm.index] using c) Aa,hz],rfl,rfl⟩
theorem _root_.Go.AE {α:Prop}(h:α:=by simp only[List.length_append,List.length_map,List.length_take,List.length_replicate];omega):α:=h
set_option maxHeartbeats 2000000 in
theorem Rt:∀(t:Tm) (vs:List Tm) (dp:Int),(Nd t)→(Vp t)→(size t<1099511627776)→(JP vs)→(PZ vs)→(∀v∈vs,size v<Cu)→(0≤dp∧dp≤65536)→(vs.length<Cu)→Dl Tryz.prog 48 [.agg ((A3 t).map .p),.p (.lst (Ax vs)),.p (I dp)] (.tup [.agg ((A3 ((Cs t vs dp).1)).map .p),.p (I ((Cs t vs dp).2))]):=by
 intro t vs dp h1 h2 h3 h4 h5 h6 h7 h8;have h8b:=h8;simp only[Cu] at h8b;refine Cp Tryz.func48 O dC (n:=49) O O (Al (A2 O (A9 O) fun b3=>A2 O (A9 O) fun b4=>A2 O (A9 O) fun b5=>A2 O (As Bf O) fun b6=>A2 O (As UN O) fun b7=>Bb O (Af (Ae Aj 2 [2] O (Ag O (fun c=>?_) (fun c=>?_))))))
 ·(try simp only[sd,se] at c);exact absurd c Aa
 (try simp only[sd,se] at c);refine Ak (Al (Ah O (CS O O) (Hh O O O O (Bb O (Al (Ah O (CS O O) (A2 O (As Z7 O) fun b8=>Ad Aj 1 [0,0] O (Al (Ah O (BU (i:=4) Tl O O O) (Ah O (A7 BJ O (A1 _)) (Pb O O (Ee UF eC O O AZ O O O Aa Aa Aa (Wv (f:=H8) (((vs.length:Nat):Int).toNat) 0)) fun b20 cp=>A2 O (As Yj O) fun b9=>Ad Aj 1 [0,0] O (Af (Al (Ah O (BU (i:=6) Tl O O O) (Ah O (A7 BJ O (A1 _)) (Ad Aj 1 [] O (Au ?_)))))))))))))))));refine BZ (α:=Nat×Option Nat×Nat) (fun(i,o,cp1)=>⟨49,mk [(3,.ptr b3 0),(4,.ptr b4 0),(5,.ptr b5 0),(6,.ptr b6 0),(7,.ptr b7 0),(8,.ptr b8 0),(9,.ptr b9 0),(21,.p (.lst (Ax vs))),(22,.p (I (vs.length:Nat))),(23,.p (I (i:Int)))],[.box b9 [.vs o (List.map H8 (((vs.take i).map fun v=>(size v:Int))++List.replicate (vs.length - i) 0)).length cp1],.vec o 1 (List.map H8 (((vs.take i).map fun v=>(size v:Int))++List.replicate (vs.length - i) 0)) cp1,.box b8 [.fn (.func 89) [] [.ptr b5 0,.ptr b4 0]],.box b7 [.p (I 0)],.box b6 [.p (I 0),.p (I 0),.p (.str ⟨#[]⟩),.p (.nils),.p (.nils)],.box b5 [.p (I dp)],.box b4 [.p (.lst (Ax vs))],.box b3 ((A3 t).map .p)],[.clo (.func 88) [.ptr b6 0,.ptr b7 0]]⟩) (fun(i,o,cp1)=>vs.length - i) (fun(i,o,cp1)=>i≤vs.length) ⟨0,(some b20),cp⟩ AJ ?_ ?_
 ·exact BO ⟨we O,we O,we O,we O,we O,we O,we O,we O,we O,we O,Ac⟩ (leH (is:=[0,1,2,3,4,5,6,7]) O (wl (Sw (aw (we (Px (f:=H8) (List.replicate (((vs.length:Nat):Int).toNat) 0) Ab)) (G7))) (wl (MX (f:=H8) (List.replicate (((vs.length:Nat):Int).toNat) 0) Ab) (wl (oe O) (wl (oe O) (wl (oe O) (wl (oe O) (wl (oe O) (wl (oe O) (DM))))))))))
 rintro⟨i,o,cp1⟩ hC
 try simp only at hC
 have hi:=hC;refine Ae Aj 1 [] O (Af (Ag O (fun c1=>?_) (fun c1=>?_)))
 ·(try simp only[sd,se] at c1);refine Ak (Af (Au (Al (BY O ?_))));obtain⟨x,hx⟩:=Ar (l:=vs) (i:=i) Aa;refine Ah O (Aq BJ O O Aa (BI hx) (Az _)) (Ah O (BE Bd O (Az _)) (A2 O (As Bf O) fun b11=>Ad Aj 2 [0,1] O (Kn (i:=2) O (by simp[A1];omega) fun b hb=>?_)));subst hb;refine Bq (fun k=>false) Er (BC Aj 3 [1,0] O (A5 O (fun _=>Av O O (Qc x (CK h4 hx) (by have:=h6 x (List.mem_of_getElem? hx);simp only[Cu] at this;omega)) O) Ac (A5 O (fun _=>CV UF O O Aa AE) Ac (HC O O (CY (i:=2) (j:=i) YW O O O AE O O O O (YR (f:=H8) (((vs.take i).map fun v=>(size v:Int))++List.replicate (vs.length - i) 0) i (size x:Nat))) AB Ac (GU O AW (Ao (Ad Aj 2 [] O ?_)))))));refine⟨⟨i+1,(some b),cp1⟩,AK,by omega,BO ⟨we rfl,we rfl,we rfl,we rfl,we rfl,we rfl,we rfl,we rfl,we rfl,we rfl,trivial⟩ (leH (is:=[1,2,3,4,5,6,7,8]) rfl (wl (Sw (aw (we (Rd (f:=H8) (((vs.take i).map fun v=>(size v:Int))++List.replicate (vs.length - i) 0) AU)) (G7))) (wl (MX (f:=H8) ((((vs.take i).map fun v=>(size v:Int))++List.replicate (vs.length - i) 0).set i (size x:Nat)) (YH hx)) (wl (oe rfl) (wl (oe rfl) (wl (oe rfl) (wl (oe rfl) (wl (oe rfl) (wl (oe rfl) (DM))))))))))⟩
 (try simp only[sd,se] at c1);refine BS (Al ?_);rw[Zn (vs:=vs) (i:=i) Aa];refine Br (B1 (i:=1) (j:=0) (q:=0) [] O O O (Da Ac)) (Ah O (D6 Za Yh O) (A2 O (A9 O) fun b35=>A2 O (As ZX O) fun b12=>Ad Aj 1 [0,0] O (Al (Am Aj 3 [8] O ?_))));refine K9 [3,0,2,6,7,1] O O O (.inl ⟨O,O,O⟩) (KJ (N0 vs (vs.map fun v=>(size v:Int)) dp) (fun n T=>T=[.box b8 [.fn (.func 89) [] [.ptr b5 0,.ptr b4 0]],.box b12 [.ptr b35 0],.box b9 [.p (.lst (List.map H8 (vs.map fun v=>(size v:Int))))],.box b5 [.p (I dp)],.box b4 [.p (.lst (Ax vs))],.box b35 [.p (I n)]]) 90 [.ptr b8 0,.ptr b12 0,.ptr b9 0] (fun n t d T hn hp h0 hb hT=>by subst hT;exact RY t d b8 b12 b9 b5 b4 b35 dp n vs (vs.map fun v=>(size v:Int)) Ab) _ t 0 0 _ (Nat.le_refl _) h1 h2 Aa AP rfl) ⟨_,_,rfl,rfl,⟨_,_,rfl,rfl,⟨_,_,rfl,rfl,⟨_,_,rfl,rfl,⟨_,_,rfl,rfl,⟨_,_,rfl,rfl,rfl⟩⟩⟩⟩⟩⟩ AZ (DA _) (fun _ _ h=>(congrArg List.length h).trans rfl) ?_ ?_
 rotate_left
 ·intro e _ he;refine⟨_,_,_,O,Ix (is:=[1,0]) _ AZ ⟨_,_,O,O,⟨_,_,O,O,O⟩⟩,CR.eq (MU b6 b7 _) ?_⟩;refine⟨_,[],⟨_,_,O,(BA (i:=0) Bd O O O),⟨_,_,O,(Dt (i:=1) M7 O O),O⟩⟩,(List.nil_sublist _),?_⟩;rw[HY (Nw he)];exact⟨O,O⟩
 rintro⟨z,n1⟩ _ hz rfl;refine Bb O (Af (Bq (fun k=>Nat.beq k 1||Nat.beq k 3) Er (A5 O (fun _=>CS O O) Ac (Hi [(2,.read [.box b3 ((A3 t).map .p)] (.agg ((A3 t).map .p)))] O O O (.inl ⟨O,O,O⟩) (QQ 94 [.ptr b8 0,.ptr b4 0,.ptr b5 0]) (.inl O) AW fun bn=>⟨AB,Ac,?_⟩))));refine BC Aj 1 [9] O ?_;refine Mj [0,4,8,7] O O O (.inl ⟨O,O,O⟩) (KJ (Fx (H5 vs dp)) (fun _ T=>T=[.box bn [.fn (.func 94) [] [.ptr b8 0,.ptr b4 0,.ptr b5 0]],.box b8 [.fn (.func 89) [] [.ptr b5 0,.ptr b4 0]],.box b4 [.p (.lst (Ax vs))],.box b5 [.p (I dp)]]) 133 [.ptr bn 0] (fun s t d T hn hp h0 hb hT=>by subst hT;exact Of (H5 vs dp) 94 [.ptr b8 0,.ptr b4 0,.ptr b5 0] [.box b8 [.fn (.func 89) [] [.ptr b5 0,.ptr b4 0]],.box b4 [.p (.lst (Ax vs))],.box b5 [.p (I dp)]] (fun t d g1 g2 g3 g4 g5=>RS t d b8 b4 b5 dp vs g1 g2 g3 g4 g5 h4 h5 h6 h7 h8) bn s t d hn hp h0 hb) _ t 0 () _ (Nat.le_refl _) h1 h2 Aa AP rfl) ⟨_,_,rfl,rfl,⟨_,_,rfl,rfl,⟨_,_,rfl,rfl,⟨_,_,rfl,rfl,rfl⟩⟩⟩⟩ AZ (DA _) (fun _ _ h=>(congrArg List.length h).trans rfl) AW AW rfl AB ?_ ?_
 rotate_left
 ·intro e he _ _ hτ;refine⟨_,_,_,O,Ix (is:=[4,3]) _ AZ ⟨_,_,O,O,⟨_,_,O,O,O⟩⟩,CR.eq (MU b6 b7 _) ?_⟩;refine⟨_,[],⟨_,_,O,(BA (i:=0) Bd (hτ 6 (KX AW)) O O),⟨_,_,O,(Dt (i:=1) M7 (hτ 7 (KX AW)) O),O⟩⟩,(List.nil_sublist _),?_⟩;rw[HY (OI hz he)];exact⟨O,O⟩
 rintro⟨z1,_⟩ _ hz1 rfl;refine⟨AB,AH,?_⟩;refine Bo Aj 1 [6,1] O (Af (Al (Ah O (BQ (i:=6) Bd O O AS) (Ah O (Av O O (Nl _ z1 (Nat.le_refl _) (Vu h4 h5 h1 h2 hz1)) O) (Ad Aj 1 [] O (Ag O (fun c2=>?_) (fun c2=>?_)))))))
 ·(try simp only[sd,se] at c2);refine Al (Ah O (D6 K2 Bf O) ?_);obtain⟨z1k,z1i,z1n,z1l,z1s⟩:=z1;refine Ad Aj 2 [6,0,5,0] O (BP (Bv (i:=6) O) (Ai (⟨_,_,_,O,B9 (is:=[6,5]) AZ ⟨_,_,O,O,⟨_,_,O,O,O⟩⟩,CR.eq (Lz b6 b7 _ _) ?_⟩)));refine⟨_,_,⟨_,_,O,(BA (i:=0) Bd O O O),⟨_,_,O,(Dt (i:=1) M7 O O),O⟩⟩,(List.nil_sublist _),?_⟩;rw[Oi (Lu hz hz1) Aa]
  all_goals exact⟨rfl,rfl⟩
 (try simp only[sd,se] at c2);refine Ak (Ae Aj 3 [6,6,1,5,0] O (Ai (⟨_,_,_,O,B9 (is:=[6,5]) AZ ⟨_,_,O,O,⟨_,_,O,O,O⟩⟩,CR.eq (Lz b6 b7 _ _) ?_⟩)));refine⟨_,_,⟨_,_,O,(BA (i:=0) Bd O O AS),⟨_,_,O,(Dt (i:=1) M7 O O),O⟩⟩,(List.nil_sublist _),?_⟩;rw[RE (Lu hz hz1) Aa]
 all_goals exact⟨rfl,rfl⟩
theorem Rg:∀(t:Tm) (vs:List Tm),(Nd t)→(Vp t)→(size t<1099511627776)→(JP vs)→(PZ vs)→(∀v∈vs,size v<Cu)→(vs.length<Cu)→Dl Tryz.prog 22 [.agg ((A3 t).map .p),.p (.lst (Ax vs))] (.tup [.agg ((A3 ((Cs t vs 0).1)).map .p),.p (I ((Cs t vs 0).2))]):=by
 intro t vs h1 h2 h3 h4 h5 h6 h7;refine An Tryz.func22 O bM (n:=11) O O (Al (A2 O (A9 O) fun b2=>A2 O (As Bf O) fun b4=>Ad Aj 1 [] O (Al (Am Aj 2 [1] O (Ah O (Av O O (Rt t vs 0 h1 h2 h3 h4 h5 h6 Aa h7) O) (Ad Aj 4 [0,1] O (Ai (⟨O,_,_,⟨_,_,O,(BA (i:=0) Bd O O AS),⟨_,_,O,O,O⟩⟩,(List.nil_sublist _),?_⟩))))))))
 all_goals exact⟨rfl,rfl⟩
end Go.Proofs.YtldfmjoncbjldaaGreat
namespace Go.Eu
open Go.Abs
mutual
def HI (x d:Int):Tm→Bool
 | .mk k i n l ks=>(decide (k=0)&&decide (d≤i)&&decide (i - d=x))||Dq x d k 0 ks
def Dq (x d k:Int) (j:Nat):List Tm→Bool
 | []=>false
 | t::ts=>HI x (d+below k j) t||Dq x d k (j+1) ts
end
def XJ (l:List Int) (n:Int) (l2:List Int):Prop:=(∀x,x∈l2↔x=n∨x∈l)∧l2.length≤l.length+1
theorem XJ.same {l:List Int}{n:Int}(h:n∈l):XJ l n l:=⟨fun x=>⟨.inr,fun e=>e.elim (fun e=>e▸h) id⟩,by omega⟩
structure LZ (l:List Int) (n:Int) (i:Nat) (f:Bool) (out:List Int):Prop where
 mem:∀x,x∈out↔(f=true∧x=n)∨x∈l.take i
 len:out.length≤i+(if f=true then 1 else 0)
theorem LZ.zero (l:List Int) (n:Int):LZ l n 0 false []:=⟨by simp,by simp⟩
theorem LZ.step {l:List Int}{n:Int}{i:Nat}{f:Bool}{out:List Int}{y:Int}(h:LZ l n i f out) (hy:l[i]?=some y):LZ l n (i+1) f (out++[y]):=by
 refine⟨fun x=>?_,by have:=h.len;simp;omega⟩;rw[List.mem_append,h.mem,List.take_add_one,hy];simp only[List.mem_singleton,Option.toList_some,List.mem_append];constructor
 ·rintro((h | h) | h)
  ·exact .inl h
  ·exact .inr (.inl h)
  exact .inr (.inr h)
 rintro(h | h | h)
 ·exact .inl (.inl h)
 ·exact .inl (.inr h)
 exact .inr h
theorem LZ.put {l:List Int}{n:Int}{i:Nat}{out:List Int}(h:LZ l n i false out):LZ l n i true (out++[n]):=by
 refine⟨fun x=>?_,by have:=h.len;simp at *;omega⟩;rw[List.mem_append,h.mem];simp only[List.mem_singleton,true_and,Bool.false_eq_true,false_and,false_or];constructor
 ·rintro(h | h)
  ·exact .inr h
  exact .inl h
 rintro(h | h)
 ·exact .inr h
 exact .inl h
theorem LZ.done {l:List Int}{n:Int}{i:Nat}{out:List Int}(h:LZ l n i true out) (hi:l.length≤i) (hi2:i≤l.length):XJ l n out:=by
 refine⟨fun x=>?_,by have:=h.len;simp at this;omega⟩;rw[h.mem,List.take_of_length_le hi];simp
def a0 (l:List Int) (d:Int) (t:Tm) (l2:List Int):Prop:=(∀x,x∈l2↔x∈l∨HI x d t=true)∧l2.length≤l.length+size t
structure aK (l:List Int) (d:Int) (k i0:Int) (ts:List Tm) (i:Nat) (l2:List Int):Prop where
 mem:∀x,x∈l2↔x∈l∨(k=0∧d≤i0∧i0 - d=x)∨Dq x d k 0 (ts.take i)=true
 len:l2.length≤l.length+1+A0 (ts.take i)
theorem N3 (x d k:Int):∀(ts us:List Tm) (j:Nat),Dq x d k j (ts++us)=(Dq x d k j ts||Dq x d k (j+ts.length) us)
 | [],us,j=>by simp[Dq]
 | t::ts,us,j=>by
  simp only[List.cons_append,Dq,N3 x d k ts us (j+1),List.length_cons];rw[show j+1+ts.length=j+(ts.length+1) by omega,Bool.or_assoc]
theorem Ly:∀(ts us:List Tm),A0 (ts++us)=A0 ts+A0 us
 | [],us=>by simp[A0]
 | t::ts,us=>by simp only[List.cons_append,A0,Ly ts us];omega
theorem aK.step {l l2 l3:List Int}{d k i0:Int}{ts:List Tm}{i:Nat}{y:Tm}(h:aK l d k i0 ts i l2) (hy:ts[i]?=some y) (hf:a0 l2 (d+below k i) y l3):aK l d k i0 ts (i+1) l3:=by
 have hi:i<ts.length:=(List.getElem?_eq_some_iff.1 hy).1;have ht:ts.take (i+1)=ts.take i++[y]:=by rw[List.take_add_one,hy];rfl
 refine⟨fun x=>?_,?_⟩
 ·rw[hf.1,h.mem,ht,N3];have hl:(ts.take i).length=i:=by simp;omega
  simp only[Dq,hl,Nat.zero_add,Bool.or_false,Bool.or_eq_true];constructor
  ·rintro((h | h | h) | h)
   ·exact .inl h
   ·exact .inr (.inl h)
   ·exact .inr (.inr (.inl h))
   exact .inr (.inr (.inr h))
  rintro(h | h | h | h)
  ·exact .inl (.inl h)
  ·exact .inl (.inr (.inl h))
  ·exact .inl (.inr (.inr h))
  exact .inr h
 have:=h.len;have:=hf.2;rw[ht,Ly];simp only[A0];omega
theorem aK.done {l l2:List Int}{d k i0:Int}{n:ByteArray}{ls:List B6}{ts:List Tm}{i:Nat}(h:aK l d k i0 ts i l2) (hi:ts.length≤i):a0 l d (.mk k i0 n ls ts) l2:=by
 refine⟨fun x=>?_,?_⟩
 ·rw[h.mem,List.take_of_length_le hi];simp[HI,and_assoc]
 have:=h.len;rw[List.take_of_length_le hi] at this;simp only[size];omega
mutual
def Yr (d:Int):Tm→List Int
 | .mk k i n l ks=>(if k=0∧d≤i then [i - d] else [])++R1 d k 0 ks
def R1 (d k:Int) (j:Nat):List Tm→List Int
 | []=>[]
 | t::ts=>Yr (d+below k j) t++R1 d k (j+1) ts
end
mutual
theorem Kx:∀(t:Tm) (d:Int),(∀x,x∈Yr d t↔HI x d t=true)∧(Yr d t).length≤size t
 | .mk k i n l ks,d=>by
  obtain⟨h1,h2⟩:=MD ks d k 0;simp only[Yr,HI,size];refine⟨fun x=>?_,?_⟩
  ·rw[List.mem_append,h1];split
   ·rename_i h;simp only[h.1,h.2,List.mem_singleton,decide_true,Bool.true_and,Bool.or_eq_true,decide_eq_true_eq];exact or_congr eq_comm Iff.rfl
   rename_i h;simp;intro e1 e2;exact absurd ⟨e1,e2⟩ h
  rw[List.length_append];split<;>simp<;>omega
theorem MD:∀(ts:List Tm) (d k:Int) (j:Nat),(∀x,x∈R1 d k j ts↔Dq x d k j ts=true)∧(R1 d k j ts).length≤A0 ts
 | [],d,k,j=>by simp[R1,Dq]
 | t::ts,d,k,j=>by
  obtain⟨h1,h2⟩:=Kx t (d+below k j);obtain⟨h3,h4⟩:=MD ts d k (j+1);simp only[R1,Dq,A0];exact⟨fun x=>by rw[List.mem_append,h1,h3];simp,by rw[List.length_append];omega⟩
end
theorem a0.ex (l:List Int) (d:Int) (t:Tm):a0 l d t (l++Yr d t):=⟨fun x=>by rw[List.mem_append,(Kx t d).1],by rw[List.length_append];have:=(Kx t d).2;omega⟩
end Go.Eu
namespace Go.Abs
theorem VW (b:Nat):Fv (.p (.addr b)) (.ptr b 0):=fun F w v h=>by simpa only[BM,BN] using h
theorem Pw (b:Nat):Fv (.ptr b 0) (.p (.addr b)):=fun F w v h=>by simpa only[BM,BN] using h
section
variable {P:Program}{o:Oper}{ρ:Operand→AV}{H H':List Ap}{v v':AV}
end
section
variable {P:Program}{dst:Option Tmp}{ty:TypeId}{pos:String}{aft:Array Edge}{g:Option (Nat×Bool)}{ρ:Operand→AV}{H:List Ap}{x y z:Operand}{v:AV}
theorem Dv {T:TypeId}{b:Nat}(hc:Wz P T=true) (hx:ρ x= .ptr b 0):CG P ⟨dst,.makeInterface T x,ty,pos,aft,g⟩ ρ H (.p (.iface T (.addr b))) H:=by
 obtain⟨d,hu,hd⟩:=RK hc;refine BK fun F w E hH hE=>?_;have h1:=hE x AQ;rw[hx] at h1;refine⟨.iface T (E x),?_,by simp only[BM,BN];exact⟨_,rfl,by simpa only[BM] using h1⟩⟩;cases d<;>simp_all [execOp,Instr.makeInterface,Sem.run_bind,run_underlying hu]
def R5 (P:Program) (T:TypeId) (name:String):Option FuncId:=match P.info? T,P.underlying T with
 | some i,some (.pointer _)=>match i.methods.find? (·.name==name) with
  | some m=>match m.path.toList,m.func with
   | [],some (f,true)=>some f
   | _,_=>none
  | none=>none
 | _,_=>none
theorem PQ {T:TypeId}{name:String}{f:FuncId}(h:R5 P T name=some f) (n:Nat) (u:Value) (w:World):(method (n+1) T u name).run P w= .ok (f,u) w:=by
 unfold R5 at h;split at h
 ·rename_i i e hi hu;split at h
  ·rename_i m hm;split at h
   ·rename_i f' hp hf;injection h with h;subst h;simp[method,typeInfo,hi,hm,hp,hf,follow,receiverAt,run_underlying hu,Place.get,Sem.run_bind]
   cases h
  cases h
 cases h
theorem Fm {c:Call}{fid:FuncId}{recv:Operand}{name:String}{T:TypeId}{p:PV}{Hs Hf:List Ap}{A:List AV}{R:CA→List Ap→Prop}
  (hc:c.callee= .invoke recv name) (hf:ρ recv= .p (.iface T p)) (hm:R5 P T name=some fid)
  (hp:H.Perm (Hs++Hf)) (h:BD P fid A Hs R) (hA:C2 (.p p::c.args.toList.map ρ) A) :
  Bz P ⟨dst,.call c,ty,pos,aft,g⟩ ρ H (fun r H'=>∃Hs',R r Hs'∧H'=Hs'++Hf):=by
 intro r F S a w hs hH hρ hd;subst hH;refine Fb O ?_;have hev:∀x∈(recv::c.args.toList),BM F w (ρ x) (a.eval x):=by
  intro x hx;rw[←hρ x (by simp[Op.operands,Call.operands,hc];simpa using hx)];exact hs.eval x
 obtain⟨u,hu,hpu⟩:∃u,a.eval recv= .iface T u∧BN F w p u:=by
  have:=hev recv Ab;rw[hf] at this;simpa only[BM,BN] using this
 have hargs:A8 F w (c.args.toList.map ρ) (c.args.toList.map a.eval):=A8.mapEval _ fun x hx=>hev x (by simp[hx]);have hn:∃n,P.types.size+Made.depth=n+1:=⟨P.types.size+Made.depth - 1,by have:0<Made.depth:=AZ;omega⟩;obtain⟨n,hn⟩:=hn;have hrun:(execOp a.eval ⟨dst,.call c,ty,pos,aft,g⟩).run P w= .ok (.enter fid ⟨u::c.args.toList.map a.eval⟩) w:=by
  have e:(#[u]++c.args.map a.eval:Array Value)=⟨u::c.args.toList.map a.eval⟩:=by
   apply Array.ext';simp
  have e1:(c.args.map a.eval).extract 0 c.args.size=c.args.map a.eval:=by
   apply Array.ext';simp[List.extract];exact List.take_of_length_le Ab
  have e0:(#[Value.iface T u]++c.args.map a.eval)[0]?=some (Value.iface T u):=by simp[Array.getElem?_append]
  simp[execOp,resolve,hc,Sem.run_bind,hu,invoke,callMethod,e0,hn,PQ hm,ET h.1,e,e1]
 simp only[hrun,Oper.uponIn];have hH':=hs.heap.perm hp;have hHs:HRel F Hs w:=hH'.sublist (List.sublist_append_left _ _);have hrep:A8 F w A (u::c.args.toList.map a.eval):=Gf hA ⟨u,_,rfl,by simpa only[BM] using hpu,hargs⟩;refine⟨fun h=>(by cases h),CallsIn.mono (bG r (h.2 F w _ hHs hrep)) ?_⟩;rintro e w' ⟨r,H',F',hR,he,hH2,ht⟩;have htf:=ht.frame (H:=S.H) hp;cases r with
 | val v =>
  obtain⟨u,rfl,hu⟩:=he;exact⟨v,H'++Hf,F',⟨H',hR,O⟩,hs.put hd (htf.stable hs.heap.sub) (hH'.frame hH2 ht) hu,htf⟩
 | panic v =>
  obtain⟨u,rfl,hu⟩:=he;have:=hs.put (d:=none) (fun _ h=>by cases h) (htf.stable hs.heap.sub) (hH'.frame hH2 ht) (Fi undef);exact⟨v,H'++Hf,F',u,⟨H',hR,O⟩,O,hu,this,htf⟩
end
end Go.Abs
