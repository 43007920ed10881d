/- Part of the proofs: an abstract program logic, plain models and contracts of functions. -/
import Derived.Test.YtboammbpdaoojaaGreatPg
import Derived.Test.YtboammbpdaoojaaGreatPj
import Derived.Test.YtboammbpdaoojaaGreatPi
import Derived.Test.YtboammbpdaoojaaGreatPd
set_option linter.unusedVariables false
set_option linter.unusedSimpArgs false
set_option maxRecDepth 100000
namespace Go.Eu
open Go.Abs
inductive NV where
 | fn (a:Nat)
 | pr (a:Nat)
 | st (a:Nat)
 deriving DecidableEq,Inhabited
structure NB where
 t:Tm
 vars:Option Nat
 deriving Inhabited
structure NH where
 kind:Int
 level:Int
 node:Tm
 kids:List Nat
 body:Option NB
 deriving Inhabited
inductive NO where
 | thunk (t:Tm) (vars:Option Nat) (known:Option NV)
 | scope (first:Nat) (rest:Option Nat)
 | func (domain:Nat) (body:NB)
 | pair (domain first second:Nat)
 | stuck (h:NH) (args:List Nat)
 deriving Inhabited
structure NS where
 objs:List NO
 left:Int
 nodes:Int
def NS.get (s:NS) (a:Nat):Option NO:=if a<s.objs.length then s.objs[s.objs.length - 1 - a]? else none
def NS.set (s:NS) (a:Nat) (o:NO):NS:={ s with objs:=s.objs.set (s.objs.length - 1 - a) o }
def NS.new (s:NS) (o:NO):NS:={ s with objs:=o::s.objs }
def NS.next (s:NS):Nat:=s.objs.length
def NS.count (s:NS) {α:Type}(k:NS→Out α):Out α:=if s.left - 1<0 then .fail else k { s with left:=s.left - 1 }
def NS.node (s:NS) (d:Int) {α:Type}(k:NS→Out α):Out α:=if s.nodes+1 > 8192∨d > 400 then .fail else k { s with nodes:=s.nodes+1 }
def NS.thunk (s:NS) (t:Tm) (vars:Option Nat):NS:=s.new (.thunk t vars none)
def NH.plain (k:Int) (node:Tm):NH:=⟨k,0,node,[],none⟩
def NS.var (s:NS) (level:Int):NS:=s.new (.stuck ⟨0,level,Bh,[],none⟩ [])
section
variable (E:List B5)
def WT (nm:ByteArray) (ls:List CS):Option Tm :=
 if (Bb E nm).2≠0∨(Bb E nm).1.kind≠1∨(ls.length:Int)≠(Bb E nm).1.params then none
 else if (BY (Bo E (Bb E nm).1.decl).value ls).2≠0 then none else some (BY (Bo E (Bb E nm).1.decl).value ls).1
inductive Rq where
 | eval (t:Tm) (vars:Option Nat)
 | force (a:Nat)
 | apply (v:NV) (a:Nat)
 | body (b:NB) (a:Nat)
end
end Go.Eu
namespace Go.Eu
open Go.Abs Go.Eu.LC
def Q1:LC→LC×List LC
 | .app f a=>((Q1 f).1,(Q1 f).2++[a])
 | t=>(t,[])
theorem Ey (f:LC) (xs:List LC) (x:LC):apps f (xs++[x])= .app (apps f xs) x:=by simp[apps]
theorem Ks:∀(t:LC),apps (Q1 t).1 (Q1 t).2=t
 | .app f a=>by rw[Q1];simp only;rw[Ey,Ks f]
 | .var _=>rfl
 | .atom ..=>rfl
 | .bnd ..=>rfl
 | .prj ..=>rfl
 | .pair ..=>rfl
 | .lt ..=>rfl
def isApp:LC→Bool
 | .app ..=>true
 | _=>false
theorem PM:∀(t:LC),isApp (Q1 t).1=false
 | .app f a=>by rw[Q1];exact PM f
 | .var _=>rfl
 | .atom ..=>rfl
 | .bnd ..=>rfl
 | .prj ..=>rfl
 | .pair ..=>rfl
 | .lt ..=>rfl
theorem Gh:∀(xs:List LC) {h:LC},isApp h=false→Q1 (apps h xs)=(h,xs):=by
 intro xs h hh;have key:∀(n:Nat) (xs:List LC),xs.length=n→Q1 (apps h xs)=(h,xs):=by
  intro n
  induction n with
  | zero=>intro xs hx;rw[List.length_eq_zero_iff.1 hx];cases h<;>first | rfl | cases hh
  | succ n ih =>
   intro xs hx;obtain⟨ys,y,rfl⟩:∃ys y,xs=ys++[y]:=⟨xs.dropLast,xs.getLast (by intro e;rw[e] at hx;cases hx),(List.dropLast_concat_getLast _).symm⟩;rw[Ey,Q1,ih ys (by simp at hx;omega)]
 exact key _ xs O
section
variable (E:List B5)
def Fc (t:LC):Option (B5×Int×List LC):=match (Q1 t).1 with
 | .atom k i nm ls =>
  if k≠3 then none
  else match D7 E nm with
   | none=>none
   | some (d,j)=>if j<0 then none else if ((Q1 t).2.length:Int)≠d.fixed+C7 d j then none else some (d,j,(Q1 t).2.drop d.fixed.toNat)
 | _=>none
def ej (nm:ByteArray) (ls:List CS):Option Fq:=if (Bb E nm).2=0∧(ls.length:Int)=(Bb E nm).1.params then some (Bb E nm).1 else none
abbrev WI:=LC→Option (LC×Nat)
def nP (W:WI):Nat→ES→List LC→Option (Option (Tm×List LC)×Nat)
 | 0,_,_=>none
 | n+1,t,vars =>
  if t.kind=1 then
   if t.var<0∨t.var≥(vars.length:Int) then some (none,0)
   else (W (vars.getD t.var.toNat default)).bind fun q=>match Fc E q.1 with
    | none=>some (none,q.2)
    | some (d,j,fields)=>match Ca (Df d j).name t.branches with
     | none=>some (none,q.2)
     | some t'=>(nP W n t' (vars++fields)).bind fun r=>some (r.1,q.2+r.2)
  else some (some (t.body,vars),0)
def wS (W:WI) (n:Nat) (nm:ByteArray) (ls:List CS) (args:List LC):Option (Option LC×Nat):=match ej E nm ls with
 | none=>some (none,0)
 | some x =>
  if x.kind=5 then
   if (args.length:Int)≠CB (Bo E x.decl)+1 then some (none,0)
   else (W (args.getD (CB (Bo E x.decl)).toNat default)).bind fun q=>match Fc E q.1 with
    | none=>some (none,q.2)
    | some (e,j,fields) =>
     if e.name≠(Bo E x.decl).name∨j≥((Bo E x.decl).recs.rules.length:Int) then some (none,q.2)
     else if (BY (Hy (Bo E x.decl) j) ls).2≠0 then some (none,q.2)
     else some (some (apps (tr (BY (Hy (Bo E x.decl) j) ls).1) (args.take ((Bo E x.decl).fixed+1+(Bo E x.decl).ctors.length).toNat++fields)),q.2+1)
  else if x.kind=6 then
   if (args.length:Int)≠(EX (Bo E x.decl) x.item).arity then some (none,0)
   else (nP E W n (EX (Bo E x.decl) x.item).tree args).bind fun q=>match q.1 with
    | none=>some (none,q.2)
    | some (b,vars)=>if (BY b ls).2≠0 then some (none,q.2) else some (some (sb (ins vars.reverse) (tr (BY b ls).1)),q.2+1)
  else some (none,0)
def xA (W:WI) (n:Nat) (g a:LC):Option (LC×Nat):=match g with
 | .bnd k A b=>if k=5 then (W (sb (ins [a]) b)).bind fun r=>some (r.1,r.2+1) else some (.app g a,0)
 | g=>if (Q1 g).2.length≥4096 then none else match (Q1 g).1 with
  | .atom k i nm ls=>if k≠3 then some (.app g a,0) else (wS E W n nm ls ((Q1 g).2++[a])).bind fun c=>match c.1 with
   | none=>some (.app g a,c.2)
   | some r=>(W r).bind fun q=>some (q.1,c.2+q.2)
  | _=>some (.app g a,0)
def kE:Nat→LC→Option (LC×Nat)
 | 0,_=>none
 | n+1,.app f a=>(kE n f).bind fun q=>(xA E (kE n) n q.1 a).bind fun r=>some (r.1,q.2+r.2)
 | n+1,.lt A v b=>(kE n (sb (ins [v]) b)).bind fun r=>some (r.1,r.2+1)
 | n+1,.prj k p=>(kE n p).bind fun q=>match q.1 with
  | .pair d x y=>(kE n (if k=9 then x else y)).bind fun r=>some (r.1,q.2+1+r.2)
  | w=>some (.prj k w,q.2)
 | n+1,.atom k i nm ls=>if k=3 then match WT E nm ls with
   | some v=>(kE n (tr v)).bind fun r=>some (r.1,r.2+1)
   | none=>some (.atom k i nm ls,0)
  else some (.atom k i nm ls,0)
 | n+1,t=>some (t,0)
end
def lvl (l:Int):LC:= .atom 0 l ⟨#[]⟩ []
def XM (us:List LC) (n:Nat):LC:=if n<us.length then us.getD n default else lvl (-1 - ((n - us.length:Nat):Int))
theorem pd (l:Int):cl 0 (lvl l):=trivial
theorem Fz:∀(t:LC) {m:Nat}{σ:Nat→LC},(∀n,cl m (σ n))→cl m (sb σ t)
 | .var i,m,σ,h=>h i
 | .atom ..,m,σ,h=>trivial
 | .app f a,m,σ,h=>⟨Fz f h,Fz a h⟩
 | .bnd k a b,m,σ,h=>⟨Fz a h,Fz b (ups_cl h)⟩
 | .prj k p,m,σ,h=>Fz p h
 | .pair a b c,m,σ,h=>⟨Fz a h,Fz b h,Fz c h⟩
 | .lt a v b,m,σ,h=>⟨Fz a h,Fz v h,Fz b (ups_cl h)⟩
where
 ups_cl {m:Nat} {σ:Nat→LC} (h:∀n,cl m (σ n)):∀n,cl (m+1) (ups σ n):=fun n=>by
  cases n with
  | zero=>exact Nat.succ_pos m
  | succ n=>exact rn_succ_cl (h n)
 rn_succ_cl {m:Nat} {t:LC} (h:cl m t):cl (m+1) (rn Nat.succ t):=rn_cl_up t m (fun i hi=>by omega) h
 rn_cl_up:∀(t:LC) (m:Nat) {f:Nat→Nat} {k:Nat},(∀i,i<m→f i<k)→cl m t→cl k (rn f t)
  | .var i,m,f,k,hf,h=>hf i h
  | .atom ..,m,f,k,hf,h=>trivial
  | .app g a,m,f,k,hf,h=>⟨rn_cl_up g m hf h.1,rn_cl_up a m hf h.2⟩
  | .bnd q a b,m,f,k,hf,h=>⟨rn_cl_up a m hf h.1,rn_cl_up b (m+1) (up_lt hf) h.2⟩
  | .prj q p,m,f,k,hf,h=>rn_cl_up p m hf h
  | .pair a b c,m,f,k,hf,h=>⟨rn_cl_up a m hf h.1,rn_cl_up b m hf h.2.1,rn_cl_up c m hf h.2.2⟩
  | .lt a v b,m,f,k,hf,h=>⟨rn_cl_up a m hf h.1,rn_cl_up v m hf h.2.1,rn_cl_up b (m+1) (up_lt hf) h.2.2⟩
 up_lt {m k:Nat} {f:Nat→Nat} (hf:∀i,i<m→f i<k):∀i,i<m+1→up f i<k+1:=fun i hi=>by
  cases i with
  | zero=>exact Nat.succ_pos k
  | succ i=>simp only[up];have:=hf i An;omega
theorem kH {us:List LC}(h:∀u∈us,cl 0 u) (n:Nat):cl 0 (XM us n):=by
 unfold XM;split
 ·rename_i hn;rw[IP (List.getElem?_eq_getElem hn)];exact h _ (List.getElem_mem hn)
 trivial
section
def Sc (s:NS):Option Nat→List Nat→Prop
 | none,xs=>xs=[]
 | some b,[]=>False
 | some b,x::xs=>∃r,s.get b=some (.scope x r)∧x<b∧(∀c,r=some c→c<b)∧Sc s r xs
def mH (s:NS) (δ:Nat→LC) (h:NH) (H:LC):Prop :=
 (h.kind=0∧h.kids=[]∧H=lvl h.level) ∨
 (h.kind≠0∧h.kids=[]∧h.body=none∧∃k i nm ls,h.node= .mk k i nm ls []∧h.kind=k∧H= .atom k i nm ls) ∨
 ((h.kind=9∨h.kind=10)∧h.body=none∧∃x,h.kids=[x]∧H= .prj h.kind (δ x)) ∨
 (h.kind=8∧h.body=none∧∃x y z,h.kids=[x,y,z]∧H= .pair (δ x) (δ y) (δ z)) ∨
 ((h.kind=6∨h.kind=7)∧∃x b xs,h.kids=[x]∧h.body=some b∧Sc s b.vars xs∧Wt b.t∧Vp b.t∧H= .bnd h.kind (δ x) (sb (ups (XM (xs.map δ))) (tr b.t)))
def Vv (s:NS) (δ:Nat→LC):NV→LC→Prop
 | .fn a,w=>∃d b xs,s.get a=some (.func d b)∧Sc s b.vars xs∧Wt b.t∧Vp b.t∧w= .bnd 5 (δ d) (sb (ups (XM (xs.map δ))) (tr b.t))
 | .pr a,w=>∃x y z,s.get a=some (.pair x y z)∧w= .pair (δ x) (δ y) (δ z)
 | .st a,w=>∃h args H,s.get a=some (.stuck h args)∧mH s δ h H∧isApp H=false∧(h.kind=8→args≠[])∧w=apps H (args.map δ)
end
section
variable {s s':NS}{a:Nat}{o:NO}
theorem KN (h:s.get a=some o):a<s.next:=by
 unfold NS.get at h;split at h
 ·assumption
 cases h
theorem OC (o:NO) (a:Nat):(s.new o).get a=if a=s.next then some o else s.get a:=by
 unfold NS.get NS.new NS.next;simp only[List.length_cons];by_cases h:a=s.objs.length
 ·subst h;rw[if_pos An,if_pos rfl];simp
 rw[if_neg h];by_cases h2:a<s.objs.length
 ·rw[if_pos An,if_pos h2,show s.objs.length+1 - 1 - a=(s.objs.length - 1 - a)+1 by omega,List.getElem?_cons_succ]
 rw[if_neg An,if_neg h2]
theorem X5 (o:NO):(s.new o).next=s.next+1:=rfl
theorem X8 (p:NO) (h:s.get a=some o):(s.new p).get a=some o:=by
 rw[OC,if_neg (by have:=KN h;omega)];exact h
theorem W0 (o:NO):(s.set a o).next=s.next:=by simp[NS.set,NS.next]
theorem LN (ha:a<s.next) (o:NO) (b:Nat):(s.set a o).get b=if b=a then some o else s.get b:=by
 unfold NS.get NS.set;unfold NS.next at ha;simp only[List.length_set];by_cases hb:b<s.objs.length
 ·rw[if_pos hb,if_pos hb,List.getElem?_set];by_cases e:b=a
  ·subst e;rw[if_pos rfl,if_pos rfl,if_pos An]
  rw[if_neg An,if_neg e]
 rw[if_neg hb,if_neg hb,if_neg An]
end
def XO (s:NS) (a:Nat):Prop:=∃t ρ kn,s.get a=some (.thunk t ρ kn)
def NO.isTh:NO→Bool
 | .thunk ..=>true
 | _=>false
structure Ext (s s':NS):Prop where
 le:s.next≤s'.next
 old:∀a o,s.get a=some o→o.isTh=false→s'.get a=some o
 th:∀a,XO s a→XO s' a
theorem Ext.refl {s:NS}:Ext s s:=⟨Nat.le_refl _,fun _ _ h _=>h,fun _ h=>h⟩
theorem Ext.trans {s s' s'':NS}(h:Ext s s') (h':Ext s' s''):Ext s s'' :=
 ⟨Nat.le_trans h.le h'.le,fun a o g q=>h'.old a o (h.old a o g q) q,fun a g=>h'.th a (h.th a g)⟩
theorem mx {s:NS}(o:NO):Ext s (s.new o) :=
 ⟨by rw[X5];omega,fun a p g _=>X8 o g,fun a ⟨t,ρ,kn,g⟩=>⟨t,ρ,kn,X8 o g⟩⟩
theorem kG {s:NS}{a:Nat}(ha:XO s a) (t:Tm) (ρ:Option Nat) (kn:Option NV):Ext s (s.set a (.thunk t ρ kn)):=by
 obtain⟨t0,ρ0,k0,hg⟩:=ha;have hl:=KN hg;refine⟨by rw[W0];omega,fun b o g q=>?_,fun b ⟨t1,ρ1,k1,g⟩=>?_⟩
 ·rw[LN hl];by_cases e:b=a
  ·subst e;rw[hg] at g;injection g with g;subst g;cases q
  rw[if_neg e];exact g
 by_cases e:b=a
 ·subst e;exact⟨t,ρ,kn,by rw[LN hl,if_pos rfl]⟩
 exact⟨t1,ρ1,k1,by rw[LN hl,if_neg e];exact g⟩
def NO.lt (n:Nat):NO→Prop
 | .thunk t ρ kn=>∀c,ρ=some c→c<n
 | .scope x r=>x<n∧∀c,r=some c→c<n
 | .func d b=>d<n∧∀c,b.vars=some c→c<n
 | .pair x y z=>x<n∧y<n∧z<n
 | .stuck h args=>(∀x∈h.kids,x<n)∧(∀b,h.body=some b→∀c,b.vars=some c→c<n)∧∀x∈args,x<n
def NO.ths:NO→List Nat
 | .thunk ..=>[]
 | .scope x r=>[x]
 | .func d b=>[d]
 | .pair x y z=>[x,y,z]
 | .stuck h args=>h.kids++args
def qB (s:NS) (δ δ':Nat→LC):Prop:=∀a,a<s.next→δ' a=δ a
theorem Sc.mono {s s':NS}(e:Ext s s'):∀{xs:List Nat}{ρ:Option Nat},Sc s ρ xs→Sc s' ρ xs
 | [],none,h=>h
 | x::xs,none,h=>by cases h
 | [],some b,h=>h.elim
 | x::xs,some b,h=>by
  obtain⟨r,h1,h2,h3,h4⟩:=h;exact⟨r,e.old b _ h1 O,h2,h3,Sc.mono e h4⟩
theorem Sc.below {s:NS}:∀{xs:List Nat}{ρ:Option Nat}{n:Nat},Sc s ρ xs→(∀c,ρ=some c→c<n)→∀x∈xs,x<n
 | [],_,n,h,hn,x,hx=>by cases hx
 | y::xs,none,n,h,hn,x,hx=>by cases h
 | y::xs,some b,n,h,hn,x,hx=>by
  obtain⟨r,h1,h2,h3,h4⟩:=h;have hb:=hn b rfl;rcases List.mem_cons.1 hx with rfl | hx
  ·omega
  exact Sc.below h4 (fun c hc=>by have:=h3 c hc;omega) x hx
theorem Sc.lt {s:NS}{xs:List Nat}{ρ:Option Nat}(h:Sc s ρ xs):∀x∈xs,x<s.next:=by
 refine Sc.below h fun c hc=>?_;subst hc;cases xs with
 | nil=>exact h.elim
 | cons x xs=>obtain⟨r,h1,_⟩:=h;exact KN h1
theorem PE {s:NS}{δ δ':Nat→LC}(h:qB s δ δ') {xs:List Nat}(hx:∀x∈xs,x<s.next):xs.map δ'=xs.map δ:=List.map_congr_left fun x m=>h x (hx x m)
structure Inv (E:List B5) (s:NS) (δ:Nat→LC):Prop where
 lt:∀a o,s.get a=some o→o.lt a
 ty:∀a o,s.get a=some o→∀x∈o.ths,XO s x
 cl:∀a,a<s.next→cl 0 (δ a)
 th:∀a t ρ,s.get a=some (.thunk t ρ none)→∃xs,Sc s ρ xs∧Wt t∧Vp t∧δ a=sb (XM (xs.map δ)) (tr t)
 kn:∀a t ρ v,s.get a=some (.thunk t ρ (some v))→∃n w k,kE E n (δ a)=some (w,k)∧Vv s δ v w
theorem mH.mono {s s':NS}{δ δ':Nat→LC}(e:Ext s s') (g:qB s δ δ') {h:NH}{H:LC}{n:Nat}(hn:n≤s.next) (hk:∀x∈h.kids,x<n) (ho:mH s δ h H):mH s' δ' h H:=by
 rcases ho with ho | ho | ⟨h1,h2,x,h3,h4⟩ | ⟨h1,h2,x,y,z,h3,h4⟩ | ⟨h1,x,b,xs,h3,h4,h5,h6,h7,h8⟩
 ·exact .inl ho
 ·exact .inr (.inl ho)
 ·refine .inr (.inr (.inl ⟨h1,h2,x,h3,?_⟩));rw[g x (by have:=hk x (by rw[h3];simp);omega)];exact h4
 ·refine .inr (.inr (.inr (.inl ⟨h1,h2,x,y,z,h3,?_⟩)));rw[g x (by have:=hk x (by rw[h3];simp);omega),g y (by have:=hk y (by rw[h3];simp);omega),g z (by have:=hk z (by rw[h3];simp);omega)];exact h4
 refine .inr (.inr (.inr (.inr ⟨h1,x,b,xs,h3,h4,h5.mono e,h6,h7,?_⟩)));rw[g x (by have:=hk x (by rw[h3];simp);omega),PE g h5.lt];exact h8
theorem Vv.mono {E:List B5}{s s':NS}{δ δ':Nat→LC}(hI:Inv E s δ) (e:Ext s s') (g:qB s δ δ') {v:NV}{w:LC}(h:Vv s δ v w):Vv s' δ' v w:=by
 cases v with
 | fn a =>
  obtain⟨d,b,xs,h1,h2,h3,h4,h5⟩:=h;have hl:=hI.lt a _ h1;have:=KN h1;refine⟨d,b,xs,e.old a _ h1 O,h2.mono e,h3,h4,?_⟩;rw[g d (by have:=hl.1;omega),PE g h2.lt];exact h5
 | pr a =>
  obtain⟨x,y,z,h1,h2⟩:=h;obtain⟨l1,l2,l3⟩:=hI.lt a _ h1;have:=KN h1;refine⟨x,y,z,e.old a _ h1 O,?_⟩;rw[g x An,g y An,g z An];exact h2
 | st a =>
  obtain⟨h,args,H,h1,h2,h3,h5,h4⟩:=h;obtain⟨l1,l2,l3⟩:=hI.lt a _ h1;have hn:=KN h1;refine⟨h,args,H,e.old a _ h1 O,h2.mono e g (Nat.le_of_lt hn) l1,h3,h5,?_⟩;rw[PE g fun x hx=>by have:=l3 x hx;omega];exact h4
def lY (δ:Nat→LC) (a:Nat) (u:LC):Nat→LC:=fun b=>if b=a then u else δ b
theorem lC {s:NS}{δ:Nat→LC}(u:LC):qB s δ (lY δ s.next u):=fun a h=>by simp only[lY];rw[if_neg An]
theorem gU (δ:Nat→LC) (a:Nat) (u:LC):lY δ a u a=u:=by simp[lY]
section
variable {E:List B5}{s:NS}{δ:Nat→LC}
theorem Inv.new (hI:Inv E s δ) {o:NO}(h1:o.lt s.next) (h2:∀x∈o.ths,XO s x) {u:LC}(hu:LC.cl 0 u)
  (h3:∀t ρ,o= .thunk t ρ none→∃xs,Sc s ρ xs∧Wt t∧Vp t∧u=sb (XM (xs.map δ)) (tr t))
  (h4:∀t ρ v,o= .thunk t ρ (some v)→∃n w k,kE E n u=some (w,k)∧Vv s δ v w):Inv E (s.new o) (lY δ s.next u):=by
 have e:=mx (s:=s) o;have g:=lC (s:=s) (δ:=δ) u;refine⟨fun a p h=>?_,fun a p h x hx=>?_,fun a h=>?_,fun a t ρ h=>?_,fun a t ρ v h=>?_⟩
 ·rw[OC] at h;split at h
  ·rename_i q;subst q;injection h with h;subst h;exact h1
  exact hI.lt a p h
 ·rw[OC] at h;split at h
  ·injection h with h;subst h;exact e.th x (h2 x hx)
  exact e.th x (hI.ty a p h x hx)
 ·rw[X5] at h;simp only[lY];split
  ·exact hu
  exact hI.cl a An
 ·rw[OC] at h;split at h
  ·rename_i q;subst q;injection h with h;obtain⟨xs,q1,q2,q3,q4⟩:=h3 t ρ h;exact⟨xs,q1.mono e,q2,q3,by rw[gU,PE g q1.lt];exact q4⟩
  obtain⟨xs,q1,q2,q3,q4⟩:=hI.th a t ρ h;exact⟨xs,q1.mono e,q2,q3,by rw[g a (KN h),PE g q1.lt];exact q4⟩
 rw[OC] at h;split at h
 ·rename_i q;subst q;injection h with h;obtain⟨n,w,k,q1,q2⟩:=h4 t ρ v h;exact⟨n,w,k,by rw[gU];exact q1,q2.mono hI e g⟩
 obtain⟨n,w,k,q1,q2⟩:=hI.kn a t ρ v h;exact⟨n,w,k,by rw[g a (KN h)];exact q1,q2.mono hI e g⟩
theorem sg (hI:Inv E s δ) {ρ:Option Nat}{xs:List Nat}(h:Sc s ρ xs):∀u∈xs.map δ,cl 0 u:=fun u hu=>by
 obtain⟨x,hx,rfl⟩:=List.mem_map.1 hu;exact hI.cl x (h.lt x hx)
theorem oE (hI:Inv E s δ) {ρ:Option Nat}{xs:List Nat}(h:Sc s ρ xs) (t:LC):cl 0 (sb (XM (xs.map δ)) t):=Fz t (kH (sg hI h))
theorem Inv.thunk (hI:Inv E s δ) {t:Tm}{ρ:Option Nat}{xs:List Nat}(hs:Sc s ρ xs) (hr:∀c,ρ=some c→c<s.next) (hw:Wt t) (hv:Vp t):Inv E (s.thunk t ρ) (lY δ s.next (sb (XM (xs.map δ)) (tr t))) :=
 hI.new (o:= .thunk t ρ none) hr (fun x hx=>by cases hx) (oE hI hs _) (fun t' ρ' h=>by cases h;exact⟨xs,hs,hw,hv,rfl⟩) (fun _ _ _ h=>by cases h)
theorem Inv.known (hI:Inv E s δ) {v:NV}{u w:LC}{n k:Nat}(hu:LC.cl 0 u) (h:kE E n u=some (w,k)) (hv:Vv s δ v w):Inv E (s.new (.thunk Bh none (some v))) (lY δ s.next u) :=
 hI.new (o:= .thunk Bh none (some v)) (fun c h=>by cases h) (fun x hx=>by cases hx) hu (fun _ _ h=>by cases h) (fun _ _ _ h=>by cases h;exact⟨n,w,k,‹_›,hv⟩)
theorem Inv.obj (hI:Inv E s δ) {o:NO}(h0:o.isTh=false) (h1:o.lt s.next) (h2:∀x∈o.ths,XO s x):Inv E (s.new o) (lY δ s.next (lvl 0)) :=
 hI.new h1 h2 (pd 0) (fun _ _ h=>by subst h;cases h0) (fun _ _ _ h=>by subst h;cases h0)
theorem Inv.set (hI:Inv E s δ) {a:Nat}(ha:XO s a) {t:Tm}{v:NV}{w:LC}{n k:Nat}(h:kE E n (δ a)=some (w,k)) (hv:Vv s δ v w):Inv E (s.set a (.thunk t none (some v))) δ:=by
 have e:=kG ha t none (some v);have g:qB s δ δ:=fun _ _=>rfl;obtain⟨t0,ρ0,k0,h0⟩:=ha;have hl:=KN h0;refine⟨fun b p h=>?_,fun b p h x hx=>?_,fun b h=>?_,fun b t' ρ h=>?_,fun b t' ρ v' h'=>?_⟩
 ·rw[LN hl] at h;split at h
  ·injection h with h;subst h;exact fun c hc=>by cases hc
  exact hI.lt b p h
 ·rw[LN hl] at h;split at h
  ·injection h with h;subst h;cases hx
  exact e.th x (hI.ty b p h x hx)
 ·rw[W0] at h;exact hI.cl b h
 ·rw[LN hl] at h;split at h
  ·injection h with h;cases h
  obtain⟨xs,q1,q2,q3,q4⟩:=hI.th b t' ρ h;exact⟨xs,q1.mono e,q2,q3,q4⟩
 rw[LN hl] at h';split at h'
 ·rename_i q;subst q;injection h' with h';injection h' with _ _ h';injection h' with h';subst h';exact⟨n,w,k,h,hv.mono hI e g⟩
 obtain⟨n',w',k',q1,q2⟩:=hI.kn b t' ρ v' h';exact⟨n',w',k',q1,q2.mono hI e g⟩
end
section
variable {E:List B5}
end
abbrev WQ:=Rq→NS→Out (NV×NS)
section
variable {E:List B5}{W W':WQ}
end
section
variable {E:List B5}
end
inductive dz (E:List B5):Nat→ES→Prop
 | leaf {n:Nat} {t:ES} (hk:t.kind≠1) (h:∀ls,(BY t.body ls).2=0→Wt (BY t.body ls).1∧Vp (BY t.body ls).1∧cl n (tr (BY t.body ls).1)):dz E n t
 | split {n:Nat} {t:ES} (hk:t.kind=1) (h:∀nm d j t',D7 E nm=some (d,j)→0≤j→Ca (Df d j).name t.branches=some t'→dz E (n+(C7 d j).toNat) t'):dz E n t
structure I9 (E:List B5):Prop where
 val:∀nm ls v,WT E nm ls=some v→Wt v∧Vp v∧cl 0 (tr v)
 rul:∀nm ls x j,ej E nm ls=some x→x.kind=5→0≤j→j<((Bo E x.decl).recs.rules.length:Int)→(BY (Hy (Bo E x.decl) j) ls).2=0→Wt (BY (Hy (Bo E x.decl) j) ls).1∧Vp (BY (Hy (Bo E x.decl) j) ls).1∧cl 0 (tr (BY (Hy (Bo E x.decl) j) ls).1)
 fn:∀nm ls x,ej E nm ls=some x→x.kind=6→dz E (EX (Bo E x.decl) x.item).arity.toNat (EX (Bo E x.decl) x.item).tree
 fam:∀nm d j,D7 E nm=some (d,j)→0≤d.fixed
 fx:∀nm ls x,ej E nm ls=some x→x.kind=5→0≤(Bo E x.decl).fixed
structure qE (E:List B5) (s:NS) (δ:Nat→LC) (s':NS) (δ':Nat→LC) (k:Nat):Prop where
 inv:Inv E s' δ'
 ext:Ext s s'
 agr:qB s δ δ'
 left:s.left - k≤s'.left
 nodes:s'.nodes=s.nodes
theorem qE.trans {E:List B5}{s s' s'':NS}{δ δ' δ'':Nat→LC}{k k':Nat}(h:qE E s δ s' δ' k) (h':qE E s' δ' s'' δ'' k'):qE E s δ s'' δ'' (k+k') :=
 ⟨h'.inv,h.ext.trans h'.ext,fun a ha=>by rw[h'.agr a (Nat.lt_of_lt_of_le ha h.ext.le),h.agr a ha],by have:=h.left;have:=h'.left;omega,by rw[h'.nodes,h.nodes]⟩
theorem qE.refl {E:List B5}{s:NS}{δ:Nat→LC}(h:Inv E s δ):qE E s δ s δ 0:=⟨h,.refl,fun _ _=>rfl,by simp,rfl⟩
section
variable {E:List B5}
theorem Sc.ths {s:NS}{δ:Nat→LC}(hI:Inv E s δ):∀{xs:List Nat}{ρ:Option Nat},Sc s ρ xs→∀x∈xs,XO s x
 | [],_,h,x,hx=>by cases hx
 | y::xs,none,h,x,hx=>by cases h
 | y::xs,some b,h,x,hx=>by
  obtain⟨r,h1,h2,h3,h4⟩:=h;rcases List.mem_cons.1 hx with rfl | hx
  ·exact hI.ty b _ h1 x (by simp[NO.ths])
  exact Sc.ths hI h4 x hx
theorem Sc.bound {s:NS}{xs:List Nat}{ρ:Option Nat}(h:Sc s ρ xs):∀c,ρ=some c→c<s.next:=fun c hc=>by
 subst hc;cases xs with
 | nil=>exact h.elim
 | cons x xs=>obtain⟨r,h1,_⟩:=h;exact KN h1
end
section
variable (E:List B5)
def El (W:LC→Option LC):Nat→ES→List LC→Option (Option (Tm×List LC))
 | 0,_,_=>none
 | n+1,t,vars =>
  if t.kind=1 then
   if t.var<0∨t.var≥(vars.length:Int) then some none
   else (W (vars.getD t.var.toNat default)).bind fun q=>match Fc E q with
    | none=>some none
    | some (d,j,fields)=>match Ca (Df d j).name t.branches with
     | none=>some none
     | some t'=>El W n t' (vars++fields)
  else some (some (t.body,vars))
def Qk (d:B5) (ls:List CS) (a:List LC) (q:LC):Option LC:=match Fc E q with
 | none=>none
 | some (e,j,fields) =>
  if e.name≠d.name∨j≥(d.recs.rules.length:Int)∨(BY (Hy d j) ls).2≠0 then none
  else some (apps (tr (BY (Hy d j) ls).1) (a.take (d.fixed+1+d.ctors.length).toNat++fields++a.drop (CB d+1).toNat))
def QO (ls:List CS) (b:Tm) (vars rest:List LC):Option LC:=if (BY b ls).2≠0 then none else some (apps (sb (ins vars.reverse) (tr (BY b ls).1)) rest)
def Hl (W:LC→Option LC) (n:Nat) (nm:ByteArray) (ls:List CS) (a:List LC):Option (Option LC):=match ej E nm ls with
 | none=>some none
 | some x =>
  if x.kind=1 then some (if (BY (Bo E x.decl).value ls).2≠0 then none else some (apps (tr (BY (Bo E x.decl).value ls).1) a))
  else if x.kind=5 then
   if (a.length:Int)≤CB (Bo E x.decl) then some none
   else (W (a.getD (CB (Bo E x.decl)).toNat default)).bind fun q=>some (Qk E (Bo E x.decl) ls a q)
  else if x.kind=6 then
   if (a.length:Int)<(EX (Bo E x.decl) x.item).arity then some none
   else (El E W n (EX (Bo E x.decl) x.item).tree (a.take (EX (Bo E x.decl) x.item).arity.toNat)).bind fun q=>some (q.bind fun q=>QO ls q.1 q.2 (a.drop (EX (Bo E x.decl) x.item).arity.toNat))
  else some none
def HS:Nat→LC→Option LC
 | 0,_=>none
 | n+1,t=>match (Q1 t).1,(Q1 t).2 with
  | .bnd k A b,x::xs=>if k=5 then HS n (apps (sb (ins [x]) b) xs) else some t
  | .lt A v b,xs=>HS n (apps (sb (ins [v]) b) xs)
  | .prj k p,xs=>(HS n p).bind fun q=>match q with
   | .pair d x y=>HS n (apps (if k=9 then x else y) xs)
   | q=>some (apps (.prj k q) xs)
  | .atom k i nm ls,xs=>if k=3 then (Hl E (HS n) n nm ls xs).bind fun r=>match r with
    | none=>some t
    | some r=>HS n r
   else some t
  | _,_=>some t
inductive HU:LC→LC→Prop
 | beta (A b x:LC):HU (.app (.bnd 5 A b) x) (sb (ins [x]) b)
 | zeta (a v b:LC):HU (.lt a v b) (sb (ins [v]) b)
 | proj (k:Int) (d x y:LC):HU (.prj k (.pair d x y)) (if k=9 then x else y)
 | con (i:Int) (nm:ByteArray) (ls:List CS) (a:List LC) (n:Nat) (r:LC):Hl E some n nm ls a=some (some r)→HU (apps (.atom 3 i nm ls) a) r
 | appL {f f':LC} (x:LC):HU f f'→HU (.app f x) (.app f' x)
 | appR (f:LC) {x x':LC}:HU x x'→HU (.app f x) (.app f x')
 | bndL (k:Int) {A A':LC} (b:LC):HU A A'→HU (.bnd k A b) (.bnd k A' b)
 | bndR (k:Int) (A:LC) {b b':LC}:HU b b'→HU (.bnd k A b) (.bnd k A b')
 | prjC (k:Int) {p p':LC}:HU p p'→HU (.prj k p) (.prj k p')
 | pair1 {a a':LC} (b c:LC):HU a a'→HU (.pair a b c) (.pair a' b c)
 | pair2 (a:LC) {b b':LC} (c:LC):HU b b'→HU (.pair a b c) (.pair a b' c)
 | pair3 (a b:LC) {c c':LC}:HU c c'→HU (.pair a b c) (.pair a b c')
 | lt1 {a a':LC} (v b:LC):HU a a'→HU (.lt a v b) (.lt a' v b)
 | lt2 (a:LC) {v v':LC} (b:LC):HU v v'→HU (.lt a v b) (.lt a v' b)
 | lt3 (a v:LC) {b b':LC}:HU b b'→HU (.lt a v b) (.lt a v b')
inductive Rs:LC→LC→Prop
 | refl (t:LC):Rs t t
 | step {a b c:LC}:HU E a b→Rs b c→Rs a c
inductive L2:List LC→List LC→Prop
 | nil:L2 [] []
 | cons {x y:LC} {xs ys:List LC}:Rs E x y→L2 xs ys→L2 (x::xs) (y::ys)
end
section
variable {E:List B5}
theorem Rs.trans {a b c:LC}(h:Rs E a b) (h':Rs E b c):Rs E a c:=by
 induction h with
 | refl t=>exact h'
 | step r _ ih=>exact .step r (ih h')
theorem Rs.one {a b:LC}(h:HU E a b):Rs E a b:= .step h (.refl _)
theorem Rs.map {C:LC→LC}(hC:∀a b,HU E a b→HU E (C a) (C b)) {a b:LC}(h:Rs E a b):Rs E (C a) (C b):=by
 induction h with
 | refl t=>exact .refl _
 | step r _ ih=>exact .step (hC _ _ r) ih
theorem Rs.app {f f' x x':LC}(h:Rs E f f') (h':Rs E x x'):Rs E (.app f x) (.app f' x'):=(h.map (C:=fun f=> .app f x) fun _ _=> .appL x).trans (h'.map (C:= .app f') fun _ _=> .appR f')
theorem Rs.bnd {k:Int}{f f' x x':LC}(h:Rs E f f') (h':Rs E x x'):Rs E (.bnd k f x) (.bnd k f' x'):=(h.map (C:=fun f=> .bnd k f x) fun _ _=> .bndL k x).trans (h'.map (C:= .bnd k f') fun _ _=> .bndR k f')
theorem Rs.prj {k:Int}{p p':LC}(h:Rs E p p'):Rs E (.prj k p) (.prj k p'):=h.map fun _ _=> .prjC k
theorem Rs.pair {a a' b b' c c':LC}(h:Rs E a a') (h':Rs E b b') (h'':Rs E c c'):Rs E (.pair a b c) (.pair a' b' c'):=((h.map (C:=fun a=> .pair a b c) fun _ _=> .pair1 b c).trans (h'.map (C:=fun b=> .pair a' b c) fun _ _=> .pair2 a' c)).trans (h''.map (C:= .pair a' b') fun _ _=> .pair3 a' b')
theorem Rs.lt {a a' b b' c c':LC}(h:Rs E a a') (h':Rs E b b') (h'':Rs E c c'):Rs E (.lt a b c) (.lt a' b' c'):=((h.map (C:=fun a=> .lt a b c) fun _ _=> .lt1 b c).trans (h'.map (C:=fun b=> .lt a' b c) fun _ _=> .lt2 a' c)).trans (h''.map (C:= .lt a' b') fun _ _=> .lt3 a' b')
theorem L2.refl:∀(l:List LC),L2 E l l
 | []=> .nil
 | x::xs=> .cons (.refl x) (L2.refl xs)
theorem L2.len {a b:List LC}(h:L2 E a b):a.length=b.length:=by
 induction h with
 | nil=>rfl
 | cons _ _ ih=>simp[ih]
theorem L2.trans {a b c:List LC}(h:L2 E a b) (h':L2 E b c):L2 E a c:=by
 induction h generalizing c with
 | nil=>exact h'
 | cons r _ ih=>cases h' with | cons r' t'=>exact .cons (r.trans r') (ih t')
theorem L2.append {a b a' b':List LC}(h:L2 E a b) (h':L2 E a' b'):L2 E (a++a') (b++b'):=by
 induction h with
 | nil=>exact h'
 | cons r _ ih=>exact .cons r ih
theorem L2.take {a b:List LC}(h:L2 E a b):∀n,L2 E (a.take n) (b.take n):=by
 induction h with
 | nil=>intro n;rw[List.take_nil];exact .nil
 | cons r _ ih=>intro n;cases n with
  | zero=>exact .nil
  | succ n=>exact .cons r (ih n)
theorem L2.drop {a b:List LC}(h:L2 E a b):∀n,L2 E (a.drop n) (b.drop n):=by
 induction h with
 | nil=>intro n;rw[List.drop_nil];exact .nil
 | cons r h ih=>intro n;cases n with
  | zero=>exact .cons r h
  | succ n=>exact ih n
theorem L2.reverse {a b:List LC}(h:L2 E a b):L2 E a.reverse b.reverse:=by
 induction h with
 | nil=>exact .nil
 | cons r _ ih=>rw[List.reverse_cons,List.reverse_cons];exact ih.append (.cons r .nil)
theorem L2.at_ {a b:List LC}(h:L2 E a b):∀i,Rs E (a.getD i default) (b.getD i default):=by
 induction h with
 | nil=>exact fun i=> .refl _
 | cons r _ ih=>intro i;cases i with
  | zero=>exact r
  | succ i=>exact ih i
theorem Rs.apps {a b:List LC}(h:L2 E a b):∀{f f':LC},Rs E f f'→Rs E (LC.apps f a) (LC.apps f' b):=by
 induction h with
 | nil=>exact fun h=>h
 | cons r _ ih=>exact fun h=>ih (h.app r)
end
section
variable {E:List B5}
theorem bT (σ:Nat→LC) (x b:LC):sb σ (sb (ins [x]) b)=sb (ins [sb σ x]) (sb (ups σ) b):=by
 rw[Jz,Jz];congr 1;funext n;cases n with
 | zero=>rfl
 | succ n =>
  have e:(fun m=>ins [sb σ x] (m+1))=var:=by funext m;simp[ins]
  rw[ups,Kl,e,HI];simp[ins,sb]
theorem mn (σ:Nat→LC) {vs:List LC}{b:LC}(h:cl vs.length b):sb σ (sb (ins vs) b)=sb (ins (vs.map (sb σ))) b:=by
 rw[Jz];refine KZ b _ _ _ h fun m hm=>?_;simp only[ins,List.length_map,dif_pos hm,List.getElem_map]
theorem Ke {q:LC}{d:B5}{j:Int}{f:List LC}(h:Fc E q=some (d,j,f)):∃i nm ls xs,q=apps (.atom 3 i nm ls) xs∧D7 E nm=some (d,j)∧0≤j∧(xs.length:Int)=d.fixed+C7 d j∧f=xs.drop d.fixed.toNat:=by
 have e:=Ks q;unfold Fc at h;split at h
 ·rename_i k i nm ls he;split at h
  ·cases h
  rename_i hk;split at h
  ·cases h
  rename_i d' j' hf;split at h
  ·cases h
  split at h
  ·cases h
  injection h with h;simp only[Prod.mk.injEq] at h;obtain⟨rfl,rfl,rfl⟩:=h;rw[he] at e;rw[show k=3 by omega] at e;exact⟨i,nm,ls,_,e.symm,hf,by omega,by omega,rfl⟩
 cases h
theorem lG {i:Int}{nm:ByteArray}{ls:List CS}{xs:List LC}{d:B5}{j:Int}(h1:D7 E nm=some (d,j)) (h2:0≤j) (h3:(xs.length:Int)=d.fixed+C7 d j):Fc E (apps (.atom 3 i nm ls) xs)=some (d,j,xs.drop d.fixed.toNat):=by
 unfold Fc;rw[Gh xs rfl];simp only[ne_eq,not_true_eq_false,if_false,h1];rw[if_neg An,if_neg An]
theorem cW (σ:Nat→LC) {q:LC}{d:B5}{j:Int}{f:List LC}(h:Fc E q=some (d,j,f)):Fc E (sb σ q)=some (d,j,f.map (sb σ)):=by
 obtain⟨i,nm,ls,xs,rfl,h1,h2,h3,rfl⟩:=Ke h;rw[M7];simp only[sb];rw[lG h1 h2 (by rw[List.length_map];exact h3),List.map_drop]
theorem cz (hc:I9 E) {q:LC}{d:B5}{j:Int}{f:List LC}(h:Fc E q=some (d,j,f)):0≤j∧(∃nm,D7 E nm=some (d,j))∧f.length=(C7 d j).toNat:=by
 obtain⟨i,nm,ls,xs,rfl,h1,h2,h3,rfl⟩:=Ke h;have:=hc.fam _ _ _ h1;refine⟨h2,⟨nm,h1⟩,?_⟩;rw[List.length_drop];have:0≤C7 d j:=by unfold C7;omega
 omega
def xK (n:Nat) (b:Tm):Prop:=∀ls,(BY b ls).2=0→cl n (tr (BY b ls).1)
theorem XN {W:LC→Option LC}(hc:I9 E):∀(n:Nat) (t:ES) (vars:List LC),dz E vars.length t→∀b vs,El E W n t vars=some (some (b,vs))→xK vs.length b
 | 0,t,vars,hT,b,vs,h=>by cases h
 | n+1,t,vars,hT,b,vs,h=>by
  rw[El] at h;by_cases h1:t.kind=1
  ·rw[if_pos h1] at h;split at h
   ·cases h
   obtain⟨q,hq,h⟩:=Option.bind_eq_some_iff.1 h;split at h
   ·cases h
   rename_i d j f hk;split at h
   ·cases h
   rename_i t' hb;obtain⟨c1,⟨nm,c2⟩,c3⟩:=cz hc hk;cases hT with
   | leaf hk'=>exact absurd h1 hk'
   | split _ hT =>
    exact XN hc n t' _ (by rw[List.length_append,c3];exact hT nm d j t' c2 c1 hb) b vs h
  rw[if_neg h1] at h;injection h with h;injection h with h;injection h with e1 e2;subst e1;subst e2;cases hT with
  | leaf _ hT=>exact fun ls hl=>(hT ls hl).2.2
  | split hk=>exact absurd hk h1
theorem getD_map {f:LC→LC}{l:List LC}{i:Nat}(h:i<l.length):(l.map f).getD i default=f (l.getD i default):=by
 rw[List.getD_eq_getElem?_getD,List.getD_eq_getElem?_getD,List.getElem?_map,List.getElem?_eq_getElem h];rfl
theorem bX (σ:Nat→LC):∀(n:Nat) (t:ES) (vars:List LC) b vs,El E some n t vars=some (some (b,vs))→El E some n t (vars.map (sb σ))=some (some (b,vs.map (sb σ)))
 | 0,t,vars,b,vs,h=>by cases h
 | n+1,t,vars,b,vs,h=>by
  rw[El] at h ⊢;rw[List.length_map];by_cases h1:t.kind=1
  ·rw[if_pos h1] at h ⊢;split at h
   ·cases h
   rename_i hb;rw[if_neg hb,getD_map An];rw[Option.bind_some] at h ⊢;split at h
   ·cases h
   rename_i d j f hk;rw[cW σ hk];simp only;split at h
   ·cases h
   rename_i t' hbr;have:=bX σ n t' _ b vs h
   rwa [List.map_append] at this
  rw[if_neg h1] at h ⊢;injection h with h;injection h with h;injection h with e1 e2;subst e1;subst e2;rfl
theorem nx (hc:I9 E) {nm:ByteArray}{ls:List CS}{x:Fq}(h:ej E nm ls=some x) (hk:x.kind=1) (hl:(BY (Bo E x.decl).value ls).2=0):cl 0 (tr (BY (Bo E x.decl).value ls).1):=by
 refine(hc.val nm ls _ ?_).2.2;unfold ej at h;split at h
 ·rename_i hu;injection h with h;subst h;unfold WT;rw[if_neg An,if_neg An]
 cases h
theorem oG (hc:I9 E) (σ:Nat→LC) {n:Nat}{nm:ByteArray}{ls:List CS}{a:List LC}{r:LC}(h:Hl E some n nm ls a=some (some r)):Hl E some n nm ls (a.map (sb σ))=some (some (sb σ r)):=by
 unfold Hl at h ⊢;rw[List.length_map];split at h
 ·cases h
 rename_i x hu;by_cases k1:x.kind=1
 ·rw[if_pos k1] at h ⊢;split at h
  ·cases h
  rename_i hl;rw[if_neg hl];injection h with h;injection h with h;subst h;rw[M7,UA (nx hc hu k1 An)]
 rw[if_neg k1] at h ⊢;by_cases k5:x.kind=5
 ·rw[if_pos k5] at h ⊢;split at h
  ·cases h
  rename_i hn;have hnn:0≤CB (Bo E x.decl):=by
   have:=hc.fx nm ls x hu k5;unfold CB Gt;omega
  rw[if_neg hn,getD_map An];rw[Option.bind_some] at h ⊢;injection h with h;unfold Qk at h ⊢;split at h
  ·cases h
  rename_i e j f hk;rw[cW σ hk];simp only;split at h
  ·cases h
  rename_i hno;rw[if_neg hno];injection h with h;subst h;have hcl:=(hc.rul nm ls x j hu k5 (Ke hk).choose_spec.choose_spec.choose_spec.choose_spec.2.2.1 An An).2.2;rw[M7,UA hcl];simp[List.map_take,List.map_drop]
 rw[if_neg k5] at h ⊢;by_cases k6:x.kind=6
 ·rw[if_pos k6] at h ⊢;split at h
  ·cases h
  rename_i hn;rw[if_neg hn];obtain⟨q,hq,h⟩:=Option.bind_eq_some_iff.1 h;injection h with h;obtain⟨⟨b,vs⟩,hbv,h⟩:=Option.bind_eq_some_iff.1 h;subst hbv;have hz:=bX σ _ _ _ _ _ hq;rw[List.map_take] at hz;rw[hz];have hT:=XN hc _ _ _ (by
   have:=hc.fn nm ls x hu k6
   rwa [List.length_take,Nat.min_eq_left An]) _ _ hq
  simp only[Option.bind_some] at h ⊢;unfold QO at h ⊢;split at h
  ·cases h
  rename_i hl;rw[if_neg hl];injection h with h;subst h;rw[M7,mn σ (by rw[List.length_reverse];exact hT ls An),List.map_reverse,List.map_drop]
 rw[if_neg k6] at h;cases h
theorem HU.sb (hc:I9 E) {t t':LC}(h:HU E t t'):∀σ,HU E (sb σ t) (sb σ t'):=by
 induction h with
 | beta A b x=>intro σ;rw[bT];exact .beta _ _ _
 | zeta a v b=>intro σ;rw[bT];exact .zeta _ _ _
 | proj k d x y =>
  intro σ;have:=HU.proj (E:=E) k (LC.sb σ d) (LC.sb σ x) (LC.sb σ y);split at this
  ·rename_i hk;rw[if_pos hk];exact this
  ·rename_i hk;rw[if_neg hk];exact this
 | con i nm ls a n r h=>intro σ;rw[M7];exact .con i nm ls _ n _ (oG hc σ h)
 | appL x _ ih=>exact fun σ=> .appL _ (ih σ)
 | appR f _ ih=>exact fun σ=> .appR _ (ih σ)
 | bndL k b _ ih=>exact fun σ=> .bndL _ _ (ih σ)
 | bndR k A _ ih=>exact fun σ=> .bndR _ _ (ih (ups σ))
 | prjC k _ ih=>exact fun σ=> .prjC _ (ih σ)
 | pair1 b c _ ih=>exact fun σ=> .pair1 _ _ (ih σ)
 | pair2 a c _ ih=>exact fun σ=> .pair2 _ _ (ih σ)
 | pair3 a b _ ih=>exact fun σ=> .pair3 _ _ (ih σ)
 | lt1 v b _ ih=>exact fun σ=> .lt1 _ _ (ih σ)
 | lt2 a b _ ih=>exact fun σ=> .lt2 _ _ (ih σ)
 | lt3 a v _ ih=>exact fun σ=> .lt3 _ _ (ih (ups σ))
theorem Rs.sb (hc:I9 E) (σ:Nat→LC) {t t':LC}(h:Rs E t t'):Rs E (sb σ t) (sb σ t'):=h.map fun _ _ r=>r.sb hc σ
theorem Rs.ups (hc:I9 E) {σ τ:Nat→LC}(h:∀n,Rs E (σ n) (τ n)):∀n,Rs E (ups σ n) (ups τ n)
 | 0=> .refl _
 | n+1=>by simp only[LC.ups,Wf];exact(h n).sb hc _
theorem Lp (hc:I9 E):∀(t:LC) (σ τ:Nat→LC),(∀n,Rs E (σ n) (τ n))→Rs E (sb σ t) (sb τ t)
 | var n,σ,τ,h=>h n
 | atom ..,σ,τ,h=> .refl _
 | app f x,σ,τ,h=>(Lp hc f σ τ h).app (Lp hc x σ τ h)
 | bnd k a b,σ,τ,h=>(Lp hc a σ τ h).bnd (Lp hc b _ _ (Rs.ups hc h))
 | prj k p,σ,τ,h=>(Lp hc p σ τ h).prj
 | pair a b c,σ,τ,h=>(Lp hc a σ τ h).pair (Lp hc b σ τ h) (Lp hc c σ τ h)
 | lt a v b,σ,τ,h=>(Lp hc a σ τ h).lt (Lp hc v σ τ h) (Lp hc b _ _ (Rs.ups hc h))
theorem oW {vs ws:List LC}(h:L2 E vs ws) (n:Nat):Rs E (ins vs n) (ins ws n):=by
 unfold ins;by_cases hn:n<vs.length
 ·have hn':n<ws.length:=by rw[←h.len];exact hn
  rw[dif_pos hn,dif_pos hn'];have:=h.at_ n
  rwa [IP (List.getElem?_eq_getElem hn),IP (List.getElem?_eq_getElem hn')] at this
 rw[dif_neg hn,dif_neg (by rw[←h.len];exact hn),h.len];exact .refl _
theorem WL (hc:I9 E) {vs ws:List LC}(h:L2 E vs ws) {b b':LC}(hb:Rs E b b'):Rs E (sb (ins vs) b) (sb (ins ws) b'):=(Lp hc b _ _ (oW h)).trans (hb.sb hc _)
end
section
variable {E:List B5}
theorem OR {W W':LC→Option LC}(hW:∀t a,W t=some a→W' t=some a):∀(n:Nat) {m:Nat}(hn:n≤m) (t:ES) (vars:List LC) r,El E W n t vars=some r→El E W' m t vars=some r
 | 0,m,hn,t,vars,r,h=>by cases h
 | n+1,0,hn,t,vars,r,h=>absurd hn An
 | n+1,m+1,hn,t,vars,r,h=>by
  rw[El] at h ⊢;split at h
  ·rename_i h1;rw[if_pos h1];split at h
   ·rename_i h2;rw[if_pos h2];exact h
   rename_i h2;rw[if_neg h2];obtain⟨q,hq,h⟩:=Option.bind_eq_some_iff.1 h;rw[hW _ _ hq,Option.bind_some];split at h
   ·exact h
   split at h
   ·exact h
   exact OR hW n An _ _ r h
  rename_i h1;rw[if_neg h1];exact h
theorem iZ {W W':LC→Option LC}(hW:∀t a,W t=some a→W' t=some a) {n m:Nat}(hn:n≤m) {nm:ByteArray}{ls:List CS}{a:List LC}{r}(h:Hl E W n nm ls a=some r):Hl E W' m nm ls a=some r:=by
 unfold Hl at h ⊢;split at h
 ·exact h
 split at h
 ·rename_i k;rw[if_pos k];exact h
 rename_i k;rw[if_neg k];split at h
 ·rename_i k;rw[if_pos k];split at h
  ·rename_i k;rw[if_pos k];exact h
  rename_i k;rw[if_neg k];obtain⟨q,hq,h⟩:=Option.bind_eq_some_iff.1 h;rw[hW _ _ hq];exact h
 rename_i k;rw[if_neg k];split at h
 ·rename_i k;rw[if_pos k];split at h
  ·rename_i k;rw[if_pos k];exact h
  rename_i k;rw[if_neg k];obtain⟨q,hq,h⟩:=Option.bind_eq_some_iff.1 h;rw[OR hW n hn _ _ _ hq];exact h
 rename_i k;rw[if_neg k];exact h
theorem RP (n:Nat) (A b x:LC) (xs:List LC):HS E (n+1) (apps (.bnd 5 A b) (x::xs))=HS E n (apps (sb (ins [x]) b) xs):=by rw[HS,Gh _ rfl];rfl
theorem br (n:Nat) (A v b:LC) (xs:List LC):HS E (n+1) (apps (.lt A v b) xs)=HS E n (apps (sb (ins [v]) b) xs):=by rw[HS,Gh _ rfl]
def eB (n:Nat) (k:Int) (xs:List LC):LC→Option LC
 | .pair d x y=>HS E n (apps (if k=9 then x else y) xs)
 | q=>some (apps (.prj k q) xs)
theorem P4 (n:Nat) (k:Int) (p:LC) (xs:List LC):HS E (n+1) (apps (.prj k p) xs)=(HS E n p).bind (eB (E:=E) n k xs):=by
 rw[HS,Gh _ rfl];simp only;congr 1
def td (n:Nat) (t:LC):Option LC→Option LC
 | none=>some t
 | some r=>HS E n r
theorem Nn (n:Nat) (i:Int) (nm:ByteArray) (ls:List CS) (xs:List LC):HS E (n+1) (apps (.atom 3 i nm ls) xs)=(Hl E (HS E n) n nm ls xs).bind (td (E:=E) n (apps (.atom 3 i nm ls) xs)):=by
 rw[HS,Gh _ rfl];simp only[if_true];congr 1
def NQ:LC→List LC→Prop
 | .var _,_=>True
 | .atom k ..,_=>k≠3
 | .bnd k ..,xs=>k=5→xs=[]
 | .pair ..,_=>True
 | _,_=>False
theorem HY (n:Nat) {h:LC}{xs:List LC}(hi:NQ h xs):HS E (n+1) (apps h xs)=some (apps h xs):=by
 cases h with
 | var i=>rw[HS,Gh _ rfl]
 | atom k i nm ls=>rw[HS,Gh _ rfl];simp only;rw[if_neg hi]
 | bnd k A b =>
  rw[HS,Gh _ rfl];cases xs with
  | nil=>rfl
  | cons x xs=>simp only;rw[if_neg fun e=>by cases hi e]
 | pair a b c=>rw[HS,Gh _ rfl]
 | app f a=>exact hi.elim
 | prj k p=>exact hi.elim
 | lt a v b=>exact hi.elim
theorem OM:∀(n:Nat) {t a:LC},HS E n t=some a→HS E (n+1) t=some a
 | 0,t,a,h=>by cases h
 | n+1,t,a,h=>by
  have e:=Ks t;have hh:=PM t;revert e hh;generalize (Q1 t).1=hd;generalize (Q1 t).2=xs;intro e hh;subst e;cases hd with
  | app f x=>cases hh
  | var i=>rw[HY _ (show NQ (.var i) xs from trivial)] at h ⊢;exact h
  | pair x y z=>rw[HY _ (show NQ (.pair x y z) xs from trivial)] at h ⊢;exact h
  | bnd k A b =>
   by_cases hi:k=5→xs=[]
   ·rw[HY _ (show NQ (.bnd k A b) xs from hi)] at h ⊢;exact h
   ·by_cases h5:k=5
    ·subst h5;cases xs with
     | nil=>exact absurd (fun _=>rfl) hi
     | cons x xs=>rw[RP] at h ⊢;exact OM n h
    ·exact absurd (fun e=>absurd e h5) hi
  | lt A v b=>rw[br] at h ⊢;exact OM n h
  | prj k p =>
   rw[P4] at h ⊢;obtain⟨q,hq,h⟩:=Option.bind_eq_some_iff.1 h;rw[OM n hq,Option.bind_some];cases q<;>first | exact h | exact OM n h
  | atom k i nm ls =>
   by_cases h3:k=3
   ·subst h3;rw[Nn] at h ⊢;obtain⟨q,hq,h⟩:=Option.bind_eq_some_iff.1 h;rw[iZ (fun t a=>OM n) (Nat.le_succ n) hq,Option.bind_some];cases q with
    | none=>exact h
    | some r=>exact OM n h
   rw[HY _ (show NQ (.atom k i nm ls) xs from h3)] at h ⊢;exact h
theorem kg (n:Nat) {q:LC}{r}(h:Fc E q=some r):HS E (n+1) q=some q:=by
 obtain⟨d,j,f⟩:=r;obtain⟨i,nm,ls,xs,rfl,h1,h2,h3,rfl⟩:=Ke h;rw[Nn];have hk:∀x,ej E nm ls=some x→x.kind=4:=fun x hx=>by
  unfold ej at hx;split at hx
  ·injection hx with hx;subst hx;unfold D7 at h1;split at h1
   ·cases h1
   split at h1
   ·injection h1 with h1;injection h1 with e1 e2;omega
   split at h1
   ·assumption
   split at h1
   ·injection h1 with h1;injection h1 with e1 e2;omega
   cases h1
  cases hx
 have:Hl E (HS E n) n nm ls xs=some none:=by
  unfold Hl;split
  ·rfl
  rename_i x hx;have:=hk x hx;rw[if_neg An,if_neg An,if_neg An]
 rw[this];rfl
theorem Sb {m:Nat}{v q:LC}{r}(hk:Fc E v=some r) (h:HS E m v=some q):q=v:=by
 cases m with
 | zero=>cases h
 | succ m=>rw[kg m hk] at h;injection h with h;exact h.symm
theorem Wm {m:Nat}:∀(n k:Nat) (t:ES) (vars:List LC) r c,El E some n t vars=some (some r)→El E (HS E m) k t vars=some c→c=some r
 | 0,k,t,vars,r,c,h,h'=>by cases h
 | n+1,0,t,vars,r,c,h,h'=>by cases h'
 | n+1,k+1,t,vars,r,c,h,h'=>by
  rw[El] at h h';split at h
  ·rename_i h1;rw[if_pos h1] at h';split at h
   ·cases h
   rename_i h2;rw[if_neg h2] at h';obtain⟨q,hq,h'⟩:=Option.bind_eq_some_iff.1 h';rw[Option.bind_some] at h;split at h
   ·cases h
   rename_i d j f hk;rw[Sb hk hq,hk] at h';simp only at h';split at h
   ·cases h
   rename_i t' hb;rw[hb] at h';exact Wm n k t' _ r c h h'
  rename_i h1;rw[if_neg h1] at h';injection h with h;injection h' with h';rw[←h',←h]
theorem mQ {m n k:Nat}{nm:ByteArray}{ls:List CS}{a:List LC}{r:LC}{c}(h:Hl E some n nm ls a=some (some r)) (h':Hl E (HS E m) k nm ls a=some c):c=some r:=by
 unfold Hl at h h';split at h
 ·cases h
 rename_i x hu;rw[hu] at h';simp only at h';split at h
 ·rename_i k1;rw[if_pos k1] at h';injection h with h;injection h' with h';rw[←h',←h]
 rename_i k1;rw[if_neg k1] at h';split at h
 ·rename_i k5;rw[if_pos k5] at h';split at h
  ·cases h
  rename_i hn;rw[if_neg hn] at h';rw[Option.bind_some] at h;obtain⟨q,hq,h'⟩:=Option.bind_eq_some_iff.1 h';injection h with h;injection h' with h';cases hk:Fc E (a.getD (CB (Bo E x.decl)).toNat default) with
  | none=>unfold Qk at h;rw[hk] at h;cases h
  | some p=>rw[Sb hk hq] at h';rw[←h',←h]
 rename_i k5;rw[if_neg k5] at h';split at h
 ·rename_i k6;rw[if_pos k6] at h';split at h
  ·cases h
  rename_i hn;rw[if_neg hn] at h';obtain⟨q,hq,h⟩:=Option.bind_eq_some_iff.1 h;obtain⟨q',hq',h'⟩:=Option.bind_eq_some_iff.1 h';injection h with h;injection h' with h';cases q with
  | none=>cases h
  | some p=>rw[Wm _ _ _ _ _ _ hq hq'] at h';rw[←h',←h]
 cases h
theorem Xl (hc:I9 E) {n:Nat}{nm:ByteArray}{ls:List CS}{a:List LC}{r:LC}(x:LC) (h:Hl E some n nm ls a=some (some r)):Hl E some n nm ls (a++[x])=some (some (.app r x)):=by
 unfold Hl at h ⊢;rw[List.length_append];split at h
 ·cases h
 rename_i y hu;split at h
 ·rename_i k1;rw[if_pos k1];split at h
  ·cases h
  rename_i hl;rw[if_neg hl];injection h with h;injection h with h;subst h;rw[Ey]
 rename_i k1;rw[if_neg k1];split at h
 ·rename_i k5;rw[if_pos k5];split at h
  ·cases h
  rename_i hn;have h0:=hc.fx nm ls y hu k5;have hnn:0≤Gt (Bo E y.decl):=by unfold Gt;omega
  have hnd:CB (Bo E y.decl)=(Bo E y.decl).fixed+1+(Bo E y.decl).ctors.length+Gt (Bo E y.decl):=rfl;rw[if_neg (by simp only[List.length_singleton];omega)];rw[Option.bind_some] at h ⊢;have e:(a++[x]).getD (CB (Bo E y.decl)).toNat default=a.getD (CB (Bo E y.decl)).toNat default:=by
   rw[List.getD_eq_getElem?_getD,List.getD_eq_getElem?_getD,List.getElem?_append_left An]
  rw[e];injection h with h;unfold Qk at h ⊢;split at h
  ·cases h
  split at h
  ·cases h
  rename_i hno;rw[if_neg hno];injection h with h;subst h;rw[List.take_append_of_le_length An,List.drop_append_of_le_length An,←List.append_assoc,Ey]
 rename_i k5;rw[if_neg k5];split at h
 ·rename_i k6;rw[if_pos k6];split at h
  ·cases h
  rename_i hn;rw[if_neg (by simp only[List.length_singleton];omega),List.take_append_of_le_length An];obtain⟨q,hq,h⟩:=Option.bind_eq_some_iff.1 h;rw[hq];injection h with h;obtain⟨⟨b,vs⟩,hbv,h⟩:=Option.bind_eq_some_iff.1 h;subst hbv;simp only[Option.bind_some] at h ⊢;unfold QO at h ⊢;split at h
  ·cases h
  rename_i hl;rw[if_neg hl];injection h with h;subst h;rw[List.drop_append_of_le_length An,Ey]
 cases h
theorem Xa (hc:I9 E) {n:Nat}{nm:ByteArray}{ls:List CS}:∀(xs:List LC) {a:List LC}{r:LC},Hl E some n nm ls a=some (some r)→Hl E some n nm ls (a++xs)=some (some (apps r xs))
 | [],a,r,h=>by rw[List.append_nil];exact h
 | x::xs,a,r,h=>by
  have:=Xa hc xs (Xl hc x h)
  rwa [List.append_assoc] at this
end
section
variable (E:List B5)
inductive Hd:LC→LC→Prop
 | var (n:Nat):Hd (.var n) (.var n)
 | atom (k i:Int) (nm:ByteArray) (ls:List CS):Hd (.atom k i nm ls) (.atom k i nm ls)
 | bnd (k:Int) {A A' b b':LC}:Rs E A A'→Rs E b b'→Hd (.bnd k A b) (.bnd k A' b')
 | prj (k:Int) {p p':LC}:Rs E p p'→Hd (.prj k p) (.prj k p')
 | pair {a a' b b' c c':LC}:Rs E a a'→Rs E b b'→Rs E c c'→Hd (.pair a b c) (.pair a' b' c')
 | lt {a a' b b' c c':LC}:Rs E a a'→Rs E b b'→Rs E c c'→Hd (.lt a b c) (.lt a' b' c')
def SH (a a':LC):Prop:=∃h xs h' xs',Hd E h h'∧L2 E xs xs'∧a=apps h xs∧a'=apps h' xs'
def St (n:Nat):Prop:=∀t t' a,Rs E t t'→HS E n t=some a→∃a',HS E n t'=some a'∧SH E a a'
end
section
variable {E:List B5}
theorem Hd.rs {h h':LC}(r:Hd E h h'):Rs E h h':=by
 cases r with
 | var n=>exact .refl _
 | atom k i nm ls=>exact .refl _
 | bnd k a b=>exact a.bnd b
 | prj k p=>exact p.prj
 | pair a b c=>exact a.pair b c
 | lt a b c=>exact a.lt b c
theorem Hd.app1 {h h':LC}(r:Hd E h h'):isApp h=false∧isApp h'=false:=by cases r<;>exact⟨rfl,rfl⟩
theorem Hd.refl {h:LC}(hh:isApp h=false):Hd E h h:=by
 cases h with
 | app f x=>cases hh
 | var n=>exact .var n
 | atom k i nm ls=>exact .atom k i nm ls
 | bnd k a b=>exact .bnd k (.refl _) (.refl _)
 | prj k p=>exact .prj k (.refl _)
 | pair a b c=>exact .pair (.refl _) (.refl _) (.refl _)
 | lt a b c=>exact .lt (.refl _) (.refl _) (.refl _)
theorem Hd.trans {a b c:LC}(h:Hd E a b) (h':Hd E b c):Hd E a c:=by
 cases h with
 | var n=>exact h'
 | atom k i nm ls=>exact h'
 | bnd k a b=>cases h' with | bnd _ a' b'=>exact .bnd k (a.trans a') (b.trans b')
 | prj k p=>cases h' with | prj _ p'=>exact .prj k (p.trans p')
 | pair a b c=>cases h' with | pair a' b' c'=>exact .pair (a.trans a') (b.trans b') (c.trans c')
 | lt a b c=>cases h' with | lt a' b' c'=>exact .lt (a.trans a') (b.trans b') (c.trans c')
theorem SH.refl (t:LC):SH E t t:=⟨_,_,_,_,.refl (PM t),.refl _,(Ks t).symm,(Ks t).symm⟩
theorem Jf {h h':LC}{xs xs':List LC}(hh:isApp h=false) (hh':isApp h'=false) (e:apps h xs=apps h' xs'):h=h'∧xs=xs':=by
 have:=congrArg Q1 e;rw[Gh _ hh,Gh _ hh'] at this;injection this with a b;exact⟨a,b⟩
theorem SH.trans {a b c:LC}(h:SH E a b) (h':SH E b c):SH E a c:=by
 obtain⟨h1,x1,h2,x2,r,l,rfl,rfl⟩:=h;obtain⟨h3,x3,h4,x4,r',l',e,rfl⟩:=h';obtain⟨rfl,rfl⟩:=Jf r.app1.2 r'.app1.1 e;exact⟨_,_,_,_,r.trans r',l.trans l',O,O⟩
theorem SH.rs {a b:LC}(h:SH E a b):Rs E a b:=by
 obtain⟨h1,x1,h2,x2,r,l,rfl,rfl⟩:=h;exact .apps l r.rs
theorem jl (hc:I9 E) {h:LC}(hh:isApp h=false):∀(L:Nat) (xs:List LC),xs.length=L→∀{t':LC},HU E (apps h xs) t' →
  (∃h',HU E h h'∧t'=apps h' xs)∨(∃xs',L2 E xs xs'∧t'=apps h xs')∨(∃A b x ys,h= .bnd 5 A b∧xs=x::ys∧t'=apps (sb (ins [x]) b) ys)∨(∃i nm ls n,h= .atom 3 i nm ls∧Hl E some n nm ls xs=some (some t')):=by
 intro L
 induction L with
 | zero =>
  intro xs hL t' hr;rw[List.length_eq_zero_iff.1 hL] at hr ⊢;exact .inl ⟨t',hr,O⟩
 | succ L ih =>
  intro xs hL t' hr;obtain⟨ys,y,rfl⟩:∃ys y,xs=ys++[y]:=⟨xs.dropLast,xs.getLast (by intro e;rw[e] at hL;cases hL),(List.dropLast_concat_getLast _).symm⟩;simp only[List.length_append,List.length_singleton,Nat.add_right_cancel_iff] at hL;rw[Ey] at hr;generalize e:LC.app (apps h ys) y=u at hr;cases hr with
  | beta A b x =>
   injection e with e1 e2;subst e2;have:=Jf (xs':=[]) hh rfl (e1.trans (show _=apps (.bnd 5 A b) [] from rfl));obtain⟨rfl,rfl⟩:=this;exact .inr (.inr (.inl ⟨A,b,y,[],O,O,O⟩))
  | con i nm ls a n r hr =>
   rw[←Ey] at e;obtain⟨rfl,rfl⟩:=Jf hh rfl e;exact .inr (.inr (.inr ⟨i,nm,ls,n,O,hr⟩))
  | appL x hr =>
   injection e with e1 e2;subst e1;subst e2;rcases ih ys hL hr with ⟨h',h1,rfl⟩ | ⟨xs',h1,rfl⟩ | ⟨A,b,x,zs,rfl,rfl,rfl⟩ | ⟨i,nm,ls,n,rfl,h1⟩
   ·exact .inl ⟨h',h1,(Ey _ _ _).symm⟩
   ·exact .inr (.inl ⟨xs'++[y],h1.append (.refl _),(Ey _ _ _).symm⟩)
   ·exact .inr (.inr (.inl ⟨A,b,x,zs++[y],O,O,(Ey _ _ _).symm⟩))
   ·exact .inr (.inr (.inr ⟨i,nm,ls,n,O,Xl hc y h1⟩))
  | appR f hr =>
   injection e with e1 e2;subst e1;subst e2;exact .inr (.inl ⟨ys++[_],(L2.refl ys).append (.cons (.one hr) .nil),(Ey _ _ _).symm⟩)
  | zeta a v b=>cases e
  | proj k d x y=>cases e
  | bndL k b _=>cases e
  | bndR k A _=>cases e
  | prjC k _=>cases e
  | pair1 b c _=>cases e
  | pair2 a c _=>cases e
  | pair3 a b _=>cases e
  | lt1 v b _=>cases e
  | lt2 a b _=>cases e
  | lt3 a v _=>cases e
theorem aL {q q':LC}(h:SH E q q'):(Fc E q=none∧Fc E q'=none)∨∃d j f f',Fc E q=some (d,j,f)∧Fc E q'=some (d,j,f')∧L2 E f f':=by
 obtain⟨h1,xs,h2,xs',r,l,rfl,rfl⟩:=h;unfold Fc;rw[Gh _ r.app1.1,Gh _ r.app1.2];cases r with
 | atom k i nm ls =>
  simp only;rw[←l.len];by_cases hk:k≠3
  ·rw[if_pos hk,if_pos hk];exact .inl ⟨rfl,rfl⟩
  ·rw[if_neg hk,if_neg hk];cases D7 E nm with
   | none=>exact .inl ⟨rfl,rfl⟩
   | some p =>
    obtain⟨d,j⟩:=p;simp only;by_cases hj:j<0
    ·rw[if_pos hj,if_pos hj];exact .inl ⟨rfl,rfl⟩
    ·rw[if_neg hj,if_neg hj];by_cases hl:(xs.length:Int)≠d.fixed+C7 d j
     ·rw[if_pos hl,if_pos hl];exact .inl ⟨rfl,rfl⟩
     ·rw[if_neg hl,if_neg hl];exact .inr ⟨d,j,_,_,rfl,rfl,l.drop _⟩
 | var n=>exact .inl ⟨rfl,rfl⟩
 | bnd k a b=>exact .inl ⟨rfl,rfl⟩
 | prj k p=>exact .inl ⟨rfl,rfl⟩
 | pair a b c=>exact .inl ⟨rfl,rfl⟩
 | lt a b c=>exact .inl ⟨rfl,rfl⟩
theorem aM {m:Nat}(hI:St E m):∀(n:Nat) (t:ES) {xs xs':List LC},L2 E xs xs'→∀r,El E (HS E m) n t xs=some r→∃r',El E (HS E m) n t xs'=some r'∧((r=none∧r'=none)∨∃b vs vs',r=some (b,vs)∧r'=some (b,vs')∧L2 E vs vs')
 | 0,t,xs,xs',l,r,h=>by cases h
 | n+1,t,xs,xs',l,r,h=>by
  rw[El] at h ⊢;rw[←l.len];split at h
  ·rename_i h1;rw[if_pos h1];split at h
   ·rename_i h2;rw[if_pos h2];injection h with h;subst h;exact⟨none,rfl,.inl ⟨rfl,rfl⟩⟩
   rename_i h2;rw[if_neg h2];obtain⟨q,hq,h⟩:=Option.bind_eq_some_iff.1 h;obtain⟨q',hq',sh⟩:=hI _ _ _ (l.at_ t.var.toNat) hq;rw[hq',Option.bind_some];rcases aL sh with ⟨k1,k2⟩ | ⟨d,j,f,f',k1,k2,lf⟩
   ·rw[k1] at h;rw[k2];injection h with h;subst h;exact⟨none,rfl,.inl ⟨rfl,rfl⟩⟩
   rw[k1] at h;rw[k2];simp only at h ⊢;split at h
   ·injection h with h;subst h;exact⟨none,rfl,.inl ⟨rfl,rfl⟩⟩
   exact aM hI n _ (l.append lf) r h
  rename_i h1;rw[if_neg h1];injection h with h;subst h;exact⟨_,O,.inr ⟨_,_,_,O,O,l⟩⟩
theorem oq (hc:I9 E) {m n:Nat}(hI:St E m) {nm:ByteArray}{ls:List CS}{xs xs':List LC}(l:L2 E xs xs') {r}(h:Hl E (HS E m) n nm ls xs=some r):∃r',Hl E (HS E m) n nm ls xs'=some r'∧((r=none∧r'=none)∨∃u u',r=some u∧r'=some u'∧Rs E u u'):=by
 unfold Hl at h ⊢;rw[←l.len];split at h
 ·injection h with h;subst h;exact⟨none,rfl,.inl ⟨rfl,rfl⟩⟩
 split at h
 ·rename_i k1;rw[if_pos k1];injection h with h;subst h;refine⟨_,O,?_⟩;split
  ·exact .inl ⟨O,O⟩
  exact .inr ⟨_,_,O,O,.apps l (.refl _)⟩
 rename_i k1;rw[if_neg k1];split at h
 ·rename_i k5;rw[if_pos k5];split at h
  ·rename_i hn;rw[if_pos hn];injection h with h;subst h;exact⟨none,rfl,.inl ⟨rfl,rfl⟩⟩
  rename_i hn;rw[if_neg hn];obtain⟨q,hq,h⟩:=Option.bind_eq_some_iff.1 h;obtain⟨q',hq',sh⟩:=hI _ _ _ (l.at_ _) hq;rw[hq',Option.bind_some];injection h with h;subst h;refine⟨_,O,?_⟩;unfold Qk;rcases aL sh with ⟨k1,k2⟩ | ⟨d,j,f,f',k1,k2,lf⟩
  ·rw[k1,k2];exact .inl ⟨rfl,rfl⟩
  rw[k1,k2];simp only;split
  ·exact .inl ⟨O,O⟩
  exact .inr ⟨_,_,O,O,.apps (((l.take _).append lf).append (l.drop _)) (.refl _)⟩
 rename_i k5;rw[if_neg k5];split at h
 ·rename_i k6;rw[if_pos k6];split at h
  ·rename_i hn;rw[if_pos hn];injection h with h;subst h;exact⟨none,rfl,.inl ⟨rfl,rfl⟩⟩
  rename_i hn;rw[if_neg hn];obtain⟨q,hq,h⟩:=Option.bind_eq_some_iff.1 h;obtain⟨q',hq',sh⟩:=aM hI n _ (l.take _) q hq;rw[hq',Option.bind_some];injection h with h;subst h;refine⟨_,O,?_⟩;rcases sh with ⟨rfl,rfl⟩ | ⟨b,vs,vs',rfl,rfl,lv⟩
  ·exact .inl ⟨O,O⟩
  simp only[Option.bind_some];unfold QO;split
  ·exact .inl ⟨O,O⟩
  exact .inr ⟨_,_,O,O,.apps (l.drop _) (WL hc lv.reverse (.refl _))⟩
 rename_i k6;rw[if_neg k6];injection h with h;subst h;exact⟨none,rfl,.inl ⟨rfl,rfl⟩⟩
theorem core (hc:I9 E) {n:Nat}(hI:St E n) {h h':LC}{xs xs':List LC}(r:Hd E h h') (l:L2 E xs xs') {a:LC}(e:HS E (n+1) (apps h xs)=some a):∃a',HS E (n+1) (apps h' xs')=some a'∧SH E a a':=by
 have sh:SH E (apps h xs) (apps h' xs'):=⟨_,_,_,_,r,l,rfl,rfl⟩;have inr:NQ h xs→NQ h' xs'→∃a',HS E (n+1) (apps h' xs')=some a'∧SH E a a':=fun i i'=>by
  rw[HY _ i] at e;injection e with e;subst e;exact⟨_,HY _ i',sh⟩
 cases r with
 | var i=>exact inr trivial trivial
 | pair r1 r2 r3=>exact inr trivial trivial
 | atom k i nm ls =>
  by_cases h3:k=3
  ·subst h3;rw[Nn] at e ⊢;obtain⟨q,hq,e⟩:=Option.bind_eq_some_iff.1 e;obtain⟨q',hq',c⟩:=oq hc hI l hq;rw[hq',Option.bind_some];rcases c with ⟨rfl,rfl⟩ | ⟨u,u',rfl,rfl,ru⟩
   ·injection e with e;subst e;exact⟨_,rfl,sh⟩
   exact hI _ _ _ ru e
  ·exact inr h3 h3
 | bnd k rA rb =>
  by_cases h5:k=5
  ·subst h5;cases l with
   | nil=>exact inr (fun _=>rfl) (fun _=>rfl)
   | cons rx l =>
    rw[RP] at e ⊢;exact hI _ _ _ (.apps l (WL hc (.cons rx .nil) rb)) e
  ·exact inr (fun e=>absurd e h5) (fun e=>absurd e h5)
 | lt ra rv rb =>
  rw[br] at e ⊢;exact hI _ _ _ (.apps l (WL hc (.cons rv .nil) rb)) e
 | prj k rp =>
  rw[P4] at e ⊢;obtain⟨q,hq,e⟩:=Option.bind_eq_some_iff.1 e;obtain⟨q',hq',s⟩:=hI _ _ _ rp hq;rw[hq',Option.bind_some];have far:(∀d x y,q≠ .pair d x y)→(∀d x y,q'≠ .pair d x y)→∃a',eB (E:=E) n k _ q'=some a'∧SH E a a':=fun f f'=>by
   have e1:eB (E:=E) n k xs q=some (apps (.prj k q) xs):=by cases q<;>first | rfl | exact absurd rfl (f _ _ _)
   have e2:eB (E:=E) n k xs' q'=some (apps (.prj k q') xs'):=by cases q'<;>first | rfl | exact absurd rfl (f' _ _ _)
   rw[e1] at e;injection e with e;subst e;exact⟨_,e2,_,_,_,_,.prj k s.rs,l,O,O⟩
  obtain⟨h1,y1,h2,y2,rh,ly,rfl,rfl⟩:=s;cases ly with
  | nil =>
   cases rh with
   | pair r1 r2 r3 =>
    refine hI _ _ _ (.apps l ?_) e;split
    ·exact r2
    ·exact r3
   | var i=>exact far (fun _ _ _ e=>by cases e) (fun _ _ _ e=>by cases e)
   | atom k i nm ls=>exact far (fun _ _ _ e=>by cases e) (fun _ _ _ e=>by cases e)
   | bnd k _ _=>exact far (fun _ _ _ e=>by cases e) (fun _ _ _ e=>by cases e)
   | prj k _=>exact far (fun _ _ _ e=>by cases e) (fun _ _ _ e=>by cases e)
   | lt _ _ _=>exact far (fun _ _ _ e=>by cases e) (fun _ _ _ e=>by cases e)
  | cons rx ly =>
   refine far (fun d x y e=>?_) (fun d x y e=>?_)
   ·have:=(Jf rh.app1.1 rfl (e.trans (show _=apps (.pair d x y) [] from rfl))).2;cases this
   have:=(Jf rh.app1.2 rfl (e.trans (show _=apps (.pair d x y) [] from rfl))).2;cases this
theorem uP (hc:I9 E) {n:Nat}(hI:St E n) {t t' a:LC}(r:HU E t t') (e:HS E (n+1) t=some a):∃a',HS E (n+1) t'=some a'∧SH E a a':=by
 have ee:=Ks t;have hh:=PM t;revert ee hh;generalize (Q1 t).1=h;generalize (Q1 t).2=xs;intro ee hh;subst ee;have done:∀{u:LC},HS E n u=some a→∃a',HS E (n+1) u=some a'∧SH E a a':=fun h=>⟨a,OM n h,.refl a⟩;have con:∀{i nm ls k} {xs:List LC} {u:LC},Hl E some k nm ls xs=some (some u)→HS E (n+1) (apps (.atom 3 i nm ls) xs)=some a→HS E n u=some a:=fun h e=>by
  rw[Nn] at e;obtain⟨q,hq,e⟩:=Option.bind_eq_some_iff.1 e;rw[mQ h hq] at e;exact e
 rcases jl hc hh _ xs rfl r with ⟨h',r',rfl⟩ | ⟨xs',l,rfl⟩ | ⟨A,b,x,ys,rfl,rfl,rfl⟩ | ⟨i,nm,ls,k,rfl,hr⟩
 ·generalize eh:h=hd at r';cases r' with
  | beta A b x=>subst eh;cases hh
  | appL x _=>subst eh;cases hh
  | appR f _=>subst eh;cases hh
  | zeta A v b=>subst eh;rw[br] at e;exact done e
  | proj k d x y =>
   subst eh;rw[P4] at e;obtain⟨q,hq,e⟩:=Option.bind_eq_some_iff.1 e;cases n with
   | zero=>cases hq
   | succ n =>
    have:=HY (E:=E) n (h:= .pair d x y) (xs:=[]) trivial;rw[show apps (.pair d x y) []= .pair d x y from rfl] at this;rw[this] at hq;injection hq with hq;subst hq;exact done e
  | con i nm ls ys n' u hr =>
   have:=Jf (xs:=[]) hh rfl (show apps h []=_ from eh);obtain⟨rfl,rfl⟩:=this;exact done (con (Xa hc xs hr) e)
  | bndL k b r2=>subst eh;exact core hc hI (.bnd k (.one r2) (.refl _)) (.refl _) e
  | bndR k A r2=>subst eh;exact core hc hI (.bnd k (.refl _) (.one r2)) (.refl _) e
  | prjC k r2=>subst eh;exact core hc hI (.prj k (.one r2)) (.refl _) e
  | pair1 b c r2=>subst eh;exact core hc hI (.pair (.one r2) (.refl _) (.refl _)) (.refl _) e
  | pair2 a c r2=>subst eh;exact core hc hI (.pair (.refl _) (.one r2) (.refl _)) (.refl _) e
  | pair3 a b r2=>subst eh;exact core hc hI (.pair (.refl _) (.refl _) (.one r2)) (.refl _) e
  | lt1 v b r2=>subst eh;exact core hc hI (.lt (.one r2) (.refl _) (.refl _)) (.refl _) e
  | lt2 a b r2=>subst eh;exact core hc hI (.lt (.refl _) (.one r2) (.refl _)) (.refl _) e
  | lt3 a v r2=>subst eh;exact core hc hI (.lt (.refl _) (.refl _) (.one r2)) (.refl _) e
 ·exact core hc hI (.refl hh) l e
 ·rw[RP] at e;exact done e
 exact done (con hr e)
theorem gA (hc:I9 E):∀n,St E n
 | 0=>fun t t' a r e=>by cases e
 | n+1=>fun t t' a r e=>by
  induction r generalizing a with
  | refl t=>exact⟨a,e,.refl a⟩
  | step r _ ih =>
   obtain⟨a1,e1,s1⟩:=uP hc (gA hc n) r e;obtain⟨a2,e2,s2⟩:=ih a1 e1;exact⟨a2,e2,s1.trans s2⟩
end
section
variable {E:List B5}
end
section
variable {E:List B5}
end
section
variable {E:List B5}
end
section
variable {E:List B5}
section
variable {W:WQ}{n:Nat}{kd i:Int}{nm:ByteArray}{ls:List CS}{ρ:Option Nat}{s:NS}{a b c:Tm}
end
end
section
variable {E:List B5}
end
def cv:Nat→LC→LC
 | d,.var n=> .var n
 | d,.atom k i nm ls=>if k=0 then .var ((d:Int) - 1 - i).toNat else .atom k i nm ls
 | d,.app f a=> .app (cv d f) (cv d a)
 | d,.bnd k a b=> .bnd k (cv d a) (cv (d+1) b)
 | d,.prj k p=> .prj k (cv d p)
 | d,.pair a b c=> .pair (cv d a) (cv d b) (cv d c)
 | d,.lt a v b=> .lt (cv d a) (cv d v) (cv (d+1) b)
def lv (d:Nat):LC→Prop
 | .var n=>True
 | .atom k i nm ls=>k=0→i<d
 | .app f a=>lv d f∧lv d a
 | .bnd k a b=>lv d a∧lv d b
 | .prj k p=>lv d p
 | .pair a b c=>lv d a∧lv d b∧lv d c
 | .lt a v b=>lv d a∧lv d v∧lv d b
theorem Ln:∀(t:LC) (f:Nat→Nat) {d:Nat},lv d t→lv d (rn f t)
 | .var n,f,d,h=>trivial
 | .atom k i nm ls,f,d,h=>h
 | .app g a,f,d,h=>⟨Ln g f h.1,Ln a f h.2⟩
 | .bnd k a b,f,d,h=>⟨Ln a f h.1,Ln b _ h.2⟩
 | .prj k p,f,d,h=>Ln p f h
 | .pair a b c,f,d,h=>⟨Ln a f h.1,Ln b f h.2.1,Ln c f h.2.2⟩
 | .lt a v b,f,d,h=>⟨Ln a f h.1,Ln v f h.2.1,Ln b _ h.2.2⟩
where
 lv_ups {σ:Nat→LC} {d:Nat} (hs:∀n,lv d (σ n)):∀n,lv d (ups σ n):=fun n=>by
  cases n with
  | zero=>trivial
  | succ n=>exact Ln _ _ (hs n)
section
variable {E:List B5}{d:Nat}
end
section
variable {E:List B5}{d:Nat}
end
section
variable {E:List B5}
theorem Ea:∀(xs:List Tm) (f:Tm),tr (apply f xs)=apps (tr f) (xs.map tr)
 | [],f=>rfl
 | x::xs,f=>by
  simp only[apply,List.foldl_cons,List.map_cons];have:=Ea xs (Qt f x);simp only[apply] at this;rw[this];simp only[apps,List.foldl_cons,Qt,tr,if_true]
theorem X9 {t:Tm}(hw:Wt t):tr t=apps (tr (A8 t).1) ((A8 t).2.map tr)∧isApp (tr (A8 t).1)=false:=by
 refine KP (P:=fun t=>tr t=apps (tr (A8 t).1) ((A8 t).2.map tr)∧isApp (tr (A8 t).1)=false) ?_ ?_ ?_ ?_ _ t (Nat.le_refl _) hw
 ·intro k i n l;refine⟨O,?_⟩;simp only[A8,tr];split<;>rfl
 ·intro k i n l a _ _;exact⟨rfl,rfl⟩
 ·intro k i n l a b hk ha hb;by_cases h4:k=4
  ·have e:A8 (.mk k i n l [a,b])=((A8 a).1,(A8 a).2++[b]):=by simp only[A8,if_pos h4]
   rw[e];simp only[tr,if_pos h4];rw[List.map_append,List.map_cons,List.map_nil,Ey,←ha.1];exact⟨O,ha.2⟩
  have e:A8 (.mk k i n l [a,b])=(.mk k i n l [a,b],[]):=by simp only[A8,if_neg h4]
  rw[e];refine⟨O,?_⟩;simp only[tr,if_neg h4];rfl
 intro k i n l a b c hk _ _ _;refine⟨O,?_⟩;simp only[A8,tr];split<;>rfl
end
section
variable {E:List B5}
theorem Ve {α:Type}{s:Int}{x:Tm×Int}{k:Tm→Int→Out α}{r:α}(h:Bp.put s x k= .ok r):okB x.1=true∧x.2=0∧k x.1 (s - 1)= .ok r:=by
 obtain⟨h1,h2⟩:=Vy (s:=s) (x:=x) (k:=k) (by rw[h];intro e;cases e);rw[h] at h2;split at h2
 ·cases h2
 rename_i hn;exact⟨h1,by omega,h2.symm⟩
theorem OD {b:Tm}{vs:List Tm}(hb:okB b=true) (hv:∀v∈vs,okB v=true) (hz:vs.length<2251799813685248) (h:(CD b vs 0).2=0):tr (CD b vs 0).1=sb (ins (vs.map tr)) (tr b) :=
 jh ⟨fun v m=>(B2.1 (hv v m)).wt,fun v m=>(B2.1 (hv v m)).vp,fun v m=>FC (hv v m),hz⟩ (B2.1 hb).wt (B2.1 hb).vp (FC hb) h
theorem Tv (f:LC) (xs ys:List LC):apps (apps f xs) ys=apps f (xs++ys):=(List.foldl_append ..).symm
theorem TI {t:Tm}(h:okB t=true):tr t=apps (tr (A8 t).1) ((A8 t).2.map tr)∧isApp (tr (A8 t).1)=false∧okB (A8 t).1=true∧(∀x∈(A8 t).2,okB x=true) :=
 ⟨(X9 (B2.1 h).wt).1,(X9 (B2.1 h).wt).2,(FO h).1,(FO h).2⟩
theorem ZL {h:Tm}(ho:okB h=true) (hk:h.kind=3):tr h= .atom 3 h.index h.name h.levels:=by
 obtain⟨k,i,n,l,ks⟩:=h;have hw:=(B2.1 ho).wt;simp only[Tm.kind] at hk;subst hk;simp only[Wt] at hw;have:ks=[]:=List.length_eq_zero_iff.1 (by have:=hw.1;simp[arity] at this;simpa using this);subst this;rfl
theorem sT {h:Tm}(ho:okB h=true) (hk:h.kind=5):∃A b,h.kids[1]?=some b∧okB b=true∧tr h= .bnd 5 A (tr b):=by
 obtain⟨k,i,n,l,ks⟩:=h;have hw:=(B2.1 ho).wt;simp only[Tm.kind] at hk;subst hk;simp only[Wt] at hw
 match ks,hw.1,ho with
 | [A,b],_,ho=>exact⟨tr A,b,rfl,ER (i:=1) ho rfl,rfl⟩
theorem nX {h:Tm}(ho:okB h=true) (hk:h.kind=11):∃A v b,h.kids[1]?=some v∧h.kids[2]?=some b∧okB v=true∧okB b=true∧tr h= .lt A (tr v) (tr b):=by
 obtain⟨k,i,n,l,ks⟩:=h;have hw:=(B2.1 ho).wt;simp only[Tm.kind] at hk;subst hk;simp only[Wt] at hw
 match ks,hw.1,ho with
 | [A,v,b],_,ho=>exact⟨tr A,v,b,rfl,rfl,ER (i:=1) ho rfl,ER (i:=2) ho rfl,rfl⟩
theorem r6 {h:Tm}(ho:okB h=true) (hk:h.kind=9∨h.kind=10):∃p,h.kids[0]?=some p∧okB p=true∧tr h= .prj h.kind (tr p):=by
 obtain⟨k,i,n,l,ks⟩:=h;have hw:=(B2.1 ho).wt;simp only[Tm.kind] at hk;simp only[Wt] at hw;have e:arity k=1:=by rcases hk with rfl | rfl<;>rfl
 rw[e] at hw
 match ks,hw.1,ho with
 | [p],_,ho=>exact⟨p,rfl,ER (i:=0) ho rfl,rfl⟩
theorem rV {h:Tm}(ho:okB h=true) (hk:h.kind=8):∃d x y,h.kids[1]?=some x∧h.kids[2]?=some y∧okB x=true∧okB y=true∧tr h= .pair d (tr x) (tr y):=by
 obtain⟨k,i,n,l,ks⟩:=h;have hw:=(B2.1 ho).wt;simp only[Tm.kind] at hk;subst hk;simp only[Wt] at hw
 match ks,hw.1,ho with
 | [d,x,y],_,ho=>exact⟨tr d,x,y,rfl,rfl,ER (i:=1) ho rfl,ER (i:=2) ho rfl,rfl⟩
theorem fJ {h:Tm}(ho:okB h=true) (hk:h.kind≠8):∀d x y,tr h≠ .pair d x y:=by
 obtain⟨k,i,n,l,ks⟩:=h;have hw:=(B2.1 ho).wt;simp only[Tm.kind] at hk;simp only[Wt] at hw;intro d x y e
 match ks,hw.1,e with
 | [],_,e=>simp only[tr] at e;split at e<;>cases e
 | [a],_,e=>cases e
 | [a,b],_,e=>simp only[tr] at e;split at e<;>cases e
 | [a,b,c],hl,e =>
  rcases ux hl with rfl | rfl
  ·exact hk O
  ·simp only[tr,if_true] at e;cases e
 | a::b::c::d::l,hl,e=>have:=YL k;simp only[List.length_cons] at hl;omega
theorem OQ {h:Tm}(ho:okB h=true) (ha:isApp (tr h)=false) {xs:List LC}(h3:h.kind≠3) (h5:h.kind≠5∨xs=[]) (h9:h.kind≠9) (h10:h.kind≠10) (h11:h.kind≠11):NQ (tr h) xs:=by
 obtain⟨k,i,n,l,ks⟩:=h;have hw:=(B2.1 ho).wt;simp only[Tm.kind] at h3 h5 h9 h10 h11;simp only[Wt] at hw
 match ks,hw.1,ha with
 | [],_,_=>simp only[tr];split<;>first | trivial | exact h3
 | [a],hl,_=>rcases uQ hl with rfl | rfl<;>contradiction
 | [a,b],_,ha =>
  simp only[tr] at ha ⊢;split at ha
  ·cases ha
  ·rename_i h4;rw[if_neg h4];exact fun e=>h5.resolve_left (fun h=>h e)
 | [a,b,c],hl,_=>simp only[tr];rw[if_neg h11];trivial
 | a::b::c::d::l,hl,e=>have:=YL k;simp only[List.length_cons] at hl;omega
theorem V0 {q:Tm}(ho:okB q=true):Fc E (tr q)=(C8 E q).map fun r=>(r.1,r.2.1,r.2.2.map tr):=by
 obtain⟨h1,h2,h3,h4⟩:=TI ho;rw[h1];unfold Fc C8;rw[Gh _ h2];by_cases hk:(A8 q).1.kind=3
 ·rw[ZL h3 hk,if_neg An];simp only[ne_eq,not_true_eq_false,if_false,List.length_map];cases D7 E (A8 q).1.name with
  | none=>rfl
  | some p =>
   obtain⟨d,j⟩:=p;simp only;split
   ·rfl
   split
   ·rfl
   simp only[Option.map_some,List.map_drop]
 rw[if_pos hk];simp only[Option.map_none];split
 ·rename_i k i nm ls e;rw[if_pos];intro e3;subst e3;generalize (A8 q).1=h at hk e h3;obtain⟨k,i,n,l,ks⟩:=h;have hw:=(B2.1 h3).wt;simp only[Wt] at hw
  match ks,hw.1,e with
  | [],_,e =>
   simp only[tr] at e;split at e
   ·cases e
   ·injection e with e;exact hk e
  | [a],_,e=>cases e
  | [a,b],_,e=>simp only[tr] at e;split at e<;>cases e
  | [a,b,c],_,e=>simp only[tr] at e;split at e<;>cases e
  | a::b::c::d::l,hl,e=>have:=YL k;simp only[List.length_cons] at hl;omega
 rfl
variable {d:B5}{h:Tm}{a:List Tm}{s s':Int}{r:Option Tm}
theorem cX (e:Eg Bp d h a s= .ok (r,s')):r.map tr=if (BY d.value h.levels).2≠0 then none else some (apps (tr (BY d.value h.levels).1) (a.map tr)):=by
 unfold Eg at e;split at e
 ·rename_i hl;rw[if_pos hl];injection e with e;injection e with e;subst e;rfl
 rename_i hl;rw[if_neg hl];obtain⟨_,_,e⟩:=Ve e;injection e with e;injection e with e;subst e;rw[Option.map_some,Ea]
theorem iO {m:Tm}(hm:okB m=true) (e:Es E Bp d h a m s= .ok (r,s')):r.map tr=Qk E d h.levels (a.map tr) (tr m):=by
 unfold Es at e;unfold Qk;rw[V0 hm];split at e
 ·rename_i hc;rw[hc];injection e with e;injection e with e;subst e;rfl
 rename_i e' j f hc;rw[hc];simp only[Option.map_some];split at e
 ·rename_i hn;injection e with e;injection e with e;subst e;rw[if_pos (by rcases hn with h | h<;>simp[h])];rfl
 rename_i hn;split at e
 ·rename_i hl;injection e with e;injection e with e;subst e;rw[if_pos (.inr (.inr hl))];rfl
 rename_i hl;rw[if_neg (by simp only[not_or] at hn ⊢;exact⟨hn.1,hn.2,hl⟩)];obtain⟨_,_,e⟩:=Ve e;injection e with e;injection e with e;subst e;rw[Option.map_some,Ea,Ea,Ea,Tv,Tv,List.map_take,List.map_drop,List.append_assoc]
theorem gF {b:Tm}{vars rest:List Tm}(e:GD Bp h b vars rest s= .ok (r,s')):r.map tr=QO h.levels b (vars.map tr) (rest.map tr):=by
 unfold QO;by_cases hl:(BY b h.levels).2=0
 ·obtain⟨h1,h2,h3,h4⟩:=RF (by rw[e];intro e;cases e) hl;rw[h4] at e;obtain⟨_,e2,e⟩:=Ve e;injection e with e;injection e with e;subst e;rw[if_neg An,Option.map_some,Ea];have:=Dx vars;rw[OD h1 (fun v hv=>h2 v (List.mem_reverse.1 hv)) (by rw[List.length_reverse];omega) e2,List.map_reverse]
 rw[Ig hl] at e;injection e with e;injection e with e;subst e;rw[if_pos hl];rfl
theorem Pk {n m:Nat}(h:n≤m) {t a:LC}(e:HS E n t=some a):HS E m t=some a:=by
 induction h with
 | refl=>exact e
 | step _ ih=>exact OM _ ih
def vW (E:List B5) (n:Nat):Prop:=∀s t a s',DK E Bp n s t= .ok (a,s')→∃m,HS E m (tr t)=some (tr a)
theorem de {l:List Tm}{i:Nat}(h:i<l.length):(l.map tr).getD i default=tr (l.getD i default):=by
 rw[List.getD_eq_getElem?_getD,List.getD_eq_getElem?_getD,List.getElem?_map,List.getElem?_eq_getElem h];rfl
theorem ja {n:Nat}(ih:vW E n):∀(f:Nat) (t:ES) (vars:List Tm) (l:Tm) (s:Int) r s',(∀v∈vars,okB v=true)→Dp E Bp (DK E Bp n) f t vars l s= .ok (r,s')→∃m,El E (HS E m) m t (vars.map tr)=some (r.1.map fun q=>(q.1,q.2.map tr))
 | 0,t,vars,l,s,r,s',hv,e=>by cases e
 | f+1,t,vars,l,s,r,s',hv,e=>by
  rw[Dp] at e;by_cases h1:t.kind=1
  ·rw[if_pos h1] at e;by_cases hb:t.var<0∨t.var≥(vars.length:Int)
   ·rw[if_pos (by rcases hb with h | h<;>simp[h])] at e;injection e with e;injection e with e;subst e;exact⟨1,by rw[El,if_pos h1,if_pos (by rw[List.length_map];exact hb)];rfl⟩
   rw[if_neg (by simp only[not_or] at hb ⊢;exact⟨hb.1,hb.2,by simp[Bp]⟩)] at e;obtain⟨⟨q,s1⟩,hq,hok,e⟩:=H7 e;obtain⟨m,hm⟩:=ih _ _ _ _ hq;have key:∀m',m≤m'→El E (HS E m') (m'+1) t (vars.map tr)=(match Fc E (tr q) with
    | none=>some none
    | some (d,j,fields)=>match Ca (Df d j).name t.branches with
     | none=>some none
     | some t'=>El E (HS E m') m' t' (vars.map tr++fields)):=fun m' hm'=>by
    rw[El,if_pos h1,if_neg (by rw[List.length_map];exact hb),de An,Pk hm' hm,Option.bind_some]
    try rfl
   rw[V0 hok] at key;have fin:∀{m'},m≤m'→∀{x},El E (HS E m') (m'+1) t (vars.map tr)=some x→∃m,El E (HS E m) m t (vars.map tr)=some x:=fun _ _ h=>⟨_,OR (fun _ _=>OM _) _ (Nat.le_refl _) _ _ _ h⟩;simp only at e;split at e
   ·rename_i hc;injection e with e;injection e with e;subst e;rw[hc] at key;exact fin (Nat.le_refl m) (key m (Nat.le_refl m))
   rename_i d j fl hc;rw[hc] at key;simp only[Option.map_some] at key;split at e
   ·rename_i hbr;injection e with e;injection e with e;subst e;rw[hbr] at key;exact fin (Nat.le_refl m) (key m (Nat.le_refl m))
   rename_i t' hbr;rw[hbr] at key;simp only at key;obtain⟨k,hk⟩:=ja ih f t' _ _ _ _ _ (fun v hv'=>by
    rcases List.mem_append.1 hv' with h | h
    ·exact hv v h
    exact((GL hc hok).1 v h).1) e
   rw[List.map_append] at hk;refine fin (Nat.le_max_left m k) (x:=r.1.map fun q=>(q.1,q.2.map tr)) ?_;rw[key _ (Nat.le_max_left m k)];exact OR (fun _ _=>Pk (Nat.le_max_right m k)) _ (Nat.le_max_right m k) _ _ _ hk
  rw[if_neg h1] at e;injection e with e;injection e with e;subst e;exact⟨1,by rw[El,if_neg h1];rfl⟩
theorem ma {n:Nat}(ih:vW E n) (ha:∀x∈a,okB x=true) (e:ED E Bp (DK E Bp n) n h a s= .ok (r,s')) (hn:∀x,Gf E h=some x→x.kind=5→0≤CB (Bo E x.decl)):∃m,Hl E (HS E m) m h.name h.levels (a.map tr)=some (r.map tr):=by
 unfold ED at e;have eu:ej E h.name h.levels=Gf E h:=rfl;unfold Hl;rw[eu];cases hu:Gf E h with
 | none =>
  rw[hu] at e;injection e with e;injection e with e;subst e;exact⟨0,O⟩
 | some x =>
  rw[hu] at e;simp only at e ⊢;by_cases k1:x.kind=1
  ·rw[if_pos k1] at e;refine⟨0,?_⟩;rw[if_pos k1,cX e]
  rw[if_neg k1] at e;by_cases k5:x.kind=5
  ·rw[if_pos k5] at e;simp only[if_neg k1,if_pos k5,List.length_map];unfold Qx at e;have:=hn x hu k5;split at e
   ·rename_i hl;injection e with e;injection e with e;subst e;exact⟨0,by rw[if_pos hl];rfl⟩
   rename_i hl;obtain⟨⟨q,s1⟩,hq,hok,e⟩:=H7 e;obtain⟨m,hm⟩:=ih _ _ _ _ hq;refine⟨m,?_⟩;rw[if_neg hl,de An,hm,Option.bind_some,iO hok e]
  rw[if_neg k5] at e;by_cases k6:x.kind=6
  ·rw[if_pos k6] at e;simp only[if_neg k1,if_neg k5,if_pos k6,List.length_map];unfold I0 at e;split at e
   ·rename_i hl;injection e with e;injection e with e;subst e;exact⟨0,by rw[if_pos hl];rfl⟩
   rename_i hl;obtain⟨⟨q,s1⟩,hq,e⟩:=G6 e;obtain⟨m,hm⟩:=ja ih _ _ _ _ _ _ _ (fun v hv=>ha v (List.mem_of_mem_take hv)) hq;refine⟨m,?_⟩;rw[if_neg hl,←List.map_take,hm,Option.bind_some];simp only at e;split at e
   ·rename_i hq1;injection e with e;injection e with e;subst e;rw[hq1];rfl
   rename_i b vs hq1;rw[hq1];rw[if_neg (by simp[Bp])] at e;rw[gF e];simp only[Option.map_some,Option.bind_some,List.map_drop]
  rw[if_neg k6] at e;injection e with e;injection e with e;subst e;exact⟨0,by rw[if_neg k1,if_neg k5,if_neg k6];rfl⟩
theorem aX (hc:I9 E) {x:Fq}(hu:Gf E h=some x) (k5:x.kind=5):0≤CB (Bo E x.decl):=by
 have:=hc.fx h.name h.levels x hu k5;unfold CB Gt;omega
theorem Y2 (hc:I9 E):∀n,vW E n
 | 0=>fun s t a s' e=>by cases e
 | n+1=>fun s t a s' e=>by
  have ns:DK E Bp (n+1) s t≠ .stuck:=by rw[e];intro e;cases e
  have ho:=VO rfl ns;obtain⟨h1,h2,h3,h4⟩:=TI ho;have hov:Bp.over s=false:=rfl;have hmn:Bp.many (A8 t).2.length=false:=by
   cases hm:Bp.many (A8 t).2.length with
   | false=>rfl
   | true=>rw[Vn ho hov hm] at e;cases e
  have up:∀{m x},HS E (m+1) (apps (tr (A8 t).1) ((A8 t).2.map tr))=some x→∃m,HS E m (tr t)=some x:=fun h=>⟨_,by rw[h1];exact h⟩;have idle:NQ (tr (A8 t).1) ((A8 t).2.map tr)→DK E Bp (n+1) s t= .ok (t,s)→∃m,HS E m (tr t)=some (tr a):=fun hi e'=>by
   rw[e'] at e;injection e with e;injection e with e;subst e;rw[h1];exact⟨1,HY 0 hi⟩
  by_cases k5:(A8 t).1.kind=5
  ·by_cases hl:(A8 t).2.length=0
   ·refine idle (OQ h3 h2 An (.inr (by rw[List.length_eq_zero_iff.1 hl];rfl)) An An An) (My ho hov hmn k5 hl)
   obtain⟨A,b,hb,hob,et⟩:=sT h3 k5;rw[QC ho hov hmn k5 hl hb] at e;obtain⟨_,e2,e⟩:=Ve e;obtain⟨m,hm⟩:=Y2 hc n _ _ _ _ e;refine up (m:=m) ?_;cases hx:(A8 t).2 with
   | nil=>rw[hx] at hl;exact absurd rfl hl
   | cons x xs =>
    rw[hx] at hm e2 h4;rw[et,List.map_cons,RP];rw[Ea,show (x::xs).take 1=[x] from rfl,show (x::xs).drop 1=xs from rfl] at hm;rw[OD hob (fun v hv=>by rw[List.mem_singleton.1 hv];exact h4 x Ao) Ao (show (CD b [x] 0).2=0 from e2)] at hm;exact hm
  by_cases k11:(A8 t).1.kind=11
  ·obtain⟨A,v,b,hv,hb,ov,ob,et⟩:=nX h3 k11;rw[PQ ho hov hmn k11 hv hb] at e;obtain⟨_,e2,e⟩:=Ve e;obtain⟨m,hm⟩:=Y2 hc n _ _ _ _ e;refine up (m:=m) ?_;rw[et,br];rw[Ea,OD ob (fun u hu=>by rw[List.mem_singleton.1 hu];exact ov) Ao e2] at hm;exact hm
  by_cases k9:(A8 t).1.kind=9∨(A8 t).1.kind=10
  ·obtain⟨p,hp,op,et⟩:=r6 h3 k9;rw[Ml ho hov hmn k9 hp] at e;obtain⟨⟨q,s1⟩,hq,hok,e⟩:=H7 e;obtain⟨m,hm⟩:=Y2 hc n _ _ _ _ hq;by_cases k8:q.kind=8
   ·obtain⟨d,x,y,hx,hy,_,_,eq⟩:=rV hok k8;obtain⟨z,hz,ez⟩:∃z,q.kids[(1+(A8 t).1.kind - 9).toNat]?=some z∧tr z=(if (A8 t).1.kind=9 then tr x else tr y):=by
     rcases k9 with k | k
     ·rw[k];exact⟨x,hx,rfl⟩
     rw[k];exact⟨y,hy,rfl⟩
    rw[L5 k8 hz] at e;obtain⟨_,_,e⟩:=Ve e;obtain⟨m2,hm2⟩:=Y2 hc n _ _ _ _ e;refine up (m:=max m m2) ?_;rw[et,P4,Pk (Nat.le_max_left m m2) hm,Option.bind_some,eq];simp only[Ea,ez] at hm2;exact Pk (Nat.le_max_right m m2) hm2
   rw[KV k8] at e;injection e with e;injection e with e;subst e;refine up (m:=m) ?_;rw[et,P4,hm,Option.bind_some,Ea];have:=fJ hok k8;have e2:eB (E:=E) m (A8 t).1.kind ((A8 t).2.map tr) (tr q)=some (apps (.prj (A8 t).1.kind (tr q)) ((A8 t).2.map tr)):=by
    generalize tr q=w at this;cases w<;>first | rfl | exact absurd rfl (this _ _ _)
   rw[e2];rfl
  by_cases k3:(A8 t).1.kind=3
  ·rw[Jq ho hov hmn k3] at e;obtain⟨⟨q,s1⟩,hq,e⟩:=G6 e;obtain⟨m,hm⟩:=ma (Y2 hc n) h4 hq fun x hu k=>aX hc hu k;cases q with
   | none =>
    simp only[YZ] at e;injection e with e;injection e with e;subst e;refine up (m:=m) ?_;rw[ZL h3 k3,Nn,hm];simp only[Option.map_none,Option.bind_some,td];rw[h1,ZL h3 k3]
   | some x =>
    obtain⟨m2,hm2⟩:=Y2 hc n _ _ _ _ e;refine up (m:=max m m2) ?_;rw[ZL h3 k3,Nn,iZ (fun _ _=>Pk (Nat.le_max_left m m2)) (Nat.le_max_left m m2) hm];exact Pk (Nat.le_max_right m m2) hm2
  exact idle (OQ h3 h2 k3 (.inl k5) An An k11) (Tw ho hov hmn k5 k11 An An k3)
end
section
variable {E:List B5}
theorem HU.apps:∀(xs:List LC) {f f':LC},HU E f f'→HU E (LC.apps f xs) (LC.apps f' xs)
 | [],f,f',h=>h
 | x::xs,f,f',h=>HU.apps xs (.appL x h)
theorem HU.set:∀(xs:List LC) (i:Nat) (f y:LC),i<xs.length→HU E (xs.getD i default) y→HU E (LC.apps f xs) (LC.apps f (xs.set i y))
 | [],i,f,y,hi,h=>absurd hi Ao
 | x::xs,0,f,y,hi,h=>HU.apps xs (.appR f h)
 | x::xs,i+1,f,y,hi,h=>HU.set xs i (.app f x) y (by simpa using hi) h
def SS (a t:LC):Prop:=a=t∨∃k p q xs,t=apps (.prj k p) xs∧a=apps (.prj k q) xs
theorem aP {a t:LC}(h:SS a t) (e:Fc E t=none):Fc E a=none:=by
 rcases h with rfl | ⟨k,p,q,xs,rfl,rfl⟩
 ·exact e
 unfold Fc;rw[Gh _ rfl]
theorem kK {a t:LC}(h:SS a t) (e:∀d x y,t≠ .pair d x y):∀d x y,a≠ .pair d x y:=by
 rcases h with rfl | ⟨k,p,q,xs,rfl,rfl⟩
 ·exact e
 intro d x y e2;have:=(Jf rfl rfl (e2.trans (show _=apps (.pair d x y) [] from rfl))).1;cases this
def wi (E:List B5) (t:Tm):Prop:=∀m w,HS E m (tr t)=some w→SS w (tr t)
def wv (E:List B5) (t:Tm):Option Tm→Prop
 | some x=>HU E (tr t) (tr x)
 | none=>wi E t
def uU (E:List B5) (n:Nat):Prop:=∀s t r s',Dl E Bp n s t= .ok (r,s')→match r with
 | some x=>HU E (tr t) (tr x)
 | none=>wi E t
theorem jF {v x:Tm}(hr:HU E (tr v) (tr x)):∀(ps:List Int) (y z:Tm),PO y ps v→okB y=true→HR y ps x=some z→HU E (tr y) (tr z)
 | [],y,z,h,ho,e=>by rw[HR] at e;injection e with e;subst e;rw[show y=v from h];exact hr
 | p::ps,y,z,⟨u,h1,h2⟩,ho,e=>by
  rw[HR,h1] at e;simp only at e;obtain⟨w,hw,e⟩:=Option.map_eq_some_iff.1 e;subst e;obtain⟨g1,g2,g3,g4⟩:=TI ho;have hlt:=(List.getElem?_eq_some_iff.1 h1).1;have:=jF hr ps u w h2 (g4 u (List.mem_of_getElem? h1)) hw;rw[g1,Ea,List.map_set];refine HU.set _ _ _ _ (by rw[List.length_map];exact hlt) ?_;rw[de hlt,B6 h1];exact this
theorem nT {h:Tm}{a:List Tm}{i:Nat}{y v:Tm}(hv:a[i]?=some v) (hr:HU E (tr v) (tr y)):HU E (apps (tr h) (a.map tr)) (tr (apply h (a.set i y))):=by
 have hlt:=(List.getElem?_eq_some_iff.1 hv).1;rw[Ea,List.map_set];refine HU.set _ _ _ _ (by rw[List.length_map];exact hlt) ?_;rw[de hlt,B6 hv];exact hr
theorem nF (hc:I9 E) {n:Nat}(ih:uU E n) {h:Tm}{ar:Int}{a:List Tm}(ha:∀x∈a,okB x=true):∀(f:Nat) (t:ES) (vars:List Tm) (pl:List (Int×List Int)) (s:Int) (r:Option Tm) (s':Int),(∀v∈vars,okB v=true)→Yr a vars pl→Ix E Bp (Dl E Bp n) h ar a f t vars pl s= .ok (r,s') →
  match r with
  | some x=>(∃k q,El E some k t (vars.map tr)=some (some q)∧QO h.levels q.1 q.2 ((a.drop ar.toNat).map tr)=some (tr x))∨HU E (apps (tr h) (a.map tr)) (tr x)
  | none=>∀m k q,El E (HS E m) k t (vars.map tr)=some (some q)→QO h.levels q.1 q.2 ((a.drop ar.toNat).map tr)=none
 | 0,t,vars,pl,s,r,s',hv,hp,e=>by cases e
 | f+1,t,vars,pl,s,r,s',hv,hp,e=>by
  rw[Ix] at e;by_cases h1:t.kind=1
  ·rw[if_pos h1] at e;by_cases hb:t.var<0∨t.var≥(vars.length:Int)
   ·rw[if_pos hb] at e;injection e with e;injection e with e;subst e;intro m k q hk;cases k with
    | zero=>cases hk
    | succ k=>rw[El,if_pos h1,if_pos (by rw[List.length_map];exact hb)] at hk;cases hk
   rw[if_neg hb] at e;have hlt:t.var.toNat<vars.length:=by omega
   have hat:vars[t.var.toNat]?=some vars[t.var.toNat]:=List.getElem?_eq_getElem hlt;have hov:=hv _ (List.getElem_mem hlt);have eL:∀(W:LC→Option LC) k,El E W (k+1) t (vars.map tr)=(W (tr vars[t.var.toNat])).bind fun q=>match Fc E q with
    | none=>some none
    | some (d,j,fields)=>match Ca (Df d j).name t.branches with
     | none=>some none
     | some t'=>El E W k t' (vars.map tr++fields):=fun W k=>by
    rw[El,if_pos h1,if_neg (by rw[List.length_map];exact hb),de hlt,B6 hat]
    try rfl
   rw[B6 hat] at e;obtain⟨j,path,y,p1,p2,p3⟩:=hp.at_ _ _ hat;rw[B6 p1] at e;simp only at e;have hcl:=V0 (E:=E) hov;split at e
   ·rename_i hcn;rw[hcn] at hcl;obtain⟨⟨r1,s1⟩,hr1,e⟩:=G6 e;have ih1:=ih _ _ _ _ hr1;cases r1 with
    | none =>
     simp only at e ih1;injection e with e;injection e with e;subst e;intro m k q hk;cases k with
     | zero=>cases hk
     | succ k =>
      rw[eL] at hk;obtain⟨w,hw,hk⟩:=Option.bind_eq_some_iff.1 hk;rw[aP (ih1 _ _ hw) hcl] at hk;cases hk
    | some x =>
     simp only at e ih1;rw[B6 p2] at e;split at e
     ·cases e
     rename_i z hz;injection e with e;injection e with e;subst e;exact .inr (nT p2 (jF ih1 path y z p3 (ha y (List.mem_of_getElem? p2)) hz))
   rename_i d j' fl hcs;rw[hcs] at hcl;simp only[Option.map_some] at hcl;have hcf:=Eo hcs;split at e
   ·rename_i hbr;injection e with e;injection e with e;subst e;intro m k q hk;cases k with
    | zero=>cases hk
    | succ k =>
     rw[eL] at hk;obtain⟨w,hw,hk⟩:=Option.bind_eq_some_iff.1 hk;rw[Sb hcl hw,hcl] at hk;simp only[hbr] at hk;cases hk
   rename_i t' hbr;have hfx:0≤d.fixed:=by
    obtain⟨_,nm,_,_,_,g,_⟩:=Ke hcl;exact hc.fam nm d j' g
   have hfs:=hcf.fs;have hp':=hp.more hat p1 hfx;rw[←hfs] at hp';have key:=nF hc ih ha f t' (vars++fl) _ s r s' (fun v hv'=>by
    rcases List.mem_append.1 hv' with h | h
    ·exact hv v h
    exact((GL hcs hov).1 v h).1) hp' e
   rw[List.map_append] at key;cases r with
   | some x =>
    simp only at key ⊢;rcases key with ⟨k,q,k1,k2⟩ | key
    ·refine .inl ⟨k+1,q,?_,k2⟩;rw[eL,Option.bind_some,hcl];simp only[hbr];exact k1
    ·exact .inr key
   | none =>
    simp only at key ⊢;intro m k q hk;cases k with
    | zero=>cases hk
    | succ k =>
     rw[eL] at hk;obtain⟨w,hw,hk⟩:=Option.bind_eq_some_iff.1 hk;rw[Sb hcl hw,hcl] at hk;simp only[hbr] at hk;exact key m k q hk
  rw[if_neg h1] at e;have:=gF e;cases r with
  | some x=>exact .inl ⟨1,(t.body,vars.map tr),by rw[El,if_neg h1],this.symm⟩
  | none =>
   intro m k q hk;cases k with
   | zero=>cases hk
   | succ k =>
    rw[El,if_neg h1] at hk;injection hk with hk;injection hk with hk;subst hk;exact this.symm
theorem r9 (hc:I9 E) {n:Nat}(ih:uU E n) {h:Tm}{a:List Tm}(h3:tr h= .atom 3 h.index h.name h.levels) (ha:∀x∈a,okB x=true) {s s':Int}{r:Option Tm}(e:Js E Bp n h a s= .ok (r,s')):match r with
  | some x=>HU E (apps (tr h) (a.map tr)) (tr x)
  | none=>∀m k c,Hl E (HS E m) k h.name h.levels (a.map tr)=some c→c=none:=by
 unfold Js at e;have eu:ej E h.name h.levels=Gf E h:=rfl;have lit:∀{x} k,Hl E some k h.name h.levels (a.map tr)=some (some (tr x))→HU E (apps (tr h) (a.map tr)) (tr x):=fun k hk=>by rw[h3];exact .con _ _ _ _ k _ hk
 unfold Hl at lit ⊢;rw[eu] at lit ⊢;cases hu:Gf E h with
 | none =>
  rw[hu] at e;injection e with e;injection e with e;subst e;intro m k c hk;injection hk with hk;exact hk.symm
 | some x =>
  rw[hu] at e lit;simp only[List.length_map] at e lit ⊢;by_cases k1:x.kind=1
  ·simp only[if_pos k1] at e lit ⊢;have:=cX e;cases r with
   | some y=>exact lit 0 (by rw[←this];rfl)
   | none=>intro m k c hk;rw[←this] at hk;injection hk with hk;exact hk.symm
  simp only[if_neg k1] at e lit ⊢;by_cases k5:x.kind=5
  ·have nn:=aX hc hu k5;simp only[if_pos k5] at lit ⊢;by_cases hl:(a.length:Int)≤CB (Bo E x.decl)
   ·rw[if_neg An,if_neg An] at e;injection e with e;injection e with e;subst e;intro m k c hk;rw[if_pos hl] at hk;injection hk with hk;exact hk.symm
   rw[if_pos ⟨k5,by omega⟩] at e;have hlt:(CB (Bo E x.decl)).toNat<a.length:=by omega
   have hat:a[(CB (Bo E x.decl)).toNat]?=some a[(CB (Bo E x.decl)).toNat]:=List.getElem?_eq_getElem hlt;have hov:=ha _ (List.getElem_mem hlt);have hcl:=V0 (E:=E) hov;simp only[if_neg hl,de hlt] at lit ⊢;rw[B6 hat] at e;simp only[B6 hat,Option.bind_some] at lit ⊢;split at e
   ·rename_i p hcs;rw[hcs] at hcl;have:=iO hov e;cases r with
    | some y=>exact lit 0 (by rw[←this];rfl)
    | none =>
     intro m k c hk;obtain⟨w,hw,hk⟩:=Option.bind_eq_some_iff.1 hk;rw[Sb hcl hw,←this] at hk;injection hk with hk;exact hk.symm
   rename_i hcn;rw[hcn] at hcl;obtain⟨⟨r1,s1⟩,hr1,e⟩:=G6 e;have ih1:=ih _ _ _ _ hr1;cases r1 with
   | none =>
    injection e with e;injection e with e;subst e;intro m k c hk;obtain⟨w,hw,hk⟩:=Option.bind_eq_some_iff.1 hk;unfold Qk at hk;rw[aP (ih1 _ _ hw) hcl] at hk;injection hk with hk;exact hk.symm
   | some y =>
    injection e with e;injection e with e;subst e;exact nT hat ih1
  simp only[if_neg k5] at lit ⊢;rw[if_neg An] at e;by_cases k6:x.kind=6
  ·simp only[if_pos k6] at lit ⊢;by_cases hl:(a.length:Int)<(EX (Bo E x.decl) x.item).arity
   ·rw[if_neg An] at e;injection e with e;injection e with e;subst e;intro m k c hk;rw[if_pos hl] at hk;injection hk with hk;exact hk.symm
   rw[if_pos ⟨k6,by omega⟩] at e;have key:=nF hc ih ha n _ _ _ s r s' (fun v hv=>ha v (List.mem_of_mem_take hv)) (P8 a _ An) e;simp only[if_neg hl,←List.map_take,←List.map_drop] at lit ⊢;cases r with
   | some y =>
    rcases key with ⟨k,q,k1,k2⟩ | key
    ·refine lit k ?_;rw[k1,Option.bind_some,Option.bind_some,k2]
    ·exact key
   | none =>
    intro m k c hk;obtain⟨q,hq,hk⟩:=Option.bind_eq_some_iff.1 hk;injection hk with hk;subst hk;cases q with
    | none=>rfl
    | some q=>exact key m k q hq
  rw[if_neg An] at e;injection e with e;injection e with e;subst e;intro m k c hk;rw[if_neg k6] at hk;injection hk with hk;exact hk.symm
theorem cJ (hc:I9 E):∀n,uU E n
 | 0=>fun s t r s' e=>by cases e
 | n+1=>fun s t r s' e=>by
  have ho:=aG rfl (show Dl E Bp (n+1) s t≠ .stuck by rw[e];intro e;cases e);obtain⟨h1,h2,h3,h4⟩:=TI ho;have idle:NQ (tr (A8 t).1) ((A8 t).2.map tr)→Dl E Bp (n+1) s t= .ok (none,s)→wv E t r:=fun hi e'=>by
   rw[e'] at e;injection e with e;injection e with e;subst e;intro m w hw;cases m with
   | zero=>cases hw
   | succ m=>rw[h1,HY m hi] at hw;injection hw with hw;subst hw;rw[h1];exact .inl rfl
  by_cases k5:(A8 t).1.kind=5
  ·by_cases hl:(A8 t).2.length=0
   ·exact idle (OQ h3 h2 An (.inr (by rw[List.length_eq_zero_iff.1 hl];rfl)) An An An) (X0 ho k5 hl)
   obtain⟨A,b,hb,hob,et⟩:=sT h3 k5;rw[bS ho k5 hl hb] at e;obtain⟨_,e2,e⟩:=Ve e;injection e with e;injection e with e;subst e;simp only;cases hx:(A8 t).2 with
   | nil=>rw[hx] at hl;exact absurd rfl hl
   | cons x xs =>
    rw[hx] at e2 h4 h1;rw[h1,et,Ea,show (x::xs).take 1=[x] from rfl,show (x::xs).drop 1=xs from rfl,List.map_cons];rw[OD hob (fun v hv=>by rw[List.mem_singleton.1 hv];exact h4 x Ao) Ao (show (CD b [x] 0).2=0 from e2)];exact HU.apps _ (.beta A (tr b) (tr x))
  by_cases k11:(A8 t).1.kind=11
  ·obtain⟨A,v,b,hv,hb,ov,ob,et⟩:=nX h3 k11;rw[cE ho k11 hv hb] at e;obtain⟨_,e2,e⟩:=Ve e;injection e with e;injection e with e;subst e;simp only;rw[h1,et,Ea,OD ob (fun u hu=>by rw[List.mem_singleton.1 hu];exact ov) Ao e2];exact HU.apps _ (.zeta A (tr v) (tr b))
  by_cases k9:(A8 t).1.kind=9∨(A8 t).1.kind=10
  ·obtain⟨p,hp,op,et⟩:=r6 h3 k9;by_cases k8:p.kind=8
   ·obtain⟨d,x,y,hx,hy,_,_,eq⟩:=rV op k8;obtain⟨z,hz,ez⟩:∃z,p.kids[(1+(A8 t).1.kind - 9).toNat]?=some z∧tr z=(if (A8 t).1.kind=9 then tr x else tr y):=by
     rcases k9 with k | k
     ·rw[k];exact⟨x,hx,rfl⟩
     rw[k];exact⟨y,hy,rfl⟩
    rw[X2 ho k9 hp k8 hz] at e;obtain⟨_,_,e⟩:=Ve e;injection e with e;injection e with e;subst e;simp only;rw[h1,et,eq,Ea,ez];exact HU.apps _ (.proj _ d (tr x) (tr y))
   rw[Wo ho k9 hp k8] at e;obtain⟨⟨r1,s1⟩,hr1,e⟩:=G6 e;have ih1:=cJ hc n _ _ _ _ hr1;cases r1 with
   | some x =>
    simp only[kB] at e;injection e with e;injection e with e;subst e;simp only;rw[h1,et,Ea];exact HU.apps _ (.prjC _ ih1)
   | none =>
    simp only[kB] at e;injection e with e;injection e with e;subst e;intro m w hw;cases m with
    | zero=>cases hw
    | succ m =>
     rw[h1,et,P4] at hw;obtain⟨q,hq,hw⟩:=Option.bind_eq_some_iff.1 hw;have:=kK (ih1 _ _ hq) (fJ op k8);have e2:eB (E:=E) m (A8 t).1.kind ((A8 t).2.map tr) q=some (apps (.prj (A8 t).1.kind q) ((A8 t).2.map tr)):=by
      cases q<;>first | rfl | exact absurd rfl (this _ _ _)
     rw[e2] at hw;injection hw with hw;rw[h1,et];exact .inr ⟨_,_,_,_,O,hw.symm⟩
  by_cases k3:(A8 t).1.kind=3
  ·rw[UI ho k3] at e;have key:=r9 hc (cJ hc n) (ZL h3 k3) h4 e;cases r with
   | some x=>simp only at key ⊢;rw[h1];exact key
   | none =>
    intro m w hw;cases m with
    | zero=>cases hw
    | succ m =>
     rw[h1,ZL h3 k3,Nn] at hw;obtain⟨c,hcc,hw⟩:=Option.bind_eq_some_iff.1 hw;rw[key m m c hcc] at hw;injection hw with hw;subst hw;rw[h1,ZL h3 k3];exact .inl O
  exact idle (OQ h3 h2 k3 (.inl k5) An An k11) (fP ho k5 k11 An An k3)
end
def uL:LC→Int×Int×ByteArray
 | .var n=>(0,n,⟨#[]⟩)
 | .atom k i nm _=>(k,i,nm)
 | .bnd k _ _=>(k,0,⟨#[]⟩)
 | .prj k _=>(k,0,⟨#[]⟩)
 | .pair ..=>(8,0,⟨#[]⟩)
 | .lt ..=>(11,0,⟨#[]⟩)
 | .app ..=>(4,0,⟨#[]⟩)
def shp (t:LC):(Int×Int×ByteArray)×Nat:=(uL (Q1 t).1,(Q1 t).2.length)
theorem Rg {h:LC}(hh:isApp h=false) (xs:List LC):shp (apps h xs)=(uL h,xs.length):=by unfold shp;rw[Gh _ hh]
theorem SH.shp {E:List B5}{a b:LC}(h:SH E a b):shp a=shp b:=by
 obtain⟨h1,x1,h2,x2,r,l,rfl,rfl⟩:=h;rw[Rg r.app1.1,Rg r.app1.2,l.len];cases r<;>rfl
theorem SS.shp {a t:LC}(h:SS a t):shp a=shp t:=by
 rcases h with rfl | ⟨k,p,q,xs,rfl,rfl⟩
 ·rfl
 rw[Rg rfl,Rg rfl];rfl
theorem oA {n:ByteArray}(h:n.size=0):n=⟨#[]⟩:=by
 obtain⟨d⟩:=n;have:d=#[]:=Array.eq_empty_of_size_eq_zero h;rw[this]
theorem oI {h:Tm}(ho:okB h=true):uL (tr h)=(h.kind,h.index,h.name):=by
 have o:=B2.1 ho;obtain⟨k,i,n,l,ks⟩:=h;have hw:=o.wt;have hv:=o.vp;have hci:=o.ci;simp only[Wt] at hw;simp only[Vp] at hv;have hc:(k≠0→k≠12→i=0)∧(k≠3→n=⟨#[]⟩):=by
  have:=hci.1;simp only[tc,Bool.and_eq_true,Bool.or_eq_true,decide_eq_true_eq] at this;exact⟨fun h0 h1=>by omega,fun h3=>oA An⟩
 have hb:k≠0→k≠12→k≠3→(k,(0:Int),(⟨#[]⟩:ByteArray))=(k,i,n):=fun h0 h12 h3=>by rw[hc.1 h0 h12,hc.2 h3]
 simp only[Tm.kind,Tm.index,Tm.name]
 match ks,hw.1 with
 | [],_ =>
  simp only[tr];split
  ·rename_i h0;subst h0;have:=hv.1 rfl;simp only[uL,hc.2 Am];rw[show ((i.toNat:Nat):Int)=i by omega]
  ·rfl
 | [a],hl=>have:=uQ hl;exact hb An An An
 | [a,b],hl =>
  have h2:=wc hl;simp only[tr];split
  ·rename_i h4;subst h4;exact hb An An An
  ·exact hb An An An
 | [a,b,c],hl =>
  have h3:=ux hl;simp only[tr];split
  ·rename_i h4;subst h4;exact hb An An An
  ·rename_i h4;have:k=8:=by omega
   subst this;exact hb An An An
 | a::b::c::d::l,hl=>have:=YL k;simp only[List.length_cons] at hl;omega
theorem gu {t:Tm}(ho:okB t=true):shp (tr t)=(((A8 t).1.kind,(A8 t).1.index,(A8 t).1.name),(A8 t).2.length):=by
 obtain⟨h1,h2,h3,_⟩:=TI ho;rw[h1,Rg h2,oI h3,List.length_map]
section
variable (E:List B5) (t:Tm)
def X7:Nat→Tm
 | 0=>t
 | i+1=>(JQ (Dl E Bp FN 20000 (X7 i))).1
structure YB (x:Tm):Prop where
 ok:okB x=true
 sz:size x≤10000
 rs:Rs E (tr t) (tr x)
end
section
variable {E:List B5}{t x:Tm}
theorem YB.zero (ho:okB t=true) (hs:size t≤60):YB E t t:=⟨ho,by omega,.refl _⟩
theorem YB.next (hE:Gi E) (hc:I9 E) (h:YB E t x) (h0:(JQ (Dl E Bp FN 20000 x)).2.1=true):YB E t (JQ (Dl E Bp FN 20000 x)).1:=by
 have hp:=Vd hE h.ok h.sz;cases e:Dl E Bp FN 20000 x with
 | stuck=>rw[e] at h0;cases h0
 | fail=>rw[e] at h0;cases h0
 | ok r =>
  obtain⟨q,s⟩:=r;cases q with
  | none=>rw[e] at h0;cases h0
  | some y =>
   rw[e] at h0 hp;simp only[JQ] at h0 ⊢;split at h0
   ·rename_i hf;rw[if_pos hf];have hy:=(hp.get rfl).ok y rfl;have hf2:(size y:Int)≤4096:=by
     simp only[ZG,Bool.not_eq_true',Bool.or_eq_false_iff,decide_eq_false_iff_not] at hf;omega
    exact⟨hy.1,by simp only;omega,h.rs.trans (.one (cJ hc FN _ _ _ _ e))⟩
   cases h0
theorem YB.last (hc:I9 E) (h:YB E t x) (h0:(JQ (Dl E Bp FN 20000 x)).2.1=false) (h1:(JQ (Dl E Bp FN 20000 x)).2.2=0) {a:Tm}(ha:okB a=true) (hw:Ov (DK E Bp FN 20000 t)=0) (hv:Me Bh (DK E Bp FN 20000 t)=a) :
  (A8 a).1.kind=(A8 x).1.kind∧(A8 a).1.index=(A8 x).1.index∧(A8 a).1.name=(A8 x).1.name∧(A8 a).2.length=(A8 x).2.length:=by
 obtain⟨s1,e1⟩:∃s',Dl E Bp FN 20000 x= .ok (none,s'):=by
  cases e:Dl E Bp FN 20000 x with
  | stuck=>rw[e] at h1;cases h1
  | fail=>rw[e] at h1;cases h1
  | ok r =>
   obtain⟨q,s⟩:=r;cases q with
   | none=>exact⟨s,rfl⟩
   | some y =>
    rw[e] at h0 h1;simp only[JQ] at h0 h1;split at h0
    ·cases h0
    rename_i hf;rw[if_neg hf] at h1;cases h1
 obtain⟨s2,e2⟩:∃s',DK E Bp FN 20000 t= .ok (a,s'):=by
  cases e:DK E Bp FN 20000 t with
  | stuck=>rw[e] at hw;cases hw
  | fail=>rw[e] at hw;cases hw
  | ok r =>
   obtain⟨q,s⟩:=r;rw[e] at hv;exact⟨s,by rw[show q=a from hv]⟩
 obtain⟨m,hm⟩:=Y2 hc FN _ _ _ _ e2;obtain⟨a',hm',sh⟩:=gA hc m _ _ _ h.rs hm;have hno:=cJ hc FN _ _ _ _ e1 m a' hm';have:=sh.shp.trans (SS.shp hno);rw[gu ha,gu h.ok] at this;simp only[Prod.mk.injEq] at this;exact⟨this.1.1,this.1.2.1,this.1.2.2,this.2⟩
end
theorem si (ps:List CS) {V m:Int}{t:Tm}(hw:Wt t):Vp t→∀(d er:Int),0≤d→0≤V→wf V m d t→cl (V+d).toNat (tr (Fx ps er t).1):=by
 refine KP (P:=fun t=>Vp t→∀(d er:Int),0≤d→0≤V→wf V m d t→cl (V+d).toNat (tr (Fx ps er t).1)) ?_ ?_ ?_ ?_ _ t (Nat.le_refl _) hw
 ·intro k i n l hv d er hd hV h;simp only[Fx,Fe,tr];split
  ·rename_i h0;simp only[wf] at h;have:=h.2.2.2.1 h0;simp only[cl];omega
  trivial
 ·intro k i n l a hk ha hv d er hd hV h;simp only[wf,fA] at h;simp only[Vp,Oh] at hv;simp only[Fx,Fe,tr,cl];have:=ha hv.2.1 _ (EO ps er l).2 (Int.add_nonneg hd (Cf _ _).1) hV h.2.2.2.2.2.1;rw[show below k ((0:Nat):Int)=0 from below_1 hk] at this;simpa using this
 ·intro k i n l a b hk ha hb hv d er hd hV h;simp only[wf,fA] at h;simp only[Vp,Oh] at hv;obtain⟨b0,b1⟩:=below_2 hk;have h1:=ha hv.2.1 _ (EO ps er l).2 (Int.add_nonneg hd (Cf _ _).1) hV h.2.2.2.2.2.1;have h2:=hb hv.2.2.1 _ (Fx ps (EO ps er l).2 a).2 (Int.add_nonneg hd (Cf _ _).1) hV h.2.2.2.2.2.2.1;rw[show below k ((0:Nat):Int)=0 from b0,Int.add_zero] at h1;rw[show below k ((0+1:Nat):Int)=if k=4 then 0 else 1 from b1] at h2;simp only[Fx,Fe,tr];split
  ·rename_i h4;rw[if_pos h4,Int.add_zero] at h2;exact⟨h1,h2⟩
  rename_i h4;rw[if_neg h4,show (V+(d+1)).toNat=(V+d).toNat+1 by omega] at h2;exact⟨h1,h2⟩
 intro k i n l a b c hk ha hb hc hv d er hd hV h;simp only[wf,fA] at h;simp only[Vp,Oh] at hv;obtain⟨b0,b1,b2⟩:=below_3 hk;have h1:=ha hv.2.1 _ (EO ps er l).2 (Int.add_nonneg hd (Cf _ _).1) hV h.2.2.2.2.2.1;have h2:=hb hv.2.2.1 _ (Fx ps (EO ps er l).2 a).2 (Int.add_nonneg hd (Cf _ _).1) hV h.2.2.2.2.2.2.1;have h3:=hc hv.2.2.2.1 _ (Fx ps (Fx ps (EO ps er l).2 a).2 b).2 (Int.add_nonneg hd (Cf _ _).1) hV h.2.2.2.2.2.2.2.1;rw[show below k ((0:Nat):Int)=0 from b0,Int.add_zero] at h1;rw[show below k ((0+1:Nat):Int)=0 from b1,Int.add_zero] at h2;rw[show below k ((0+1+1:Nat):Int)=if k=11 then 1 else 0 from b2] at h3;simp only[Fx,Fe,tr];split
 ·rename_i h4;rw[if_pos h4,show (V+(d+1)).toNat=(V+d).toNat+1 by omega] at h3;exact⟨h1,h2,h3⟩
 rename_i h4;rw[if_neg h4,Int.add_zero] at h3;exact⟨h1,h2,h3⟩
theorem Zk {v:Int}{t:Tm}(ls:List CS) (ho:okB t=true) (hv:0≤v) (h:pj v t) (hl:(BY t ls).2=0):Wt (BY t ls).1∧Vp (BY t ls).1∧cl v.toNat (tr (BY t ls).1):=by
 have o:=B2.1 (JL ls ho);refine⟨o.wt,o.vp,?_⟩;obtain⟨m,h⟩:=h;rw[show max v 0=v by omega] at h;unfold BY at hl ⊢;split
 ·rename_i he;rw[if_pos he] at hl;exact absurd hl he
 have:=si ls (B2.1 ho).wt (B2.1 ho).vp 0 0 An hv h;simpa using this
theorem U1 {nm:ByteArray}:∀{l:List (ByteArray×Fq)}{e:Fq},Cm nm l=some e→(nm,e)∈l
 | (s,x)::l,e,h=>by
  simp only[Cm] at h;split at h
  ·rename_i hs;cases h;subst hs;exact List.mem_cons_self
  exact List.mem_cons_of_mem _ (U1 h)
theorem YC {nm:ByteArray}:∀{ds:List B5}{k:Int}{e:Fq},findF nm ds k=some e→∃(i:Nat) (d:B5),ds[i]?=some d∧(nm,e)∈Ew d (k+i)
 | d::ds,k,e,h=>by
  simp only[findF] at h;split at h
  ·rename_i x hx;cases h;exact⟨0,d,O,by simpa using U1 hx⟩
  obtain⟨i,d',h1,h2⟩:=YC h;refine⟨i+1,d',by simpa using h1,?_⟩;rw[show k+((i+1:Nat):Int)=k+1+i by omega];exact h2
theorem UP {nm:ByteArray}(b:List B5):∀{a:List B5}{k:Int}{e:Fq},findF nm a k=some e→findF nm (a++b) k=some e
 | d::a,k,e,h=>by
  simp only[findF,List.cons_append] at h ⊢;split at h
  ·exact h
  exact UP b h
theorem Y1 {E:List B5}{i:Nat}{nm:ByteArray}(h:(Bb (E.take i) nm).2=0):Bb E nm=Bb (E.take i) nm:=by
 unfold Bb at h ⊢;cases e:findF nm (E.take i) 0 with
 | none=>rw[e] at h;cases h
 | some x =>
  have:=UP (E.drop i) e;rw[List.take_append_drop] at this;rw[this]
theorem YY {i p:Int}{s:ByteArray}{e:Fq}:∀{cs:List IS}{k:Int},(s,e)∈Ho i p cs k→∃(j:Nat) (c:IS),cs[j]?=some c∧e.item=k+j∧e.kind=4∧c.name=s
 | c::cs,k,h=>by
  simp only[Ho,List.mem_cons] at h;rcases h with h | h
  ·cases h;exact⟨0,c,rfl,by simp,rfl,rfl⟩
  obtain⟨j,c',h1,h2,h3⟩:=YY h;exact⟨j+1,c',by simpa using h1,by omega,h3⟩
theorem VT {d:B5}{i:Int}{s:ByteArray}{e:Fq}(h:(s,e)∈Ew d i):(e.kind≤2→d.kind=e.kind)∧(e.kind=4→(Df d e.item).name=s)∧(3≤e.kind→e.kind≤5→d.kind=3)∧(e.kind=6→d.kind=4):=by
 unfold Ew at h;split at h
 ·rename_i hk;simp only[List.mem_singleton,Prod.mk.injEq] at h;obtain⟨_,rfl⟩:=h;exact⟨fun _=>O,fun q=>by simp only at q;omega,fun q=>by simp only at q;omega,fun q=>by simp only at q;omega⟩
 split at h
 ·rename_i h3;simp only[List.mem_cons,List.mem_append,List.mem_singleton,Prod.mk.injEq,List.not_mem_nil,or_false] at h;rcases h with ⟨_,rfl⟩ | h | ⟨_,rfl⟩
  ·exact⟨fun q=>by simp only at q;omega,fun q=>by simp at q,fun _ _=>h3,fun q=>by simp at q⟩
  ·obtain⟨j,c,h1,h2,h4,h5⟩:=YY h;refine⟨fun q=>by omega,fun _=>?_,fun _ _=>h3,fun q=>by omega⟩;unfold Df;rw[B6 (x:=c) (by rw[h2];simpa using h1)];exact h5
  exact⟨fun q=>by simp only at q;omega,fun q=>by simp at q,fun _ _=>h3,fun q=>by simp at q⟩
 split at h
 ·rename_i h4;obtain⟨j,c,h1,rfl⟩:=V5 h;exact⟨fun q=>by simp only at q;omega,fun q=>by simp at q,fun _ q=>by simp only at q;omega,fun _=>h4⟩
 cases h
theorem Mh {E:List B5}{nm:ByteArray}(h:(Bb E nm).2=0):∃(i:Nat) (d:B5),E[i]?=some d∧Xw d i (Bb E nm).1∧Bo E (Bb E nm).1.decl=d∧(nm,(Bb E nm).1)∈Ew d i:=by
 unfold Bb at h ⊢;cases e:findF nm E 0 with
 | none=>rw[e] at h;cases h
 | some x =>
  obtain⟨i,d,h1,h2⟩:=YC e;rw[Int.zero_add] at h2;have:=iN h2;exact⟨i,d,h1,this,B6 (by rw[this.decl];simpa using h1),h2⟩
theorem pL {E:List B5}{nm:ByteArray}{d:B5}{j:Int}(h:D7 E nm=some (d,j)) (h0:0≤j):(Bb E nm).2=0∧(Bb E nm).1.kind=4∧d=Bo E (Bb E nm).1.decl∧j=(Bb E nm).1.item∧(Df d j).name=nm:=by
 unfold D7 at h;split at h
 ·cases h
 rename_i hz;have hz:(Bb E nm).2=0:=Decidable.not_not.1 hz;obtain⟨i,d',h1,h2,h3,h4⟩:=Mh hz;split at h
 ·injection h with h;injection h with e1 e2;omega
 split at h
 ·rename_i hk;injection h with h;injection h with e1 e2;subst e1;subst e2;exact⟨hz,hk,O,O,by rw[h3];exact(VT h4).2.1 hk⟩
 split at h
 ·injection h with h;injection h with e1 e2;omega
 cases h
theorem U6 {nm:ByteArray}:∀{l:List GC}{t:ES},Ca nm l=some t→∃b∈l,b.ctor=nm∧b.absurd=false∧b.tree=t
 | b::l,t,h=>by
  simp only[Ca] at h;split at h
  ·rename_i hn;split at h
   ·cases h
   rename_i ha;injection h with h;exact⟨b,List.mem_cons_self,hn,by simpa using ha,h⟩
  obtain⟨b',h1,h2⟩:=U6 h;exact⟨b',List.mem_cons_of_mem _ h1,h2⟩
theorem YU {E:List B5}{i:Nat}{nm:ByteArray}(h:(Bb (E.take i) nm).2=0):Bo (E.take i) (Bb (E.take i) nm).1.decl=Bo E (Bb (E.take i) nm).1.decl:=by
 obtain⟨j,d,h1,h2,h3,_⟩:=Mh h;rw[h3];have hlt:=(List.getElem?_eq_some_iff.1 h1).1;rw[List.length_take] at hlt;rw[List.getElem?_take_of_lt An] at h1;exact(B6 (by rw[h2.decl];simpa using h1)).symm
theorem kb {E:List B5}{i:Nat}{v:Int}{t:ES}(h:SF (E.take i) v t):EW t→0≤v→dz E v.toNat t:=by
 induction h with
 | leaf hk h=>exact fun ho hv=> .leaf hk fun ls hl=>Zk ls (LD ho) hv h hl
 | @split v t hk h0 h ih =>
  intro ho hv;refine .split hk fun nm d j t' hf hj hb=>?_;obtain⟨f1,f2,f3,f4,f5⟩:=pL hf hj;obtain⟨b,hm,b1,b2,b3⟩:=U6 hb;have e:b.ctor=nm:=b1.trans f5;have hfd:=(h0 b hm b2).1;have hT:=Y1 hfd;have:=ih b hm b2 (by rw[b3];exact(Sx hb ho).1) (by unfold C7;omega);rw[b3,YU hfd,←hT,e,←f3,←f4] at this
  rwa [show (v+C7 d j).toNat=v.toNat+(C7 d j).toNat by unfold C7;omega] at this
theorem mG {E:List B5}(hg:Ju E) (hp:jD E):I9 E:=by
 have us:∀{nm ls x},ej E nm ls=some x→(Bb E nm).2=0∧x=(Bb E nm).1:=fun h=>by
  unfold ej at h;split at h
  ·rename_i hu;injection h with h;exact⟨hu.1,h.symm⟩
  cases h
 refine⟨fun nm ls v h=>?_,fun nm ls x j hu hk h0 hj hl=>?_,fun nm ls x hu hk=>?_,fun nm d j h=>?_,fun nm ls x hu hk=>?_⟩
 ·unfold WT at h;split at h
  ·cases h
  rename_i hn;split at h
  ·cases h
  rename_i hl;injection h with h;subst h;obtain⟨i,d,h1,h2,h3,h4⟩:=Mh (E:=E) (nm:=nm) An;rw[h3] at hl ⊢;have hk:=(VT h4).1 An;obtain⟨o,c⟩:=(hp i d h1).1 An;exact Zk ls o An c An
 ·obtain⟨u1,rfl⟩:=us hu;obtain⟨i,d,h1,h2,h3,h4⟩:=Mh u1;rw[h3] at hj hl ⊢;have hk3:=(VT h4).2.2.1 An An;have hlt:j.toNat<d.recs.rules.length:=by omega
  have hx:=List.getElem?_eq_getElem hlt;have er:Hy d j=d.recs.rules[j.toNat]:=B6 hx;rw[er] at hl ⊢;obtain⟨o,c⟩:=(hp i d h1).2.1 hk3 _ (List.getElem_mem hlt);exact Zk ls o An c hl
 ·obtain⟨u1,rfl⟩:=us hu;obtain⟨i,d,h1,h2,h3,h4⟩:=Mh u1;rw[h3];have hk4:=(VT h4).2.2.2 hk;obtain⟨k,f,g1,g2⟩:=h2.func hk;have ef:EX d (Bb E nm).1.item=f:=B6 (by rw[g2];simpa using g1);rw[ef];have hm:=List.mem_of_getElem? g1;obtain⟨o,c⟩:=(hp i d h1).2.2 hk4 f hm;have:=((hg.all d (List.mem_of_getElem? h1)).fu f hm).1;exact kb c o An
 ·exact(hg.all d (Pu h).1).fx.1
 obtain⟨u1,rfl⟩:=us hu;obtain⟨i,d,h1,h2,h3,h4⟩:=Mh u1;rw[h3];exact(hg.all d (List.mem_of_getElem? h1)).fx.1
end Go.Eu
namespace Go.Abs
section
variable {P:Program}{dst:Option Tmp}{ty:TypeId}{pos:String}{aft:Array Edge}{g:Option (Nat×Bool)}{ρ:Operand→AV}{H:List BK}{x y z:Operand}{v:AV}
end
end Go.Abs
namespace Go.Proofs.YtboammbpdaoojaaGreat
open Go.Abs Go.Eu
theorem XZ:∀(t:Tm),(Nd t)→(size t<100000000)→ET Tryz.prog 26 [.agg ((BP t).map .p)] (.tup [.p (I ((A8 t).1.kind)),.p (I ((A8 t).1.index)),.p (.str ((A8 t).1.name)),.p (I ((A8 t).2.length:Int))]):=by
 intro t h1 h2;refine A5 Tryz.func26 O vA (n:=21) O O (Aw (BF O (BN O) fun b1=>Ar Ay 4 [] O (Aw (Aq O (BU (i:=0) BZ O O Ag) (Aq O (BC O O (Ri _ t (Nat.le_refl _) Ab) O) (Ax Ay 3 [] O (BF O (A7 Bx O) fun b6=>Ar Ay 2 [0,1] O (As (Bt (fun k=>false) Dn (BG O (fun _=>Az HJ O O) Ap ?_))))))))));generalize hz:(A8 t).1=z;obtain⟨zk,zi,zn,zl,zs⟩:=z;refine BR Ay 6 [0,0,0] O (BG O (fun _=>BJ Bf O (BQ _)) Ap (Bk Ay 4 [] O (A1 (⟨O,_,_,⟨_,_,O,O,⟨_,_,O,O,⟨_,_,O,O,⟨_,_,O,O,O⟩⟩⟩⟩,(List.nil_sublist _),?_⟩))))
 all_goals exact⟨rfl,rfl⟩
theorem ZT:∀(ds:List B5) (t:Tm),(Hg ds)→(Wd t)→ET Tryz.prog 8 [.p (.lst (List.map Bi ds)),.agg ((BP t).map .p)] (.p (.bool true)):=by
 intro ds t h1 h2;refine A5 Tryz.func8 O xF (n:=119) O O (Aw (BF O (BN O) fun b3=>Ar Ay 1 [] O (As (Aw (Ax Ay 2 [0] O (Aq O (Bu (rows:=BE [t]) Bf Bx O O O O (CG (Bv _)) (E6 _)) (Du O O (CI O O (iU ds [t] h1 ⟨h2,Ap⟩ (by simp[wide])) (.inl O)) ?_)))))));rintro _ ⟨q,rfl,hq⟩;refine Ar Ay 1 [] O (Av O (fun c=>?_) (fun c=>?_))
 ·simp only[sd,se] at c;refine Aw (Aq O (BC O O (Jj ) O) (Ar Ay 1 [] O (A1 (⟨O,_,_,⟨_,_,O,O,O⟩,(List.nil_sublist _),?_⟩))))
  all_goals exact⟨rfl,rfl⟩
 simp only[sd,se] at c;have hs:=hq (by simpa using c);have ho:=hs.ok t Ao;have hsz:size t≤60:=by have:=hs.sz;simp only[BX] at this;omega
 obtain⟨r,c2,hr1,hr2⟩:=nw hs.env ho An;obtain⟨ha1,ha2⟩:=oD hs.env ho An;have hcl:=mG hs.env.g hs.cl;refine A2 (Aw (aK O O O (.inl ⟨O,O,O⟩) dA (DQ _) fun bc=>Ar Ay 1 [] O (Aw (Ax Ay 3 [1] O (Aq O (CE [0] O (.inl ⟨O,O,O⟩) (gS ds hs.env FN bc t Lw c2 r hr1) ⟨_,_,O,O,O⟩ Am O (.inl O)) (Bg O (Aw (Ax Ay 2 [1] O (Aq O (BC O O (RI ds FN t hs.env (oL hs.env ho An).ns) O) (Ax Ay 3 [] O (BF O (A7 Bx O) fun b6=>Ar Ay 2 [0,1] O (As (Au Ay 4 [1] O (Av O (fun c1=>?_) (fun c1=>?_)))))))))))))))
 ·refine As (BT [] 4 (fun y=>y= .p (.bool ((((Ov (DK ds Bp FN 20000 t):Int)==(0:Int))||((Ov (DK ds Bp FN 20000 t):Int)==(11:Int)))&&true))) ?_ ?_)
  ·refine A3 (Ax Ay 3 [] O (BO 42 O (fun g=>?_) (fun g=>?_)))
   ·simp only[sd,se] at g;exact Ax Ay 4 [] O (BB O (BC O O (Jj ) O) (Ar Ay 2 [] O ⟨O,O,AM,AI,Ap⟩))
   simp only[sd,se] at g;refine Ax Ay 4 [] O (BO 46 O (fun g1=>?_) (fun g1=>?_))
   ·simp only[sd,se] at g1;exact BB O (BC O O (Jj ) O) (Ar Ay 2 [] O ⟨O,O,AM,AI,Ap⟩)
   simp only[sd,se] at g1;exact Ar Ay 3 [] O ⟨O,O,AM,AI,Ap⟩
  rintro _ rfl;refine A1 (⟨O,_,_,⟨_,_,O,O,O⟩,(List.nil_sublist _),?_⟩)
  all_goals exact⟨by show (.p (.bool ((((Ov (DK ds Bp FN 20000 t):Int)==(0:Int))||((Ov (DK ds Bp FN 20000 t):Int)==(11:Int)))&&true)):AV)=_;refine pB ?_;rcases kr (DK ds Bp FN 20000 t) with h | h<;>simp[h],rfl⟩
 obtain⟨hw1,hw2⟩:=nu hs.env ho An hr1 (by simpa using c1);refine A2 (As (As (BT [0,3,6,7] 57 (fun y=>y= .p (.bool (((Ov (DK ds Bp FN 20000 t):Int) !=(0:Int))||(decide ((c2.steps:Int) > (100:Int)))))) ?_ ?_)))
 ·refine A3 (Ax Ay 3 [] O (BO 51 O (fun g=>?_) (fun g=>?_)))
  ·simp only[sd,se] at g;exact Ar Ay 6 [] O (⟨O,O,AM,AI,⟨O,O,O,O,Ap⟩⟩)
  simp only[sd,se] at g;exact Ar Ay 6 [1] O (⟨O,O,AM,AI,⟨O,O,O,O,Ap⟩⟩)
 rintro _ rfl;refine Av O (fun c2=>?_) (fun c2=>?_)
 ·simp only[sd,se] at c2;refine As (BT [] 4 (fun y=>y= .p (.bool (((Ov (DK ds Bp FN 20000 t):Int)==(0:Int))&&true))) ?_ ?_)
  ·refine A3 (Ax Ay 3 [] O (BO 60 O (fun g=>?_) (fun g=>?_)))
   ·simp only[sd,se] at g;exact BB O (BC O O (Jj ) O) (Ar Ay 2 [] O ⟨O,O,AM,AI,Ap⟩)
   simp only[sd,se] at g;exact Ar Ay 3 [] O ⟨O,O,AM,AI,Ap⟩
  rintro _ rfl;refine A1 (⟨O,_,_,⟨_,_,O,O,O⟩,(List.nil_sublist _),?_⟩)
  all_goals exact⟨by show (.p (.bool (((Ov (DK ds Bp FN 20000 t):Int)==(0:Int))&&true)):AV)=_;refine pB ?_;simp[hw1],rfl⟩
 simp only[sd,se] at c2;refine A2 (As (Au Ay 1 [] O (A9 (Bc (α:=Nat) (fun i=>⟨119,mk [(0,.p (.lst (List.map Bi ds))),(3,.ptr b3 0),(6,.ptr b6 0),(63,.p (I (i:Int)))],[.box b6 ((BP (Me Bh (DK ds Bp FN 20000 t))).map .p),.box b3 ((BP (X7 ds t i)).map .p)],[]⟩) (fun i=>300 - i) (fun i=>i≤300∧(YB ds t (X7 ds t i))) 0 (⟨by omega,.zero ho hsz⟩) ?_ ?_))))
 ·exact BS ⟨we O,we O,we O,we O,Ap⟩ (leH (is:=[0,2]) O (wl (oe O) (wl (oe O) (C2))))
 rintro i hC
 try simp only at hC
 obtain⟨hi,hC⟩:=hC;refine Au Ay 1 [] O (As (Av O (fun c3=>?_) (fun c3=>?_)))
 ·simp only[sd,se] at c3;refine A2 (As (A9 (Aw (Ax Ay 2 [1] O (Aq O (BC O O (bG ds FN (X7 ds t i) hs.env (Vd hs.env hC.ok hC.sz).ns (Z4 hs.env hC.ok hC.sz)) O) (Ax Ay 4 [] O (BF O (A7 Bx O) fun b8=>Ar Ay 3 [0,1] O (As (Au Ay 2 [] O (Av O (fun c4=>?_) (fun c4=>?_)))))))))))
  ·simp only[sd,se] at c4;refine As (BT [] 4 (fun y=>y= .p (.bool ((((JQ (Dl ds Bp FN 20000 (X7 ds t i))).2.2:Int)==(11:Int))&&true))) ?_ ?_)
   ·refine A3 (Ax Ay 3 [] O (BO 76 O (fun g=>?_) (fun g=>?_)))
    ·simp only[sd,se] at g;exact BB O (BC O O (Jj ) O) (Ar Ay 2 [] O ⟨O,O,AM,AI,Ap⟩)
    simp only[sd,se] at g;exact Ar Ay 3 [] O ⟨O,O,AM,AI,Ap⟩
   rintro _ rfl;refine A1 (⟨O,_,_,⟨_,_,O,O,O⟩,(List.nil_sublist _),?_⟩)
   all_goals exact⟨by show (.p (.bool ((((JQ (Dl ds Bp FN 20000 (X7 ds t i))).2.2:Int)==(11:Int))&&true)):AV)=_;refine pB ?_;rcases lj (Dl ds Bp FN 20000 (X7 ds t i)) with h | h<;>simp_all,rfl⟩
  simp only[sd,se] at c4;have hf0:(JQ (Dl ds Bp FN 20000 (X7 ds t i))).2.2=0:=by simpa using c4
  refine A2 (As (Au Ay 2 [] O (Av O (fun c5=>?_) (fun c5=>?_))))
  ·simp only[sd,se] at c5;obtain⟨q1,q2,q3,q4⟩:=hC.last hcl (by simpa using c5) hf0 ha1 hw1 rfl;refine Aw (Aq O (BU (i:=1) BZ O O Ag) (Aq O (BC O O (XZ (Me Bh (DK ds Bp FN 20000 t)) (B2.1 ha1).nd ha2) O) (Ar Ay 9 [] O (Aw (Aq O (BU (i:=2) BZ O O Ag) (Aq O (BC O O (XZ (X7 ds t i) (B2.1 hC.ok).nd (by have:=hC.sz;omega)) O) (Ar Ay 9 [] O (As (BT [] 4 (fun y=>y= .p (.bool (((((((A8 (Me Bh (DK ds Bp FN 20000 t))).1.kind:Int)==((A8 (X7 ds t i)).1.kind:Int))&&(((A8 (Me Bh (DK ds Bp FN 20000 t))).1.index:Int)==((A8 (X7 ds t i)).1.index:Int)))&&(((A8 (Me Bh (DK ds Bp FN 20000 t))).1.name).toList==((A8 (X7 ds t i)).1.name).toList))&&((((A8 (Me Bh (DK ds Bp FN 20000 t))).2.length:Int):Int)==(((A8 (X7 ds t i)).2.length:Int):Int)))&&true))) ?_ ?_)))))))))
   ·refine A3 (Ax Ay 4 [] O (BO 98 O (fun g=>?_) (fun g=>?_)))
    ·simp only[sd,se] at g;refine Ax Ay 5 [] O (BO 103 O (fun g1=>?_) (fun g1=>?_))
     ·simp only[sd,se] at g1;refine Ax Ay 2 [] O (BB O (FV O O) (Ax Ay 2 [] O (BO 108 O (fun g2=>?_) (fun g2=>?_))))
      ·simp only[sd,se] at g2;refine Ax Ay 5 [] O (BO 113 O (fun g3=>?_) (fun g3=>?_))
       ·simp only[sd,se] at g3;exact BB O (BC O O (Jj ) O) (Ar Ay 2 [] O ⟨O,O,AM,AI,Ap⟩)
       simp only[sd,se] at g3;exact Ar Ay 3 [] O ⟨O,O,AM,AI,Ap⟩
      simp only[sd,se] at g2;exact Ar Ay 8 [] O ⟨O,O,AM,AI,Ap⟩
     simp only[sd,se] at g1;exact Ar Ay 13 [] O ⟨O,O,AM,AI,Ap⟩
    simp only[sd,se] at g;exact Ar Ay 18 [] O ⟨O,O,AM,AI,Ap⟩
   rintro _ rfl;refine A1 (⟨O,_,_,⟨_,_,O,O,O⟩,(List.nil_sublist _),?_⟩)
   all_goals exact⟨by show (.p (.bool (((((((A8 (Me Bh (DK ds Bp FN 20000 t))).1.kind:Int)==((A8 (X7 ds t i)).1.kind:Int))&&(((A8 (Me Bh (DK ds Bp FN 20000 t))).1.index:Int)==((A8 (X7 ds t i)).1.index:Int)))&&(((A8 (Me Bh (DK ds Bp FN 20000 t))).1.name).toList==((A8 (X7 ds t i)).1.name).toList))&&((((A8 (Me Bh (DK ds Bp FN 20000 t))).2.length:Int):Int)==(((A8 (X7 ds t i)).2.length:Int):Int)))&&true)):AV)=_;refine pB ?_;simp[q1,q2,q3,q4],rfl⟩
  simp only[sd,se] at c5;have hmv:=hC.next hs.env hcl (by simpa using c5);refine A2 (A3 (Ar Ay 2 [0,2,1] O (A3 (Ar Ay 2 [] O (⟨(i+1),AW,⟨by omega,hmv⟩,BS ⟨we rfl,we rfl,we rfl,we rfl,trivial⟩ (leH (is:=[1,2]) rfl (wl (oe rfl) (wl (oe rfl) (C2))))⟩)))))
 simp only[sd,se] at c3;refine Be (Aw (Aq O (BC O O (Jj ) O) (Ar Ay 1 [] O (A1 (⟨O,_,_,⟨_,_,O,O,O⟩,(List.nil_sublist _),?_⟩)))))
 all_goals exact⟨rfl,rfl⟩
end Go.Proofs.YtboammbpdaoojaaGreat
