/- Part of the proofs: an abstract program logic, plain models and contracts of functions. -/
import Derived.Test.YtldfmjoncbjldaaGreatPc
import Derived.Test.YtldfmjoncbjldaaGreatPb
import Derived.Test.YtldfmjoncbjldaaGreatProg
set_option linter.unusedVariables false
set_option linter.unusedSimpArgs false
set_option maxRecDepth 100000
namespace Go.Abs
def dK (P:Program) (ops:Array Oper) (H:List Au) (u:AV) (i₀ k:Nat) (o:Oper) (τ:Nat→AV) (e:Ez):Prop :=
 if k=i₀ then o.guard=none∧∀Bs,B4 P o (ev τ) (Bs++H) (fun r _=>r= .panic u) else Hl ops i₀ k=true∨Oj P ops H o τ e
def E7 (P:Program) (ops:Array Oper) (H:List Au) (u:AV) (i₀:Nat):Nat→(Nat→AV)→List Ez→Prop
 | _,τ,[]=>True
 | k,τ,e::r=>∃o,ops[k]?=some o∧dK P ops H u i₀ k o τ e∧∀b,e.ok b→E7 P ops H u i₀ (k+1) (put τ o.dst (e.v b)) r
theorem E7.facts {P:Program}{ops:Array Oper}{H₀:List Au}{τ:Nat→AV}{base:List Ez}{u:AV}{i₀:Nat}(β:Nat→BV):∀(r:List Ez) (k:Nat) (τk:Nat→AV),base.drop k=r→k+r.length=base.length→τk=τS ops (Ea β 0 base) τ k→E7 P ops H₀ u i₀ k τk r→(∀j,k≤j→j<base.length→(base.getD j .skip).ok (β j)) →
  (∀j,k≤j→j<base.length→∃o,ops[j]?=some o∧dK P ops H₀ u i₀ j o (τS ops (Ea β 0 base) τ j) (base.getD j .skip))
 | [],k,τk,hd,hk,ht,h,hβ=>by
  simp only[List.length_nil,Nat.add_zero] at hk;subst hk;exact fun j h1 h2=>by omega
 | e::r,k,τk,hd,hk,ht,h,hβ=>by
  obtain⟨o,ho,hok,hn⟩:=h;simp only[List.length_cons] at hk;have hb:base.getD k .skip=e:=by
   have:(base.drop k)[0]?=some e:=by rw[hd];rfl
   rw[List.getElem?_drop] at this;rw[List.getD_eq_getElem?_getD,show k=k+0 by omega,this];rfl
  have hd2:base.drop (k+1)=r:=by
   rw[←List.drop_drop,hd];rfl
  have h1:=E7.facts (τ:=τ) (base:=base) β r (k+1) _ hd2 Ad (by simp only[τS,ho,Option.bind_some];rw[DX β Ad,hb,←ht]) (hn (β k) (by have:=hβ k (Nat.le_refl _) Ad;rwa [hb] at this)) (fun j h1 h2=>hβ j Ad h2);intro j hj hl;by_cases e2:j=k
  ·subst e2;exact⟨o,ho,by rw[hb,←ht];exact hok⟩
  exact h1 j Ad hl
section
variable {P:Program}{ops:Array Oper}{H:List Au}{u:AV}{i₀:Nat}{k:Nat}{τ:Nat→AV}{r:List Ez}{dst:Option Tmp}{op:Op}{ty:TypeId}{pos:String}{aft:Array Edge}{v:AV}
end
section
variable {P:Program}{dst:Option Tmp}{ty:TypeId}{pos:String}{aft:Array Edge}{g:Option (Nat×Bool)}{ρ:Operand→AV}{H:List Au}{x y:Operand}
end
structure Oz (P:Program) where
 fd:Nat→Option (List (Nat×Nat))
 ty:Nat→Option (Bool×Nat)
 zr:Nat→Option (List AV)
 hfd:∀T l,fd T=some l→fieldsOf P T=some l
 hty:∀T l,ty T=some l→Cp P T=some l
 hzr:∀T l,zr T=some l→∃z,zeroOf P T=some z∧z.cells.toList.map EN=l
def bB (op:BinOp) (m n:Int):Option Bool :=
 match op with | .eql=>some (m==n) | .neq=>some (m !=n) | .lss=>some (decide (m<n)) | .leq=>some (decide (m≤n)) | .gtr=>some (decide (m > n)) | .geq=>some (decide (m≥n)) | _=>none
def YZ (op:BinOp) (m n:Int):Option Int :=
 match op with | .add=>some (m+n) | .sub=>some (m - n) | .mul=>some (m*n) | _=>none
abbrev X5:=AV×List Au×List Nat×Prop
def SM (op:BinOp) (H:List Au) (is:List Nat) (C:Prop):AV→AV→Option X5
 | .p (.int k m),.p (.int k' n) =>
  match bB op m n with
  | some b=>some (.p (.bool b),H,is,C∧k=k')
  | none =>
   match k,k',YZ op m n with
   | .i64,.i64,some r=>some (.p (.int .i64 r),H,is,(C∧ -9223372036854775808≤r)∧r≤9223372036854775807)
   | _,_,_=>none
 | _,_=>none
def Mu (H:List Au) (is:List Nat) (C:Prop) (t:Bool×Nat):AV→Option X5
 | .ref cells =>
  bif t.1 then some (.agg (cells.map .p),H,is,C∧cells.length=t.2)
  else match cells with
   | c::_=>some (.p c,H,is,C)
   | []=>none
 | .ptr b o =>
  match is with
  | []=>none
  | i::is =>
   match H[i]? with
   | some (.box b' cs) =>
    bif t.1 then (match o with | 0=>some (.agg cs,H,is,(C∧b'=b)∧cs.length=t.2) | _+1=>none)
    else (match cs[o]? with | some v=>some (v,H,is,C∧b'=b) | none=>none)
   | _=>none
 | _=>none
def Mn (H:List Au) (is:List Nat) (C:Prop) (t:Bool×Nat) (y:AV):AV→Option X5
 | .ptr b o =>
  match is with
  | i::w::is =>
   match H[i]?,DE y,t.2 with
   | some (.box b' cs),some us,n+1 =>
    match w with
    | 0=>some (.p .any,H.set i (.box b (splice cs o us)),is,(((C∧b'=b)∧us.length=n+1)∧Nat.ble (o+(n+1)) cs.length=true)∧us.all one=true)
    | _+1=>match o with
     | 0=>some (.p .any,H.set i (.box b us),is,(((C∧b'=b)∧us.length=n+1)∧cs.length=n+1)∧us.all one=true)
     | _+1=>none
   | _,_,_=>none
  | _=>none
 | _=>none
def MX (H:List Au) (is:List Nat) (C:Prop) (off:Nat):AV→Option X5
 | .ptr b o=>some (.ptr b (o+off),H,is,C)
 | .ref cells=>some (.ref (cells.drop off),H,is,C)
 | _=>none
def Hn {P:Program}(tb:Oz P) (ρ:Operand→AV) (H:List Au) (is:List Nat) (C:Prop):Op→Option X5
 | .move x=>some (ρ x,H,is,C)
 | .assign x=>some (ρ x,H,is,C)
 | .pick x y z=>match ρ x with | .p (.bool b)=>some (bif b then ρ y else ρ z,H,is,C) | _=>none
 | .extract x i=>match ρ x with | .tup xs=>(match xs[i]? with | some v=>some (v,H,is,C) | none=>none) | _=>none
 | .nilCheck x=>match ρ x with | .ptr b o=>some (.ptr b o,H,is,C) | _=>none
 | .makeFunc fn first caps=>some (.fn fn (first.toList.map ρ) (caps.toList.map ρ),H,is,C)
 | .unOp .not T x=>match ρ x with | .p (.bool b)=>some (.p (.bool (!b)),H,is,C) | _=>none
 | .binOp op T x y U=>SM op H is C (ρ x) (ρ y)
 | .fieldAddr T x i=>match tb.fd T with
  | some lay=>(match lay[i]? with | some (off,_+1)=>MX H is C off (ρ x) | _=>none)
  | none=>none
 | .build T parts=>match tb.fd T,tb.zr T with
  | some lay,some z=>(match E0 (lay[·]?) z (parts.toList.map fun p=>(p.1,ρ p.2)) with | some cs=>some (.agg cs,H,is,C) | none=>none)
  | _,_=>none
 | .load T x=>match tb.ty T with | some t=>Mu H is C t (ρ x) | none=>none
 | .store T x y=>match tb.ty T with | some t=>Mn H is C t (ρ y) (ρ x) | none=>none
 | _=>none
section
variable {P:Program}{tb:Oz P}{ρ:Operand→AV}{H H':List Au}{is is':List Nat}{C C':Prop}{v:AV}
 {dst:Option Tmp} {ty:TypeId} {pos:String} {aft:Array Edge} {g:Option (Nat×Bool)}
theorem Da {op:Op}(h:Hn tb ρ H is C op=some (v,H',is',C')) (c:C'):C∧CK P ⟨dst,op,ty,pos,aft,g⟩ ρ H v H':=by
 unfold Hn at h;split at h
 ·injection h with h;simp only[Prod.mk.injEq] at h;obtain⟨rfl,rfl,rfl,rfl⟩:=h;exact⟨c,B8 rfl⟩
 ·injection h with h;simp only[Prod.mk.injEq] at h;obtain⟨rfl,rfl,rfl,rfl⟩:=h;exact⟨c,Oi rfl⟩
 ·split at h
  ·rename_i b hb;injection h with h;simp only[Prod.mk.injEq] at h;obtain⟨rfl,rfl,rfl,rfl⟩:=h;exact⟨c,Rz hb rfl⟩
  cases h
 ·split at h
  ·rename_i xs hx;split at h
   ·rename_i u hu;injection h with h;simp only[Prod.mk.injEq] at h;obtain⟨rfl,rfl,rfl,rfl⟩:=h;exact⟨c,N1 hx hu⟩
   cases h
  cases h
 ·split at h
  ·rename_i b o hx;injection h with h;simp only[Prod.mk.injEq] at h;obtain⟨rfl,rfl,rfl,rfl⟩:=h;exact⟨c,Mp hx⟩
  cases h
 ·injection h with h;simp only[Prod.mk.injEq] at h;obtain⟨rfl,rfl,rfl,rfl⟩:=h;exact⟨c,CU rfl rfl⟩
 ·split at h
  ·rename_i b hb;injection h with h;simp only[Prod.mk.injEq] at h;obtain⟨rfl,rfl,rfl,rfl⟩:=h;exact⟨c,Ti hb⟩
  cases h
 ·rename_i op T x y U;generalize hx:ρ x=vx at h;generalize hy:ρ y=vy at h;unfold SM at h;split at h
  ·rename_i k m k' n;split at h
   ·rename_i b hb;injection h with h;simp only[Prod.mk.injEq] at h;obtain⟨rfl,rfl,rfl,rfl⟩:=h;obtain⟨c,rfl⟩:=c;exact⟨c,Uh hx hy hb⟩
   split at h
   ·rename_i r hr;injection h with h;simp only[Prod.mk.injEq] at h;obtain⟨rfl,rfl,rfl,rfl⟩:=h;obtain⟨⟨c,c1⟩,c2⟩:=c;refine⟨c,?_⟩;unfold YZ at hr;split at hr
    ·injection hr with hr;subst hr;exact Gh hx hy c1 c2
    ·injection hr with hr;subst hr;exact UC hx hy c1 c2
    ·injection hr with hr;subst hr;exact Tr hx hy c1 c2
    cases hr
   cases h
  cases h
 ·rename_i T x i;split at h
  ·rename_i lay hl;split at h
   ·rename_i off sz hi;generalize hx:ρ x=vx at h;unfold MX at h;split at h
    ·injection h with h;simp only[Prod.mk.injEq] at h;obtain⟨rfl,rfl,rfl,rfl⟩:=h;exact⟨c,BH (tb.hfd _ _ hl) hi hx⟩
    ·injection h with h;simp only[Prod.mk.injEq] at h;obtain⟨rfl,rfl,rfl,rfl⟩:=h;exact⟨c,LQ (tb.hfd _ _ hl) hi hx⟩
    cases h
   cases h
  cases h
 ·rename_i T parts;split at h
  ·rename_i lay z hl hz;split at h
   ·rename_i cs hc;injection h with h;simp only[Prod.mk.injEq] at h;obtain⟨rfl,rfl,rfl,rfl⟩:=h;obtain⟨z',hz',rfl⟩:=tb.hzr _ _ hz;exact⟨c,D7 (tb.hfd _ _ hl) hz' hc⟩
   cases h
  cases h
 ·rename_i T x;split at h
  ·rename_i t ht;have ht:=tb.hty _ _ ht;obtain⟨tb1,tn⟩:=t;generalize hx:ρ x=vx at h;unfold Mu at h;split at h
   ·rename_i cells;cases tb1 with
    | true =>
     simp only[cond_true] at h;injection h with h;simp only[Prod.mk.injEq] at h;obtain⟨rfl,rfl,rfl,rfl⟩:=h;exact⟨c.1,BC ht hx c.2⟩
    | false =>
     simp only[cond_false] at h;split at h
     ·injection h with h;simp only[Prod.mk.injEq] at h;obtain⟨rfl,rfl,rfl,rfl⟩:=h;exact⟨c,EA ht hx⟩
     cases h
   ·rename_i b o;split at h
    ·cases h
    rename_i i is1;split at h
    ·rename_i b' cs hi;cases tb1 with
     | true =>
      simp only[cond_true] at h;split at h
      ·injection h with h;simp only[Prod.mk.injEq] at h;obtain⟨rfl,rfl,rfl,rfl⟩:=h;obtain⟨⟨c,rfl⟩,c2⟩:=c;exact⟨c,Bf ht hx hi c2⟩
      ·cases h
     | false =>
      simp only[cond_false] at h;split at h
      ·rename_i u hu;injection h with h;simp only[Prod.mk.injEq] at h;obtain⟨rfl,rfl,rfl,rfl⟩:=h;obtain⟨c,rfl⟩:=c;exact⟨c,BT ht hx hi hu⟩
      cases h
    cases h
   cases h
  cases h
 ·rename_i T x y;split at h
  ·rename_i t ht;have ht:=tb.hty _ _ ht;obtain⟨tb1,tn⟩:=t;generalize hx:ρ x=vx at h;generalize hy:ρ y=vy at h;unfold Mn at h;split at h
   ·rename_i b o;split at h
    ·rename_i i w is1;simp only at h;split at h
     ·rename_i b' cs us n hi hu hn;split at h
      ·injection h with h;simp only[Prod.mk.injEq] at h;obtain⟨rfl,rfl,rfl,rfl⟩:=h;obtain⟨⟨⟨⟨c,rfl⟩,c1⟩,c2⟩,c3⟩:=c;exact⟨c,EB ht hx hi (by rw[hy];exact hu) c1 c2 c3⟩
      split at h
      ·injection h with h;simp only[Prod.mk.injEq] at h;obtain⟨rfl,rfl,rfl,rfl⟩:=h;obtain⟨⟨⟨⟨c,rfl⟩,c1⟩,c2⟩,c3⟩:=c;exact⟨c,C7 ht hx hi (by rw[hy];exact hu) c1 c2 c3⟩
      cases h
     cases h
    cases h
   cases h
  cases h
 cases h
def runs (tb:Oz P) (ops:Array Oper) (n:Nat):Nat→Nat→(Nat→AV)→List Au→List Nat→Prop→Option ((Nat→AV)×List Au×Prop)
 | 0,_,τ,H,_,C=>some (τ,H,C)
 | m+1,k,τ,H,is,C =>
  match ops[k]? with
  | none=>none
  | some ⟨dst,op,_,_,_,g⟩ =>
   bif De dst n then
    match g with
    | none =>
     (match Hn tb (ev τ) H is C op with
     | some (v,H',is',C')=>runs tb ops n m (k+1) (put τ dst v) H' is' C'
     | none=>none)
    | some (j,want) =>
     match (ops[j]?).bind (·.dst) with
     | none=>none
     | some d =>
      match τ d with
      | .p (.bool b) =>
       bif b==want then
        (match Hn tb (ev τ) H is C op with
        | some (v,H',is',C')=>runs tb ops n m (k+1) (put τ dst v) H' is' C'
        | none=>none)
       else runs tb ops n m (k+1) (put τ dst (.tup [])) H is C
      | .tup []=>runs tb ops n m (k+1) (put τ dst (.tup [])) H is C
      | _=>none
   else none
end
section
variable {P:Program}{r:Option Nat}{ops:Array Oper}{n:Nat}{D:List CN}{Q:Bq→A9→Prop}
theorem Ha (tb:Oz P):∀(m k:Nat) {τ τ':Nat→AV}{H H':List Au}{is:List Nat}{C C':Prop},runs tb ops n m k τ H is C=some (τ',H',C')→C' →
  C∧(AL P r ops (k+m) ⟨n,τ',H',D⟩ Q→AL P r ops k ⟨n,τ,H,D⟩ Q)
 | 0,k,τ,τ',H,H',is,C,C',h,c=>by
  simp only[runs,Option.some.injEq,Prod.mk.injEq] at h;obtain⟨rfl,rfl,rfl⟩:=h;exact⟨c,fun h=>h⟩
 | m+1,k,τ,τ',H,H',is,C,C',h,c=>by
  rw[runs] at h;split at h
  ·cases h
  rename_i dst op ty pos aft g ho;cases hd:De dst n with
  | false=>rw[hd] at h;cases h
  | true =>
   rw[hd,cond_true] at h;rw[show k+(m+1)=k+1+m by omega];split at h
   ·split at h
    ·rename_i v H1 is1 C1 hv;obtain⟨c1,ih⟩:=Ha tb m (k+1) h c;obtain⟨c2,hop⟩:=Da (dst:=dst) (ty:=ty) (pos:=pos) (aft:=aft) (g:=none) hv c1;exact⟨c2,fun hq=>Ms ho hd hop (ih hq)⟩
    cases h
   rename_i j want;split at h
   ·cases h
   rename_i d hj;split at h
   ·rename_i b hb;cases hw:b==want with
    | true =>
     rw[hw,cond_true] at h;split at h
     ·rename_i v H1 is1 C1 hv;obtain⟨c1,ih⟩:=Ha tb m (k+1) h c;obtain⟨c2,hop⟩:=Da (dst:=dst) (ty:=ty) (pos:=pos) (aft:=aft) (g:=some (j,want)) hv c1;have hbw:b=want:=by simpa using hw
      exact⟨c2,fun hq=>Np ho hj (by rw[hb,hbw]) hd hop (ih hq)⟩
     ·cases h
    | false =>
     rw[hw,cond_false] at h;obtain⟨c1,ih⟩:=Ha tb m (k+1) h c;exact⟨c1,fun hq=>Ty ho hj hb hw hd (ih hq)⟩
   ·rename_i hb;obtain⟨c1,ih⟩:=Ha tb m (k+1) h c;exact⟨c1,fun hq=>SD ho hj hb hd (ih hq)⟩
   cases h
end
def look {α:Type}:List (Nat×α)→Nat→Option α
 | [],_=>none
 | (a,v)::r,t=>bif Nat.beq a t then some v else look r t
def OG {α:Type}(f:Nat→Option α):List (Nat×α)→Prop
 | []=>True
 | (a,v)::r=>f a=some v∧OG f r
theorem Jg {α:Type}{f:Nat→Option α}{T:Nat}{v:α}:∀{l:List (Nat×α)},OG f l→look l T=some v→f T=some v
 | [],_,h=>by cases h
 | (a,u)::r,ha,h=>by
  unfold look at h;cases hb:Nat.beq a T with
  | true=>rw[hb,cond_true] at h;injection h with h;subst h;rw[←Nat.eq_of_beq_eq_true hb];exact ha.1
  | false=>rw[hb,cond_false] at h;exact Jg ha.2 h
def Mc (P:Program) (T:Nat):Option (List AV):=(zeroOf P T).map fun z=>z.cells.toList.map EN
def Yw {P:Program}{fd:List (Nat×List (Nat×Nat))}{ty:List (Nat×Bool×Nat)}{zr:List (Nat×List AV)}(hf:OG (fieldsOf P) fd) (ht:OG (Cp P) ty) (hz:OG (Mc P) zr):Oz P where
 fd:=look fd
 ty:=look ty
 zr:=look zr
 hfd _ _ h:=Jg hf h
 hty _ _ h:=Jg ht h
 hzr T l h:=by
  have h1:=Jg hz h;unfold Mc at h1;cases hq:zeroOf P T with
  | none=>rw[hq] at h1;cases h1
  | some z=>rw[hq] at h1;injection h1 with h1;exact⟨z,rfl,h1⟩
end Go.Abs
namespace Go.Eu
open Go.Abs
structure RJ where
 name:ByteArray
 type:Tm
 deriving Inhabited
structure Zy where
 params:Int
 type:Tm
 rules:List Tm
 deriving Inhabited
mutual
inductive FX where
 | mk (kind:Int) (body:Tm) (var:Int) (branches:List HY)
inductive HY where
 | mk (ctor:ByteArray) (absurd:Bool) (tree:FX)
end
instance:Inhabited FX:=⟨.mk 0 default 0 []⟩
instance:Inhabited HY:=⟨.mk default false default⟩
def FX.kind:FX→Int | .mk k _ _ _=>k
def FX.body:FX→Tm | .mk _ b _ _=>b
def FX.var:FX→Int | .mk _ _ v _=>v
def FX.branches:FX→List HY | .mk _ _ _ l=>l
def HY.ctor:HY→ByteArray | .mk c _ _=>c
def HY.absurd:HY→Bool | .mk _ a _=>a
def HY.tree:HY→FX | .mk _ _ t=>t
structure OW where
 name:ByteArray
 type:Tm
 arity:Int
 tree:FX
 deriving Inhabited
structure Cg where
 kind:Int
 name:ByteArray
 params:Int
 type:Tm
 value:Tm
 fixed:Int
 ctors:List RJ
 recs:Zy
 funs:List OW
 deriving Inhabited
structure HW where
 kind:Int
 decl:Int
 item:Int
 params:Int
 type:Tm
 deriving Inhabited
structure eX where
 carrier:ByteArray
 add:ByteArray
 zero:ByteArray
 neg:ByteArray
 one:ByteArray
 leq:ByteArray
 lemmas:List ByteArray
 deriving Inhabited
structure eZ where
 place:Int
 minus:Bool
 deriving Inhabited,DecidableEq
def N0 (c:RJ):List PV:= .str c.name::BA c.type
def T6 (r:Zy):List PV:=I r.params::(BA r.type++[.lst (A1 r.rules)])
mutual
def HI:FX→List PV
 | .mk k b v l=>I k::(BA b++[I v,.lst (V6 l)])
def Ll:HY→List PV
 | .mk c a t=> .str c:: .bool a::HI t
def V6:List HY→List (List PV)
 | []=>[]
 | b::l=>Ll b::V6 l
end
def Sq (f:OW):List PV:= .str f.name::(BA f.type++(I f.arity::HI f.tree))
def JU (d:Cg):List PV:=I d.kind:: .str d.name::I d.params::(BA d.type++(BA d.value++(I d.fixed:: .lst (d.ctors.map N0)::(T6 d.recs++[.lst (d.funs.map Sq)]))))
def Uc (e:HW):List PV:=I e.kind::I e.decl::I e.item::I e.params::BA e.type
def dE (t:eX):List PV:=[.str t.carrier,.str t.add,.str t.zero,.str t.neg,.str t.one,.str t.leq,.lst (t.lemmas.map ZW)]
def db (s:eZ):List PV:=[I s.place,.bool s.minus]
theorem Q8 (c:RJ):(N0 c).length=6:=by simp[N0,Ay]
theorem NG (r:Zy):(T6 r).length=7:=by simp[T6,Ay]
theorem HN (t:FX):(HI t).length=8:=by cases t;simp[HI,Ay]
theorem RV (b:HY):(Ll b).length=10:=by cases b;simp[Ll,HN]
theorem Sv (f:OW):(Sq f).length=15:=by simp[Sq,Ay,HN]
theorem NP (d:Cg):(JU d).length=23:=by simp[JU,Ay,NG]
theorem Rm (e:HW):(Uc e).length=9:=by simp[Uc,Ay]
theorem Bn {n:Nat}{c:PV}{r:List PV}(hc:c≠ .any∧c≠ .unit) (h:Cd n r):Cd (n+1) (c::r) :=
 ⟨by simp[h.1],fun x hx=>by
  rcases List.mem_cons.1 hx with rfl | hx
  ·exact hc
  exact h.2 x hx⟩
theorem Ec {n m:Nat}{a b:List PV}(ha:Cd n a) (hb:Cd m b):Cd (n+m) (a++b) :=
 ⟨by simp[ha.1,hb.1],fun x hx=>by
  rcases List.mem_append.1 hx with hx | hx
  ·exact ha.2 x hx
  exact hb.2 x hx⟩
theorem Ik:Cd 0 []:=⟨rfl,fun c h=>by simp at h⟩
theorem Uo (c:RJ):Cd 6 (N0 c):=Bn Ae (Fg _)
theorem Wg (r:Zy):Cd 7 (T6 r):=Bn Ae (Ec (Fg _) (Bn Ae Ik))
theorem J4 (t:FX):Cd 8 (HI t):=by
 cases t with
 | mk k b v l=>unfold HI;exact Bn Ae (Ec (n:=5) (m:=2) (Fg _) (Bn Ae (Bn Ae Ik)))
theorem Uq (b:HY):Cd 10 (Ll b):=by
 cases b with
 | mk c a t=>unfold Ll;exact Bn Ae (Bn Ae (J4 t))
theorem Ww (f:OW):Cd 15 (Sq f):=Bn Ae (Ec (n:=5) (m:=9) (Fg _) (Bn Ae (J4 _)))
theorem Rj (d:Cg):Cd 23 (JU d):=Bn Ae (Bn Ae (Bn Ae (Ec (n:=5) (m:=15) (Fg _) (Ec (n:=5) (m:=10) (Fg _) (Bn Ae (Bn Ae (Ec (n:=7) (m:=1) (Wg _) (Bn Ae Ik))))))))
theorem Xm (e:HW):Cd 9 (Uc e):=Bn Ae (Bn Ae (Bn Ae (Bn Ae (Fg _))))
theorem Us (m:RJ):((N0 m).map AV.p).all one=true:=Dg (Uo m)
theorem UA (m:FX):((HI m).map AV.p).all one=true:=Dg (J4 m)
theorem UX (m:HY):((Ll m).map AV.p).all one=true:=Dg (Uq m)
theorem UT (m:OW):((Sq m).map AV.p).all one=true:=Dg (Ww m)
theorem T8 (m:Cg):((JU m).map AV.p).all one=true:=Dg (Rj m)
theorem U6 (m:HW):((Uc m).map AV.p).all one=true:=Dg (Xm m)
def YY (n:ByteArray):ByteArray:=n++⟨#[46,114,101,99]⟩
def Po (i p:Int):List RJ→Int→List (ByteArray×HW)
 | [],_=>[]
 | c::cs,k=>(c.name,⟨4,i,k,p,c.type⟩)::Po i p cs (k+1)
def Ux (i p:Int):List OW→Int→List (ByteArray×HW)
 | [],_=>[]
 | c::cs,k=>(c.name,⟨6,i,k,p,c.type⟩)::Ux i p cs (k+1)
def WU (d:Cg) (i:Int):List (ByteArray×HW) :=
 if d.kind=0∨d.kind=1∨d.kind=2 then [(d.name,⟨d.kind,i,0,d.params,d.type⟩)]
 else if d.kind=3 then (d.name,⟨3,i,0,d.params,d.type⟩)::(Po i d.params d.ctors 0++[(YY d.name,⟨5,i,0,d.recs.params,d.recs.type⟩)])
 else if d.kind=4 then Ux i d.params d.funs 0
 else []
def Ks (nm:ByteArray):List (ByteArray×HW)→Option HW
 | []=>none
 | (s,e)::l=>if s=nm then some e else Ks nm l
def findF (nm:ByteArray):List Cg→Int→Option HW
 | [],_=>none
 | d::ds,i=>match Ks nm (WU d i) with
  | some e=>some e
  | none=>findF nm ds (i+1)
def ZZ:HW:=⟨0,0,0,0,BN⟩
def DJ (ds:List Cg) (nm:ByteArray):HW×Int:=match findF nm ds 0 with
 | some e=>(e,0)
 | none=>(ZZ,9)
section
variable {i p:Int}{nm:ByteArray}
end
def aj (d:Cg):List ByteArray :=
 if d.kind=0∨d.kind=1∨d.kind=2 then [d.name]
 else if d.kind=3 then d.name::d.ctors.map RJ.name++[YY d.name]
 else if d.kind=4 then d.funs.map OW.name
 else []
def dz (l:List ByteArray) (s:ByteArray):Bool:=l.any fun x=>decide (x=s)
def Vd (nm:ByteArray) (i p:Int) (o:HW):List RJ→Int→HW
 | [],_=>o
 | c::cs,k=>if c.name=nm then ⟨4,i,k,p,c.type⟩ else Vd nm i p o cs (k+1)
def YA (nm:ByteArray) (i p:Int) (o:HW):List OW→Int→HW
 | [],_=>o
 | c::cs,k=>if c.name=nm then ⟨6,i,k,p,c.type⟩ else YA nm i p o cs (k+1)
def br (d:Cg) (i:Int) (nm:ByteArray):HW :=
 if d.kind=0∨d.kind=1∨d.kind=2 then ⟨d.kind,i,0,d.params,d.type⟩
 else if d.kind=3 then (if nm=d.name then ⟨3,i,0,d.params,d.type⟩ else Vd nm i d.params ⟨5,i,0,d.recs.params,d.recs.type⟩ d.ctors 0)
 else YA nm i d.params ⟨0,i,0,d.params,d.type⟩ d.funs 0
structure Zt where
 env:List Cg
 own:List ByteArray
 d:Cg
def QO (s:Zt):List PV:= .lst (s.env.map JU):: .lst (s.own.map ZW)::JU s.d
theorem Rb (s:Zt):(QO s).length=25:=by simp[QO,NP]
theorem Ug (s:Zt):Cd 25 (QO s):=Bn Ae (Bn Ae (Rj _))
theorem UO (m:Zt):((QO m).map AV.p).all one=true:=Dg (Ug m)
structure Vg (t:Tm):Prop where
 nd:Nd t
 sz:size t<1000000
mutual
def FI:FX→Prop
 | .mk k b v l=>Vg b∧l.length<2000000∧Kq l
def QV:HY→Prop
 | .mk c a t=>c.size<2000000∧FI t
def Kq:List HY→Prop
 | []=>True
 | b::l=>QV b∧Kq l
end
mutual
def YD:FX→Nat
 | .mk k b v l=>1+Vn l
def Yt:HY→Nat
 | .mk c a t=>YD t
def Vn:List HY→Nat
 | []=>0
 | b::l=>Yt b+1+Vn l
end
structure Zc (c:RJ):Prop where
 nm:c.name.size<2000000
 ty:Vg c.type
structure Yl (f:OW):Prop where
 nm:f.name.size<2000000
 ty:Vg f.type
 tr:FI f.tree
structure bX (d:Cg):Prop where
 nm:d.name.size<2000000
 ty:Vg d.type
 vl:Vg d.value
 cl:d.ctors.length<2000000
 cs:∀c∈d.ctors,Zc c
 rt:Vg d.recs.type
 rl:d.recs.rules.length<2000000
 rs:∀t∈d.recs.rules,Vg t
 fl:d.funs.length<2000000
 fs:∀f∈d.funs,Yl f
structure QR (ds:List Cg):Prop where
 len:ds.length<2000000
 all:∀d∈ds,bX d
theorem QR.take {ds:List Cg}(h:QR ds) (n:Nat):QR (ds.take n) :=
 ⟨by have:=h.len;simp;omega,fun d hd=>h.all d (List.mem_of_mem_take hd)⟩
section
variable {d:Cg}{i:Int}{nm:ByteArray}
end
end Go.Eu
namespace Go.Abs
open Go.Eu
section
variable {P:Program}{r:Option Nat}{ops:Array Oper}{n k:Nat}{D:List CN}{Q:Bq→A9→Prop}{τ τ':Nat→AV}{H H':List Au}{C:Prop}
theorem Tj {C:Prop}(c:C:=by repeat' first | exact trivial | refine And.intro ?_ ?_ | (simp only[List.length_map,Ay,Rm,NP,Sv,HN,RV,Rb,Q8,NG];done) | exact Ed _ | exact U6 _ | exact T8 _ | exact UA _ | exact UT _ | exact UX _ | exact Us _ | exact UO _ | exact rfl | omega):C:=c
theorem Aq (tb:Oz P) (m:Nat) (is:List Nat) (h:runs tb ops n m k τ H is True=some (τ',H',C)) (next:AL P r ops (k+m) ⟨n,τ',H',D⟩ Q) (c:C:=by exact Tj):AL P r ops k ⟨n,τ,H,D⟩ Q:=(Ha tb m k h c).2 next
theorem Ag (tb:Oz P) (m:Nat) (is:List Nat) (h:runs tb ops n m k τ H is True=some (τ',H',C)) (next:Q .normal ⟨n,τ',H',D⟩) (hk:ops.size - (k+m)=0:=by exact rfl) (c:C:=by exact Tj):AL P r ops k ⟨n,τ,H,D⟩ Q:=Aq tb m is h (Bb hk next) c
theorem Ah {id:Nat}{c₂:Code}(tb:Oz P) (m:Nat) (is:List Nat) (h:runs tb ops n m 0 τ H is True=some (τ',H',C)) (next:EP P r c₂ ⟨n,τ',H',D⟩ Q) (hk:ops.size - (0+m)=0:=by exact rfl) (c:C:=by exact Tj):EP P r (.seq (.region id ops false) c₂) ⟨n,τ,H,D⟩ Q:=Ao (Ag tb m is h next hk c)
end
end Go.Abs
namespace Go.Abs
section
variable {P:Program}{tb:Oz P}{ρ:Operand→AV}{H H':List Au}{is is':List Nat}{C C':Prop}{v:AV}
 {dst:Option Tmp} {ty:TypeId} {pos:String} {aft:Array Edge} {g:Option (Nat×Bool)}
theorem RN {op:Op}(h:Hn tb ρ [] [] C op=some (v,H',is',C')) (H:List Au) (is:List Nat):Hn tb ρ H is C op=some (v,H,is,C'):=by
 unfold Hn at h ⊢;split at h
 ·injection h with h;simp only[Prod.mk.injEq] at h;obtain⟨rfl,rfl,rfl,rfl⟩:=h;rfl
 ·injection h with h;simp only[Prod.mk.injEq] at h;obtain⟨rfl,rfl,rfl,rfl⟩:=h;rfl
 ·split at h
  ·rename_i b hb;injection h with h;simp only[Prod.mk.injEq] at h;obtain⟨rfl,rfl,rfl,rfl⟩:=h;simp only[hb]
  cases h
 ·split at h
  ·rename_i xs hx;split at h
   ·rename_i u hu;injection h with h;simp only[Prod.mk.injEq] at h;obtain⟨rfl,rfl,rfl,rfl⟩:=h;simp only[hx,hu]
   cases h
  cases h
 ·split at h
  ·rename_i b o hx;injection h with h;simp only[Prod.mk.injEq] at h;obtain⟨rfl,rfl,rfl,rfl⟩:=h;simp only[hx]
  cases h
 ·injection h with h;simp only[Prod.mk.injEq] at h;obtain⟨rfl,rfl,rfl,rfl⟩:=h;rfl
 ·split at h
  ·rename_i b hb;injection h with h;simp only[Prod.mk.injEq] at h;obtain⟨rfl,rfl,rfl,rfl⟩:=h;simp only[hb]
  cases h
 ·rename_i op T x y U
  try dsimp only
  generalize hx:ρ x=vx at h ⊢;generalize hy:ρ y=vy at h ⊢;unfold SM at h ⊢;split at h
  ·rename_i k m k' n
   try dsimp only
   split at h
   ·rename_i b hb;injection h with h;simp only[Prod.mk.injEq] at h;obtain⟨rfl,rfl,rfl,rfl⟩:=h;simp only[hb]
   rename_i hb;split at h
   ·rename_i r hr;injection h with h;simp only[Prod.mk.injEq] at h;obtain⟨rfl,rfl,rfl,rfl⟩:=h;simp only[hb,hr]
   cases h
  cases h
 ·rename_i T x i;split at h
  ·rename_i lay hl;split at h
   ·rename_i off sz hi
    try dsimp only
    generalize hx:ρ x=vx at h ⊢;unfold MX at h ⊢;split at h
    ·injection h with h;simp only[Prod.mk.injEq] at h;obtain⟨rfl,rfl,rfl,rfl⟩:=h;simp only[hl,hi]
    ·injection h with h;simp only[Prod.mk.injEq] at h;obtain⟨rfl,rfl,rfl,rfl⟩:=h;simp only[hl,hi]
    cases h
   cases h
  cases h
 ·rename_i T parts;split at h
  ·rename_i lay z hl hz;split at h
   ·rename_i cs hc;injection h with h;simp only[Prod.mk.injEq] at h;obtain⟨rfl,rfl,rfl,rfl⟩:=h;simp only[hl,hz,hc]
   cases h
  cases h
 ·rename_i T x;split at h
  ·rename_i t ht
   try dsimp only
   try rw[ht]
   try dsimp only
   generalize hx:ρ x=vx at h ⊢;unfold Mu at h ⊢;split at h
   ·rename_i cells
    try dsimp only
    cases hb:t.1 with
    | true =>
     rw[hb,cond_true] at h;injection h with h;simp only[Prod.mk.injEq] at h;obtain⟨rfl,rfl,rfl,rfl⟩:=h;rfl
    | false =>
     rw[hb,cond_false] at h;rw[cond_false];split at h
     ·injection h with h;simp only[Prod.mk.injEq] at h;obtain⟨rfl,rfl,rfl,rfl⟩:=h;rfl
     cases h
   ·cases h
   cases h
  cases h
 ·rename_i T x y;split at h
  ·rename_i t ht;generalize hx:ρ x=vx at h;unfold Mn at h;split at h
   ·cases h
   cases h
  cases h
 cases h
theorem Q5 {T:TypeId}{x:Operand}{ob:Au}{i:Nat}(h:Hn tb ρ [ob] [0] C (.load T x)=some (v,H',is',C')) (h0:Hn tb ρ [] [] C (.load T x)=none) (hi:H[i]?=some ob):Hn tb ρ H [i] C (.load T x)=some (v,H,[],C'):=by
 unfold Hn at h h0 ⊢;dsimp only at h h0 ⊢;split at h
 ·rename_i t ht
  try simp only[ht] at h0
  skip
  generalize hx:ρ x=vx at h h0 ⊢;unfold Mu at h h0 ⊢;split at h
  ·rename_i cells;dsimp only at h0;cases hb:t.1 with
   | true=>rw[hb,cond_true] at h0;cases h0
   | false =>
    rw[hb,cond_false] at h h0;split at h
    ·cases h0
    cases h
  ·rename_i b o;dsimp only at h ⊢;rw[hi];simp only[List.getElem?_cons_zero] at h;cases ob with
   | box b' cs =>
    dsimp only at h ⊢;cases hb:t.1 with
    | true =>
     rw[hb,cond_true] at h;rw[cond_true];split at h
     ·injection h with h;simp only[Prod.mk.injEq] at h;obtain⟨rfl,rfl,rfl,rfl⟩:=h;rfl
     ·cases h
    | false =>
     rw[hb,cond_false] at h;rw[cond_false];split at h
     ·rename_i u hu;injection h with h;simp only[Prod.mk.injEq] at h;obtain⟨rfl,rfl,rfl,rfl⟩:=h;rfl
     ·cases h
   | _=>cases h
  cases h
 cases h
def Ln (tb:Oz P) (ops:Array Oper) (k:Nat) (ρ:Operand→AV) (H:List Au) (rd:OY) (ef:N4) (is:List Nat) (C:Prop) (op:Op):Option (Sp×List Nat×Prop) :=
 match Hn tb ρ [] [] C op with
 | some (v,_,_,C')=>some (.free v,is,C')
 | none =>
  match op with
  | .load T x =>
   match is with
   | i::is' =>
    match H[i]? with
    | some ob =>
     match Hn tb ρ [ob] [0] C (.load T x) with
     | some (v,_,_,C')=>some (.read [ob] v,is',C'∧Qo ops k ob ef)
     | none=>none
    | none=>none
   | []=>none
  | .store T x y =>
   match Hn tb ρ H is C (.store T x y) with
   | some (v,H',is',C')=>some (.eff v H',is',C'∧FH ops k H H' rd)
   | none=>none
  | _=>none
theorem GH {ops:Array Oper}{k:Nat}{τ:Nat→AV}{rd:OY}{ef:N4}{op:Op}{s:Sp}(h:Ln tb ops k (ev τ) H rd ef is C op=some (s,is',C')) (c:C') (hw:CD ops ⟨0,τ,[],[]⟩ ⟨dst,op,ty,pos,aft,g⟩) :
  C∧TK P ops ⟨dst,op,ty,pos,aft,g⟩ τ H s∧XD ops k H rd ef s:=by
 unfold Ln at h;split at h
 ·rename_i v H1 is1 C1 hv;injection h with h;simp only[Prod.mk.injEq] at h;obtain⟨rfl,rfl,rfl⟩:=h;exact⟨(Da (dst:=dst) (ty:=ty) (pos:=pos) (aft:=aft) (g:=g) hv c).1,⟨hw,fun H=>(Da (RN hv H []) c).2⟩,Af⟩
 rename_i hn;split at h
 ·split at h
  ·rename_i i is2;split at h
   ·rename_i ob hi;split at h
    ·rename_i v H1 is1 C1 hv;injection h with h;simp only[Prod.mk.injEq] at h;obtain⟨rfl,rfl,rfl⟩:=h;obtain⟨c1,c2⟩:=c;refine⟨(Da (dst:=dst) (ty:=ty) (pos:=pos) (aft:=aft) (g:=g) hv c1).1,⟨hw,fun ob' hm=>?_,fun H hm=>?_⟩,fun ob' hm=>?_⟩
     ·rw[List.mem_singleton] at hm;subst hm;exact List.mem_of_getElem? hi
     ·obtain⟨i',hi'⟩:=List.mem_iff_getElem?.1 (hm ob List.mem_cons_self);exact(Da (Q5 hv hn hi') c1).2
     rw[List.mem_singleton] at hm;subst hm;exact c2
    cases h
   cases h
  cases h
 ·split at h
  ·rename_i v H1 is1 C1 hv;injection h with h;simp only[Prod.mk.injEq] at h;obtain⟨rfl,rfl,rfl⟩:=h;obtain⟨c1,c2⟩:=c;obtain⟨c0,hop⟩:=Da (dst:=dst) (ty:=ty) (pos:=pos) (aft:=aft) (g:=g) hv c1;exact⟨c0,⟨hw,hop⟩,c2⟩
  cases h
 cases h
def Xr (k:Nat) (s:Sp) (C:Prop):List (Nat×Sp)→Prop
 | []=>C
 | p::r=>C∧Dy k s (p::r)
theorem GQ {k:Nat}{s:Sp}{C:Prop}:∀{fx:List (Nat×Sp)},Xr k s C fx→C∧Dy k s fx
 | [],h=>⟨h,trivial⟩
 | p::r,h=>h
abbrev aP:=(Nat→AV)×List Au×OY×N4×List Bool×Prop
def M4 (k:Nat) (τ:Nat→AV) (dst:Option Tmp) (H:List Au) (rd:OY) (ef:N4) (effs:List Bool) (fx:List (Nat×Sp)) (f:(Nat→AV)→List Au→OY→N4→List Bool→List Nat→Prop→Option aP):Option (Sp×List Nat×Prop)→Option aP
 | some (.free v,is,C)=>f (put τ dst v) H rd ef (false::effs) is (Xr k (.free v) C fx)
 | some (.read [ob] v,is,C)=>f (put τ dst v) H ((k,ob)::rd) ef (false::effs) is (Xr k (.read [ob] v) C fx)
 | some (.eff v H',is,C)=>f (put τ dst v) H' rd ((k,H,H')::ef) (true::effs) is (Xr k (.eff v H') C fx)
 | _=>none
def G3 (tb:Oz P) (ops:Array Oper) (opn:Nat→Bool) (fx:List (Nat×Sp)):Nat→Nat→(Nat→AV)→List Au→OY→N4→List Bool→List Nat→Prop→Option aP
 | 0,_,τ,H,rd,ef,effs,_,C=>some (τ,H,rd,ef,effs,C)
 | m+1,k,τ,H,rd,ef,effs,is,C =>
  match ops[k]? with
  | none=>none
  | some ⟨dst,op,_,_,_,g⟩ =>
   bif opn k then none else
    match g with
    | none=>M4 k τ dst H rd ef effs fx (G3 tb ops opn fx m (k+1)) (Ln tb ops k (ev τ) H rd ef is C op)
    | some (j,want) =>
     match (ops[j]?).bind (·.dst) with
     | none=>none
     | some d =>
      match τ d with
      | .p (.bool b) =>
       bif b==want then M4 k τ dst H rd ef effs fx (G3 tb ops opn fx m (k+1)) (Ln tb ops k (ev τ) H rd ef is C op)
       else G3 tb ops opn fx m (k+1) (put τ dst (.tup [])) H rd ef (false::effs) is (Xr k .skip C fx)
      | .tup []=>G3 tb ops opn fx m (k+1) (put τ dst (.tup [])) H rd ef (false::effs) is (Xr k .skip C fx)
      | _=>none
end
theorem _root_.Go.AZ {α:Prop}(h:α:=by kernel_rfl):α:=h
section
variable {P:Program}{ops:Array Oper}{n:Nat}{τ₀:Nat→AV}{D:List CN}{Q:Bq→A9→Prop}{opn:Nat→Bool}{fx:List (Nat×Sp)}
theorem Ga (tb:Oz P):∀(m k:Nat) {τ τ':Nat→AV}{H H':List Au}{rd rd':OY}{ef ef':N4}{effs effs':List Bool}{is:List Nat}{C C':Prop},G3 tb ops opn fx m k τ H rd ef effs is C=some (τ',H',rd',ef',effs',C')→C' →
  C∧(Dr P ops n τ₀ D Q opn (k+m) τ' H' rd' ef' effs' fx→Dr P ops n τ₀ D Q opn k τ H rd ef effs fx)
 | 0,k,τ,τ',H,H',rd,rd',ef,ef',effs,effs',is,C,C',h,c=>by
  simp only[G3,Option.some.injEq,Prod.mk.injEq] at h;obtain⟨rfl,rfl,rfl,rfl,rfl,rfl⟩:=h;exact⟨c,fun h=>h⟩
 | m+1,k,τ,τ',H,H',rd,rd',ef,ef',effs,effs',is,C,C',h,c=>by
  rw[G3] at h;split at h
  ·cases h
  rename_i dst op ty pos aft g ho;cases hn:opn k with
  | true=>rw[hn] at h;cases h
  | false =>
   rw[hn,cond_false] at h;rw[show k+(m+1)=k+1+m by omega];have key:CD ops ⟨0,τ,[],[]⟩ ⟨dst,op,ty,pos,aft,g⟩→M4 k τ dst H rd ef effs fx (G3 tb ops opn fx m (k+1)) (Ln tb ops k (ev τ) H rd ef is C op)=some (τ',H',rd',ef',effs',C')→C∧(Dr P ops n τ₀ D Q opn (k+1+m) τ' H' rd' ef' effs' fx→Dr P ops n τ₀ D Q opn k τ H rd ef effs fx):=by
    intro hw h;generalize hs:Ln tb ops k (ev τ) H rd ef is C op=so at h;unfold M4 at h;split at h
    ·rename_i v is1 C1;obtain⟨c1,ih⟩:=Ga tb m (k+1) h c;obtain⟨c1,hfx⟩:=GQ c1;obtain⟨c2,hok,howe⟩:=GH hs c1 hw;exact⟨c2,fun hq=> .step (.free v) ho (.inl hn) hok howe hfx (ih hq)⟩
    ·rename_i ob v is1 C1;obtain⟨c1,ih⟩:=Ga tb m (k+1) h c;obtain⟨c1,hfx⟩:=GQ c1;obtain⟨c2,hok,howe⟩:=GH hs c1 hw;exact⟨c2,fun hq=> .step (.read [ob] v) ho (.inl hn) hok howe hfx (ih hq)⟩
    ·rename_i v H1 is1 C1;obtain⟨c1,ih⟩:=Ga tb m (k+1) h c;obtain⟨c1,hfx⟩:=GQ c1;obtain⟨c2,hok,howe⟩:=GH hs c1 hw;exact⟨c2,fun hq=> .step (.eff v H1) ho (.inl hn) hok howe hfx (ih hq)⟩
    cases h
   split at h
   ·exact key AX h
   rename_i j want;split at h
   ·cases h
   rename_i d hj;split at h
   ·rename_i b hb;cases hw:b==want with
    | true =>
     rw[hw,cond_true] at h;have hbw:b=want:=by simpa using hw
     exact key (by simp only[CD];exact⟨d,hj,by rw[hb,hbw]⟩) h
    | false =>
     rw[hw,cond_false] at h;obtain⟨c1,ih⟩:=Ga tb m (k+1) h c;obtain⟨c1,hfx⟩:=GQ c1;exact⟨c1,fun hq=>VM ho hn hj hb hw hfx (ih hq)⟩
   ·rename_i hb;obtain⟨c1,ih⟩:=Ga tb m (k+1) h c;obtain⟨c1,hfx⟩:=GQ c1;exact⟨c1,fun hq=>TY ho hn hj hb hfx (ih hq)⟩
   cases h
variable {k:Nat}{τ τ':Nat→AV}{H H':List Au}{rd rd':OY}{ef ef':N4}{effs effs':List Bool}{C:Prop}
theorem Vt {C:Prop}(c:C:=by repeat' first | exact trivial | refine And.intro ?_ ?_ | ((refine Or.inr (And.intro ?_ ?_)<;>repeat (first | exact List.Mem.head _ | apply List.Mem.tail));done) | exact Or.inl AZ | exact Tj):C:=c
theorem BE (tb:Oz P) (m:Nat) (is:List Nat) (h:G3 tb ops opn fx m k τ H rd ef effs is True=some (τ',H',rd',ef',effs',C)) (next:Dr P ops n τ₀ D Q opn (k+m) τ' H' rd' ef' effs' fx) (c:C:=by exact Vt):Dr P ops n τ₀ D Q opn k τ H rd ef effs fx:=(Ga tb m k h c).2 next
theorem Bl (tb:Oz P) (m:Nat) (is:List Nat) (h:G3 tb ops opn fx m k τ H rd ef effs is True=some (τ',H',rd',ef',effs',C)) (next:Q .normal ⟨n,τ',H',D⟩) (hk:k+m=ops.size:=by exact rfl) (chk:Ip ops n effs'.reverse=true:=by kernel_rfl) (c:C:=by exact Vt):Dr P ops n τ₀ D Q opn k τ H rd ef effs fx:=BE tb m is h (F5 hk chk next) c
end
end Go.Abs
namespace Go.Proofs.YtldfmjoncbjldaaGreat
open Go.Abs
def eT:List (Nat×Bool×Nat):=[(26,true,5),(3,false,1),(24,false,1),(116,true,2),(134,true,23),(9,false,1),(114,false,1),(23,false,1),(126,true,9),(142,true,8),(132,false,1),(129,false,1),(177,true,2),(140,false,1),(4,false,1),(29,false,1),(91,false,1),(22,false,1),(244,true,25),(299,false,1),(105,false,1),(150,false,1),(144,true,15),(240,true,10),(233,false,1),(253,false,1),(88,false,1),(94,false,1),(153,false,1),(154,false,1),(60,false,1),(77,false,1),(107,true,9),(200,true,2),(160,true,1),(261,true,2),(230,true,65),(205,true,6),(54,true,0),(158,false,1),(56,false,1),(178,true,0),(124,false,1),(227,false,1),(221,false,1)]
def eG:List (Nat×List (Nat×Nat)):=[(26,[(0,1),(1,1),(2,1),(3,1),(4,1)]),(134,[(0,1),(1,1),(2,1),(3,5),(8,5),(13,1),(14,1),(15,7),(22,1)]),(116,[(0,1),(1,1)]),(142,[(0,1),(1,5),(6,1),(7,1)]),(126,[(0,1),(1,1),(2,1),(3,1),(4,5)]),(177,[(0,1),(1,1)]),(144,[(0,1),(1,5),(6,1),(7,8)]),(131,[(0,1),(1,5),(6,1)]),(67,[(0,1),(1,1),(2,1),(3,1),(4,1)]),(240,[(0,1),(1,1),(2,8)]),(109,[(0,9),(9,1)]),(82,[(0,1),(1,1)]),(107,[(0,1),(1,1),(2,5),(7,1),(8,1)]),(205,[(0,1),(1,5)]),(229,[(0,1),(1,1),(2,1),(3,1),(4,1)]),(58,[(0,1),(1,1),(2,1)]),(244,[(0,1),(1,1),(2,23)]),(102,[(0,1),(1,1),(2,1)]),(255,[(0,1),(1,1)]),(171,[(0,5),(5,1),(6,1)]),(181,[(0,1),(1,1)]),(200,[(0,1),(1,1)]),(261,[(0,1),(1,1)]),(99,[(0,1),(1,1)]),(97,[(0,1),(1,1)]),(156,[(0,1)]),(160,[(0,1)]),(54,[]),(178,[])]
def de:List (Nat×List AV):=[(26,[.p (.int .i64 0),.p (.int .i64 0),.p (.str ⟨#[]⟩),.p .nils,.p .nils]),(116,[.p (.int .i64 0),.p .nils]),(229,[.p (.bool false),.p (.bool false),.p (.int .i64 0),.p (.int .i64 0),.p (.int .i64 0)]),(134,[.p (.int .i64 0),.p (.str ⟨#[]⟩),.p (.int .i64 0),.p (.int .i64 0),.p (.int .i64 0),.p (.str ⟨#[]⟩),.p .nils,.p .nils,.p (.int .i64 0),.p (.int .i64 0),.p (.str ⟨#[]⟩),.p .nils,.p .nils,.p (.int .i64 0),.p .nils,.p (.int .i64 0),.p (.int .i64 0),.p (.int .i64 0),.p (.str ⟨#[]⟩),.p .nils,.p .nils,.p .nils,.p .nils]),(126,[.p (.int .i64 0),.p (.int .i64 0),.p (.int .i64 0),.p (.int .i64 0),.p (.int .i64 0),.p (.int .i64 0),.p (.str ⟨#[]⟩),.p .nils,.p .nils]),(109,[.p (.int .i64 0),.p (.int .i64 0),.p (.int .i64 0),.p (.int .i64 0),.p (.str ⟨#[]⟩),.p .nils,.p .nils,.p .nils,.p .nilFn,.p .nils]),(107,[.p (.int .i64 0),.p (.int .i64 0),.p (.int .i64 0),.p (.int .i64 0),.p (.str ⟨#[]⟩),.p .nils,.p .nils,.p .nils,.p .nilFn]),(177,[.p (.int .i64 0),.p (.int .i64 0)]),(82,[.p (.int .i64 0),.p (.int .i64 0)]),(99,[.nilp,.nilp]),(160,[.p .nilFn]),(54,[]),(142,[.p (.int .i64 0),.p (.int .i64 0),.p (.int .i64 0),.p (.str ⟨#[]⟩),.p .nils,.p .nils,.p (.int .i64 0),.p .nils]),(171,[.p (.int .i64 0),.p (.int .i64 0),.p (.str ⟨#[]⟩),.p .nils,.p .nils,.nilp,.p .nilIface]),(200,[.p (.int .i64 0),.p .nils]),(178,[]),(261,[.p (.int .i64 0),.p .nils]),(58,[.p .nils,.p (.int .i64 0),.p (.int .i64 0)]),(97,[.nilp,.p .nilFn]),(102,[.nilp,.nilp,.nilp]),(67,[.p (.int .i64 0),.p (.int .i64 0),.p (.int .i64 0),.p (.int .i64 0),.p (.bool false)]),(156,[.p (.int .i64 0)]),(181,[.p .nils,.p (.int .i64 0)]),(244,[.p .nils,.p .nils,.p (.int .i64 0),.p (.str ⟨#[]⟩),.p (.int .i64 0),.p (.int .i64 0),.p (.int .i64 0),.p (.str ⟨#[]⟩),.p .nils,.p .nils,.p (.int .i64 0),.p (.int .i64 0),.p (.str ⟨#[]⟩),.p .nils,.p .nils,.p (.int .i64 0),.p .nils,.p (.int .i64 0),.p (.int .i64 0),.p (.int .i64 0),.p (.str ⟨#[]⟩),.p .nils,.p .nils,.p .nils,.p .nils]),(255,[.p .any,.p (.int .i64 0)])]
theorem dk:OG (Cp Tryz.prog) eT:=And.intro AZ <| And.intro AZ <| And.intro AZ <| And.intro AZ <| And.intro AZ <| And.intro AZ <| And.intro AZ <| And.intro AZ <| And.intro AZ <| And.intro AZ <| And.intro AZ <| And.intro AZ <| And.intro AZ <| And.intro AZ <| And.intro AZ <| And.intro AZ <| And.intro AZ <| And.intro AZ <| And.intro AZ <| And.intro AZ <| And.intro AZ <| And.intro AZ <| And.intro AZ <| And.intro AZ <| And.intro AZ <| And.intro AZ <| And.intro AZ <| And.intro AZ <| And.intro AZ <| And.intro AZ <| And.intro AZ <| And.intro AZ <| And.intro AZ <| And.intro AZ <| And.intro AZ <| And.intro AZ <| And.intro AZ <| And.intro AZ <| And.intro AZ <| And.intro AZ <| And.intro AZ <| And.intro AZ <| And.intro AZ <| And.intro AZ <| And.intro AZ <| trivial
theorem eK:OG (fieldsOf Tryz.prog) eG:=And.intro AZ <| And.intro AZ <| And.intro AZ <| And.intro AZ <| And.intro AZ <| And.intro AZ <| And.intro AZ <| And.intro AZ <| And.intro AZ <| And.intro AZ <| And.intro AZ <| And.intro AZ <| And.intro AZ <| And.intro AZ <| And.intro AZ <| And.intro AZ <| And.intro AZ <| And.intro AZ <| And.intro AZ <| And.intro AZ <| And.intro AZ <| And.intro AZ <| And.intro AZ <| And.intro AZ <| And.intro AZ <| And.intro AZ <| And.intro AZ <| And.intro AZ <| And.intro AZ <| trivial
theorem dr:OG (Mc Tryz.prog) de:=And.intro AZ <| And.intro AZ <| And.intro AZ <| And.intro AZ <| And.intro AZ <| And.intro AZ <| And.intro AZ <| And.intro AZ <| And.intro AZ <| And.intro AZ <| And.intro AZ <| And.intro AZ <| And.intro AZ <| And.intro AZ <| And.intro AZ <| And.intro AZ <| And.intro AZ <| And.intro AZ <| And.intro AZ <| And.intro AZ <| And.intro AZ <| And.intro AZ <| And.intro AZ <| And.intro AZ <| And.intro AZ <| trivial
def Al:Oz Tryz.prog:=Yw eK dk dr
end Go.Proofs.YtldfmjoncbjldaaGreat
namespace Go.Proofs.YtldfmjoncbjldaaGreat
open Go.Abs Go.Eu
theorem _root_.Go.AA {α:Prop}(h:α:=by first | exact List.Sublist.refl _ | exact .cons _ (.refl _) | exact .cons _ (.cons _ (.refl _)) | exact .cons _ (.cons _ (.cons _ (.refl _))) | exact .cons _ (.cons _ (.cons _ (.cons _ (.refl _))))):α:=h
theorem _root_.Go.Ab {α:Prop}(h:α:=by simp_all):α:=h
theorem _root_.Go.AH {α:Prop}(h:α:=by first | exact List.Sublist.refl _ | exact List.sublist_cons_self _ _):α:=h
theorem VG:∀(a b:CE),a.vars.length<Ci→Dp Tryz.prog 64 [LV a,LV b] (.p (.bool (JT a b))):=by
 intro a b hb;obtain⟨ac,av⟩:=a;obtain⟨bc,bv⟩:=b;simp only[Ci] at hb;refine Ar Tryz.func64 O cf (n:=38) O O (Ao (A6 O (BF O) fun b2=>A6 O (BF O) fun b3=>Ag Al 1 [] O (Ai (Ai (BL [0,1,2,3,4,5] 19 (fun y=>y= .p (.bool (ac !=bc||(av.length:Int) !=bv.length))) ?_ ?_)))))
 ·refine Ap (Aq Al 6 [1,0] O (A5 11 O (fun g1=>?_) (fun g1=>?_)))
  ·(try simp only[sd] at g1);exact Ag Al 8 [] O (⟨O,O,AH,pB Ab,⟨O,O,O,O,O,O,Af⟩⟩)
  (try simp only[sd] at g1);exact Aq Al 2 [1] O (BP O (B5 DR O) (Aq Al 2 [0] O (BP O (B5 DR O) (Ag Al 2 [] O (⟨O,O,AH,pB Ab,⟨O,O,O,O,O,O,Af⟩⟩)))))
 rintro _ rfl;refine Ak O (fun c2=>?_) (fun c2=>?_)
 ·(try simp only[sd] at c2);refine Ah Al 1 [] O (Am ⟨O,_,[],Bx O,List.nil_sublist _,?_⟩);exact⟨pB (Cj (fun h=>by simp at h;simp[h] at *)).symm,rfl⟩
 (try simp only[sd] at c2);have h1:ac=bc∧av.length=bv.length:=by simp at c2;omega
 refine An (Ai (Ah Al 1 [] O (Aw (K3 (av.length) (fun i=>G5 av bv i) (fun i=>⟨38,mk [(2,.ptr b2 0),(3,.ptr b3 0),(5,.p (I i))],[.box b3 ((B0 ⟨bc,bv⟩).map .p),.box b2 ((B0 ⟨ac,av⟩).map .p)],[]⟩) (0) Ad (HJ _ _) ?_ ?_))))
 ·exact DK ⟨O,O,O,Af⟩ AA
 intro i hi hC;refine Ai (Ao (Aq Al 3 [1] O (Aj O (B5 DR O) (Ag Al 1 [] O (Ak O (fun c3=>?_) (fun c3=>?_))))))
 ·(try simp only[sd] at c3);have hi2:i<av.length:=by simp at c3;omega
  obtain⟨x,hx⟩:=Av hi2;obtain⟨y,hy⟩:=Av (l:=bv) (i:=i) Ad;refine An (Ai (Aw (Ai (Bt (fun k=>false) EY (BE Al 3 [1] O (A7 O (fun _=>As DR O O Ad (DV hx) (O)) Af (BE Al 4 [0] O (A7 O (fun _=>As DR O O Ad (DV hy) (O)) Af (A7 O (fun _=>BC SZ O (O)) Af (A7 O (fun _=>L7 VS O O) Af (F5 O AZ (Ak O (fun c4=>?_) (fun c4=>?_)))))))))))))
  ·(try simp only[sd] at c4);refine Ah Al 1 [] O (Am ⟨O,_,[],Bx O,List.nil_sublist _,?_⟩);exact⟨pB (Cj (fun h=>by simp at h;obtain⟨_,rfl⟩:=h;rw[hx] at hy;injection hy with hy;subst hy;simp_all)).symm,rfl⟩
  (try simp only[sd] at c4);have hxy:x=y:=by obtain⟨x1,x2⟩:=x;obtain⟨y1,y2⟩:=y;simp at c4;simp[c4]
  subst hxy;exact An (Ap (Ag Al 3 [] O (⟨by omega,HR hC hx hy,DK ⟨rfl,rfl,rfl,trivial⟩ AA⟩)))
 (try simp only[sd] at c3);have hi2:i=av.length:=by simp at c3;omega
 refine BQ (Ah Al 1 [] O (Am ⟨O,_,[],Bx O,List.nil_sublist _,?_⟩));exact⟨pB (Cl (by rw[h1.1,Ic hC Ad Ad])).symm,O⟩
theorem Ho:∀(a b:List CE),a.length<Ci→(∀l∈a,Ve l)→Dp Tryz.prog 36 [Zz a,Zz b] (.p (.bool (JT a b))):=by
 intro a b hb hn;simp only[Ci] at hb;refine Ar Tryz.func36 O dA (n:=27) O O (Ah Al 1 [] O (Ai (Ao (Ba O (Aj O (B5 Ee O) (Ba O (Aj O (B5 Ee O) (Ag Al 1 [] O (Ak O (fun c1=>?_) (fun c1=>?_))))))))))
 ·(try simp only[sd] at c1);refine Ah Al 1 [] O (Am ⟨O,_,[],Bx O,List.nil_sublist _,?_⟩);exact⟨pB (Cj (fun h=>by subst h;simp at *)).symm,rfl⟩
 (try simp only[sd] at c1);have h1:a.length=b.length:=by simp at c1;omega
 refine An (Ai (Ah Al 1 [] O (Aw (K3 (a.length) (fun i=>G5 a b i) (fun i=>⟨27,mk [(0,Zz a),(1,Zz b),(5,.p (I i))],[],[]⟩) (0) Ad (HJ _ _) ?_ ?_))))
 ·exact DK ⟨O,O,O,Af⟩ AA
 intro i hi hC;refine Ai (Ao (Aq Al 2 [] O (Aj O (B5 Ee O) (Ag Al 1 [] O (Ak O (fun c2=>?_) (fun c2=>?_))))))
 ·(try simp only[sd] at c2);have hi2:i<a.length:=by simp at c2;omega
  obtain⟨x,hx⟩:=Av hi2;obtain⟨y,hy⟩:=Av (l:=b) (i:=i) Ad;refine An (Ai (Aw (Ai (Bt (fun k=>false) EY (BE Al 2 [] O (A7 O (fun _=>As Ee O O Ad (Ek hx) (Ct _)) Af (BE Al 3 [] O (A7 O (fun _=>As Ee O O Ad (Ek hy) (Ct _)) Af (A7 O (fun _=>BC ME O (Ct _)) Af (A7 O (fun _=>A0 O O (VG x y (hn x (List.mem_of_getElem? hx)).vars) O) Af (Bl Al 1 [] O (Ak O (fun c3=>?_) (fun c3=>?_)))))))))))))
  ·(try simp only[sd] at c3);refine Ah Al 1 [] O (Am ⟨O,_,[],Bx O,List.nil_sublist _,?_⟩);exact⟨pB (Cj (fun h=>by subst h;rw[hx] at hy;injection hy with hy;subst hy;simp[Cl] at *)).symm,rfl⟩
  (try simp only[sd] at c3);have hxy:x=y:=ER.1 (by simpa using c3);subst hxy;exact An (Ap (Ag Al 3 [] O (⟨by omega,HR hC hx hy,DK ⟨rfl,rfl,rfl,trivial⟩ AA⟩)))
 (try simp only[sd] at c2);have hi2:i=a.length:=by simp at c2;omega
 refine BQ (Ah Al 1 [] O (Am ⟨O,_,[],Bx O,List.nil_sublist _,?_⟩));exact⟨pB (Cl (Ic hC Ad Ad)).symm,O⟩
theorem Rp:∀(n:Nat) (a b:Tm),size a≤n→Nd a→Dp Tryz.prog 14 [TV a,TV b] (.p (.bool (JT a b))):=by
 intro n
 induction n with
 | zero=>intro a b h;cases a;simp[size] at h
 | succ n ih =>
  intro a b hs hnd;obtain⟨ak,ai,an,al,aks⟩:=a;obtain⟨bk,bi,bn,bl,bks⟩:=b;simp only[size] at hs;simp only[Nd,Ci] at hnd;obtain⟨hn1,hn2,hn3,hn4,hn5,hn6⟩:=hnd;refine Ar Tryz.func14 O aU (n:=61) O O (Ao (A6 O (BF O) fun b2=>A6 O (BF O) fun b3=>Ag Al 1 [] O (Ai (Ai (BL [0,1,2,3,4,5] 41 (fun y=>y= .p (.bool (ak !=bk||ai !=bi|| !(an.toList==bn.toList)|| !(JT al bl)||(((A1 aks).length:Int) !=(A1 bks).length)))) ?_ ?_)))))
  ·refine Ap (Aq Al 6 [1,0] O (A5 11 O (fun g1=>?_) (fun g1=>?_)))
   ·(try simp only[sd] at g1);refine Aq Al 7 [] O (A5 18 O (fun g2=>?_) (fun g2=>?_))
    ·(try simp only[sd] at g2);refine Aq Al 7 [] O (A5 25 O (fun g3=>?_) (fun g3=>?_))
     ·(try simp only[sd] at g3);refine Aq Al 8 [] O (A5 33 O (fun g4=>?_) (fun g4=>?_))
      ·(try simp only[sd] at g4);exact Ag Al 8 [] O (⟨O,O,AH,pB Ab,⟨O,O,O,O,O,O,Af⟩⟩)
      (try simp only[sd] at g4);exact Aq Al 2 [1] O (BP O (B5 BI O) (Aq Al 2 [0] O (BP O (B5 BI O) (Ag Al 2 [] O (⟨O,O,AH,pB Ab,⟨O,O,O,O,O,O,Af⟩⟩)))))
     (try simp only[sd] at g3);refine Aq Al 4 [1,0] O (BP O (A0 O O (Ho al bl hn2 hn3) O) (Aq Al 3 [] O (A5 33 O (fun g5=>?_) (fun g5=>?_))))
     ·(try simp only[sd] at g5);exact Ag Al 8 [] O (⟨O,O,AH,pB Ab,⟨O,O,O,O,O,O,Af⟩⟩)
     (try simp only[sd] at g5);exact Aq Al 2 [1] O (BP O (B5 BI O) (Aq Al 2 [0] O (BP O (B5 BI O) (Ag Al 2 [] O (⟨O,O,AH,pB Ab,⟨O,O,O,O,O,O,Af⟩⟩)))))
    (try simp only[sd] at g2);refine Aq Al 4 [1,0] O (BP O (Ij O O) (Aq Al 2 [] O (A5 25 O (fun g6=>?_) (fun g6=>?_))))
    ·(try simp only[sd] at g6);refine Aq Al 8 [] O (A5 33 O (fun g7=>?_) (fun g7=>?_))
     ·(try simp only[sd] at g7);exact Ag Al 8 [] O (⟨O,O,AH,pB Ab,⟨O,O,O,O,O,O,Af⟩⟩)
     (try simp only[sd] at g7);exact Aq Al 2 [1] O (BP O (B5 BI O) (Aq Al 2 [0] O (BP O (B5 BI O) (Ag Al 2 [] O (⟨O,O,AH,pB Ab,⟨O,O,O,O,O,O,Af⟩⟩)))))
    (try simp only[sd] at g6);refine Aq Al 4 [1,0] O (BP O (A0 O O (Ho al bl hn2 hn3) O) (Aq Al 3 [] O (A5 33 O (fun g8=>?_) (fun g8=>?_))))
    ·(try simp only[sd] at g8);exact Ag Al 8 [] O (⟨O,O,AH,pB Ab,⟨O,O,O,O,O,O,Af⟩⟩)
    (try simp only[sd] at g8);exact Aq Al 2 [1] O (BP O (B5 BI O) (Aq Al 2 [0] O (BP O (B5 BI O) (Ag Al 2 [] O (⟨O,O,AH,pB Ab,⟨O,O,O,O,O,O,Af⟩⟩)))))
   (try simp only[sd] at g1);refine Aq Al 7 [1,0] O (A5 18 O (fun g9=>?_) (fun g9=>?_))
   ·(try simp only[sd] at g9);refine Aq Al 7 [] O (A5 25 O (fun g10=>?_) (fun g10=>?_))
    ·(try simp only[sd] at g10);refine Aq Al 8 [] O (A5 33 O (fun g11=>?_) (fun g11=>?_))
     ·(try simp only[sd] at g11);exact Ag Al 8 [] O (⟨O,O,AH,pB Ab,⟨O,O,O,O,O,O,Af⟩⟩)
     (try simp only[sd] at g11);exact Aq Al 2 [1] O (BP O (B5 BI O) (Aq Al 2 [0] O (BP O (B5 BI O) (Ag Al 2 [] O (⟨O,O,AH,pB Ab,⟨O,O,O,O,O,O,Af⟩⟩)))))
    (try simp only[sd] at g10);refine Aq Al 4 [1,0] O (BP O (A0 O O (Ho al bl hn2 hn3) O) (Aq Al 3 [] O (A5 33 O (fun g12=>?_) (fun g12=>?_))))
    ·(try simp only[sd] at g12);exact Ag Al 8 [] O (⟨O,O,AH,pB Ab,⟨O,O,O,O,O,O,Af⟩⟩)
    (try simp only[sd] at g12);exact Aq Al 2 [1] O (BP O (B5 BI O) (Aq Al 2 [0] O (BP O (B5 BI O) (Ag Al 2 [] O (⟨O,O,AH,pB Ab,⟨O,O,O,O,O,O,Af⟩⟩)))))
   (try simp only[sd] at g9);refine Aq Al 4 [1,0] O (BP O (Ij O O) (Aq Al 2 [] O (A5 25 O (fun g13=>?_) (fun g13=>?_))))
   ·(try simp only[sd] at g13);refine Aq Al 8 [] O (A5 33 O (fun g14=>?_) (fun g14=>?_))
    ·(try simp only[sd] at g14);exact Ag Al 8 [] O (⟨O,O,AH,pB Ab,⟨O,O,O,O,O,O,Af⟩⟩)
    (try simp only[sd] at g14);exact Aq Al 2 [1] O (BP O (B5 BI O) (Aq Al 2 [0] O (BP O (B5 BI O) (Ag Al 2 [] O (⟨O,O,AH,pB Ab,⟨O,O,O,O,O,O,Af⟩⟩)))))
   (try simp only[sd] at g13);refine Aq Al 4 [1,0] O (BP O (A0 O O (Ho al bl hn2 hn3) O) (Aq Al 3 [] O (A5 33 O (fun g15=>?_) (fun g15=>?_))))
   ·(try simp only[sd] at g15);exact Ag Al 8 [] O (⟨O,O,AH,pB Ab,⟨O,O,O,O,O,O,Af⟩⟩)
   (try simp only[sd] at g15);exact Aq Al 2 [1] O (BP O (B5 BI O) (Aq Al 2 [0] O (BP O (B5 BI O) (Ag Al 2 [] O (⟨O,O,AH,pB Ab,⟨O,O,O,O,O,O,Af⟩⟩)))))
  rintro _ rfl;refine Ak O (fun c16=>?_) (fun c16=>?_)
  ·(try simp only[sd] at c16);refine Ah Al 1 [] O (Am ⟨O,_,[],Bx O,List.nil_sublist _,?_⟩);exact⟨pB (Cj (fun h=>by simp at h;simp[h,Cl] at *)).symm,rfl⟩
  (try simp only[sd] at c16);have h1:ak=bk∧ai=bi∧an.toList=bn.toList∧al=bl∧aks.length=bks.length:=by simp[A2,ER] at c16;obtain⟨⟨⟨⟨e1,e2⟩,e3⟩,e4⟩,e5⟩:=c16;exact⟨e1,e2,e3,e4,by omega⟩
  refine An (Ai (Ah Al 1 [] O (Aw (K3 (aks.length) (fun i=>G5 aks bks i) (fun i=>⟨61,mk [(2,.ptr b2 0),(3,.ptr b3 0),(5,.p (I i))],[.box b3 ((BA (.mk bk bi bn bl bks)).map .p),.box b2 ((BA (.mk ak ai an al aks)).map .p)],[]⟩) (0) Ad (HJ _ _) ?_ ?_))))
  ·exact DK ⟨O,O,O,Af⟩ AA
  intro i hi hC;refine Ai (Ao (Aq Al 3 [1] O (Aj O (B5 BI O) (Ag Al 1 [] O (Ak O (fun c17=>?_) (fun c17=>?_))))))
  ·(try simp only[sd] at c17);have hi2:i<aks.length:=by simp[A2] at c17;omega
   obtain⟨x,hx⟩:=Av hi2;obtain⟨y,hy⟩:=Av (l:=bks) (i:=i) Ad;refine An (Ai (Aw (Ai (Bt (fun k=>false) EY (BE Al 3 [1] O (A7 O (fun _=>As BI O O Ad (BB hx) (Ay _)) Af (BE Al 4 [0] O (A7 O (fun _=>As BI O O Ad (BB hy) (Ay _)) Af (A7 O (fun _=>BC Be O (Ay _)) Af (A7 O (fun _=>A0 O O (ih x y (by have:=Bg hx;omega) (B2 hn5 hx)) O) Af (Bl Al 1 [] O (Ak O (fun c18=>?_) (fun c18=>?_)))))))))))))
   ·(try simp only[sd] at c18);refine Ah Al 1 [] O (Am ⟨O,_,[],Bx O,List.nil_sublist _,?_⟩);exact⟨pB (Cj (fun h=>by simp at h;obtain⟨_,_,_,_,rfl⟩:=h;rw[hx] at hy;injection hy with hy;subst hy;simp[Cl] at *)).symm,rfl⟩
   (try simp only[sd] at c18);have hxy:x=y:=ER.1 (by simpa using c18);subst hxy;exact An (Ap (Ag Al 3 [] O (⟨by omega,HR hC hx hy,DK ⟨rfl,rfl,rfl,trivial⟩ AA⟩)))
  (try simp only[sd] at c17);have hi2:i=aks.length:=by simp[A2] at c17;omega
  refine BQ (Ah Al 1 [] O (Am ⟨O,_,[],Bx O,List.nil_sublist _,?_⟩));exact⟨pB (Cl (by obtain⟨e1,e2,e3,e4,e5⟩:=h1;rw[e1,e2,e4,Hj e3,Ic hC Ad Ad])).symm,rfl⟩
theorem Xi:∀(n:Nat) (t:Tm),size t≤n→size t<2 ^ 62→Dp Tryz.prog 26 [TV t] (.p (I (size t))):=by
 intro n
 induction n with
 | zero=>intro t h;cases t;simp[size] at h
 | succ n ih =>
  intro t hn hb;obtain⟨kd,ix,nm,ls,ks⟩:=t;simp only[size] at hn hb;refine Ar Tryz.func26 O bZ (n:=21) O O (Ao (A6 O (BF O) fun b1=>Ag Al 1 [] O (Ah Al 1 [] O (Ai (Ah Al 1 [] O (Aw (QJ (ks.length) (fun i=>⟨21,mk [(1,.ptr b1 0),(3,.p (I (1+A4 (ks.take i):Nat))),(4,.p (I i))],[.box b1 ((BA (.mk kd ix nm ls ks)).map .p)],[]⟩) (0) Ad ?_ ?_)))))))
  ·exact DK ⟨O,O,O,Af⟩ AA
  intro i hi;have hsz:=FP (ts:=ks) i;have hll:=DQ ks;refine Ai (Ao (Aq Al 3 [0] O (Aj O (B5 BI O) (Ag Al 1 [] O (Ak O (fun c1=>?_) (fun c1=>?_))))))
  ·(try simp only[sd] at c1);have hi2:i<ks.length:=by rw[A2] at c1;omega
   obtain⟨t,hk⟩:∃t,ks[i]?=some t:=⟨_,List.getElem?_eq_getElem hi2⟩;have hks:=Bg hk;have hsz2:=Ei hk;have hsz3:=FP (ts:=ks) (i+1);exact An (Ai (Aw (Ap (Aq Al 4 [0] O (Aj O (As BI O O Ad (BB hk) (Ay _)) (Aj O (BC Be O (Ay _)) (Aj O (A0 O O (ih t Ad Ad) O) (Ag Al 2 [] O (Ap (Ag Al 3 [] O (⟨by omega,DK ⟨rfl,pI (by rw[Ei hk];omega),rfl,trivial⟩ AA⟩)))))))))))
  (try simp only[sd] at c1);have hi2:i=ks.length:=by rw[A2] at c1;omega
  refine BQ (Ah Al 2 [] O (Am ⟨O,_,[],Bx O,List.nil_sublist _,?_⟩));exact⟨pI (by subst hi2;rw[List.take_length];simp[size]),O⟩
theorem Tn:∀(n:Nat) (t:Tm),size t≤n→size t<2 ^ 62→Dp Tryz.prog 87 [TV t] (.p (I (depth t))):=by
 intro n
 induction n with
 | zero=>intro t h;cases t;simp[size] at h
 | succ n ih =>
  intro t hn hb;obtain⟨kd,ix,nm,ls,ks⟩:=t;simp only[size] at hn hb;refine Ar Tryz.func87 O cu (n:=22) O O (Ao (A6 O (BF O) fun b1=>Ag Al 1 [] O (Ah Al 1 [] O (Ai (Ah Al 1 [] O (Aw (QJ (ks.length) (fun i=>⟨22,mk [(1,.ptr b1 0),(3,.p (I (Db (ks.take i):Nat))),(4,.p (I i))],[.box b1 ((BA (.mk kd ix nm ls ks)).map .p)],[]⟩) (0) Ad ?_ ?_)))))))
  ·exact DK ⟨O,O,O,Af⟩ AA
  intro i hi;have hsz:=FP (ts:=ks) i;have hll:=DQ ks;have hdd:=EK ks;have hdi:=Jq (ts:=ks) i;refine Ai (Ao (Aq Al 3 [0] O (Aj O (B5 BI O) (Ag Al 1 [] O (Ak O (fun c1=>?_) (fun c1=>?_))))))
  ·(try simp only[sd] at c1);have hi2:i<ks.length:=by rw[A2] at c1;omega
   obtain⟨t,hk⟩:∃t,ks[i]?=some t:=⟨_,List.getElem?_eq_getElem hi2⟩;have hks:=Bg hk;have hsz2:=Ei hk;have hsz3:=FP (ts:=ks) (i+1);exact An (Ai (Aw (Ap (Aq Al 4 [0] O (Aj O (As BI O O Ad (BB hk) (Ay _)) (Aj O (BC Be O (Ay _)) (Aj O (A0 O O (ih t Ad Ad) O) (Aj O (Mk O O) (Ag Al 1 [] O (Ap (Ag Al 3 [] O (⟨by omega,DK ⟨rfl,pI (by rw[NQ hk];omega),rfl,trivial⟩ AA⟩))))))))))))
  (try simp only[sd] at c1);have hi2:i=ks.length:=by rw[A2] at c1;omega
  refine BQ (Ah Al 3 [] O (Am ⟨O,_,[],Bx O,List.nil_sublist _,?_⟩));exact⟨pI (by subst hi2;rw[List.take_length];simp[depth]),O⟩
end Go.Proofs.YtldfmjoncbjldaaGreat
