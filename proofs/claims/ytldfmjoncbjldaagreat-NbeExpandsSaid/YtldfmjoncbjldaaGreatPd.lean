/- Part of the proofs: an abstract program logic, plain models and contracts of functions. -/
import Derived.Test.YtldfmjoncbjldaaGreatPc
import Derived.Test.YtldfmjoncbjldaaGreatPb
import Derived.Test.YtldfmjoncbjldaaGreatProg
set_option linter.unusedVariables false
set_option linter.unusedSimpArgs false
set_option maxRecDepth 100000
namespace Go.Abs
def eR (P:Program) (ops:Array Oper) (H:List Ap) (u:AV) (i₀ k:Nat) (o:Oper) (τ:Nat→AV) (e:Ez):Prop :=
 if k=i₀ then o.guard=none∧∀Bs,Bz P o (ev τ) (Bs++H) (fun r _=>r= .panic u) else Ha ops i₀ k=true∨Pc P ops H o τ e
def E7 (P:Program) (ops:Array Oper) (H:List Ap) (u:AV) (i₀:Nat):Nat→(Nat→AV)→List Ez→Prop
 | _,τ,[]=>True
 | k,τ,e::r=>∃o,ops[k]?=some o∧eR P ops H u i₀ k o τ e∧∀b,e.ok b→E7 P ops H u i₀ (k+1) (put τ o.dst (e.v b)) r
theorem E7.facts {P:Program}{ops:Array Oper}{H₀:List Ap}{τ:Nat→AV}{base:List Ez}{u:AV}{i₀:Nat}(β:Nat→BV):∀(r:List Ez) (k:Nat) (τk:Nat→AV),base.drop k=r→k+r.length=base.length→τk=τS ops (Eb β 0 base) τ k→E7 P ops H₀ u i₀ k τk r→(∀j,k≤j→j<base.length→(base.getD j .skip).ok (β j)) →
  (∀j,k≤j→j<base.length→∃o,ops[j]?=some o∧eR P ops H₀ u i₀ j o (τS ops (Eb β 0 base) τ j) (base.getD j .skip))
 | [],k,τk,hd,hk,ht,h,hβ=>by
  simp only[List.length_nil,Nat.add_zero] at hk;subst hk;exact fun j h1 h2=>by omega
 | e::r,k,τk,hd,hk,ht,h,hβ=>by
  obtain⟨o,ho,hok,hn⟩:=h;simp only[List.length_cons] at hk;have hb:base.getD k .skip=e:=by
   have:(base.drop k)[0]?=some e:=by rw[hd];rfl
   rw[List.getElem?_drop] at this;rw[List.getD_eq_getElem?_getD,show k=k+0 by omega,this];rfl
  have hd2:base.drop (k+1)=r:=by
   rw[←List.drop_drop,hd];rfl
  have h1:=E7.facts (τ:=τ) (base:=base) β r (k+1) _ hd2 Aa (by simp only[τS,ho,Option.bind_some];rw[DW β Aa,hb,←ht]) (hn (β k) (by have:=hβ k (Nat.le_refl _) Aa;rwa [hb] at this)) (fun j h1 h2=>hβ j Aa h2);intro j hj hl;by_cases e2:j=k
  ·subst e2;exact⟨o,ho,by rw[hb,←ht];exact hok⟩
  exact h1 j Aa hl
section
variable {P:Program}{ops:Array Oper}{H:List Ap}{u:AV}{i₀:Nat}{k:Nat}{τ:Nat→AV}{r:List Ez}{dst:Option Tmp}{op:Op}{ty:TypeId}{pos:String}{aft:Array Edge}{v:AV}
end
section
variable {P:Program}{dst:Option Tmp}{ty:TypeId}{pos:String}{aft:Array Edge}{g:Option (Nat×Bool)}{ρ:Operand→AV}{H:List Ap}{x y:Operand}
end
structure PH (P:Program) where
 fd:Nat→Option (List (Nat×Nat))
 ty:Nat→Option (Bool×Nat)
 zr:Nat→Option (List AV)
 hfd:∀T l,fd T=some l→fieldsOf P T=some l
 hty:∀T l,ty T=some l→Ck P T=some l
 hzr:∀T l,zr T=some l→∃z,zeroOf P T=some z∧z.cells.toList.map EN=l
def cN (op:BinOp) (m n:Int):Option Bool :=
 match op with | .eql=>some (m==n) | .neq=>some (m !=n) | .lss=>some (decide (m<n)) | .leq=>some (decide (m≤n)) | .gtr=>some (decide (m > n)) | .geq=>some (decide (m≥n)) | _=>none
def ZY (op:BinOp) (m n:Int):Option Int :=
 match op with | .add=>some (m+n) | .sub=>some (m - n) | .mul=>some (m*n) | _=>none
abbrev ZG:=AV×List Ap×List Nat×Prop
def Sa (op:BinOp) (H:List Ap) (is:List Nat) (C:Prop):AV→AV→Option ZG
 | .p (.int k m),.p (.int k' n) =>
  match cN op m n with
  | some b=>some (.p (.bool b),H,is,C∧k=k')
  | none =>
   match k,k',ZY op m n with
   | .i64,.i64,some r=>some (.p (.int .i64 r),H,is,(C∧ -9223372036854775808≤r)∧r≤9223372036854775807)
   | _,_,_=>none
 | _,_=>none
def NG (H:List Ap) (is:List Nat) (C:Prop) (t:Bool×Nat):AV→Option ZG
 | .ref cells =>
  bif t.1 then some (.agg (cells.map .p),H,is,C∧cells.length=t.2)
  else match cells with
   | c::_=>some (.p c,H,is,C)
   | []=>none
 | .ptr b o =>
  match is with
  | []=>none
  | i::is =>
   match H[i]? with
   | some (.box b' cs) =>
    bif t.1 then (match o with | 0=>some (.agg cs,H,is,(C∧b'=b)∧cs.length=t.2) | _+1=>none)
    else (match cs[o]? with | some v=>some (v,H,is,C∧b'=b) | none=>none)
   | _=>none
 | _=>none
def M0 (H:List Ap) (is:List Nat) (C:Prop) (t:Bool×Nat) (y:AV):AV→Option ZG
 | .ptr b o =>
  match is with
  | i::w::is =>
   match H[i]?,DC y,t.2 with
   | some (.box b' cs),some us,n+1 =>
    match w with
    | 0=>some (.p .any,H.set i (.box b (splice cs o us)),is,(((C∧b'=b)∧us.length=n+1)∧Nat.ble (o+(n+1)) cs.length=true)∧us.all one=true)
    | _+1=>match o with
     | 0=>some (.p .any,H.set i (.box b us),is,(((C∧b'=b)∧us.length=n+1)∧cs.length=n+1)∧us.all one=true)
     | _+1=>none
   | _,_,_=>none
  | _=>none
 | _=>none
def NQ (H:List Ap) (is:List Nat) (C:Prop) (off:Nat):AV→Option ZG
 | .ptr b o=>some (.ptr b (o+off),H,is,C)
 | .ref cells=>some (.ref (cells.drop off),H,is,C)
 | _=>none
def Hr {P:Program}(tb:PH P) (ρ:Operand→AV) (H:List Ap) (is:List Nat) (C:Prop):Op→Option ZG
 | .move x=>some (ρ x,H,is,C)
 | .assign x=>some (ρ x,H,is,C)
 | .pick x y z=>match ρ x with | .p (.bool b)=>some (bif b then ρ y else ρ z,H,is,C) | _=>none
 | .extract x i=>match ρ x with | .tup xs=>(match xs[i]? with | some v=>some (v,H,is,C) | none=>none) | _=>none
 | .nilCheck x=>match ρ x with | .ptr b o=>some (.ptr b o,H,is,C) | _=>none
 | .makeFunc fn first caps=>some (.fn fn (first.toList.map ρ) (caps.toList.map ρ),H,is,C)
 | .unOp .not T x=>match ρ x with | .p (.bool b)=>some (.p (.bool (!b)),H,is,C) | _=>none
 | .binOp op T x y U=>Sa op H is C (ρ x) (ρ y)
 | .fieldAddr T x i=>match tb.fd T with
  | some lay=>(match lay[i]? with | some (off,_+1)=>NQ H is C off (ρ x) | _=>none)
  | none=>none
 | .build T parts=>match tb.fd T,tb.zr T with
  | some lay,some z=>(match Et (lay[·]?) z (parts.toList.map fun p=>(p.1,ρ p.2)) with | some cs=>some (.agg cs,H,is,C) | none=>none)
  | _,_=>none
 | .load T x=>match tb.ty T with | some t=>NG H is C t (ρ x) | none=>none
 | .store T x y=>match tb.ty T with | some t=>M0 H is C t (ρ y) (ρ x) | none=>none
 | _=>none
section
variable {P:Program}{tb:PH P}{ρ:Operand→AV}{H H':List Ap}{is is':List Nat}{C C':Prop}{v:AV}
 {dst:Option Tmp} {ty:TypeId} {pos:String} {aft:Array Edge} {g:Option (Nat×Bool)}
theorem Df {op:Op}(h:Hr tb ρ H is C op=some (v,H',is',C')) (c:C'):C∧CG P ⟨dst,op,ty,pos,aft,g⟩ ρ H v H':=by
 unfold Hr at h;split at h
 ·injection h with h;simp only[Prod.mk.injEq] at h;obtain⟨rfl,rfl,rfl,rfl⟩:=h;exact⟨c,Ch rfl⟩
 ·injection h with h;simp only[Prod.mk.injEq] at h;obtain⟨rfl,rfl,rfl,rfl⟩:=h;exact⟨c,Pq rfl⟩
 ·split at h
  ·rename_i b hb;injection h with h;simp only[Prod.mk.injEq] at h;obtain⟨rfl,rfl,rfl,rfl⟩:=h;exact⟨c,TR hb rfl⟩
  cases h
 ·split at h
  ·rename_i xs hx;split at h
   ·rename_i u hu;injection h with h;simp only[Prod.mk.injEq] at h;obtain⟨rfl,rfl,rfl,rfl⟩:=h;exact⟨c,OR hx hu⟩
   cases h
  cases h
 ·split at h
  ·rename_i b o hx;injection h with h;simp only[Prod.mk.injEq] at h;obtain⟨rfl,rfl,rfl,rfl⟩:=h;exact⟨c,Mo hx⟩
  cases h
 ·injection h with h;simp only[Prod.mk.injEq] at h;obtain⟨rfl,rfl,rfl,rfl⟩:=h;exact⟨c,CS rfl rfl⟩
 ·split at h
  ·rename_i b hb;injection h with h;simp only[Prod.mk.injEq] at h;obtain⟨rfl,rfl,rfl,rfl⟩:=h;exact⟨c,U1 hb⟩
  cases h
 ·rename_i op T x y U;generalize hx:ρ x=vx at h;generalize hy:ρ y=vy at h;unfold Sa at h;split at h
  ·rename_i k m k' n;split at h
   ·rename_i b hb;injection h with h;simp only[Prod.mk.injEq] at h;obtain⟨rfl,rfl,rfl,rfl⟩:=h;obtain⟨c,rfl⟩:=c;exact⟨c,UW hx hy hb⟩
   split at h
   ·rename_i r hr;injection h with h;simp only[Prod.mk.injEq] at h;obtain⟨rfl,rfl,rfl,rfl⟩:=h;obtain⟨⟨c,c1⟩,c2⟩:=c;refine⟨c,?_⟩;unfold ZY at hr;split at hr
    ·injection hr with hr;subst hr;exact M4 hx hy c1 c2
    ·injection hr with hr;subst hr;exact Ve hx hy c1 c2
    ·injection hr with hr;subst hr;exact Uu hx hy c1 c2
    cases hr
   cases h
  cases h
 ·rename_i T x i;split at h
  ·rename_i lay hl;split at h
   ·rename_i off sz hi;generalize hx:ρ x=vx at h;unfold NQ at h;split at h
    ·injection h with h;simp only[Prod.mk.injEq] at h;obtain⟨rfl,rfl,rfl,rfl⟩:=h;exact⟨c,BH (tb.hfd _ _ hl) hi hx⟩
    ·injection h with h;simp only[Prod.mk.injEq] at h;obtain⟨rfl,rfl,rfl,rfl⟩:=h;exact⟨c,LQ (tb.hfd _ _ hl) hi hx⟩
    cases h
   cases h
  cases h
 ·rename_i T parts;split at h
  ·rename_i lay z hl hz;split at h
   ·rename_i cs hc;injection h with h;simp only[Prod.mk.injEq] at h;obtain⟨rfl,rfl,rfl,rfl⟩:=h;obtain⟨z',hz',rfl⟩:=tb.hzr _ _ hz;exact⟨c,D6 (tb.hfd _ _ hl) hz' hc⟩
   cases h
  cases h
 ·rename_i T x;split at h
  ·rename_i t ht;have ht:=tb.hty _ _ ht;obtain⟨tb1,tn⟩:=t;generalize hx:ρ x=vx at h;unfold NG at h;split at h
   ·rename_i cells;cases tb1 with
    | true =>
     simp only[cond_true] at h;injection h with h;simp only[Prod.mk.injEq] at h;obtain⟨rfl,rfl,rfl,rfl⟩:=h;exact⟨c.1,BE ht hx c.2⟩
    | false =>
     simp only[cond_false] at h;split at h
     ·injection h with h;simp only[Prod.mk.injEq] at h;obtain⟨rfl,rfl,rfl,rfl⟩:=h;exact⟨c,Gn ht hx⟩
     cases h
   ·rename_i b o;split at h
    ·cases h
    rename_i i is1;split at h
    ·rename_i b' cs hi;cases tb1 with
     | true =>
      simp only[cond_true] at h;split at h
      ·injection h with h;simp only[Prod.mk.injEq] at h;obtain⟨rfl,rfl,rfl,rfl⟩:=h;obtain⟨⟨c,rfl⟩,c2⟩:=c;exact⟨c,BQ ht hx hi c2⟩
      ·cases h
     | false =>
      simp only[cond_false] at h;split at h
      ·rename_i u hu;injection h with h;simp only[Prod.mk.injEq] at h;obtain⟨rfl,rfl,rfl,rfl⟩:=h;obtain⟨c,rfl⟩:=c;exact⟨c,BU ht hx hi hu⟩
      cases h
    cases h
   cases h
  cases h
 ·rename_i T x y;split at h
  ·rename_i t ht;have ht:=tb.hty _ _ ht;obtain⟨tb1,tn⟩:=t;generalize hx:ρ x=vx at h;generalize hy:ρ y=vy at h;unfold M0 at h;split at h
   ·rename_i b o;split at h
    ·rename_i i w is1;simp only at h;split at h
     ·rename_i b' cs us n hi hu hn;split at h
      ·injection h with h;simp only[Prod.mk.injEq] at h;obtain⟨rfl,rfl,rfl,rfl⟩:=h;obtain⟨⟨⟨⟨c,rfl⟩,c1⟩,c2⟩,c3⟩:=c;exact⟨c,EB ht hx hi (by rw[hy];exact hu) c1 c2 c3⟩
      split at h
      ·injection h with h;simp only[Prod.mk.injEq] at h;obtain⟨rfl,rfl,rfl,rfl⟩:=h;obtain⟨⟨⟨⟨c,rfl⟩,c1⟩,c2⟩,c3⟩:=c;exact⟨c,EL ht hx hi (by rw[hy];exact hu) c1 c2 c3⟩
      cases h
     cases h
    cases h
   cases h
  cases h
 cases h
def runs (tb:PH P) (ops:Array Oper) (n:Nat):Nat→Nat→(Nat→AV)→List Ap→List Nat→Prop→Option ((Nat→AV)×List Ap×Prop)
 | 0,_,τ,H,_,C=>some (τ,H,C)
 | m+1,k,τ,H,is,C =>
  match ops[k]? with
  | none=>none
  | some ⟨dst,op,_,_,_,g⟩ =>
   bif Db dst n then
    match g with
    | none =>
     (match Hr tb (ev τ) H is C op with
     | some (v,H',is',C')=>runs tb ops n m (k+1) (put τ dst v) H' is' C'
     | none=>none)
    | some (j,want) =>
     match (ops[j]?).bind (·.dst) with
     | none=>none
     | some d =>
      match τ d with
      | .p (.bool b) =>
       bif b==want then
        (match Hr tb (ev τ) H is C op with
        | some (v,H',is',C')=>runs tb ops n m (k+1) (put τ dst v) H' is' C'
        | none=>none)
       else runs tb ops n m (k+1) (put τ dst (.tup [])) H is C
      | .tup []=>runs tb ops n m (k+1) (put τ dst (.tup [])) H is C
      | _=>none
   else none
end
section
variable {P:Program}{r:Option Nat}{ops:Array Oper}{n:Nat}{D:List CI}{Q:Bl→A4→Prop}
theorem He (tb:PH P):∀(m k:Nat) {τ τ':Nat→AV}{H H':List Ap}{is:List Nat}{C C':Prop},runs tb ops n m k τ H is C=some (τ',H',C')→C' →
  C∧(AL P r ops (k+m) ⟨n,τ',H',D⟩ Q→AL P r ops k ⟨n,τ,H,D⟩ Q)
 | 0,k,τ,τ',H,H',is,C,C',h,c=>by
  simp only[runs,Option.some.injEq,Prod.mk.injEq] at h;obtain⟨rfl,rfl,rfl⟩:=h;exact⟨c,fun h=>h⟩
 | m+1,k,τ,τ',H,H',is,C,C',h,c=>by
  rw[runs] at h;split at h
  ·cases h
  rename_i dst op ty pos aft g ho;cases hd:Db dst n with
  | false=>rw[hd] at h;cases h
  | true =>
   rw[hd,cond_true] at h;rw[show k+(m+1)=k+1+m by omega];split at h
   ·split at h
    ·rename_i v H1 is1 C1 hv;obtain⟨c1,ih⟩:=He tb m (k+1) h c;obtain⟨c2,hop⟩:=Df (dst:=dst) (ty:=ty) (pos:=pos) (aft:=aft) (g:=none) hv c1;exact⟨c2,fun hq=>Mt ho hd hop (ih hq)⟩
    cases h
   rename_i j want;split at h
   ·cases h
   rename_i d hj;split at h
   ·rename_i b hb;cases hw:b==want with
    | true =>
     rw[hw,cond_true] at h;split at h
     ·rename_i v H1 is1 C1 hv;obtain⟨c1,ih⟩:=He tb m (k+1) h c;obtain⟨c2,hop⟩:=Df (dst:=dst) (ty:=ty) (pos:=pos) (aft:=aft) (g:=some (j,want)) hv c1;have hbw:b=want:=by simpa using hw
      exact⟨c2,fun hq=>OQ ho hj (by rw[hb,hbw]) hd hop (ih hq)⟩
     ·cases h
    | false =>
     rw[hw,cond_false] at h;obtain⟨c1,ih⟩:=He tb m (k+1) h c;exact⟨c1,fun hq=>Vi ho hj hb hw hd (ih hq)⟩
   ·rename_i hb;obtain⟨c1,ih⟩:=He tb m (k+1) h c;exact⟨c1,fun hq=>Tz ho hj hb hd (ih hq)⟩
   cases h
end
def look {α:Type}:List (Nat×α)→Nat→Option α
 | [],_=>none
 | (a,v)::r,t=>bif Nat.beq a t then some v else look r t
def OS {α:Type}(f:Nat→Option α):List (Nat×α)→Prop
 | []=>True
 | (a,v)::r=>f a=some v∧OS f r
theorem Jj {α:Type}{f:Nat→Option α}{T:Nat}{v:α}:∀{l:List (Nat×α)},OS f l→look l T=some v→f T=some v
 | [],_,h=>by cases h
 | (a,u)::r,ha,h=>by
  unfold look at h;cases hb:Nat.beq a T with
  | true=>rw[hb,cond_true] at h;injection h with h;subst h;rw[←Nat.eq_of_beq_eq_true hb];exact ha.1
  | false=>rw[hb,cond_false] at h;exact Jj ha.2 h
def Mn (P:Program) (T:Nat):Option (List AV):=(zeroOf P T).map fun z=>z.cells.toList.map EN
def Zl {P:Program}{fd:List (Nat×List (Nat×Nat))}{ty:List (Nat×Bool×Nat)}{zr:List (Nat×List AV)}(hf:OS (fieldsOf P) fd) (ht:OS (Ck P) ty) (hz:OS (Mn P) zr):PH P where
 fd:=look fd
 ty:=look ty
 zr:=look zr
 hfd _ _ h:=Jj hf h
 hty _ _ h:=Jj ht h
 hzr T l h:=by
  have h1:=Jj hz h;unfold Mn at h1;cases hq:zeroOf P T with
  | none=>rw[hq] at h1;cases h1
  | some z=>rw[hq] at h1;injection h1 with h1;exact⟨z,rfl,h1⟩
end Go.Abs
namespace Go.Eu
open Go.Abs
structure RV where
 name:ByteArray
 type:Tm
 deriving Inhabited
structure aX where
 params:Int
 type:Tm
 rules:List Tm
 deriving Inhabited
mutual
inductive FW where
 | mk (kind:Int) (body:Tm) (var:Int) (branches:List HT)
inductive HT where
 | mk (ctor:ByteArray) (absurd:Bool) (tree:FW)
end
instance:Inhabited FW:=⟨.mk 0 default 0 []⟩
instance:Inhabited HT:=⟨.mk default false default⟩
def FW.kind:FW→Int | .mk k _ _ _=>k
def FW.body:FW→Tm | .mk _ b _ _=>b
def FW.var:FW→Int | .mk _ _ v _=>v
def FW.branches:FW→List HT | .mk _ _ _ l=>l
def HT.ctor:HT→ByteArray | .mk c _ _=>c
def HT.absurd:HT→Bool | .mk _ a _=>a
def HT.tree:HT→FW | .mk _ _ t=>t
structure Oq where
 name:ByteArray
 type:Tm
 arity:Int
 tree:FW
 deriving Inhabited
structure Cc where
 kind:Int
 name:ByteArray
 params:Int
 type:Tm
 value:Tm
 fixed:Int
 ctors:List RV
 recs:aX
 funs:List Oq
 deriving Inhabited
structure HQ where
 kind:Int
 decl:Int
 item:Int
 params:Int
 type:Tm
 deriving Inhabited
structure fG where
 carrier:ByteArray
 add:ByteArray
 zero:ByteArray
 neg:ByteArray
 one:ByteArray
 leq:ByteArray
 lemmas:List ByteArray
 deriving Inhabited
structure fF where
 place:Int
 minus:Bool
 deriving Inhabited,DecidableEq
def Ny (c:RV):List PV:= .str c.name::A3 c.type
def Ut (r:aX):List PV:=I r.params::(A3 r.type++[.lst (Ax r.rules)])
mutual
def G5:FW→List PV
 | .mk k b v l=>I k::(A3 b++[I v,.lst (WJ l)])
def Lq:HT→List PV
 | .mk c a t=> .str c:: .bool a::G5 t
def WJ:List HT→List (List PV)
 | []=>[]
 | b::l=>Lq b::WJ l
end
def S9 (f:Oq):List PV:= .str f.name::(A3 f.type++(I f.arity::G5 f.tree))
def JT (d:Cc):List PV:=I d.kind:: .str d.name::I d.params::(A3 d.type++(A3 d.value++(I d.fixed:: .lst (d.ctors.map Ny)::(Ut d.recs++[.lst (d.funs.map S9)]))))
def Uc (e:HQ):List PV:=I e.kind::I e.decl::I e.item::I e.params::A3 e.type
def eK (t:fG):List PV:=[.str t.carrier,.str t.add,.str t.zero,.str t.neg,.str t.one,.str t.leq,.lst (t.lemmas.map Zi)]
def eV (s:fF):List PV:=[I s.place,.bool s.minus]
theorem R3 (c:RV):(Ny c).length=6:=by simp[Ny,Az]
theorem Np (r:aX):(Ut r).length=7:=by simp[Ut,Az]
theorem HK (t:FW):(G5 t).length=8:=by cases t;simp[G5,Az]
theorem RU (b:HT):(Lq b).length=10:=by cases b;simp[Lq,HK]
theorem Tc (f:Oq):(S9 f).length=15:=by simp[S9,Az,HK]
theorem N5 (d:Cc):(JT d).length=23:=by simp[JT,Az,Np]
theorem Tk (e:HQ):(Uc e).length=9:=by simp[Uc,Az]
theorem Bi {n:Nat}{c:PV}{r:List PV}(hc:c≠ .any∧c≠ .unit) (h:Cd n r):Cd (n+1) (c::r) :=
 ⟨by simp[h.1],fun x hx=>by
  rcases List.mem_cons.1 hx with rfl | hx
  ·exact hc
  exact h.2 x hx⟩
theorem Ea {n m:Nat}{a b:List PV}(ha:Cd n a) (hb:Cd m b):Cd (n+m) (a++b) :=
 ⟨by simp[ha.1,hb.1],fun x hx=>by
  rcases List.mem_append.1 hx with hx | hx
  ·exact ha.2 x hx
  exact hb.2 x hx⟩
theorem IV:Cd 0 []:=⟨rfl,fun c h=>by simp at h⟩
theorem Ua (c:RV):Cd 6 (Ny c):=Bi Ab (Fj _)
theorem Xg (r:aX):Cd 7 (Ut r):=Bi Ab (Ea (Fj _) (Bi Ab IV))
theorem Ki (t:FW):Cd 8 (G5 t):=by
 cases t with
 | mk k b v l=>unfold G5;exact Bi Ab (Ea (n:=5) (m:=2) (Fj _) (Bi Ab (Bi Ab IV)))
theorem Un (b:HT):Cd 10 (Lq b):=by
 cases b with
 | mk c a t=>unfold Lq;exact Bi Ab (Bi Ab (Ki t))
theorem Xs (f:Oq):Cd 15 (S9 f):=Bi Ab (Ea (n:=5) (m:=9) (Fj _) (Bi Ab (Ki _)))
theorem TF (d:Cc):Cd 23 (JT d):=Bi Ab (Bi Ab (Bi Ab (Ea (n:=5) (m:=15) (Fj _) (Ea (n:=5) (m:=10) (Fj _) (Bi Ab (Bi Ab (Ea (n:=7) (m:=1) (Xg _) (Bi Ab IV))))))))
theorem XM (e:HQ):Cd 9 (Uc e):=Bi Ab (Bi Ab (Bi Ab (Bi Ab (Fj _))))
theorem Ue (m:RV):((Ny m).map AV.p).all one=true:=Dj (Ua m)
theorem VB (m:FW):((G5 m).map AV.p).all one=true:=Dj (Ki m)
theorem UY (m:HT):((Lq m).map AV.p).all one=true:=Dj (Un m)
theorem Vo (m:Oq):((S9 m).map AV.p).all one=true:=Dj (Xs m)
theorem VE (m:Cc):((JT m).map AV.p).all one=true:=Dj (TF m)
theorem VX (m:HQ):((Uc m).map AV.p).all one=true:=Dj (XM m)
def ZC (n:ByteArray):ByteArray:=n++⟨#[46,114,101,99]⟩
def Q5 (i p:Int):List RV→Int→List (ByteArray×HQ)
 | [],_=>[]
 | c::cs,k=>(c.name,⟨4,i,k,p,c.type⟩)::Q5 i p cs (k+1)
def Vk (i p:Int):List Oq→Int→List (ByteArray×HQ)
 | [],_=>[]
 | c::cs,k=>(c.name,⟨6,i,k,p,c.type⟩)::Vk i p cs (k+1)
def XE (d:Cc) (i:Int):List (ByteArray×HQ) :=
 if d.kind=0∨d.kind=1∨d.kind=2 then [(d.name,⟨d.kind,i,0,d.params,d.type⟩)]
 else if d.kind=3 then (d.name,⟨3,i,0,d.params,d.type⟩)::(Q5 i d.params d.ctors 0++[(ZC d.name,⟨5,i,0,d.recs.params,d.recs.type⟩)])
 else if d.kind=4 then Vk i d.params d.funs 0
 else []
def KV (nm:ByteArray):List (ByteArray×HQ)→Option HQ
 | []=>none
 | (s,e)::l=>if s=nm then some e else KV nm l
def findF (nm:ByteArray):List Cc→Int→Option HQ
 | [],_=>none
 | d::ds,i=>match KV nm (XE d i) with
  | some e=>some e
  | none=>findF nm ds (i+1)
def aS:HQ:=⟨0,0,0,0,BF⟩
def C9 (ds:List Cc) (nm:ByteArray):HQ×Int:=match findF nm ds 0 with
 | some e=>(e,0)
 | none=>(aS,9)
section
variable {i p:Int}{nm:ByteArray}
end
def cu (d:Cc):List ByteArray :=
 if d.kind=0∨d.kind=1∨d.kind=2 then [d.name]
 else if d.kind=3 then d.name::d.ctors.map RV.name++[ZC d.name]
 else if d.kind=4 then d.funs.map Oq.name
 else []
def ez (l:List ByteArray) (s:ByteArray):Bool:=l.any fun x=>decide (x=s)
def V6 (nm:ByteArray) (i p:Int) (o:HQ):List RV→Int→HQ
 | [],_=>o
 | c::cs,k=>if c.name=nm then ⟨4,i,k,p,c.type⟩ else V6 nm i p o cs (k+1)
def aL (nm:ByteArray) (i p:Int) (o:HQ):List Oq→Int→HQ
 | [],_=>o
 | c::cs,k=>if c.name=nm then ⟨6,i,k,p,c.type⟩ else aL nm i p o cs (k+1)
def de (d:Cc) (i:Int) (nm:ByteArray):HQ :=
 if d.kind=0∨d.kind=1∨d.kind=2 then ⟨d.kind,i,0,d.params,d.type⟩
 else if d.kind=3 then (if nm=d.name then ⟨3,i,0,d.params,d.type⟩ else V6 nm i d.params ⟨5,i,0,d.recs.params,d.recs.type⟩ d.ctors 0)
 else aL nm i d.params ⟨0,i,0,d.params,d.type⟩ d.funs 0
structure aY where
 env:List Cc
 own:List ByteArray
 d:Cc
def Qn (s:aY):List PV:= .lst (s.env.map JT):: .lst (s.own.map Zi)::JT s.d
theorem Rw (s:aY):(Qn s).length=25:=by simp[Qn,N5]
theorem Ub (s:aY):Cd 25 (Qn s):=Bi Ab (Bi Ab (TF _))
theorem VA (m:aY):((Qn m).map AV.p).all one=true:=Dj (Ub m)
structure V2 (t:Tm):Prop where
 nd:Nd t
 sz:size t<1000000
mutual
def FM:FW→Prop
 | .mk k b v l=>V2 b∧l.length<2000000∧Kl l
def QR:HT→Prop
 | .mk c a t=>c.size<2000000∧FM t
def Kl:List HT→Prop
 | []=>True
 | b::l=>QR b∧Kl l
end
mutual
def Zw:FW→Nat
 | .mk k b v l=>1+V1 l
def aT:HT→Nat
 | .mk c a t=>Zw t
def V1:List HT→Nat
 | []=>0
 | b::l=>aT b+1+V1 l
end
structure Yb (c:RV):Prop where
 nm:c.name.size<2000000
 ty:V2 c.type
structure aB (f:Oq):Prop where
 nm:f.name.size<2000000
 ty:V2 f.type
 tr:FM f.tree
structure dt (d:Cc):Prop where
 nm:d.name.size<2000000
 ty:V2 d.type
 vl:V2 d.value
 cl:d.ctors.length<2000000
 cs:∀c∈d.ctors,Yb c
 rt:V2 d.recs.type
 rl:d.recs.rules.length<2000000
 rs:∀t∈d.recs.rules,V2 t
 fl:d.funs.length<2000000
 fs:∀f∈d.funs,aB f
structure Qv (ds:List Cc):Prop where
 len:ds.length<2000000
 all:∀d∈ds,dt d
theorem Qv.take {ds:List Cc}(h:Qv ds) (n:Nat):Qv (ds.take n) :=
 ⟨by have:=h.len;simp;omega,fun d hd=>h.all d (List.mem_of_mem_take hd)⟩
section
variable {d:Cc}{i:Int}{nm:ByteArray}
end
end Go.Eu
namespace Go.Abs
open Go.Eu
section
variable {P:Program}{r:Option Nat}{ops:Array Oper}{n k:Nat}{D:List CI}{Q:Bl→A4→Prop}{τ τ':Nat→AV}{H H':List Ap}{C:Prop}
theorem Vl {C:Prop}(c:C:=by repeat' first | exact trivial | refine And.intro ?_ ?_ | (simp only[List.length_map,Az,Tk,N5,Tc,HK,RU,Rw,R3,Np];done) | exact HF _ | exact VX _ | exact VE _ | exact VB _ | exact Vo _ | exact UY _ | exact Ue _ | exact VA _ | exact rfl | omega):C:=c
theorem Am (tb:PH P) (m:Nat) (is:List Nat) (h:runs tb ops n m k τ H is True=some (τ',H',C)) (next:AL P r ops (k+m) ⟨n,τ',H',D⟩ Q) (c:C:=by exact Vl):AL P r ops k ⟨n,τ,H,D⟩ Q:=(He tb m k h c).2 next
theorem Ad (tb:PH P) (m:Nat) (is:List Nat) (h:runs tb ops n m k τ H is True=some (τ',H',C)) (next:Q .normal ⟨n,τ',H',D⟩) (hk:ops.size - (k+m)=0:=by exact rfl) (c:C:=by exact Vl):AL P r ops k ⟨n,τ,H,D⟩ Q:=Am tb m is h (Bb hk next) c
theorem Ae {id:Nat}{c₂:Code}(tb:PH P) (m:Nat) (is:List Nat) (h:runs tb ops n m 0 τ H is True=some (τ',H',C)) (next:EX P r c₂ ⟨n,τ',H',D⟩ Q) (hk:ops.size - (0+m)=0:=by exact rfl) (c:C:=by exact Vl):EX P r (.seq (.region id ops false) c₂) ⟨n,τ,H,D⟩ Q:=Al (Ad tb m is h next hk c)
end
end Go.Abs
namespace Go.Abs
section
variable {P:Program}{tb:PH P}{ρ:Operand→AV}{H H':List Ap}{is is':List Nat}{C C':Prop}{v:AV}
 {dst:Option Tmp} {ty:TypeId} {pos:String} {aft:Array Edge} {g:Option (Nat×Bool)}
theorem Rp {op:Op}(h:Hr tb ρ [] [] C op=some (v,H',is',C')) (H:List Ap) (is:List Nat):Hr tb ρ H is C op=some (v,H,is,C'):=by
 unfold Hr at h ⊢;split at h
 ·injection h with h;simp only[Prod.mk.injEq] at h;obtain⟨rfl,rfl,rfl,rfl⟩:=h;rfl
 ·injection h with h;simp only[Prod.mk.injEq] at h;obtain⟨rfl,rfl,rfl,rfl⟩:=h;rfl
 ·split at h
  ·rename_i b hb;injection h with h;simp only[Prod.mk.injEq] at h;obtain⟨rfl,rfl,rfl,rfl⟩:=h;simp only[hb]
  cases h
 ·split at h
  ·rename_i xs hx;split at h
   ·rename_i u hu;injection h with h;simp only[Prod.mk.injEq] at h;obtain⟨rfl,rfl,rfl,rfl⟩:=h;simp only[hx,hu]
   cases h
  cases h
 ·split at h
  ·rename_i b o hx;injection h with h;simp only[Prod.mk.injEq] at h;obtain⟨rfl,rfl,rfl,rfl⟩:=h;simp only[hx]
  cases h
 ·injection h with h;simp only[Prod.mk.injEq] at h;obtain⟨rfl,rfl,rfl,rfl⟩:=h;rfl
 ·split at h
  ·rename_i b hb;injection h with h;simp only[Prod.mk.injEq] at h;obtain⟨rfl,rfl,rfl,rfl⟩:=h;simp only[hb]
  cases h
 ·rename_i op T x y U
  try dsimp only
  generalize hx:ρ x=vx at h ⊢;generalize hy:ρ y=vy at h ⊢;unfold Sa at h ⊢;split at h
  ·rename_i k m k' n
   try dsimp only
   split at h
   ·rename_i b hb;injection h with h;simp only[Prod.mk.injEq] at h;obtain⟨rfl,rfl,rfl,rfl⟩:=h;simp only[hb]
   rename_i hb;split at h
   ·rename_i r hr;injection h with h;simp only[Prod.mk.injEq] at h;obtain⟨rfl,rfl,rfl,rfl⟩:=h;simp only[hb,hr]
   cases h
  cases h
 ·rename_i T x i;split at h
  ·rename_i lay hl;split at h
   ·rename_i off sz hi
    try dsimp only
    generalize hx:ρ x=vx at h ⊢;unfold NQ at h ⊢;split at h
    ·injection h with h;simp only[Prod.mk.injEq] at h;obtain⟨rfl,rfl,rfl,rfl⟩:=h;simp only[hl,hi]
    ·injection h with h;simp only[Prod.mk.injEq] at h;obtain⟨rfl,rfl,rfl,rfl⟩:=h;simp only[hl,hi]
    cases h
   cases h
  cases h
 ·rename_i T parts;split at h
  ·rename_i lay z hl hz;split at h
   ·rename_i cs hc;injection h with h;simp only[Prod.mk.injEq] at h;obtain⟨rfl,rfl,rfl,rfl⟩:=h;simp only[hl,hz,hc]
   cases h
  cases h
 ·rename_i T x;split at h
  ·rename_i t ht
   try dsimp only
   try rw[ht]
   try dsimp only
   generalize hx:ρ x=vx at h ⊢;unfold NG at h ⊢;split at h
   ·rename_i cells
    try dsimp only
    cases hb:t.1 with
    | true =>
     rw[hb,cond_true] at h;injection h with h;simp only[Prod.mk.injEq] at h;obtain⟨rfl,rfl,rfl,rfl⟩:=h;rfl
    | false =>
     rw[hb,cond_false] at h;rw[cond_false];split at h
     ·injection h with h;simp only[Prod.mk.injEq] at h;obtain⟨rfl,rfl,rfl,rfl⟩:=h;rfl
     cases h
   ·cases h
   cases h
  cases h
 ·rename_i T x y;split at h
  ·rename_i t ht;generalize hx:ρ x=vx at h;unfold M0 at h;split at h
   ·cases h
   cases h
  cases h
 cases h
theorem RX {T:TypeId}{x:Operand}{ob:Ap}{i:Nat}(h:Hr tb ρ [ob] [0] C (.load T x)=some (v,H',is',C')) (h0:Hr tb ρ [] [] C (.load T x)=none) (hi:H[i]?=some ob):Hr tb ρ H [i] C (.load T x)=some (v,H,[],C'):=by
 unfold Hr at h h0 ⊢;dsimp only at h h0 ⊢;split at h
 ·rename_i t ht
  try simp only[ht] at h0
  skip
  generalize hx:ρ x=vx at h h0 ⊢;unfold NG at h h0 ⊢;split at h
  ·rename_i cells;dsimp only at h0;cases hb:t.1 with
   | true=>rw[hb,cond_true] at h0;cases h0
   | false =>
    rw[hb,cond_false] at h h0;split at h
    ·cases h0
    cases h
  ·rename_i b o;dsimp only at h ⊢;rw[hi];simp only[List.getElem?_cons_zero] at h;cases ob with
   | box b' cs =>
    dsimp only at h ⊢;cases hb:t.1 with
    | true =>
     rw[hb,cond_true] at h;rw[cond_true];split at h
     ·injection h with h;simp only[Prod.mk.injEq] at h;obtain⟨rfl,rfl,rfl,rfl⟩:=h;rfl
     ·cases h
    | false =>
     rw[hb,cond_false] at h;rw[cond_false];split at h
     ·rename_i u hu;injection h with h;simp only[Prod.mk.injEq] at h;obtain⟨rfl,rfl,rfl,rfl⟩:=h;rfl
     ·cases h
   | _=>cases h
  cases h
 cases h
def L6 (tb:PH P) (ops:Array Oper) (k:Nat) (ρ:Operand→AV) (H:List Ap) (rd:On) (ef:OY) (is:List Nat) (C:Prop) (op:Op):Option (Sp×List Nat×Prop) :=
 match Hr tb ρ [] [] C op with
 | some (v,_,_,C')=>some (.free v,is,C')
 | none =>
  match op with
  | .load T x =>
   match is with
   | i::is' =>
    match H[i]? with
    | some ob =>
     match Hr tb ρ [ob] [0] C (.load T x) with
     | some (v,_,_,C')=>some (.read [ob] v,is',C'∧RR ops k ob ef)
     | none=>none
    | none=>none
   | []=>none
  | .store T x y =>
   match Hr tb ρ H is C (.store T x y) with
   | some (v,H',is',C')=>some (.eff v H',is',C'∧FJ ops k H H' rd)
   | none=>none
  | _=>none
theorem GC {ops:Array Oper}{k:Nat}{τ:Nat→AV}{rd:On}{ef:OY}{op:Op}{s:Sp}(h:L6 tb ops k (ev τ) H rd ef is C op=some (s,is',C')) (c:C') (hw:B8 ops ⟨0,τ,[],[]⟩ ⟨dst,op,ty,pos,aft,g⟩) :
  C∧Th P ops ⟨dst,op,ty,pos,aft,g⟩ τ H s∧YS ops k H rd ef s:=by
 unfold L6 at h;split at h
 ·rename_i v H1 is1 C1 hv;injection h with h;simp only[Prod.mk.injEq] at h;obtain⟨rfl,rfl,rfl⟩:=h;exact⟨(Df (dst:=dst) (ty:=ty) (pos:=pos) (aft:=aft) (g:=g) hv c).1,⟨hw,fun H=>(Df (Rp hv H []) c).2⟩,Ac⟩
 rename_i hn;split at h
 ·split at h
  ·rename_i i is2;split at h
   ·rename_i ob hi;split at h
    ·rename_i v H1 is1 C1 hv;injection h with h;simp only[Prod.mk.injEq] at h;obtain⟨rfl,rfl,rfl⟩:=h;obtain⟨c1,c2⟩:=c;refine⟨(Df (dst:=dst) (ty:=ty) (pos:=pos) (aft:=aft) (g:=g) hv c1).1,⟨hw,fun ob' hm=>?_,fun H hm=>?_⟩,fun ob' hm=>?_⟩
     ·rw[List.mem_singleton] at hm;subst hm;exact List.mem_of_getElem? hi
     ·obtain⟨i',hi'⟩:=List.mem_iff_getElem?.1 (hm ob List.mem_cons_self);exact(Df (RX hv hn hi') c1).2
     rw[List.mem_singleton] at hm;subst hm;exact c2
    cases h
   cases h
  cases h
 ·split at h
  ·rename_i v H1 is1 C1 hv;injection h with h;simp only[Prod.mk.injEq] at h;obtain⟨rfl,rfl,rfl⟩:=h;obtain⟨c1,c2⟩:=c;obtain⟨c0,hop⟩:=Df (dst:=dst) (ty:=ty) (pos:=pos) (aft:=aft) (g:=g) hv c1;exact⟨c0,⟨hw,hop⟩,c2⟩
  cases h
 cases h
def YX (k:Nat) (s:Sp) (C:Prop):List (Nat×Sp)→Prop
 | []=>C
 | p::r=>C∧Dx k s (p::r)
theorem GW {k:Nat}{s:Sp}{C:Prop}:∀{fx:List (Nat×Sp)},YX k s C fx→C∧Dx k s fx
 | [],h=>⟨h,trivial⟩
 | p::r,h=>h
abbrev dU:=(Nat→AV)×List Ap×On×OY×List Bool×Prop
def NC (k:Nat) (τ:Nat→AV) (dst:Option Tmp) (H:List Ap) (rd:On) (ef:OY) (effs:List Bool) (fx:List (Nat×Sp)) (f:(Nat→AV)→List Ap→On→OY→List Bool→List Nat→Prop→Option dU):Option (Sp×List Nat×Prop)→Option dU
 | some (.free v,is,C)=>f (put τ dst v) H rd ef (false::effs) is (YX k (.free v) C fx)
 | some (.read [ob] v,is,C)=>f (put τ dst v) H ((k,ob)::rd) ef (false::effs) is (YX k (.read [ob] v) C fx)
 | some (.eff v H',is,C)=>f (put τ dst v) H' rd ((k,H,H')::ef) (true::effs) is (YX k (.eff v H') C fx)
 | _=>none
def Gv (tb:PH P) (ops:Array Oper) (opn:Nat→Bool) (fx:List (Nat×Sp)):Nat→Nat→(Nat→AV)→List Ap→On→OY→List Bool→List Nat→Prop→Option dU
 | 0,_,τ,H,rd,ef,effs,_,C=>some (τ,H,rd,ef,effs,C)
 | m+1,k,τ,H,rd,ef,effs,is,C =>
  match ops[k]? with
  | none=>none
  | some ⟨dst,op,_,_,_,g⟩ =>
   bif opn k then none else
    match g with
    | none=>NC k τ dst H rd ef effs fx (Gv tb ops opn fx m (k+1)) (L6 tb ops k (ev τ) H rd ef is C op)
    | some (j,want) =>
     match (ops[j]?).bind (·.dst) with
     | none=>none
     | some d =>
      match τ d with
      | .p (.bool b) =>
       bif b==want then NC k τ dst H rd ef effs fx (Gv tb ops opn fx m (k+1)) (L6 tb ops k (ev τ) H rd ef is C op)
       else Gv tb ops opn fx m (k+1) (put τ dst (.tup [])) H rd ef (false::effs) is (YX k .skip C fx)
      | .tup []=>Gv tb ops opn fx m (k+1) (put τ dst (.tup [])) H rd ef (false::effs) is (YX k .skip C fx)
      | _=>none
end
theorem _root_.Go.AW {α:Prop}(h:α:=by kernel_rfl):α:=h
section
variable {P:Program}{ops:Array Oper}{n:Nat}{τ₀:Nat→AV}{D:List CI}{Q:Bl→A4→Prop}{opn:Nat→Bool}{fx:List (Nat×Sp)}
theorem GZ (tb:PH P):∀(m k:Nat) {τ τ':Nat→AV}{H H':List Ap}{rd rd':On}{ef ef':OY}{effs effs':List Bool}{is:List Nat}{C C':Prop},Gv tb ops opn fx m k τ H rd ef effs is C=some (τ',H',rd',ef',effs',C')→C' →
  C∧(Dr P ops n τ₀ D Q opn (k+m) τ' H' rd' ef' effs' fx→Dr P ops n τ₀ D Q opn k τ H rd ef effs fx)
 | 0,k,τ,τ',H,H',rd,rd',ef,ef',effs,effs',is,C,C',h,c=>by
  simp only[Gv,Option.some.injEq,Prod.mk.injEq] at h;obtain⟨rfl,rfl,rfl,rfl,rfl,rfl⟩:=h;exact⟨c,fun h=>h⟩
 | m+1,k,τ,τ',H,H',rd,rd',ef,ef',effs,effs',is,C,C',h,c=>by
  rw[Gv] at h;split at h
  ·cases h
  rename_i dst op ty pos aft g ho;cases hn:opn k with
  | true=>rw[hn] at h;cases h
  | false =>
   rw[hn,cond_false] at h;rw[show k+(m+1)=k+1+m by omega];have key:B8 ops ⟨0,τ,[],[]⟩ ⟨dst,op,ty,pos,aft,g⟩→NC k τ dst H rd ef effs fx (Gv tb ops opn fx m (k+1)) (L6 tb ops k (ev τ) H rd ef is C op)=some (τ',H',rd',ef',effs',C')→C∧(Dr P ops n τ₀ D Q opn (k+1+m) τ' H' rd' ef' effs' fx→Dr P ops n τ₀ D Q opn k τ H rd ef effs fx):=by
    intro hw h;generalize hs:L6 tb ops k (ev τ) H rd ef is C op=so at h;unfold NC at h;split at h
    ·rename_i v is1 C1;obtain⟨c1,ih⟩:=GZ tb m (k+1) h c;obtain⟨c1,hfx⟩:=GW c1;obtain⟨c2,hok,howe⟩:=GC hs c1 hw;exact⟨c2,fun hq=> .step (.free v) ho (.inl hn) hok howe hfx (ih hq)⟩
    ·rename_i ob v is1 C1;obtain⟨c1,ih⟩:=GZ tb m (k+1) h c;obtain⟨c1,hfx⟩:=GW c1;obtain⟨c2,hok,howe⟩:=GC hs c1 hw;exact⟨c2,fun hq=> .step (.read [ob] v) ho (.inl hn) hok howe hfx (ih hq)⟩
    ·rename_i v H1 is1 C1;obtain⟨c1,ih⟩:=GZ tb m (k+1) h c;obtain⟨c1,hfx⟩:=GW c1;obtain⟨c2,hok,howe⟩:=GC hs c1 hw;exact⟨c2,fun hq=> .step (.eff v H1) ho (.inl hn) hok howe hfx (ih hq)⟩
    cases h
   split at h
   ·exact key AT h
   rename_i j want;split at h
   ·cases h
   rename_i d hj;split at h
   ·rename_i b hb;cases hw:b==want with
    | true =>
     rw[hw,cond_true] at h;have hbw:b=want:=by simpa using hw
     exact key (by simp only[B8];exact⟨d,hj,by rw[hb,hbw]⟩) h
    | false =>
     rw[hw,cond_false] at h;obtain⟨c1,ih⟩:=GZ tb m (k+1) h c;obtain⟨c1,hfx⟩:=GW c1;exact⟨c1,fun hq=>Vy ho hn hj hb hw hfx (ih hq)⟩
   ·rename_i hb;obtain⟨c1,ih⟩:=GZ tb m (k+1) h c;obtain⟨c1,hfx⟩:=GW c1;exact⟨c1,fun hq=>TJ ho hn hj hb hfx (ih hq)⟩
   cases h
variable {k:Nat}{τ τ':Nat→AV}{H H':List Ap}{rd rd':On}{ef ef':OY}{effs effs':List Bool}{C:Prop}
theorem Wm {C:Prop}(c:C:=by repeat' first | exact trivial | refine And.intro ?_ ?_ | ((refine Or.inr (And.intro ?_ ?_)<;>repeat (first | exact List.Mem.head _ | apply List.Mem.tail));done) | exact Or.inl AW | exact Vl):C:=c
theorem BC (tb:PH P) (m:Nat) (is:List Nat) (h:Gv tb ops opn fx m k τ H rd ef effs is True=some (τ',H',rd',ef',effs',C)) (next:Dr P ops n τ₀ D Q opn (k+m) τ' H' rd' ef' effs' fx) (c:C:=by exact Wm):Dr P ops n τ₀ D Q opn k τ H rd ef effs fx:=(GZ tb m k h c).2 next
theorem Bo (tb:PH P) (m:Nat) (is:List Nat) (h:Gv tb ops opn fx m k τ H rd ef effs is True=some (τ',H',rd',ef',effs',C)) (next:Q .normal ⟨n,τ',H',D⟩) (hk:k+m=ops.size:=by exact rfl) (chk:Ir ops n effs'.reverse=true:=by kernel_rfl) (c:C:=by exact Wm):Dr P ops n τ₀ D Q opn k τ H rd ef effs fx:=BC tb m is h (GU hk chk next) c
end
end Go.Abs
namespace Go.Proofs.YtldfmjoncbjldaaGreat
open Go.Abs
def fQ:List (Nat×Bool×Nat):=[(26,true,5),(3,false,1),(24,false,1),(116,true,2),(134,true,23),(9,false,1),(114,false,1),(23,false,1),(126,true,9),(142,true,8),(132,false,1),(129,false,1),(177,true,2),(140,false,1),(4,false,1),(29,false,1),(91,false,1),(22,false,1),(244,true,25),(299,false,1),(105,false,1),(150,false,1),(144,true,15),(240,true,10),(233,false,1),(253,false,1),(88,false,1),(94,false,1),(153,false,1),(154,false,1),(60,false,1),(77,false,1),(107,true,9),(200,true,2),(160,true,1),(261,true,2),(230,true,65),(205,true,6),(54,true,0),(158,false,1),(56,false,1),(178,true,0),(124,false,1),(227,false,1),(221,false,1)]
def fC:List (Nat×List (Nat×Nat)):=[(26,[(0,1),(1,1),(2,1),(3,1),(4,1)]),(134,[(0,1),(1,1),(2,1),(3,5),(8,5),(13,1),(14,1),(15,7),(22,1)]),(116,[(0,1),(1,1)]),(142,[(0,1),(1,5),(6,1),(7,1)]),(126,[(0,1),(1,1),(2,1),(3,1),(4,5)]),(177,[(0,1),(1,1)]),(144,[(0,1),(1,5),(6,1),(7,8)]),(131,[(0,1),(1,5),(6,1)]),(67,[(0,1),(1,1),(2,1),(3,1),(4,1)]),(240,[(0,1),(1,1),(2,8)]),(109,[(0,9),(9,1)]),(82,[(0,1),(1,1)]),(107,[(0,1),(1,1),(2,5),(7,1),(8,1)]),(205,[(0,1),(1,5)]),(229,[(0,1),(1,1),(2,1),(3,1),(4,1)]),(58,[(0,1),(1,1),(2,1)]),(244,[(0,1),(1,1),(2,23)]),(102,[(0,1),(1,1),(2,1)]),(255,[(0,1),(1,1)]),(171,[(0,5),(5,1),(6,1)]),(181,[(0,1),(1,1)]),(200,[(0,1),(1,1)]),(261,[(0,1),(1,1)]),(99,[(0,1),(1,1)]),(97,[(0,1),(1,1)]),(156,[(0,1)]),(160,[(0,1)]),(54,[]),(178,[])]
def ek:List (Nat×List AV):=[(26,[.p (.int .i64 0),.p (.int .i64 0),.p (.str ⟨#[]⟩),.p .nils,.p .nils]),(116,[.p (.int .i64 0),.p .nils]),(229,[.p (.bool false),.p (.bool false),.p (.int .i64 0),.p (.int .i64 0),.p (.int .i64 0)]),(134,[.p (.int .i64 0),.p (.str ⟨#[]⟩),.p (.int .i64 0),.p (.int .i64 0),.p (.int .i64 0),.p (.str ⟨#[]⟩),.p .nils,.p .nils,.p (.int .i64 0),.p (.int .i64 0),.p (.str ⟨#[]⟩),.p .nils,.p .nils,.p (.int .i64 0),.p .nils,.p (.int .i64 0),.p (.int .i64 0),.p (.int .i64 0),.p (.str ⟨#[]⟩),.p .nils,.p .nils,.p .nils,.p .nils]),(126,[.p (.int .i64 0),.p (.int .i64 0),.p (.int .i64 0),.p (.int .i64 0),.p (.int .i64 0),.p (.int .i64 0),.p (.str ⟨#[]⟩),.p .nils,.p .nils]),(109,[.p (.int .i64 0),.p (.int .i64 0),.p (.int .i64 0),.p (.int .i64 0),.p (.str ⟨#[]⟩),.p .nils,.p .nils,.p .nils,.p .nilFn,.p .nils]),(107,[.p (.int .i64 0),.p (.int .i64 0),.p (.int .i64 0),.p (.int .i64 0),.p (.str ⟨#[]⟩),.p .nils,.p .nils,.p .nils,.p .nilFn]),(177,[.p (.int .i64 0),.p (.int .i64 0)]),(82,[.p (.int .i64 0),.p (.int .i64 0)]),(99,[.nilp,.nilp]),(160,[.p .nilFn]),(54,[]),(142,[.p (.int .i64 0),.p (.int .i64 0),.p (.int .i64 0),.p (.str ⟨#[]⟩),.p .nils,.p .nils,.p (.int .i64 0),.p .nils]),(171,[.p (.int .i64 0),.p (.int .i64 0),.p (.str ⟨#[]⟩),.p .nils,.p .nils,.nilp,.p .nilIface]),(200,[.p (.int .i64 0),.p .nils]),(178,[]),(261,[.p (.int .i64 0),.p .nils]),(58,[.p .nils,.p (.int .i64 0),.p (.int .i64 0)]),(97,[.nilp,.p .nilFn]),(102,[.nilp,.nilp,.nilp]),(67,[.p (.int .i64 0),.p (.int .i64 0),.p (.int .i64 0),.p (.int .i64 0),.p (.bool false)]),(156,[.p (.int .i64 0)]),(181,[.p .nils,.p (.int .i64 0)]),(244,[.p .nils,.p .nils,.p (.int .i64 0),.p (.str ⟨#[]⟩),.p (.int .i64 0),.p (.int .i64 0),.p (.int .i64 0),.p (.str ⟨#[]⟩),.p .nils,.p .nils,.p (.int .i64 0),.p (.int .i64 0),.p (.str ⟨#[]⟩),.p .nils,.p .nils,.p (.int .i64 0),.p .nils,.p (.int .i64 0),.p (.int .i64 0),.p (.int .i64 0),.p (.str ⟨#[]⟩),.p .nils,.p .nils,.p .nils,.p .nils]),(255,[.p .any,.p (.int .i64 0)])]
theorem fA:OS (Ck Tryz.prog) fQ:=And.intro AW <| And.intro AW <| And.intro AW <| And.intro AW <| And.intro AW <| And.intro AW <| And.intro AW <| And.intro AW <| And.intro AW <| And.intro AW <| And.intro AW <| And.intro AW <| And.intro AW <| And.intro AW <| And.intro AW <| And.intro AW <| And.intro AW <| And.intro AW <| And.intro AW <| And.intro AW <| And.intro AW <| And.intro AW <| And.intro AW <| And.intro AW <| And.intro AW <| And.intro AW <| And.intro AW <| And.intro AW <| And.intro AW <| And.intro AW <| And.intro AW <| And.intro AW <| And.intro AW <| And.intro AW <| And.intro AW <| And.intro AW <| And.intro AW <| And.intro AW <| And.intro AW <| And.intro AW <| And.intro AW <| And.intro AW <| And.intro AW <| And.intro AW <| And.intro AW <| trivial
theorem ea:OS (fieldsOf Tryz.prog) fC:=And.intro AW <| And.intro AW <| And.intro AW <| And.intro AW <| And.intro AW <| And.intro AW <| And.intro AW <| And.intro AW <| And.intro AW <| And.intro AW <| And.intro AW <| And.intro AW <| And.intro AW <| And.intro AW <| And.intro AW <| And.intro AW <| And.intro AW <| And.intro AW <| And.intro AW <| And.intro AW <| And.intro AW <| And.intro AW <| And.intro AW <| And.intro AW <| And.intro AW <| And.intro AW <| And.intro AW <| And.intro AW <| And.intro AW <| trivial
theorem eg:OS (Mn Tryz.prog) ek:=And.intro AW <| And.intro AW <| And.intro AW <| And.intro AW <| And.intro AW <| And.intro AW <| And.intro AW <| And.intro AW <| And.intro AW <| And.intro AW <| And.intro AW <| And.intro AW <| And.intro AW <| And.intro AW <| And.intro AW <| And.intro AW <| And.intro AW <| And.intro AW <| And.intro AW <| And.intro AW <| And.intro AW <| And.intro AW <| And.intro AW <| And.intro AW <| And.intro AW <| trivial
def Aj:PH Tryz.prog:=Zl ea fA eg
end Go.Proofs.YtldfmjoncbjldaaGreat
namespace Go.Proofs.YtldfmjoncbjldaaGreat
open Go.Abs Go.Eu
theorem _root_.Go.AA {α:Prop}(h:α:=by first | exact List.Sublist.refl _ | exact .cons _ (.refl _) | exact .cons _ (.cons _ (.refl _)) | exact .cons _ (.cons _ (.cons _ (.refl _))) | exact .cons _ (.cons _ (.cons _ (.cons _ (.refl _))))):α:=h
theorem _root_.Go.AY {α:Prop}(h:α:=by simp_all):α:=h
theorem _root_.Go.AG {α:Prop}(h:α:=by first | exact List.Sublist.refl _ | exact List.sublist_cons_self _ _):α:=h
theorem VQ:∀(a b:B6),a.vars.length<Cu→Dl Tryz.prog 64 [LV a,LV b] (.p (.bool (JW a b))):=by
 intro a b hb;obtain⟨ac,av⟩:=a;obtain⟨bc,bv⟩:=b;simp only[Cu] at hb;refine An Tryz.func64 O cm (n:=38) O O (Al (A2 O (A9 O) fun b2=>A2 O (A9 O) fun b3=>Ad Aj 1 [] O (Af (Af (BL [0,1,2,3,4,5] 19 (fun y=>y= .p (.bool (ac !=bc||(av.length:Int) !=bv.length))) ?_ ?_)))))
 ·refine Ao (Am Aj 6 [1,0] O (A6 11 O (fun g1=>?_) (fun g1=>?_)))
  ·(try simp only[sd] at g1);exact Ad Aj 8 [] O (⟨O,O,AG,pB AY,⟨O,O,O,O,O,O,Ac⟩⟩)
  (try simp only[sd] at g1);exact Am Aj 2 [1] O (Ba O (B0 DO O) (Am Aj 2 [0] O (Ba O (B0 DO O) (Ad Aj 2 [] O (⟨O,O,AG,pB AY,⟨O,O,O,O,O,O,Ac⟩⟩)))))
 rintro _ rfl;refine Ag O (fun c2=>?_) (fun c2=>?_)
 ·(try simp only[sd] at c2);refine Ae Aj 1 [] O (Ai ⟨O,_,[],Bu O,List.nil_sublist _,?_⟩);exact⟨pB (Cf (fun h=>by simp at h;simp[h] at *)).symm,rfl⟩
 (try simp only[sd] at c2);have h1:ac=bc∧av.length=bv.length:=by simp at c2;omega
 refine Ak (Af (Ae Aj 1 [] O (Au (Jz (av.length) (fun i=>G2 av bv i) (fun i=>⟨38,mk [(2,.ptr b2 0),(3,.ptr b3 0),(5,.p (I i))],[.box b3 ((By ⟨bc,bv⟩).map .p),.box b2 ((By ⟨ac,av⟩).map .p)],[]⟩) (0) Aa (G8 _ _) ?_ ?_))))
 ·exact DE ⟨O,O,O,Ac⟩ AA
 intro i hi hC;refine Af (Al (Am Aj 3 [1] O (Ah O (B0 DO O) (Ad Aj 1 [] O (Ag O (fun c3=>?_) (fun c3=>?_))))))
 ·(try simp only[sd] at c3);have hi2:i<av.length:=by simp at c3;omega
  obtain⟨x,hx⟩:=Ar hi2;obtain⟨y,hy⟩:=Ar (l:=bv) (i:=i) Aa;refine Ak (Af (Au (Af (Bq (fun k=>false) Er (BC Aj 3 [1] O (A5 O (fun _=>Aq DO O O Aa (DV hx) (O)) Ac (BC Aj 4 [0] O (A5 O (fun _=>Aq DO O O Aa (DV hy) (O)) Ac (A5 O (fun _=>BE Sl O (O)) Ac (A5 O (fun _=>Lm WO O O) Ac (GU O AW (Ag O (fun c4=>?_) (fun c4=>?_)))))))))))))
  ·(try simp only[sd] at c4);refine Ae Aj 1 [] O (Ai ⟨O,_,[],Bu O,List.nil_sublist _,?_⟩);exact⟨pB (Cf (fun h=>by simp at h;obtain⟨_,rfl⟩:=h;rw[hx] at hy;injection hy with hy;subst hy;simp_all)).symm,rfl⟩
  (try simp only[sd] at c4);have hxy:x=y:=by obtain⟨x1,x2⟩:=x;obtain⟨y1,y2⟩:=y;simp at c4;simp[c4]
  subst hxy;exact Ak (Ao (Ad Aj 3 [] O (⟨by omega,HL hC hx hy,DE ⟨rfl,rfl,rfl,trivial⟩ AA⟩)))
 (try simp only[sd] at c3);have hi2:i=av.length:=by simp at c3;omega
 refine BS (Ae Aj 1 [] O (Ai ⟨O,_,[],Bu O,List.nil_sublist _,?_⟩));exact⟨pB (CN (by rw[h1.1,IQ hC Aa Aa])).symm,O⟩
theorem Hw:∀(a b:List B6),a.length<Cu→(∀l∈a,We l)→Dl Tryz.prog 36 [ao a,ao b] (.p (.bool (JW a b))):=by
 intro a b hb hn;simp only[Cu] at hb;refine An Tryz.func36 O dr (n:=27) O O (Ae Aj 1 [] O (Af (Al (BY O (Ah O (B0 Ek O) (BY O (Ah O (B0 Ek O) (Ad Aj 1 [] O (Ag O (fun c1=>?_) (fun c1=>?_))))))))))
 ·(try simp only[sd] at c1);refine Ae Aj 1 [] O (Ai ⟨O,_,[],Bu O,List.nil_sublist _,?_⟩);exact⟨pB (Cf (fun h=>by subst h;simp at *)).symm,rfl⟩
 (try simp only[sd] at c1);have h1:a.length=b.length:=by simp at c1;omega
 refine Ak (Af (Ae Aj 1 [] O (Au (Jz (a.length) (fun i=>G2 a b i) (fun i=>⟨27,mk [(0,ao a),(1,ao b),(5,.p (I i))],[],[]⟩) (0) Aa (G8 _ _) ?_ ?_))))
 ·exact DE ⟨O,O,O,Ac⟩ AA
 intro i hi hC;refine Af (Al (Am Aj 2 [] O (Ah O (B0 Ek O) (Ad Aj 1 [] O (Ag O (fun c2=>?_) (fun c2=>?_))))))
 ·(try simp only[sd] at c2);have hi2:i<a.length:=by simp at c2;omega
  obtain⟨x,hx⟩:=Ar hi2;obtain⟨y,hy⟩:=Ar (l:=b) (i:=i) Aa;refine Ak (Af (Au (Af (Bq (fun k=>false) Er (BC Aj 2 [] O (A5 O (fun _=>Aq Ek O O Aa (Ef hx) (Cq _)) Ac (BC Aj 3 [] O (A5 O (fun _=>Aq Ek O O Aa (Ef hy) (Cq _)) Ac (A5 O (fun _=>BE Ls O (Cq _)) Ac (A5 O (fun _=>Av O O (VQ x y (hn x (List.mem_of_getElem? hx)).vars) O) Ac (Bo Aj 1 [] O (Ag O (fun c3=>?_) (fun c3=>?_)))))))))))))
  ·(try simp only[sd] at c3);refine Ae Aj 1 [] O (Ai ⟨O,_,[],Bu O,List.nil_sublist _,?_⟩);exact⟨pB (Cf (fun h=>by subst h;rw[hx] at hy;injection hy with hy;subst hy;simp[CN] at *)).symm,rfl⟩
  (try simp only[sd] at c3);have hxy:x=y:=EA.1 (by simpa using c3);subst hxy;exact Ak (Ao (Ad Aj 3 [] O (⟨by omega,HL hC hx hy,DE ⟨rfl,rfl,rfl,trivial⟩ AA⟩)))
 (try simp only[sd] at c2);have hi2:i=a.length:=by simp at c2;omega
 refine BS (Ae Aj 1 [] O (Ai ⟨O,_,[],Bu O,List.nil_sublist _,?_⟩));exact⟨pB (CN (IQ hC Aa Aa)).symm,O⟩
theorem X1:∀(n:Nat) (a b:Tm),size a≤n→Nd a→Dl Tryz.prog 14 [TV a,TV b] (.p (.bool (JW a b))):=by
 intro n
 induction n with
 | zero=>intro a b h;cases a;simp[size] at h
 | succ n ih =>
  intro a b hs hnd;obtain⟨ak,ai,an,al,aks⟩:=a;obtain⟨bk,bi,bn,bl,bks⟩:=b;simp only[size] at hs;simp only[Nd,Cu] at hnd;obtain⟨hn1,hn2,hn3,hn4,hn5,hn6⟩:=hnd;refine An Tryz.func14 O bq (n:=61) O O (Al (A2 O (A9 O) fun b2=>A2 O (A9 O) fun b3=>Ad Aj 1 [] O (Af (Af (BL [0,1,2,3,4,5] 41 (fun y=>y= .p (.bool (ak !=bk||ai !=bi|| !(an.toList==bn.toList)|| !(JW al bl)||(((Ax aks).length:Int) !=(Ax bks).length)))) ?_ ?_)))))
  ·refine Ao (Am Aj 6 [1,0] O (A6 11 O (fun g1=>?_) (fun g1=>?_)))
   ·(try simp only[sd] at g1);refine Am Aj 7 [] O (A6 18 O (fun g2=>?_) (fun g2=>?_))
    ·(try simp only[sd] at g2);refine Am Aj 7 [] O (A6 25 O (fun g3=>?_) (fun g3=>?_))
     ·(try simp only[sd] at g3);refine Am Aj 8 [] O (A6 33 O (fun g4=>?_) (fun g4=>?_))
      ·(try simp only[sd] at g4);exact Ad Aj 8 [] O (⟨O,O,AG,pB AY,⟨O,O,O,O,O,O,Ac⟩⟩)
      (try simp only[sd] at g4);exact Am Aj 2 [1] O (Ba O (B0 BJ O) (Am Aj 2 [0] O (Ba O (B0 BJ O) (Ad Aj 2 [] O (⟨O,O,AG,pB AY,⟨O,O,O,O,O,O,Ac⟩⟩)))))
     (try simp only[sd] at g3);refine Am Aj 4 [1,0] O (Ba O (Av O O (Hw al bl hn2 hn3) O) (Am Aj 3 [] O (A6 33 O (fun g5=>?_) (fun g5=>?_))))
     ·(try simp only[sd] at g5);exact Ad Aj 8 [] O (⟨O,O,AG,pB AY,⟨O,O,O,O,O,O,Ac⟩⟩)
     (try simp only[sd] at g5);exact Am Aj 2 [1] O (Ba O (B0 BJ O) (Am Aj 2 [0] O (Ba O (B0 BJ O) (Ad Aj 2 [] O (⟨O,O,AG,pB AY,⟨O,O,O,O,O,O,Ac⟩⟩)))))
    (try simp only[sd] at g2);refine Am Aj 4 [1,0] O (Ba O (Ij O O) (Am Aj 2 [] O (A6 25 O (fun g6=>?_) (fun g6=>?_))))
    ·(try simp only[sd] at g6);refine Am Aj 8 [] O (A6 33 O (fun g7=>?_) (fun g7=>?_))
     ·(try simp only[sd] at g7);exact Ad Aj 8 [] O (⟨O,O,AG,pB AY,⟨O,O,O,O,O,O,Ac⟩⟩)
     (try simp only[sd] at g7);exact Am Aj 2 [1] O (Ba O (B0 BJ O) (Am Aj 2 [0] O (Ba O (B0 BJ O) (Ad Aj 2 [] O (⟨O,O,AG,pB AY,⟨O,O,O,O,O,O,Ac⟩⟩)))))
    (try simp only[sd] at g6);refine Am Aj 4 [1,0] O (Ba O (Av O O (Hw al bl hn2 hn3) O) (Am Aj 3 [] O (A6 33 O (fun g8=>?_) (fun g8=>?_))))
    ·(try simp only[sd] at g8);exact Ad Aj 8 [] O (⟨O,O,AG,pB AY,⟨O,O,O,O,O,O,Ac⟩⟩)
    (try simp only[sd] at g8);exact Am Aj 2 [1] O (Ba O (B0 BJ O) (Am Aj 2 [0] O (Ba O (B0 BJ O) (Ad Aj 2 [] O (⟨O,O,AG,pB AY,⟨O,O,O,O,O,O,Ac⟩⟩)))))
   (try simp only[sd] at g1);refine Am Aj 7 [1,0] O (A6 18 O (fun g9=>?_) (fun g9=>?_))
   ·(try simp only[sd] at g9);refine Am Aj 7 [] O (A6 25 O (fun g10=>?_) (fun g10=>?_))
    ·(try simp only[sd] at g10);refine Am Aj 8 [] O (A6 33 O (fun g11=>?_) (fun g11=>?_))
     ·(try simp only[sd] at g11);exact Ad Aj 8 [] O (⟨O,O,AG,pB AY,⟨O,O,O,O,O,O,Ac⟩⟩)
     (try simp only[sd] at g11);exact Am Aj 2 [1] O (Ba O (B0 BJ O) (Am Aj 2 [0] O (Ba O (B0 BJ O) (Ad Aj 2 [] O (⟨O,O,AG,pB AY,⟨O,O,O,O,O,O,Ac⟩⟩)))))
    (try simp only[sd] at g10);refine Am Aj 4 [1,0] O (Ba O (Av O O (Hw al bl hn2 hn3) O) (Am Aj 3 [] O (A6 33 O (fun g12=>?_) (fun g12=>?_))))
    ·(try simp only[sd] at g12);exact Ad Aj 8 [] O (⟨O,O,AG,pB AY,⟨O,O,O,O,O,O,Ac⟩⟩)
    (try simp only[sd] at g12);exact Am Aj 2 [1] O (Ba O (B0 BJ O) (Am Aj 2 [0] O (Ba O (B0 BJ O) (Ad Aj 2 [] O (⟨O,O,AG,pB AY,⟨O,O,O,O,O,O,Ac⟩⟩)))))
   (try simp only[sd] at g9);refine Am Aj 4 [1,0] O (Ba O (Ij O O) (Am Aj 2 [] O (A6 25 O (fun g13=>?_) (fun g13=>?_))))
   ·(try simp only[sd] at g13);refine Am Aj 8 [] O (A6 33 O (fun g14=>?_) (fun g14=>?_))
    ·(try simp only[sd] at g14);exact Ad Aj 8 [] O (⟨O,O,AG,pB AY,⟨O,O,O,O,O,O,Ac⟩⟩)
    (try simp only[sd] at g14);exact Am Aj 2 [1] O (Ba O (B0 BJ O) (Am Aj 2 [0] O (Ba O (B0 BJ O) (Ad Aj 2 [] O (⟨O,O,AG,pB AY,⟨O,O,O,O,O,O,Ac⟩⟩)))))
   (try simp only[sd] at g13);refine Am Aj 4 [1,0] O (Ba O (Av O O (Hw al bl hn2 hn3) O) (Am Aj 3 [] O (A6 33 O (fun g15=>?_) (fun g15=>?_))))
   ·(try simp only[sd] at g15);exact Ad Aj 8 [] O (⟨O,O,AG,pB AY,⟨O,O,O,O,O,O,Ac⟩⟩)
   (try simp only[sd] at g15);exact Am Aj 2 [1] O (Ba O (B0 BJ O) (Am Aj 2 [0] O (Ba O (B0 BJ O) (Ad Aj 2 [] O (⟨O,O,AG,pB AY,⟨O,O,O,O,O,O,Ac⟩⟩)))))
  rintro _ rfl;refine Ag O (fun c16=>?_) (fun c16=>?_)
  ·(try simp only[sd] at c16);refine Ae Aj 1 [] O (Ai ⟨O,_,[],Bu O,List.nil_sublist _,?_⟩);exact⟨pB (Cf (fun h=>by simp at h;simp[h,CN] at *)).symm,rfl⟩
  (try simp only[sd] at c16);have h1:ak=bk∧ai=bi∧an.toList=bn.toList∧al=bl∧aks.length=bks.length:=by simp[A1,EA] at c16;obtain⟨⟨⟨⟨e1,e2⟩,e3⟩,e4⟩,e5⟩:=c16;exact⟨e1,e2,e3,e4,by omega⟩
  refine Ak (Af (Ae Aj 1 [] O (Au (Jz (aks.length) (fun i=>G2 aks bks i) (fun i=>⟨61,mk [(2,.ptr b2 0),(3,.ptr b3 0),(5,.p (I i))],[.box b3 ((A3 (.mk bk bi bn bl bks)).map .p),.box b2 ((A3 (.mk ak ai an al aks)).map .p)],[]⟩) (0) Aa (G8 _ _) ?_ ?_))))
  ·exact DE ⟨O,O,O,Ac⟩ AA
  intro i hi hC;refine Af (Al (Am Aj 3 [1] O (Ah O (B0 BJ O) (Ad Aj 1 [] O (Ag O (fun c17=>?_) (fun c17=>?_))))))
  ·(try simp only[sd] at c17);have hi2:i<aks.length:=by simp[A1] at c17;omega
   obtain⟨x,hx⟩:=Ar hi2;obtain⟨y,hy⟩:=Ar (l:=bks) (i:=i) Aa;refine Ak (Af (Au (Af (Bq (fun k=>false) Er (BC Aj 3 [1] O (A5 O (fun _=>Aq BJ O O Aa (BI hx) (Az _)) Ac (BC Aj 4 [0] O (A5 O (fun _=>Aq BJ O O Aa (BI hy) (Az _)) Ac (A5 O (fun _=>BE Bd O (Az _)) Ac (A5 O (fun _=>Av O O (ih x y (by have:=Bp hx;omega) (CK hn5 hx)) O) Ac (Bo Aj 1 [] O (Ag O (fun c18=>?_) (fun c18=>?_)))))))))))))
   ·(try simp only[sd] at c18);refine Ae Aj 1 [] O (Ai ⟨O,_,[],Bu O,List.nil_sublist _,?_⟩);exact⟨pB (Cf (fun h=>by simp at h;obtain⟨_,_,_,_,rfl⟩:=h;rw[hx] at hy;injection hy with hy;subst hy;simp[CN] at *)).symm,rfl⟩
   (try simp only[sd] at c18);have hxy:x=y:=EA.1 (by simpa using c18);subst hxy;exact Ak (Ao (Ad Aj 3 [] O (⟨by omega,HL hC hx hy,DE ⟨rfl,rfl,rfl,trivial⟩ AA⟩)))
  (try simp only[sd] at c17);have hi2:i=aks.length:=by simp[A1] at c17;omega
  refine BS (Ae Aj 1 [] O (Ai ⟨O,_,[],Bu O,List.nil_sublist _,?_⟩));exact⟨pB (CN (by obtain⟨e1,e2,e3,e4,e5⟩:=h1;rw[e1,e2,e4,Hp e3,IQ hC Aa Aa])).symm,rfl⟩
theorem PC:∀(n:Nat) (t:Tm),size t≤n→size t<2 ^ 62→Dl Tryz.prog 26 [TV t] (.p (I (size t))):=by
 intro n
 induction n with
 | zero=>intro t h;cases t;simp[size] at h
 | succ n ih =>
  intro t hn hb;obtain⟨kd,ix,nm,ls,ks⟩:=t;simp only[size] at hn hb;refine An Tryz.func26 O dT (n:=21) O O (Al (A2 O (A9 O) fun b1=>Ad Aj 1 [] O (Ae Aj 1 [] O (Af (Ae Aj 1 [] O (Au (QD (ks.length) (fun i=>⟨21,mk [(1,.ptr b1 0),(3,.p (I (1+A0 (ks.take i):Nat))),(4,.p (I i))],[.box b1 ((A3 (.mk kd ix nm ls ks)).map .p)],[]⟩) (0) Aa ?_ ?_)))))))
  ·exact DE ⟨O,O,O,Ac⟩ AA
  intro i hi;have hsz:=GS (ts:=ks) i;have hll:=DN ks;refine Af (Al (Am Aj 3 [0] O (Ah O (B0 BJ O) (Ad Aj 1 [] O (Ag O (fun c1=>?_) (fun c1=>?_))))))
  ·(try simp only[sd] at c1);have hi2:i<ks.length:=by rw[A1] at c1;omega
   obtain⟨t,hk⟩:∃t,ks[i]?=some t:=⟨_,List.getElem?_eq_getElem hi2⟩;have hks:=Bp hk;have hsz2:=FY hk;have hsz3:=GS (ts:=ks) (i+1);exact Ak (Af (Au (Ao (Am Aj 4 [0] O (Ah O (Aq BJ O O Aa (BI hk) (Az _)) (Ah O (BE Bd O (Az _)) (Ah O (Av O O (ih t Aa Aa) O) (Ad Aj 2 [] O (Ao (Ad Aj 3 [] O (⟨by omega,DE ⟨rfl,pI (by rw[FY hk];omega),rfl,trivial⟩ AA⟩)))))))))))
  (try simp only[sd] at c1);have hi2:i=ks.length:=by rw[A1] at c1;omega
  refine BS (Ae Aj 2 [] O (Ai ⟨O,_,[],Bu O,List.nil_sublist _,?_⟩));exact⟨pI (by subst hi2;rw[List.take_length];simp[size]),O⟩
theorem Vm:∀(n:Nat) (t:Tm),size t≤n→size t<2 ^ 62→Dl Tryz.prog 87 [TV t] (.p (I (depth t))):=by
 intro n
 induction n with
 | zero=>intro t h;cases t;simp[size] at h
 | succ n ih =>
  intro t hn hb;obtain⟨kd,ix,nm,ls,ks⟩:=t;simp only[size] at hn hb;refine An Tryz.func87 O cq (n:=22) O O (Al (A2 O (A9 O) fun b1=>Ad Aj 1 [] O (Ae Aj 1 [] O (Af (Ae Aj 1 [] O (Au (QD (ks.length) (fun i=>⟨22,mk [(1,.ptr b1 0),(3,.p (I (Dc (ks.take i):Nat))),(4,.p (I i))],[.box b1 ((A3 (.mk kd ix nm ls ks)).map .p)],[]⟩) (0) Aa ?_ ?_)))))))
  ·exact DE ⟨O,O,O,Ac⟩ AA
  intro i hi;have hsz:=GS (ts:=ks) i;have hll:=DN ks;have hdd:=EI ks;have hdi:=J8 (ts:=ks) i;refine Af (Al (Am Aj 3 [0] O (Ah O (B0 BJ O) (Ad Aj 1 [] O (Ag O (fun c1=>?_) (fun c1=>?_))))))
  ·(try simp only[sd] at c1);have hi2:i<ks.length:=by rw[A1] at c1;omega
   obtain⟨t,hk⟩:∃t,ks[i]?=some t:=⟨_,List.getElem?_eq_getElem hi2⟩;have hks:=Bp hk;have hsz2:=FY hk;have hsz3:=GS (ts:=ks) (i+1);exact Ak (Af (Au (Ao (Am Aj 4 [0] O (Ah O (Aq BJ O O Aa (BI hk) (Az _)) (Ah O (BE Bd O (Az _)) (Ah O (Av O O (ih t Aa Aa) O) (Ah O (M5 O O) (Ad Aj 1 [] O (Ao (Ad Aj 3 [] O (⟨by omega,DE ⟨rfl,pI (by rw[OH hk];omega),rfl,trivial⟩ AA⟩))))))))))))
  (try simp only[sd] at c1);have hi2:i=ks.length:=by rw[A1] at c1;omega
  refine BS (Ae Aj 3 [] O (Ai ⟨O,_,[],Bu O,List.nil_sublist _,?_⟩));exact⟨pI (by subst hi2;rw[List.take_length];simp[depth]),O⟩
end Go.Proofs.YtldfmjoncbjldaaGreat
