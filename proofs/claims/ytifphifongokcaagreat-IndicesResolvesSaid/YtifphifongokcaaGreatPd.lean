/- Part of the proofs: an abstract program logic, plain models and contracts of functions. -/
import Derived.Test.YtifphifongokcaaGreatPc
import Derived.Test.YtifphifongokcaaGreatPb
import Derived.Test.YtifphifongokcaaGreatProg
set_option linter.unusedVariables false
set_option linter.unusedSimpArgs false
set_option maxRecDepth 100000
namespace Go.Abs
def jS (P:Program) (ops:Array Oper) (H₀ H₁:List Ax) (i₀:Nat) (fl:List Nat) (k:Nat) (o:Oper) (τ:Nat→AV) (e:Ez):Prop :=
 if k=i₀ then ∃v,e= .val v∧o.guard=none∧∀Bs,Co P o (ev τ) (Bs++H₀) v (Bs++H₁) else Rl P ops H₀ o τ e∧Rl P ops H₁ o τ e∧(fl.contains k=true→∀v,e= .val v→∀X,Co P o (ev τ) X v X)
def E5 (P:Program) (ops:Array Oper) (H₀ H₁:List Ax) (i₀:Nat) (fl:List Nat):Nat→(Nat→AV)→List Ez→((Nat→AV)→List Ax→Prop)→Prop
 | _,τ,[],K=>K τ []
 | k,τ,e::r,K=>∃o,ops[k]?=some o∧jS P ops H₀ H₁ i₀ fl k o τ e∧∀b,e.ok b→E5 P ops H₀ H₁ i₀ fl (k+1) (put τ o.dst (e.v b)) r (fun τ' Hs=>K τ' (e.box b++Hs))
theorem E5.facts {P:Program}{ops:Array Oper}{H₀ H₁:List Ax}{i₀:Nat}{fl:List Nat}{τ:Nat→AV}{base fb:List Ez}(hf:∀j,j<base.length→j<fb.length∧fb.getD j .skip=base.getD j .skip) (β:Nat→BV):∀(r:List Ez) (k:Nat) (τk:Nat→AV) (K:(Nat→AV)→List Ax→Prop),base.drop k=r→k+r.length=base.length→τk=τS ops (Fk β 0 fb) τ k→E5 P ops H₀ H₁ i₀ fl k τk r K→(∀j,k≤j→j<base.length→(base.getD j .skip).ok (β j)) →
  (∀j,k≤j→j<base.length→∃o,ops[j]?=some o∧jS P ops H₀ H₁ i₀ fl j o (τS ops (Fk β 0 fb) τ j) (base.getD j .skip))∧K (τS ops (Fk β 0 fb) τ base.length) (XA β k r)
 | [],k,τk,K,hd,hk,ht,h,hβ=>by
  simp only[List.length_nil,Nat.add_zero] at hk;subst hk;exact⟨fun j h1 h2=>by omega,by rw[←ht];exact h⟩
 | e::r,k,τk,K,hd,hk,ht,h,hβ=>by
  obtain⟨o,ho,hok,hn⟩:=h;simp only[List.length_cons] at hk;have hb:base.getD k .skip=e:=by
   have:(base.drop k)[0]?=some e:=by rw[hd];rfl
   rw[List.getElem?_drop] at this;rw[List.getD_eq_getElem?_getD,show k=k+0 by omega,this];rfl
  have hd2:base.drop (k+1)=r:=by
   rw[←List.drop_drop,hd];rfl
  obtain⟨f1,f2⟩:=hf k Ah;obtain⟨h1,h2⟩:=E5.facts (τ:=τ) (base:=base) hf β r (k+1) _ _ hd2 Ah (by simp only[τS,ho,Option.bind_some];rw[EG β f1,f2,hb,←ht]) (hn (β k) (by have:=hβ k (Nat.le_refl _) Ah;rwa [hb] at this)) (fun j h1 h2=>hβ j Ah h2);refine⟨fun j hj hl=>?_,h2⟩;by_cases e2:j=k
  ·subst e2;exact⟨o,ho,by rw[hb,←ht];exact hok⟩
  exact h1 j Ah hl
def TV (P:Program) (ops:Array Oper):Nat→(Nat→AV)→List Ax→List AV→((Nat→AV)→List Ax→Prop)→Prop
 | _,τ,H,[],K=>K τ H
 | k,τ,H,v::r,K=>∃o H',ops[k]?=some o∧o.guard=none∧Co P o (ev τ) H v H'∧TV P ops (k+1) (put τ o.dst v) H' r K
theorem TV.facts {P:Program}{ops:Array Oper}{τ:Nat→AV}{fb:List Ez}(β:Nat→BV):∀(r:List AV) (k:Nat) (τk:Nat→AV) (H:List Ax) (K:(Nat→AV)→List Ax→Prop),(∀m,m<r.length→k+m<fb.length∧fb.getD (k+m) .skip= .val (r.getD m (.p .any)))→τk=τS ops (Fk β 0 fb) τ k→TV P ops k τk H r K →
  ∃Hm:Nat→List Ax,Hm k=H∧(∀j,k≤j→j<k+r.length→∃o,ops[j]?=some o∧o.guard=none∧Co P o (ev (τS ops (Fk β 0 fb) τ j)) (Hm j) ((fb.getD j .skip).v (β j)) (Hm (j+1)))∧K (τS ops (Fk β 0 fb) τ (k+r.length)) (Hm (k+r.length))
 | [],k,τk,H,K,hf,ht,h=>⟨fun _=>H,rfl,fun j h1 h2=>by simp at h2;omega,by simp only[List.length_nil,Nat.add_zero];rw[←ht];exact h⟩
 | v::r,k,τk,H,K,hf,ht,h=>by
  obtain⟨o,H',ho,hg,hop,hn⟩:=h;obtain⟨f1,f2⟩:=hf 0 Ai;simp only[Nat.add_zero,List.getD_cons_zero] at f1 f2;obtain⟨Hm,h1,h2,h3⟩:=TV.facts (τ:=τ) (fb:=fb) β r (k+1) _ H' K (fun m hm=>by have:=hf (m+1) (by simpa using hm);rw[show k+(m+1)=k+1+m by omega] at this;simpa using this) (by simp only[τS,ho,Option.bind_some];rw[EG β f1,f2,←ht];rfl) hn;refine⟨fun j=>if j=k then H else Hm j,by simp,fun j hj hl=>?_,?_⟩
  ·by_cases e:j=k
   ·subst e;refine⟨o,ho,hg,?_⟩;rw[f2,←ht];show Co P o (ev τk) (if j=j then H else Hm j) v (if j+1=j then H else Hm (j+1));rw[if_pos rfl,if_neg Ah,h1];exact hop
   show ∃o,ops[j]?=some o∧o.guard=none∧Co P o _ (if j=k then H else Hm j) _ (if j+1=k then H else Hm (j+1));rw[if_neg e,if_neg Ah];exact h2 j Ah (by simp only[List.length_cons] at hl;omega)
  show K _ (if k+(v::r).length=k then H else Hm (k+(v::r).length));simp only[List.length_cons];rw[if_neg Ah,show k+(r.length+1)=k+1+r.length by omega];exact h3
section
variable {P:Program}{ops:Array Oper}{H₀ H₁:List Ax}{i₀:Nat}{fl:List Nat}{k:Nat}{τ:Nat→AV}{r:List Ez}{K:(Nat→AV)→List Ax→Prop}{dst:Option Tmp}{op:Op}{ty:TypeId}{pos:String}{aft:Array Edge}{v:AV}
def jt (P:Program) (T:TypeId):Bool:=match P.underlying T with
 | some (.interface _)=>false
 | some _=>true
 | none=>false
end
def iW (P:Program) (ops:Array Oper) (H:List Ax) (u:AV) (i₀ k:Nat) (o:Oper) (τ:Nat→AV) (e:Ez):Prop :=
 if k=i₀ then o.guard=none∧∀Bs,CW P o (ev τ) (Bs++H) (fun r _=>r= .panic u) else Js ops i₀ k=true∨Rl P ops H o τ e
def E7 (P:Program) (ops:Array Oper) (H:List Ax) (u:AV) (i₀:Nat):Nat→(Nat→AV)→List Ez→Prop
 | _,τ,[]=>True
 | k,τ,e::r=>∃o,ops[k]?=some o∧iW P ops H u i₀ k o τ e∧∀b,e.ok b→E7 P ops H u i₀ (k+1) (put τ o.dst (e.v b)) r
theorem E7.facts {P:Program}{ops:Array Oper}{H₀:List Ax}{τ:Nat→AV}{base:List Ez}{u:AV}{i₀:Nat}(β:Nat→BV):∀(r:List Ez) (k:Nat) (τk:Nat→AV),base.drop k=r→k+r.length=base.length→τk=τS ops (Fk β 0 base) τ k→E7 P ops H₀ u i₀ k τk r→(∀j,k≤j→j<base.length→(base.getD j .skip).ok (β j)) →
  (∀j,k≤j→j<base.length→∃o,ops[j]?=some o∧iW P ops H₀ u i₀ j o (τS ops (Fk β 0 base) τ j) (base.getD j .skip))
 | [],k,τk,hd,hk,ht,h,hβ=>by
  simp only[List.length_nil,Nat.add_zero] at hk;subst hk;exact fun j h1 h2=>by omega
 | e::r,k,τk,hd,hk,ht,h,hβ=>by
  obtain⟨o,ho,hok,hn⟩:=h;simp only[List.length_cons] at hk;have hb:base.getD k .skip=e:=by
   have:(base.drop k)[0]?=some e:=by rw[hd];rfl
   rw[List.getElem?_drop] at this;rw[List.getD_eq_getElem?_getD,show k=k+0 by omega,this];rfl
  have hd2:base.drop (k+1)=r:=by
   rw[←List.drop_drop,hd];rfl
  have h1:=E7.facts (τ:=τ) (base:=base) β r (k+1) _ hd2 Ah (by simp only[τS,ho,Option.bind_some];rw[EG β Ah,hb,←ht]) (hn (β k) (by have:=hβ k (Nat.le_refl _) Ah;rwa [hb] at this)) (fun j h1 h2=>hβ j Ah h2);intro j hj hl;by_cases e2:j=k
  ·subst e2;exact⟨o,ho,by rw[hb,←ht];exact hok⟩
  exact h1 j Ah hl
section
variable {P:Program}{ops:Array Oper}{H:List Ax}{u:AV}{i₀:Nat}{k:Nat}{τ:Nat→AV}{r:List Ez}{dst:Option Tmp}{op:Op}{ty:TypeId}{pos:String}{aft:Array Edge}{v:AV}
end
section
variable {P:Program}{dst:Option Tmp}{ty:TypeId}{pos:String}{aft:Array Edge}{g:Option (Nat×Bool)}{ρ:Operand→AV}{H:List Ax}{x y:Operand}
theorem NR {T e:TypeId}{len:Nat}{k:IntKind}{i:Int}{j:Nat}{cs:List AV}{v:AV}(hu:P.underlying T=some (.array len e)) (ht:Cj P e=some (false,1)) (hx:ρ x= .agg cs) (hy:ρ y= .p (.int k i)) (hi:i=j) (hj:cs[j]?=some v) (hl:j<len) :
  Co P ⟨dst,.index T x y,ty,pos,aft,g⟩ ρ H v H :=
 Bn fun F w E hH hE=>by
  have h1:=hE x AW;have h2:=hE y AW;rw[hx] at h1;rw[hy] at h2;simp only[Bl,Bt] at h1 h2;obtain⟨vs,h3,h4⟩:=h1;obtain⟨u,h5,h6⟩:=h4.get hj;obtain⟨d,hd,hr,hs⟩:=DS ht;obtain⟨inf,hinf,hsz⟩:=PC ht;refine⟨u,?_,h6⟩;have hso:(sizeOf e).run P w= .ok 1 w:=by
   rw[run_sizeOf w hinf];simp[Program.cellsOf,hinf,hsz]
  have hag:=IL hd false hr w;subst hi;have h7:(⟨vs⟩:Array Value)[j*1]?=some u:=by rw[Nat.mul_one];simpa using h5
  have h8:(0:Int)≤(j:Int)∧(j:Int)<(len:Int):=by omega
  simp[execOp,Instr.index,h2,h3,asIntOf,Sem.run_bind,run_underlying hu,h8,hso,part,hag];rw[show vs[j]?=some u from h5];simp;intro hlj;omega
theorem Q1 {T U:TypeId}{b:Bool}(hT:(match P.underlying T with | some (.func _ _ _)=>true | _=>false)=true) (hx:(ρ x= .p .nilFn∧b=true)∨(∃f first caps,ρ x= .fn f first caps)∧b=false) (hy:ρ y= .p .nilFn):Co P ⟨dst,.binOp .eql T x y U,ty,pos,aft,g⟩ ρ H (.p (.bool b)) H :=
 Bn fun F w E hH hE=>by
  have e1:=hE x AW;have e2:=hE y AW;rw[hy] at e2;simp only[Bl,Bt] at e2;obtain⟨a1,a2,a3,hu⟩:∃a1 a2 a3,P.underlying T=some (.func a1 a2 a3):=by
   cases hd:P.underlying T with
   | none=>rw[hd] at hT;cases hT
   | some d =>
    rw[hd] at hT;cases d<;>first | exact⟨_,_,_,rfl⟩ | cases hT
  refine⟨.bool b,?_,by simp[Bl,Bt]⟩;have hg:∀a,(eqGuard .eql T x y a .nilFunc).run P w= .ok () w:=by
   intro a;unfold eqGuard;cases a<;>rfl
  rcases hx with ⟨hx,rfl⟩ | ⟨⟨f,first,caps,hx⟩,rfl⟩
  ·rw[hx] at e1;simp only[Bl,Bt] at e1;have hq:(Op.equal T .nilFunc .nilFunc).run P w= .ok true w:=by
    have h:∀d:Nat,(Op.equalIn (d+1) T .nilFunc .nilFunc).run P w= .ok true w:=fun d=>by simp[Op.equalIn,run_underlying hu]
    simp[Op.equal,Op.maxDepth,h 9999]
   simp[execOp,Sem.run_bind,hg,e1,e2,binOp,hq]
  rw[hx] at e1;simp only[Bl] at e1;obtain⟨fs,cs,e1,_,_⟩:=e1;have hq:(Op.equal T (.func f ⟨fs⟩ ⟨cs⟩) .nilFunc).run P w= .ok false w:=by
   have h:∀d:Nat,(Op.equalIn (d+1) T (.func f ⟨fs⟩ ⟨cs⟩) .nilFunc).run P w= .ok false w:=fun d=>by simp[Op.equalIn,run_underlying hu]
   simp[Op.equal,Op.maxDepth,h 9999]
  simp[execOp,Sem.run_bind,hg,e1,e2,binOp,hq]
end
structure Rs (P:Program) where
 fd:Nat→Option (List (Nat×Nat))
 ty:Nat→Option (Bool×Nat)
 zr:Nat→Option (List AV)
 hfd:∀T l,fd T=some l→fieldsOf P T=some l
 hty:∀T l,ty T=some l→Cj P T=some l
 hzr:∀T l,zr T=some l→∃z,zeroOf P T=some z∧z.cells.toList.map FU=l
def iQ (op:BinOp) (m n:Int):Option Bool :=
 match op with | .eql=>some (m==n) | .neq=>some (m !=n) | .lss=>some (decide (m<n)) | .leq=>some (decide (m≤n)) | .gtr=>some (decide (m > n)) | .geq=>some (decide (m≥n)) | _=>none
def bj (op:BinOp) (m n:Int):Option Int :=
 match op with | .add=>some (m+n) | .sub=>some (m - n) | .mul=>some (m*n) | _=>none
abbrev cz:=AV×List Ax×List Nat×Prop
def U6 (op:BinOp) (H:List Ax) (is:List Nat) (C:Prop):AV→AV→Option cz
 | .p (.int k m),.p (.int k' n) =>
  match iQ op m n with
  | some b=>some (.p (.bool b),H,is,C∧k=k')
  | none =>
   match k,k',bj op m n with
   | .i64,.i64,some r=>some (.p (.int .i64 r),H,is,(C∧ -9223372036854775808≤r)∧r≤9223372036854775807)
   | _,_,_=>none
 | _,_=>none
def Om (H:List Ax) (is:List Nat) (C:Prop) (t:Bool×Nat):AV→Option cz
 | .ref cells =>
  bif t.1 then some (.agg (cells.map .p),H,is,C∧cells.length=t.2)
  else match cells with
   | c::_=>some (.p c,H,is,C)
   | []=>none
 | .ptr b o =>
  match is with
  | []=>none
  | i::is =>
   match H[i]? with
   | some (.box b' cs) =>
    bif t.1 then (match o with | 0=>some (.agg cs,H,is,(C∧b'=b)∧cs.length=t.2) | _+1=>none)
    else (match cs[o]? with | some v=>some (v,H,is,C∧b'=b) | none=>none)
   | _=>none
 | _=>none
def Oe (H:List Ax) (is:List Nat) (C:Prop) (t:Bool×Nat) (y:AV):AV→Option cz
 | .ptr b o =>
  match is with
  | i::w::is =>
   match H[i]?,DM y,t.2 with
   | some (.box b' cs),some us,n+1 =>
    match w with
    | 0=>some (.p .any,H.set i (.box b (splice cs o us)),is,(((C∧b'=b)∧us.length=n+1)∧Nat.ble (o+(n+1)) cs.length=true)∧us.all one=true)
    | _+1=>match o with
     | 0=>some (.p .any,H.set i (.box b us),is,(((C∧b'=b)∧us.length=n+1)∧cs.length=n+1)∧us.all one=true)
     | _+1=>none
   | _,_,_=>none
  | _=>none
 | _=>none
def PJ (H:List Ax) (is:List Nat) (C:Prop) (off:Nat):AV→Option cz
 | .ptr b o=>some (.ptr b (o+off),H,is,C)
 | .ref cells=>some (.ref (cells.drop off),H,is,C)
 | _=>none
def Jx {P:Program}(tb:Rs P) (ρ:Operand→AV) (H:List Ax) (is:List Nat) (C:Prop):Op→Option cz
 | .move x=>some (ρ x,H,is,C)
 | .assign x=>some (ρ x,H,is,C)
 | .pick x y z=>match ρ x with | .p (.bool b)=>some (bif b then ρ y else ρ z,H,is,C) | _=>none
 | .extract x i=>match ρ x with | .tup xs=>(match xs[i]? with | some v=>some (v,H,is,C) | none=>none) | _=>none
 | .nilCheck x=>match ρ x with | .ptr b o=>some (.ptr b o,H,is,C) | _=>none
 | .makeFunc fn first caps=>some (.fn fn (first.toList.map ρ) (caps.toList.map ρ),H,is,C)
 | .unOp .not T x=>match ρ x with | .p (.bool b)=>some (.p (.bool (!b)),H,is,C) | _=>none
 | .binOp op T x y U=>U6 op H is C (ρ x) (ρ y)
 | .fieldAddr T x i=>match tb.fd T with
  | some lay=>(match lay[i]? with | some (off,_+1)=>PJ H is C off (ρ x) | _=>none)
  | none=>none
 | .build T parts=>match tb.fd T,tb.zr T with
  | some lay,some z=>(match ES (lay[·]?) z (parts.toList.map fun p=>(p.1,ρ p.2)) with | some cs=>some (.agg cs,H,is,C) | none=>none)
  | _,_=>none
 | .load T x=>match tb.ty T with | some t=>Om H is C t (ρ x) | none=>none
 | .store T x y=>match tb.ty T with | some t=>Oe H is C t (ρ y) (ρ x) | none=>none
 | _=>none
section
variable {P:Program}{tb:Rs P}{ρ:Operand→AV}{H H':List Ax}{is is':List Nat}{C C':Prop}{v:AV}
 {dst:Option Tmp} {ty:TypeId} {pos:String} {aft:Array Edge} {g:Option (Nat×Bool)}
theorem EJ {op:Op}(h:Jx tb ρ H is C op=some (v,H',is',C')) (c:C'):C∧Co P ⟨dst,op,ty,pos,aft,g⟩ ρ H v H':=by
 unfold Jx at h;split at h
 ·injection h with h;simp only[Prod.mk.injEq] at h;obtain⟨rfl,rfl,rfl,rfl⟩:=h;exact⟨c,CF rfl⟩
 ·injection h with h;simp only[Prod.mk.injEq] at h;obtain⟨rfl,rfl,rfl,rfl⟩:=h;exact⟨c,Fy rfl⟩
 ·split at h
  ·rename_i b hb;injection h with h;simp only[Prod.mk.injEq] at h;obtain⟨rfl,rfl,rfl,rfl⟩:=h;exact⟨c,V2 hb rfl⟩
  cases h
 ·split at h
  ·rename_i xs hx;split at h
   ·rename_i u hu;injection h with h;simp only[Prod.mk.injEq] at h;obtain⟨rfl,rfl,rfl,rfl⟩:=h;exact⟨c,FI hx hu⟩
   cases h
  cases h
 ·split at h
  ·rename_i b o hx;injection h with h;simp only[Prod.mk.injEq] at h;obtain⟨rfl,rfl,rfl,rfl⟩:=h;exact⟨c,Cs hx⟩
  cases h
 ·injection h with h;simp only[Prod.mk.injEq] at h;obtain⟨rfl,rfl,rfl,rfl⟩:=h;exact⟨c,DZ rfl rfl⟩
 ·split at h
  ·rename_i b hb;injection h with h;simp only[Prod.mk.injEq] at h;obtain⟨rfl,rfl,rfl,rfl⟩:=h;exact⟨c,S0 hb⟩
  cases h
 ·rename_i op T x y U;generalize hx:ρ x=vx at h;generalize hy:ρ y=vy at h;unfold U6 at h;split at h
  ·rename_i k m k' n;split at h
   ·rename_i b hb;injection h with h;simp only[Prod.mk.injEq] at h;obtain⟨rfl,rfl,rfl,rfl⟩:=h;obtain⟨c,rfl⟩:=c;exact⟨c,SH hx hy hb⟩
   split at h
   ·rename_i r hr;injection h with h;simp only[Prod.mk.injEq] at h;obtain⟨rfl,rfl,rfl,rfl⟩:=h;obtain⟨⟨c,c1⟩,c2⟩:=c;refine⟨c,?_⟩;unfold bj at hr;split at hr
    ·injection hr with hr;subst hr;exact IP hx hy c1 c2
    ·injection hr with hr;subst hr;exact JX hx hy c1 c2
    ·injection hr with hr;subst hr;exact Wh hx hy c1 c2
    cases hr
   cases h
  cases h
 ·rename_i T x i;split at h
  ·rename_i lay hl;split at h
   ·rename_i off sz hi;generalize hx:ρ x=vx at h;unfold PJ at h;split at h
    ·injection h with h;simp only[Prod.mk.injEq] at h;obtain⟨rfl,rfl,rfl,rfl⟩:=h;exact⟨c,A2 (tb.hfd _ _ hl) hi hx⟩
    ·injection h with h;simp only[Prod.mk.injEq] at h;obtain⟨rfl,rfl,rfl,rfl⟩:=h;exact⟨c,Ip (tb.hfd _ _ hl) hi hx⟩
    cases h
   cases h
  cases h
 ·rename_i T parts;split at h
  ·rename_i lay z hl hz;split at h
   ·rename_i cs hc;injection h with h;simp only[Prod.mk.injEq] at h;obtain⟨rfl,rfl,rfl,rfl⟩:=h;obtain⟨z',hz',rfl⟩:=tb.hzr _ _ hz;exact⟨c,B5 (tb.hfd _ _ hl) hz' hc⟩
   cases h
  cases h
 ·rename_i T x;split at h
  ·rename_i t ht;have ht:=tb.hty _ _ ht;obtain⟨tb1,tn⟩:=t;generalize hx:ρ x=vx at h;unfold Om at h;split at h
   ·rename_i cells;cases tb1 with
    | true =>
     simp only[cond_true] at h;injection h with h;simp only[Prod.mk.injEq] at h;obtain⟨rfl,rfl,rfl,rfl⟩:=h;exact⟨c.1,BL ht hx c.2⟩
    | false =>
     simp only[cond_false] at h;split at h
     ·injection h with h;simp only[Prod.mk.injEq] at h;obtain⟨rfl,rfl,rfl,rfl⟩:=h;exact⟨c,GZ ht hx⟩
     cases h
   ·rename_i b o;split at h
    ·cases h
    rename_i i is1;split at h
    ·rename_i b' cs hi;cases tb1 with
     | true =>
      simp only[cond_true] at h;split at h
      ·injection h with h;simp only[Prod.mk.injEq] at h;obtain⟨rfl,rfl,rfl,rfl⟩:=h;obtain⟨⟨c,rfl⟩,c2⟩:=c;exact⟨c,Ba ht hx hi c2⟩
      ·cases h
     | false =>
      simp only[cond_false] at h;split at h
      ·rename_i u hu;injection h with h;simp only[Prod.mk.injEq] at h;obtain⟨rfl,rfl,rfl,rfl⟩:=h;obtain⟨c,rfl⟩:=c;exact⟨c,Bd ht hx hi hu⟩
      cases h
    cases h
   cases h
  cases h
 ·rename_i T x y;split at h
  ·rename_i t ht;have ht:=tb.hty _ _ ht;obtain⟨tb1,tn⟩:=t;generalize hx:ρ x=vx at h;generalize hy:ρ y=vy at h;unfold Oe at h;split at h
   ·rename_i b o;split at h
    ·rename_i i w is1;simp only at h;split at h
     ·rename_i b' cs us n hi hu hn;split at h
      ·injection h with h;simp only[Prod.mk.injEq] at h;obtain⟨rfl,rfl,rfl,rfl⟩:=h;obtain⟨⟨⟨⟨c,rfl⟩,c1⟩,c2⟩,c3⟩:=c;exact⟨c,EB ht hx hi (by rw[hy];exact hu) c1 c2 c3⟩
      split at h
      ·injection h with h;simp only[Prod.mk.injEq] at h;obtain⟨rfl,rfl,rfl,rfl⟩:=h;obtain⟨⟨⟨⟨c,rfl⟩,c1⟩,c2⟩,c3⟩:=c;exact⟨c,Bo ht hx hi (by rw[hy];exact hu) c1 c2 c3⟩
      cases h
     cases h
    cases h
   cases h
  cases h
 cases h
def runs (tb:Rs P) (ops:Array Oper) (n:Nat):Nat→Nat→(Nat→AV)→List Ax→List Nat→Prop→Option ((Nat→AV)×List Ax×Prop)
 | 0,_,τ,H,_,C=>some (τ,H,C)
 | m+1,k,τ,H,is,C =>
  match ops[k]? with
  | none=>none
  | some ⟨dst,op,_,_,_,g⟩ =>
   bif Ei dst n then
    match g with
    | none =>
     (match Jx tb (ev τ) H is C op with
     | some (v,H',is',C')=>runs tb ops n m (k+1) (put τ dst v) H' is' C'
     | none=>none)
    | some (j,want) =>
     match (ops[j]?).bind (·.dst) with
     | none=>none
     | some d =>
      match τ d with
      | .p (.bool b) =>
       bif b==want then
        (match Jx tb (ev τ) H is C op with
        | some (v,H',is',C')=>runs tb ops n m (k+1) (put τ dst v) H' is' C'
        | none=>none)
       else runs tb ops n m (k+1) (put τ dst (.tup [])) H is C
      | .tup []=>runs tb ops n m (k+1) (put τ dst (.tup [])) H is C
      | _=>none
   else none
end
section
variable {P:Program}{r:Option Nat}{ops:Array Oper}{n:Nat}{D:List Cu}{Q:B7→BJ→Prop}
theorem Jl (tb:Rs P):∀(m k:Nat) {τ τ':Nat→AV}{H H':List Ax}{is:List Nat}{C C':Prop},runs tb ops n m k τ H is C=some (τ',H',C')→C' →
  C∧(AL P r ops (k+m) ⟨n,τ',H',D⟩ Q→AL P r ops k ⟨n,τ,H,D⟩ Q)
 | 0,k,τ,τ',H,H',is,C,C',h,c=>by
  simp only[runs,Option.some.injEq,Prod.mk.injEq] at h;obtain⟨rfl,rfl,rfl⟩:=h;exact⟨c,fun h=>h⟩
 | m+1,k,τ,τ',H,H',is,C,C',h,c=>by
  rw[runs] at h;split at h
  ·cases h
  rename_i dst op ty pos aft g ho;cases hd:Ei dst n with
  | false=>rw[hd] at h;cases h
  | true =>
   rw[hd,cond_true] at h;rw[show k+(m+1)=k+1+m by omega];split at h
   ·split at h
    ·rename_i v H1 is1 C1 hv;obtain⟨c1,ih⟩:=Jl tb m (k+1) h c;obtain⟨c2,hop⟩:=EJ (dst:=dst) (ty:=ty) (pos:=pos) (aft:=aft) (g:=none) hv c1;exact⟨c2,fun hq=>LO ho hd hop (ih hq)⟩
    cases h
   rename_i j want;split at h
   ·cases h
   rename_i d hj;split at h
   ·rename_i b hb;cases hw:b==want with
    | true =>
     rw[hw,cond_true] at h;split at h
     ·rename_i v H1 is1 C1 hv;obtain⟨c1,ih⟩:=Jl tb m (k+1) h c;obtain⟨c2,hop⟩:=EJ (dst:=dst) (ty:=ty) (pos:=pos) (aft:=aft) (g:=some (j,want)) hv c1;have hbw:b=want:=by simpa using hw
      exact⟨c2,fun hq=>Qd ho hj (by rw[hb,hbw]) hd hop (ih hq)⟩
     ·cases h
    | false =>
     rw[hw,cond_false] at h;obtain⟨c1,ih⟩:=Jl tb m (k+1) h c;exact⟨c1,fun hq=>Wc ho hj hb hw hd (ih hq)⟩
   ·rename_i hb;obtain⟨c1,ih⟩:=Jl tb m (k+1) h c;exact⟨c1,fun hq=>Vn ho hj hb hd (ih hq)⟩
   cases h
end
def look {α:Type}:List (Nat×α)→Nat→Option α
 | [],_=>none
 | (a,v)::r,t=>bif Nat.beq a t then some v else look r t
def Pv {α:Type}(f:Nat→Option α):List (Nat×α)→Prop
 | []=>True
 | (a,v)::r=>f a=some v∧Pv f r
theorem LZ {α:Type}{f:Nat→Option α}{T:Nat}{v:α}:∀{l:List (Nat×α)},Pv f l→look l T=some v→f T=some v
 | [],_,h=>by cases h
 | (a,u)::r,ha,h=>by
  unfold look at h;cases hb:Nat.beq a T with
  | true=>rw[hb,cond_true] at h;injection h with h;subst h;rw[←Nat.eq_of_beq_eq_true hb];exact ha.1
  | false=>rw[hb,cond_false] at h;exact LZ ha.2 h
def Og (P:Program) (T:Nat):Option (List AV):=(zeroOf P T).map fun z=>z.cells.toList.map FU
def cF {P:Program}{fd:List (Nat×List (Nat×Nat))}{ty:List (Nat×Bool×Nat)}{zr:List (Nat×List AV)}(hf:Pv (fieldsOf P) fd) (ht:Pv (Cj P) ty) (hz:Pv (Og P) zr):Rs P where
 fd:=look fd
 ty:=look ty
 zr:=look zr
 hfd _ _ h:=LZ hf h
 hty _ _ h:=LZ ht h
 hzr T l h:=by
  have h1:=LZ hz h;unfold Og at h1;cases hq:zeroOf P T with
  | none=>rw[hq] at h1;cases h1
  | some z=>rw[hq] at h1;injection h1 with h1;exact⟨z,rfl,h1⟩
end Go.Abs
namespace Go.Eu
open Go.Abs
structure Dk where
 name:ByteArray
 type:Tm
 deriving Inhabited
structure Nv where
 params:Int
 type:Tm
 rules:List Tm
 deriving Inhabited
mutual
inductive F4 where
 | mk (kind:Int) (body:Tm) (var:Int) (branches:List JK)
inductive JK where
 | mk (ctor:ByteArray) (absurd:Bool) (tree:F4)
end
instance:Inhabited F4:=⟨.mk 0 default 0 []⟩
instance:Inhabited JK:=⟨.mk default false default⟩
def F4.kind:F4→Int | .mk k _ _ _=>k
def F4.body:F4→Tm | .mk _ b _ _=>b
def F4.var:F4→Int | .mk _ _ v _=>v
def F4.branches:F4→List JK | .mk _ _ _ l=>l
def JK.ctor:JK→ByteArray | .mk c _ _=>c
def JK.absurd:JK→Bool | .mk _ a _=>a
def JK.tree:JK→F4 | .mk _ _ t=>t
structure J5 where
 name:ByteArray
 type:Tm
 arity:Int
 tree:F4
 deriving Inhabited
structure Bx where
 kind:Int
 name:ByteArray
 params:Int
 type:Tm
 value:Tm
 fixed:Int
 ctors:List Dk
 recs:Nv
 funs:List J5
 deriving Inhabited
structure Ff where
 kind:Int
 decl:Int
 item:Int
 params:Int
 type:Tm
 deriving Inhabited
structure jq where
 carrier:ByteArray
 add:ByteArray
 zero:ByteArray
 neg:ByteArray
 one:ByteArray
 leq:ByteArray
 lemmas:List ByteArray
 deriving Inhabited
structure j3 where
 place:Int
 minus:Bool
 deriving Inhabited,DecidableEq
def Ec (c:Dk):List PV:= .str c.name::BQ c.type
def Q5 (r:Nv):List PV:=I r.params::(BQ r.type++[.lst (Ay r.rules)])
mutual
def Iy:F4→List PV
 | .mk k b v l=>I k::(BQ b++[I v,.lst (X6 l)])
def Nx:JK→List PV
 | .mk c a t=> .str c:: .bool a::Iy t
def X6:List JK→List (List PV)
 | []=>[]
 | b::l=>Nx b::X6 l
end
def MY (f:J5):List PV:= .str f.name::(BQ f.type++(I f.arity::Iy f.tree))
def Br (d:Bx):List PV:=I d.kind:: .str d.name::I d.params::(BQ d.type++(BQ d.value++(I d.fixed:: .lst (d.ctors.map Ec)::(Q5 d.recs++[.lst (d.funs.map MY)]))))
def FG (e:Ff):List PV:=I e.kind::I e.decl::I e.item::I e.params::BQ e.type
def iv (t:jq):List PV:=[.str t.carrier,.str t.add,.str t.zero,.str t.neg,.str t.one,.str t.leq,.lst (t.lemmas.map dz)]
def iw (s:j3):List PV:=[I s.place,.bool s.minus]
theorem Fm (c:Dk):(Ec c).length=6:=by simp[Ec,A7]
theorem Hn (r:Nv):(Q5 r).length=7:=by simp[Q5,A7]
theorem I5 (t:F4):(Iy t).length=8:=by cases t;simp[Iy,A7]
theorem Th (b:JK):(Nx b).length=10:=by cases b;simp[Nx,I5]
theorem MO (f:J5):(MY f).length=15:=by simp[MY,A7,I5]
theorem Dm (d:Bx):(Br d).length=23:=by simp[Br,A7,Hn]
theorem Gt (e:Ff):(FG e).length=9:=by simp[FG,A7]
theorem Ja {α:Type}{f:α→List PV}{ts:List α}{i:Nat}{t:α}(h:ts[i]?=some t):(ts.map f)[i]?=some (f t):=by simp[h]
theorem KD {ts:List Dk}{i:Nat}{t:Dk}(h:ts[i]?=some t):(ts.map Ec)[i]?=some (Ec t):=Ja h
theorem UC {ts:List J5}{i:Nat}{t:J5}(h:ts[i]?=some t):(ts.map MY)[i]?=some (MY t):=Ja h
theorem Jk {ts:List Bx}{i:Nat}{t:Bx}(h:ts[i]?=some t):(ts.map Br)[i]?=some (Br t):=Ja h
theorem Bv {n:Nat}{c:PV}{r:List PV}(hc:c≠ .any∧c≠ .unit) (h:Cl n r):Cl (n+1) (c::r) :=
 ⟨by simp[h.1],fun x hx=>by
  rcases List.mem_cons.1 hx with rfl | hx
  ·exact hc
  exact h.2 x hx⟩
theorem EL {n m:Nat}{a b:List PV}(ha:Cl n a) (hb:Cl m b):Cl (n+m) (a++b) :=
 ⟨by simp[ha.1,hb.1],fun x hx=>by
  rcases List.mem_append.1 hx with hx | hx
  ·exact ha.2 x hx
  exact hb.2 x hx⟩
theorem IV:Cl 0 []:=⟨rfl,fun c h=>by simp at h⟩
theorem R4 (c:Dk):Cl 6 (Ec c):=Bv Ai (FN _)
theorem aP (r:Nv):Cl 7 (Q5 r):=Bv Ai (EL (FN _) (Bv Ai IV))
theorem MT (t:F4):Cl 8 (Iy t):=by
 cases t with
 | mk k b v l=>unfold Iy;exact Bv Ai (EL (n:=5) (m:=2) (FN _) (Bv Ai (Bv Ai IV)))
theorem Wk (b:JK):Cl 10 (Nx b):=by
 cases b with
 | mk c a t=>unfold Nx;exact Bv Ai (Bv Ai (MT t))
theorem ZY (f:J5):Cl 15 (MY f):=Bv Ai (EL (n:=5) (m:=9) (FN _) (Bv Ai (MT _)))
theorem VM (d:Bx):Cl 23 (Br d):=Bv Ai (Bv Ai (Bv Ai (EL (n:=5) (m:=15) (FN _) (EL (n:=5) (m:=10) (FN _) (Bv Ai (Bv Ai (EL (n:=7) (m:=1) (aP _) (Bv Ai IV))))))))
theorem ZK (e:Ff):Cl 9 (FG e):=Bv Ai (Bv Ai (Bv Ai (Bv Ai (FN _))))
theorem TD (l:List Dk):∀r∈l.map Ec,Cl 6 r:=Ep R4 l
theorem Xw (m:Dk):((Ec m).map AV.p).all one=true:=DH (R4 m)
theorem W9 (m:F4):((Iy m).map AV.p).all one=true:=DH (MT m)
theorem Wa (m:JK):((Nx m).map AV.p).all one=true:=DH (Wk m)
theorem Xr (m:J5):((MY m).map AV.p).all one=true:=DH (ZY m)
theorem Xu (m:Bx):((Br m).map AV.p).all one=true:=DH (VM m)
theorem XO (m:Ff):((FG m).map AV.p).all one=true:=DH (ZK m)
def Vi (n:ByteArray):ByteArray:=n++⟨#[46,114,101,99]⟩
def HR (i p:Int):List Dk→Int→List (ByteArray×Ff)
 | [],_=>[]
 | c::cs,k=>(c.name,⟨4,i,k,p,c.type⟩)::HR i p cs (k+1)
def K9 (i p:Int):List J5→Int→List (ByteArray×Ff)
 | [],_=>[]
 | c::cs,k=>(c.name,⟨6,i,k,p,c.type⟩)::K9 i p cs (k+1)
def Db (d:Bx) (i:Int):List (ByteArray×Ff) :=
 if d.kind=0∨d.kind=1∨d.kind=2 then [(d.name,⟨d.kind,i,0,d.params,d.type⟩)]
 else if d.kind=3 then (d.name,⟨3,i,0,d.params,d.type⟩)::(HR i d.params d.ctors 0++[(Vi d.name,⟨5,i,0,d.recs.params,d.recs.type⟩)])
 else if d.kind=4 then K9 i d.params d.funs 0
 else []
def CV (nm:ByteArray):List (ByteArray×Ff)→Option Ff
 | []=>none
 | (s,e)::l=>if s=nm then some e else CV nm l
def findF (nm:ByteArray):List Bx→Int→Option Ff
 | [],_=>none
 | d::ds,i=>match CV nm (Db d i) with
  | some e=>some e
  | none=>findF nm ds (i+1)
def YY:Ff:=⟨0,0,0,0,BH⟩
def B2 (ds:List Bx) (nm:ByteArray):Ff×Int:=match findF nm ds 0 with
 | some e=>(e,0)
 | none=>(YY,9)
theorem JA {nm:ByteArray}:∀{a b:List (ByteArray×Ff)},CV nm (a++b)=match CV nm a with
  | some e=>some e
  | none=>CV nm b
 | [],b=>rfl
 | (s,e)::a,b=>by
  simp only[List.cons_append,CV];split
  ·rfl
  exact JA
section
variable {i p:Int}{nm:ByteArray}
theorem Ny:∀{cs:List Dk}{j:Nat}{c:Dk}{k:Int},cs[j]?=some c→c.name=nm→(∀q,q<j→∀y,cs[q]?=some y→y.name≠nm)→CV nm (HR i p cs k)=some ⟨4,i,k+j,p,c.type⟩
 | [],j,c,k,h,_,_=>by simp at h
 | a::cs,0,c,k,h,hn,_=>by
  simp at h;subst h;simp[HR,CV,hn]
 | a::cs,j+1,c,k,h,hn,hb=>by
  have h0:a.name≠nm:=hb 0 Ah a rfl;rw[HR,CV,if_neg h0,Ny (by simpa using h) hn fun q hq y hy=>hb (q+1) Ah y (by simpa using hy)];congr 2;omega
theorem Lj:∀{cs:List Dk}{k:Int},(∀q:Nat,q<cs.length→∀y,cs[q]?=some y→y.name≠nm)→CV nm (HR i p cs k)=none
 | [],k,_=>rfl
 | a::cs,k,hb=>by
  have h0:a.name≠nm:=hb 0 Ai a rfl;rw[HR,CV,if_neg h0];exact Lj fun q hq y hy=>hb (q+1) (by simpa using hq) y (by simpa using hy)
theorem Ns:∀{cs:List Dk}{j:Nat}{c:Dk}{k:Int},cs[j]?=some c→(c.name,(⟨4,i,k+j,p,c.type⟩:Ff))∈HR i p cs k
 | [],j,c,k,h=>by simp at h
 | a::cs,0,c,k,h=>by simp at h;subst h;simp[HR]
 | a::cs,j+1,c,k,h=>by
  have:=Ns (k:=k+1) (show cs[j]?=some c by simpa using h);rw[HR];refine List.mem_cons_of_mem _ ?_
  rwa [show k+1+(j:Int)=k+((j+1:Nat):Int) by omega] at this
theorem Pl:∀{cs:List J5}{j:Nat}{c:J5}{k:Int},cs[j]?=some c→c.name=nm→(∀q,q<j→∀y,cs[q]?=some y→y.name≠nm)→CV nm (K9 i p cs k)=some ⟨6,i,k+j,p,c.type⟩
 | [],j,c,k,h,_,_=>by simp at h
 | a::cs,0,c,k,h,hn,_=>by
  simp at h;subst h;simp[K9,CV,hn]
 | a::cs,j+1,c,k,h,hn,hb=>by
  have h0:a.name≠nm:=hb 0 Ah a rfl;rw[K9,CV,if_neg h0,Pl (by simpa using h) hn fun q hq y hy=>hb (q+1) Ah y (by simpa using hy)];congr 2;omega
theorem OT:∀{cs:List J5}{k:Int},(∀q:Nat,q<cs.length→∀y,cs[q]?=some y→y.name≠nm)→CV nm (K9 i p cs k)=none
 | [],k,_=>rfl
 | a::cs,k,hb=>by
  have h0:a.name≠nm:=hb 0 Ai a rfl;rw[K9,CV,if_neg h0];exact OT fun q hq y hy=>hb (q+1) (by simpa using hq) y (by simpa using hy)
theorem QS:∀{cs:List J5}{j:Nat}{c:J5}{k:Int},cs[j]?=some c→(c.name,(⟨6,i,k+j,p,c.type⟩:Ff))∈K9 i p cs k
 | [],j,c,k,h=>by simp at h
 | a::cs,0,c,k,h=>by simp at h;subst h;simp[K9]
 | a::cs,j+1,c,k,h=>by
  have:=QS (k:=k+1) (show cs[j]?=some c by simpa using h);rw[K9];refine List.mem_cons_of_mem _ ?_
  rwa [show k+1+(j:Int)=k+((j+1:Nat):Int) by omega] at this
end
def gq (d:Bx):List ByteArray :=
 if d.kind=0∨d.kind=1∨d.kind=2 then [d.name]
 else if d.kind=3 then d.name::d.ctors.map Dk.name++[Vi d.name]
 else if d.kind=4 then d.funs.map J5.name
 else []
def ji (l:List ByteArray) (s:ByteArray):Bool:=l.any fun x=>decide (x=s)
def YD (nm:ByteArray) (i p:Int) (o:Ff):List Dk→Int→Ff
 | [],_=>o
 | c::cs,k=>if c.name=nm then ⟨4,i,k,p,c.type⟩ else YD nm i p o cs (k+1)
def ao (nm:ByteArray) (i p:Int) (o:Ff):List J5→Int→Ff
 | [],_=>o
 | c::cs,k=>if c.name=nm then ⟨6,i,k,p,c.type⟩ else ao nm i p o cs (k+1)
def fv (d:Bx) (i:Int) (nm:ByteArray):Ff :=
 if d.kind=0∨d.kind=1∨d.kind=2 then ⟨d.kind,i,0,d.params,d.type⟩
 else if d.kind=3 then (if nm=d.name then ⟨3,i,0,d.params,d.type⟩ else YD nm i d.params ⟨5,i,0,d.recs.params,d.recs.type⟩ d.ctors 0)
 else ao nm i d.params ⟨0,i,0,d.params,d.type⟩ d.funs 0
structure ew where
 env:List Bx
 own:List ByteArray
 d:Bx
def S1 (s:ew):List PV:= .lst (s.env.map Br):: .lst (s.own.map dz)::Br s.d
theorem T7 (s:ew):(S1 s).length=25:=by simp[S1,Dm]
theorem Xc (s:ew):Cl 25 (S1 s):=Bv Ai (Bv Ai (VM _))
theorem Wn (m:ew):((S1 m).map AV.p).all one=true:=DH (Xc m)
structure VQ (t:Tm):Prop where
 nd:Nd t
 sz:size t<1000000
mutual
def Gu:F4→Prop
 | .mk k b v l=>VQ b∧l.length<2000000∧L5 l
def SL:JK→Prop
 | .mk c a t=>c.size<2000000∧Gu t
def L5:List JK→Prop
 | []=>True
 | b::l=>SL b∧L5 l
end
mutual
def eF:F4→Nat
 | .mk k b v l=>1+Yo l
def dW:JK→Nat
 | .mk c a t=>eF t
def Yo:List JK→Nat
 | []=>0
 | b::l=>dW b+1+Yo l
end
structure ct (c:Dk):Prop where
 nm:c.name.size<2000000
 ty:VQ c.type
structure ca (f:J5):Prop where
 nm:f.name.size<2000000
 ty:VQ f.type
 tr:Gu f.tree
structure bN (d:Bx):Prop where
 nm:d.name.size<2000000
 ty:VQ d.type
 vl:VQ d.value
 cl:d.ctors.length<2000000
 cs:∀c∈d.ctors,ct c
 rt:VQ d.recs.type
 rl:d.recs.rules.length<2000000
 rs:∀t∈d.recs.rules,VQ t
 fl:d.funs.length<2000000
 fs:∀f∈d.funs,ca f
structure C3 (ds:List Bx):Prop where
 len:ds.length<2000000
 all:∀d∈ds,bN d
theorem C3.take {ds:List Bx}(h:C3 ds) (n:Nat):C3 (ds.take n) :=
 ⟨by have:=h.len;simp;omega,fun d hd=>h.all d (List.mem_of_mem_take hd)⟩
section
variable {d:Bx}{i:Int}{nm:ByteArray}
end
end Go.Eu
namespace Go.Abs
open Go.Eu
section
variable {P:Program}{r:Option Nat}{ops:Array Oper}{n k:Nat}{D:List Cu}{Q:B7→BJ→Prop}{τ τ':Nat→AV}{H H':List Ax}{C:Prop}
theorem Wl {C:Prop}(c:C:=by repeat' first | exact trivial | refine And.intro ?_ ?_ | (simp only[List.length_map,A7,Gt,Dm,MO,I5,Th,T7,Fm,Hn];done) | exact Gf _ | exact XO _ | exact Xu _ | exact W9 _ | exact Xr _ | exact Wa _ | exact Xw _ | exact Wn _ | exact rfl | omega):C:=c
theorem Ap (tb:Rs P) (m:Nat) (is:List Nat) (h:runs tb ops n m k τ H is True=some (τ',H',C)) (next:AL P r ops (k+m) ⟨n,τ',H',D⟩ Q) (c:C:=by exact Wl):AL P r ops k ⟨n,τ,H,D⟩ Q:=(Jl tb m k h c).2 next
theorem Ak (tb:Rs P) (m:Nat) (is:List Nat) (h:runs tb ops n m k τ H is True=some (τ',H',C)) (next:Q .normal ⟨n,τ',H',D⟩) (hk:ops.size - (k+m)=0:=by exact rfl) (c:C:=by exact Wl):AL P r ops k ⟨n,τ,H,D⟩ Q:=Ap tb m is h (BR hk next) c
theorem An {id:Nat}{c₂:Code}(tb:Rs P) (m:Nat) (is:List Nat) (h:runs tb ops n m 0 τ H is True=some (τ',H',C)) (next:FJ P r c₂ ⟨n,τ',H',D⟩ Q) (hk:ops.size - (0+m)=0:=by exact rfl) (c:C:=by exact Wl):FJ P r (.seq (.region id ops false) c₂) ⟨n,τ,H,D⟩ Q:=Ar (Ak tb m is h next hk c)
end
end Go.Abs
namespace Go.Abs
section
variable {P:Program}{tb:Rs P}{ρ:Operand→AV}{H H':List Ax}{is is':List Nat}{C C':Prop}{v:AV}
 {dst:Option Tmp} {ty:TypeId} {pos:String} {aft:Array Edge} {g:Option (Nat×Bool)}
theorem Tl {op:Op}(h:Jx tb ρ [] [] C op=some (v,H',is',C')) (H:List Ax) (is:List Nat):Jx tb ρ H is C op=some (v,H,is,C'):=by
 unfold Jx at h ⊢;split at h
 ·injection h with h;simp only[Prod.mk.injEq] at h;obtain⟨rfl,rfl,rfl,rfl⟩:=h;rfl
 ·injection h with h;simp only[Prod.mk.injEq] at h;obtain⟨rfl,rfl,rfl,rfl⟩:=h;rfl
 ·split at h
  ·rename_i b hb;injection h with h;simp only[Prod.mk.injEq] at h;obtain⟨rfl,rfl,rfl,rfl⟩:=h;simp only[hb]
  cases h
 ·split at h
  ·rename_i xs hx;split at h
   ·rename_i u hu;injection h with h;simp only[Prod.mk.injEq] at h;obtain⟨rfl,rfl,rfl,rfl⟩:=h;simp only[hx,hu]
   cases h
  cases h
 ·split at h
  ·rename_i b o hx;injection h with h;simp only[Prod.mk.injEq] at h;obtain⟨rfl,rfl,rfl,rfl⟩:=h;simp only[hx]
  cases h
 ·injection h with h;simp only[Prod.mk.injEq] at h;obtain⟨rfl,rfl,rfl,rfl⟩:=h;rfl
 ·split at h
  ·rename_i b hb;injection h with h;simp only[Prod.mk.injEq] at h;obtain⟨rfl,rfl,rfl,rfl⟩:=h;simp only[hb]
  cases h
 ·rename_i op T x y U
  try dsimp only
  generalize hx:ρ x=vx at h ⊢;generalize hy:ρ y=vy at h ⊢;unfold U6 at h ⊢;split at h
  ·rename_i k m k' n
   try dsimp only
   split at h
   ·rename_i b hb;injection h with h;simp only[Prod.mk.injEq] at h;obtain⟨rfl,rfl,rfl,rfl⟩:=h;simp only[hb]
   rename_i hb;split at h
   ·rename_i r hr;injection h with h;simp only[Prod.mk.injEq] at h;obtain⟨rfl,rfl,rfl,rfl⟩:=h;simp only[hb,hr]
   cases h
  cases h
 ·rename_i T x i;split at h
  ·rename_i lay hl;split at h
   ·rename_i off sz hi
    try dsimp only
    generalize hx:ρ x=vx at h ⊢;unfold PJ at h ⊢;split at h
    ·injection h with h;simp only[Prod.mk.injEq] at h;obtain⟨rfl,rfl,rfl,rfl⟩:=h;simp only[hl,hi]
    ·injection h with h;simp only[Prod.mk.injEq] at h;obtain⟨rfl,rfl,rfl,rfl⟩:=h;simp only[hl,hi]
    cases h
   cases h
  cases h
 ·rename_i T parts;split at h
  ·rename_i lay z hl hz;split at h
   ·rename_i cs hc;injection h with h;simp only[Prod.mk.injEq] at h;obtain⟨rfl,rfl,rfl,rfl⟩:=h;simp only[hl,hz,hc]
   cases h
  cases h
 ·rename_i T x;split at h
  ·rename_i t ht
   try dsimp only
   try rw[ht]
   try dsimp only
   generalize hx:ρ x=vx at h ⊢;unfold Om at h ⊢;split at h
   ·rename_i cells
    try dsimp only
    cases hb:t.1 with
    | true =>
     rw[hb,cond_true] at h;injection h with h;simp only[Prod.mk.injEq] at h;obtain⟨rfl,rfl,rfl,rfl⟩:=h;rfl
    | false =>
     rw[hb,cond_false] at h;rw[cond_false];split at h
     ·injection h with h;simp only[Prod.mk.injEq] at h;obtain⟨rfl,rfl,rfl,rfl⟩:=h;rfl
     cases h
   ·cases h
   cases h
  cases h
 ·rename_i T x y;split at h
  ·rename_i t ht;generalize hx:ρ x=vx at h;unfold Oe at h;split at h
   ·cases h
   cases h
  cases h
 cases h
theorem TK {T:TypeId}{x:Operand}{ob:Ax}{i:Nat}(h:Jx tb ρ [ob] [0] C (.load T x)=some (v,H',is',C')) (h0:Jx tb ρ [] [] C (.load T x)=none) (hi:H[i]?=some ob):Jx tb ρ H [i] C (.load T x)=some (v,H,[],C'):=by
 unfold Jx at h h0 ⊢;dsimp only at h h0 ⊢;split at h
 ·rename_i t ht
  try simp only[ht] at h0
  skip
  generalize hx:ρ x=vx at h h0 ⊢;unfold Om at h h0 ⊢;split at h
  ·rename_i cells;dsimp only at h0;cases hb:t.1 with
   | true=>rw[hb,cond_true] at h0;cases h0
   | false =>
    rw[hb,cond_false] at h h0;split at h
    ·cases h0
    cases h
  ·rename_i b o;dsimp only at h ⊢;rw[hi];simp only[List.getElem?_cons_zero] at h;cases ob with
   | box b' cs =>
    dsimp only at h ⊢;cases hb:t.1 with
    | true =>
     rw[hb,cond_true] at h;rw[cond_true];split at h
     ·injection h with h;simp only[Prod.mk.injEq] at h;obtain⟨rfl,rfl,rfl,rfl⟩:=h;rfl
     ·cases h
    | false =>
     rw[hb,cond_false] at h;rw[cond_false];split at h
     ·rename_i u hu;injection h with h;simp only[Prod.mk.injEq] at h;obtain⟨rfl,rfl,rfl,rfl⟩:=h;rfl
     ·cases h
   | _=>cases h
  cases h
 cases h
def OJ (tb:Rs P) (ops:Array Oper) (k:Nat) (ρ:Operand→AV) (H:List Ax) (rd:Qs) (ef:Qk) (is:List Nat) (C:Prop) (op:Op):Option (Sp×List Nat×Prop) :=
 match Jx tb ρ [] [] C op with
 | some (v,_,_,C')=>some (.free v,is,C')
 | none =>
  match op with
  | .load T x =>
   match is with
   | i::is' =>
    match H[i]? with
    | some ob =>
     match Jx tb ρ [ob] [0] C (.load T x) with
     | some (v,_,_,C')=>some (.read [ob] v,is',C'∧RD ops k ob ef)
     | none=>none
    | none=>none
   | []=>none
  | .store T x y =>
   match Jx tb ρ H is C (.store T x y) with
   | some (v,H',is',C')=>some (.eff v H',is',C'∧HA ops k H H' rd)
   | none=>none
  | _=>none
theorem HZ {ops:Array Oper}{k:Nat}{τ:Nat→AV}{rd:Qs}{ef:Qk}{op:Op}{s:Sp}(h:OJ tb ops k (ev τ) H rd ef is C op=some (s,is',C')) (c:C') (hw:CL ops ⟨0,τ,[],[]⟩ ⟨dst,op,ty,pos,aft,g⟩) :
  C∧VO P ops ⟨dst,op,ty,pos,aft,g⟩ τ H s∧Zd ops k H rd ef s:=by
 unfold OJ at h;split at h
 ·rename_i v H1 is1 C1 hv;injection h with h;simp only[Prod.mk.injEq] at h;obtain⟨rfl,rfl,rfl⟩:=h;exact⟨(EJ (dst:=dst) (ty:=ty) (pos:=pos) (aft:=aft) (g:=g) hv c).1,⟨hw,fun H=>(EJ (Tl hv H []) c).2⟩,Aj⟩
 rename_i hn;split at h
 ·split at h
  ·rename_i i is2;split at h
   ·rename_i ob hi;split at h
    ·rename_i v H1 is1 C1 hv;injection h with h;simp only[Prod.mk.injEq] at h;obtain⟨rfl,rfl,rfl⟩:=h;obtain⟨c1,c2⟩:=c;refine⟨(EJ (dst:=dst) (ty:=ty) (pos:=pos) (aft:=aft) (g:=g) hv c1).1,⟨hw,fun ob' hm=>?_,fun H hm=>?_⟩,fun ob' hm=>?_⟩
     ·rw[List.mem_singleton] at hm;subst hm;exact List.mem_of_getElem? hi
     ·obtain⟨i',hi'⟩:=List.mem_iff_getElem?.1 (hm ob List.mem_cons_self);exact(EJ (TK hv hn hi') c1).2
     rw[List.mem_singleton] at hm;subst hm;exact c2
    cases h
   cases h
  cases h
 ·split at h
  ·rename_i v H1 is1 C1 hv;injection h with h;simp only[Prod.mk.injEq] at h;obtain⟨rfl,rfl,rfl⟩:=h;obtain⟨c1,c2⟩:=c;obtain⟨c0,hop⟩:=EJ (dst:=dst) (ty:=ty) (pos:=pos) (aft:=aft) (g:=g) hv c1;exact⟨c0,⟨hw,hop⟩,c2⟩
  cases h
 cases h
def aV (k:Nat) (s:Sp) (C:Prop):List (Nat×Sp)→Prop
 | []=>C
 | p::r=>C∧Ew k s (p::r)
theorem Hq {k:Nat}{s:Sp}{C:Prop}:∀{fx:List (Nat×Sp)},aV k s C fx→C∧Ew k s fx
 | [],h=>⟨h,trivial⟩
 | p::r,h=>h
abbrev hY:=(Nat→AV)×List Ax×Qs×Qk×List Bool×Prop
def PD (k:Nat) (τ:Nat→AV) (dst:Option Tmp) (H:List Ax) (rd:Qs) (ef:Qk) (effs:List Bool) (fx:List (Nat×Sp)) (f:(Nat→AV)→List Ax→Qs→Qk→List Bool→List Nat→Prop→Option hY):Option (Sp×List Nat×Prop)→Option hY
 | some (.free v,is,C)=>f (put τ dst v) H rd ef (false::effs) is (aV k (.free v) C fx)
 | some (.read [ob] v,is,C)=>f (put τ dst v) H ((k,ob)::rd) ef (false::effs) is (aV k (.read [ob] v) C fx)
 | some (.eff v H',is,C)=>f (put τ dst v) H' rd ((k,H,H')::ef) (true::effs) is (aV k (.eff v H') C fx)
 | _=>none
def It (tb:Rs P) (ops:Array Oper) (opn:Nat→Bool) (fx:List (Nat×Sp)):Nat→Nat→(Nat→AV)→List Ax→Qs→Qk→List Bool→List Nat→Prop→Option hY
 | 0,_,τ,H,rd,ef,effs,_,C=>some (τ,H,rd,ef,effs,C)
 | m+1,k,τ,H,rd,ef,effs,is,C =>
  match ops[k]? with
  | none=>none
  | some ⟨dst,op,_,_,_,g⟩ =>
   bif opn k then none else
    match g with
    | none=>PD k τ dst H rd ef effs fx (It tb ops opn fx m (k+1)) (OJ tb ops k (ev τ) H rd ef is C op)
    | some (j,want) =>
     match (ops[j]?).bind (·.dst) with
     | none=>none
     | some d =>
      match τ d with
      | .p (.bool b) =>
       bif b==want then PD k τ dst H rd ef effs fx (It tb ops opn fx m (k+1)) (OJ tb ops k (ev τ) H rd ef is C op)
       else It tb ops opn fx m (k+1) (put τ dst (.tup [])) H rd ef (false::effs) is (aV k .skip C fx)
      | .tup []=>It tb ops opn fx m (k+1) (put τ dst (.tup [])) H rd ef (false::effs) is (aV k .skip C fx)
      | _=>none
end
theorem _root_.Go.Ad {α:Prop}(h:α:=by kernel_rfl):α:=h
section
variable {P:Program}{ops:Array Oper}{n:Nat}{τ₀:Nat→AV}{D:List Cu}{Q:B7→BJ→Prop}{opn:Nat→Bool}{fx:List (Nat×Sp)}
theorem IM (tb:Rs P):∀(m k:Nat) {τ τ':Nat→AV}{H H':List Ax}{rd rd':Qs}{ef ef':Qk}{effs effs':List Bool}{is:List Nat}{C C':Prop},It tb ops opn fx m k τ H rd ef effs is C=some (τ',H',rd',ef',effs',C')→C' →
  C∧(Dr P ops n τ₀ D Q opn (k+m) τ' H' rd' ef' effs' fx→Dr P ops n τ₀ D Q opn k τ H rd ef effs fx)
 | 0,k,τ,τ',H,H',rd,rd',ef,ef',effs,effs',is,C,C',h,c=>by
  simp only[It,Option.some.injEq,Prod.mk.injEq] at h;obtain⟨rfl,rfl,rfl,rfl,rfl,rfl⟩:=h;exact⟨c,fun h=>h⟩
 | m+1,k,τ,τ',H,H',rd,rd',ef,ef',effs,effs',is,C,C',h,c=>by
  rw[It] at h;split at h
  ·cases h
  rename_i dst op ty pos aft g ho;cases hn:opn k with
  | true=>rw[hn] at h;cases h
  | false =>
   rw[hn,cond_false] at h;rw[show k+(m+1)=k+1+m by omega];have key:CL ops ⟨0,τ,[],[]⟩ ⟨dst,op,ty,pos,aft,g⟩→PD k τ dst H rd ef effs fx (It tb ops opn fx m (k+1)) (OJ tb ops k (ev τ) H rd ef is C op)=some (τ',H',rd',ef',effs',C')→C∧(Dr P ops n τ₀ D Q opn (k+1+m) τ' H' rd' ef' effs' fx→Dr P ops n τ₀ D Q opn k τ H rd ef effs fx):=by
    intro hw h;generalize hs:OJ tb ops k (ev τ) H rd ef is C op=so at h;unfold PD at h;split at h
    ·rename_i v is1 C1;obtain⟨c1,ih⟩:=IM tb m (k+1) h c;obtain⟨c1,hfx⟩:=Hq c1;obtain⟨c2,hok,howe⟩:=HZ hs c1 hw;exact⟨c2,fun hq=> .step (.free v) ho (.inl hn) hok howe hfx (ih hq)⟩
    ·rename_i ob v is1 C1;obtain⟨c1,ih⟩:=IM tb m (k+1) h c;obtain⟨c1,hfx⟩:=Hq c1;obtain⟨c2,hok,howe⟩:=HZ hs c1 hw;exact⟨c2,fun hq=> .step (.read [ob] v) ho (.inl hn) hok howe hfx (ih hq)⟩
    ·rename_i v H1 is1 C1;obtain⟨c1,ih⟩:=IM tb m (k+1) h c;obtain⟨c1,hfx⟩:=Hq c1;obtain⟨c2,hok,howe⟩:=HZ hs c1 hw;exact⟨c2,fun hq=> .step (.eff v H1) ho (.inl hn) hok howe hfx (ih hq)⟩
    cases h
   split at h
   ·exact key Ab h
   rename_i j want;split at h
   ·cases h
   rename_i d hj;split at h
   ·rename_i b hb;cases hw:b==want with
    | true =>
     rw[hw,cond_true] at h;have hbw:b=want:=by simpa using hw
     exact key (by simp only[CL];exact⟨d,hj,by rw[hb,hbw]⟩) h
    | false =>
     rw[hw,cond_false] at h;obtain⟨c1,ih⟩:=IM tb m (k+1) h c;obtain⟨c1,hfx⟩:=Hq c1;exact⟨c1,fun hq=>XQ ho hn hj hb hw hfx (ih hq)⟩
   ·rename_i hb;obtain⟨c1,ih⟩:=IM tb m (k+1) h c;obtain⟨c1,hfx⟩:=Hq c1;exact⟨c1,fun hq=>Uk ho hn hj hb hfx (ih hq)⟩
   cases h
variable {k:Nat}{τ τ':Nat→AV}{H H':List Ax}{rd rd':Qs}{ef ef':Qk}{effs effs':List Bool}{C:Prop}
theorem YP {C:Prop}(c:C:=by repeat' first | exact trivial | refine And.intro ?_ ?_ | ((refine Or.inr (And.intro ?_ ?_)<;>repeat (first | exact List.Mem.head _ | apply List.Mem.tail));done) | exact Or.inl Ad | exact Wl):C:=c
theorem BU (tb:Rs P) (m:Nat) (is:List Nat) (h:It tb ops opn fx m k τ H rd ef effs is True=some (τ',H',rd',ef',effs',C)) (next:Dr P ops n τ₀ D Q opn (k+m) τ' H' rd' ef' effs' fx) (c:C:=by exact YP):Dr P ops n τ₀ D Q opn k τ H rd ef effs fx:=(IM tb m k h c).2 next
theorem B1 (tb:Rs P) (m:Nat) (is:List Nat) (h:It tb ops opn fx m k τ H rd ef effs is True=some (τ',H',rd',ef',effs',C)) (next:Q .normal ⟨n,τ',H',D⟩) (hk:k+m=ops.size:=by exact rfl) (chk:Jt ops n effs'.reverse=true:=by kernel_rfl) (c:C:=by exact YP):Dr P ops n τ₀ D Q opn k τ H rd ef effs fx:=BU tb m is h (El hk chk next) c
end
end Go.Abs
namespace Go.Proofs.YtifphifongokcaaGreat
open Go.Abs
def kF:List (Nat×Bool×Nat):=[(25,true,5),(3,false,1),(23,false,1),(63,true,2),(61,false,1),(9,false,1),(31,true,23),(22,false,1),(36,true,10),(60,true,2),(100,false,1),(39,false,1),(231,true,1),(72,true,4),(26,false,1),(121,false,1),(4,false,1),(241,true,9),(286,false,1),(34,false,1),(112,true,8),(47,false,1),(376,false,1),(300,false,1),(110,false,1),(28,true,7),(29,false,1),(148,false,1),(70,false,1),(86,true,3),(152,true,10),(187,true,4),(76,true,6),(146,false,1),(213,false,1),(44,false,1),(161,true,7),(114,true,15),(335,false,1),(83,true,7),(78,false,1),(283,false,1),(289,false,1),(219,false,1),(220,false,1),(205,false,1),(238,false,1),(273,false,1),(302,true,9),(203,true,65),(147,false,1),(225,true,1),(145,false,1),(200,false,1),(223,false,1),(226,false,1),(251,true,0),(260,true,13),(267,true,0),(269,false,1),(317,false,1),(159,true,10)]
def j0:List (Nat×List (Nat×Nat)):=[(25,[(0,1),(1,1),(2,1),(3,1),(4,1)]),(31,[(0,1),(1,1),(2,1),(3,5),(8,5),(13,1),(14,1),(15,7),(22,1)]),(63,[(0,1),(1,1)]),(36,[(0,1),(1,1),(2,1),(3,1),(4,5),(9,1)]),(60,[(0,1),(1,1)]),(72,[(0,1),(1,1),(2,1),(3,1)]),(241,[(0,1),(1,1),(2,1),(3,1),(4,5)]),(28,[(0,1),(1,5),(6,1)]),(150,[(0,1),(1,1),(2,1),(3,1)]),(112,[(0,1),(1,5),(6,1),(7,1)]),(304,[(0,9),(9,1)]),(76,[(0,1),(1,5)]),(302,[(0,1),(1,1),(2,5),(7,1),(8,1)]),(215,[(0,1),(1,1)]),(80,[(0,1)]),(86,[(0,1),(1,1),(2,1)]),(178,[(0,1),(1,1)]),(187,[(0,1),(1,1),(2,1),(3,1)]),(202,[(0,1),(1,1),(2,1),(3,1),(4,1)]),(114,[(0,1),(1,5),(6,1),(7,8)]),(271,[(0,1),(1,1),(2,1)]),(83,[(0,1),(1,1),(2,5)]),(254,[(0,1),(1,1)]),(297,[(0,1),(1,1),(2,1)]),(337,[(0,1),(1,1)]),(159,[(0,1),(1,1),(2,8)]),(326,[(0,5),(5,1),(6,1)]),(356,[(0,13)]),(161,[(0,5),(5,1),(6,1)]),(294,[(0,1),(1,1)]),(152,[(0,5),(5,5)]),(222,[(0,1)]),(225,[(0,1)]),(231,[(0,1)]),(292,[(0,1),(1,1)]),(251,[]),(267,[])]
def jx:List (Nat×List AV):=[(25,[.p (.int .i64 0),.p (.int .i64 0),.p (.str ⟨#[]⟩),.p .nils,.p .nils]),(63,[.p (.int .i64 0),.p .nils]),(202,[.p (.bool false),.p (.bool false),.p (.int .i64 0),.p (.int .i64 0),.p (.int .i64 0)]),(31,[.p (.int .i64 0),.p (.str ⟨#[]⟩),.p (.int .i64 0),.p (.int .i64 0),.p (.int .i64 0),.p (.str ⟨#[]⟩),.p .nils,.p .nils,.p (.int .i64 0),.p (.int .i64 0),.p (.str ⟨#[]⟩),.p .nils,.p .nils,.p (.int .i64 0),.p .nils,.p (.int .i64 0),.p (.int .i64 0),.p (.int .i64 0),.p (.str ⟨#[]⟩),.p .nils,.p .nils,.p .nils,.p .nils]),(60,[.p (.int .i64 0),.p (.int .i64 0)]),(36,[.p (.str ⟨#[]⟩),.p (.int .i64 0),.p .nils,.p .nils,.p (.int .i64 0),.p (.int .i64 0),.p (.str ⟨#[]⟩),.p .nils,.p .nils,.p .nils]),(28,[.p (.int .i64 0),.p (.int .i64 0),.p (.int .i64 0),.p (.str ⟨#[]⟩),.p .nils,.p .nils,.p .nils]),(72,[.p (.str ⟨#[]⟩),.p .nils,.p .nils,.p .nils]),(304,[.p (.int .i64 0),.p (.int .i64 0),.p (.int .i64 0),.p (.int .i64 0),.p (.str ⟨#[]⟩),.p .nils,.p .nils,.p .nils,.p .nilFn,.p .nils]),(241,[.p (.int .i64 0),.p (.int .i64 0),.p (.int .i64 0),.p (.int .i64 0),.p (.int .i64 0),.p (.int .i64 0),.p (.str ⟨#[]⟩),.p .nils,.p .nils]),(302,[.p (.int .i64 0),.p (.int .i64 0),.p (.int .i64 0),.p (.int .i64 0),.p (.str ⟨#[]⟩),.p .nils,.p .nils,.p .nils,.p .nilFn]),(80,[.p .nils]),(76,[.p (.str ⟨#[]⟩),.p (.int .i64 0),.p (.int .i64 0),.p (.str ⟨#[]⟩),.p .nils,.p .nils]),(187,[.p (.str ⟨#[]⟩),.p (.str ⟨#[]⟩),.p .nils,.p .nils]),(225,[.p .nilFn]),(251,[]),(294,[.nilp,.nilp]),(267,[]),(86,[.p (.int .i64 0),.p .nils,.p .nils]),(152,[.p (.int .i64 0),.p (.int .i64 0),.p (.str ⟨#[]⟩),.p .nils,.p .nils,.p (.int .i64 0),.p (.int .i64 0),.p (.str ⟨#[]⟩),.p .nils,.p .nils]),(178,[.p (.int .i64 0),.p (.int .i64 0)]),(215,[.p .nils,.p (.int .i64 0)]),(326,[.p (.int .i64 0),.p (.int .i64 0),.p (.str ⟨#[]⟩),.p .nils,.p .nils,.nilp,.p .nilIface]),(83,[.p .nils,.p .nils,.p (.int .i64 0),.p (.int .i64 0),.p (.str ⟨#[]⟩),.p .nils,.p .nils]),(150,[.nilp,.p .nils,.p .nils,.p .nils]),(161,[.p (.int .i64 0),.p (.int .i64 0),.p (.str ⟨#[]⟩),.p .nils,.p .nils,.p .nils,.p (.int .i64 0)]),(222,[.p (.int .i64 0)]),(231,[.p .nils]),(254,[.p .nils,.p (.int .i64 0)]),(271,[.p .nils,.p (.int .i64 0),.p (.int .i64 0)]),(292,[.nilp,.p .nilFn]),(297,[.nilp,.nilp,.nilp]),(112,[.p (.int .i64 0),.p (.int .i64 0),.p (.int .i64 0),.p (.str ⟨#[]⟩),.p .nils,.p .nils,.p (.int .i64 0),.p .nils]),(337,[.p .any,.p (.int .i64 0)]),(356,[.p .nilFn,.p .nilFn,.p .nilFn,.p .nilFn,.p .nilFn,.p .nilFn,.p .nilFn,.p .nilFn,.p .nilFn,.p .nilFn,.p .nilFn,.p .nilFn,.p .nilFn])]
theorem kY:Pv (Cj Tryz.prog) kF:=And.intro Ad <| And.intro Ad <| And.intro Ad <| And.intro Ad <| And.intro Ad <| And.intro Ad <| And.intro Ad <| And.intro Ad <| And.intro Ad <| And.intro Ad <| And.intro Ad <| And.intro Ad <| And.intro Ad <| And.intro Ad <| And.intro Ad <| And.intro Ad <| And.intro Ad <| And.intro Ad <| And.intro Ad <| And.intro Ad <| And.intro Ad <| And.intro Ad <| And.intro Ad <| And.intro Ad <| And.intro Ad <| And.intro Ad <| And.intro Ad <| And.intro Ad <| And.intro Ad <| And.intro Ad <| And.intro Ad <| And.intro Ad <| And.intro Ad <| And.intro Ad <| And.intro Ad <| And.intro Ad <| And.intro Ad <| And.intro Ad <| And.intro Ad <| And.intro Ad <| And.intro Ad <| And.intro Ad <| And.intro Ad <| And.intro Ad <| And.intro Ad <| And.intro Ad <| And.intro Ad <| And.intro Ad <| And.intro Ad <| And.intro Ad <| And.intro Ad <| And.intro Ad <| And.intro Ad <| And.intro Ad <| And.intro Ad <| And.intro Ad <| And.intro Ad <| And.intro Ad <| And.intro Ad <| And.intro Ad <| And.intro Ad <| And.intro Ad <| trivial
theorem kG:Pv (fieldsOf Tryz.prog) j0:=And.intro Ad <| And.intro Ad <| And.intro Ad <| And.intro Ad <| And.intro Ad <| And.intro Ad <| And.intro Ad <| And.intro Ad <| And.intro Ad <| And.intro Ad <| And.intro Ad <| And.intro Ad <| And.intro Ad <| And.intro Ad <| And.intro Ad <| And.intro Ad <| And.intro Ad <| And.intro Ad <| And.intro Ad <| And.intro Ad <| And.intro Ad <| And.intro Ad <| And.intro Ad <| And.intro Ad <| And.intro Ad <| And.intro Ad <| And.intro Ad <| And.intro Ad <| And.intro Ad <| And.intro Ad <| And.intro Ad <| And.intro Ad <| And.intro Ad <| And.intro Ad <| And.intro Ad <| And.intro Ad <| And.intro Ad <| trivial
theorem kS:Pv (Og Tryz.prog) jx:=And.intro Ad <| And.intro Ad <| And.intro Ad <| And.intro Ad <| And.intro Ad <| And.intro Ad <| And.intro Ad <| And.intro Ad <| And.intro Ad <| And.intro Ad <| And.intro Ad <| And.intro Ad <| And.intro Ad <| And.intro Ad <| And.intro Ad <| And.intro Ad <| And.intro Ad <| And.intro Ad <| And.intro Ad <| And.intro Ad <| And.intro Ad <| And.intro Ad <| And.intro Ad <| And.intro Ad <| And.intro Ad <| And.intro Ad <| And.intro Ad <| And.intro Ad <| And.intro Ad <| And.intro Ad <| And.intro Ad <| And.intro Ad <| And.intro Ad <| And.intro Ad <| And.intro Ad <| trivial
def As:Rs Tryz.prog:=cF kG kY kS
end Go.Proofs.YtifphifongokcaaGreat
namespace Go.Proofs.YtifphifongokcaaGreat
open Go.Abs Go.Eu
theorem _root_.Go.AA {α:Prop}(h:α:=by first | exact List.Sublist.refl _ | exact .cons _ (.refl _) | exact .cons _ (.cons _ (.refl _)) | exact .cons _ (.cons _ (.cons _ (.refl _))) | exact .cons _ (.cons _ (.cons _ (.cons _ (.refl _))))):α:=h
theorem _root_.Go.Af {α:Prop}(h:α:=by simp_all):α:=h
theorem _root_.Go.AG {α:Prop}(h:α:=by first | exact List.Sublist.refl _ | exact List.sublist_cons_self _ _):α:=h
theorem XS:∀(a b:CB),a.vars.length<Cr→Df Tryz.prog 95 [LV a,LV b] (.p (.bool (E9 a b))):=by
 intro a b hb;obtain⟨ac,av⟩:=a;obtain⟨bc,bv⟩:=b;simp only[Cr] at hb;refine Aw Tryz.func95 O hM (n:=38) O O (Ar (A5 O (BF O) fun b2=>A5 O (BF O) fun b3=>Ak As 1 [] O (Am (Am (BO [0,1,2,3,4,5] 19 (fun y=>y= .p (.bool (ac !=bc||(av.length:Int) !=bv.length))) ?_ ?_)))))
 ·refine Au (Ap As 6 [1,0] O (BE 11 O (fun g1=>?_) (fun g1=>?_)))
  ·(try simp only[sd] at g1);exact Ak As 8 [] O (⟨O,O,AG,pB Af,⟨O,O,O,O,O,O,Aj⟩⟩)
  (try simp only[sd] at g1);exact Ap As 2 [1] O (BI O (CS Fv O) (Ap As 2 [0] O (BI O (CS Fv O) (Ak As 2 [] O (⟨O,O,AG,pB Af,⟨O,O,O,O,O,O,Aj⟩⟩)))))
 rintro _ rfl;refine Ao O (fun c2=>?_) (fun c2=>?_)
 ·(try simp only[sd] at c2);refine An As 1 [] O (Av ⟨O,_,[],CQ O,List.nil_sublist _,?_⟩);exact⟨pB (CI (fun h=>by simp at h;simp[h] at *)).symm,rfl⟩
 (try simp only[sd] at c2);have h1:ac=bc∧av.length=bv.length:=by simp at c2;omega
 refine Aq (Am (An As 1 [] O (A1 (MU (av.length) (fun i=>agree av bv i) (fun i=>⟨38,mk [(2,.ptr b2 0),(3,.ptr b3 0),(5,.p (I i))],[.box b3 ((Bz ⟨bc,bv⟩).map .p),.box b2 ((Bz ⟨ac,av⟩).map .p)],[]⟩) (0) Ah (JE _ _) ?_ ?_))))
 ·exact DL ⟨O,O,O,Aj⟩ AA
 intro i hi hC;refine Am (Ar (Ap As 3 [1] O (Al O (CS Fv O) (Ak As 1 [] O (Ao O (fun c3=>?_) (fun c3=>?_))))))
 ·(try simp only[sd] at c3);have hi2:i<av.length:=by simp at c3;omega
  obtain⟨x,hx⟩:=A0 hi2;obtain⟨y,hy⟩:=A0 (l:=bv) (i:=i) Ah;refine Aq (Am (A1 (Am (By (fun k=>false) Eg (BU As 3 [1] O (BG O (fun _=>A3 Fv O O Ah (D8 hx) (O)) Aj (BU As 4 [0] O (BG O (fun _=>A3 Fv O O Ah (D8 hy) (O)) Aj (BG O (fun _=>BL ZS O (O)) Aj (BG O (fun _=>N0 cf O O) Aj (El O Ad (Ao O (fun c4=>?_) (fun c4=>?_)))))))))))))
  ·(try simp only[sd] at c4);refine An As 1 [] O (Av ⟨O,_,[],CQ O,List.nil_sublist _,?_⟩);exact⟨pB (CI (fun h=>by simp at h;obtain⟨_,rfl⟩:=h;rw[hx] at hy;injection hy with hy;subst hy;simp_all)).symm,rfl⟩
  (try simp only[sd] at c4);have hxy:x=y:=by obtain⟨x1,x2⟩:=x;obtain⟨y1,y2⟩:=y;simp at c4;simp[c4]
  subst hxy;exact Aq (Au (Ak As 3 [] O (⟨by omega,JG hC hx hy,DL ⟨rfl,rfl,rfl,trivial⟩ AA⟩)))
 (try simp only[sd] at c3);have hi2:i=av.length:=by simp at c3;omega
 refine Bc (An As 1 [] O (Av ⟨O,_,[],CQ O,List.nil_sublist _,?_⟩));exact⟨pB (CR (by rw[h1.1,J7 hC Ah Ah])).symm,O⟩
theorem J1:∀(a b:List CB),a.length<Cr→(∀l∈a,X8 l)→Df Tryz.prog 43 [e6 a,e6 b] (.p (.bool (E9 a b))):=by
 intro a b hb hn;simp only[Cr] at hb;refine Aw Tryz.func43 O iR (n:=27) O O (An As 1 [] O (Am (Ar (Bu O (Al O (CS Eh O) (Bu O (Al O (CS Eh O) (Ak As 1 [] O (Ao O (fun c1=>?_) (fun c1=>?_))))))))))
 ·(try simp only[sd] at c1);refine An As 1 [] O (Av ⟨O,_,[],CQ O,List.nil_sublist _,?_⟩);exact⟨pB (CI (fun h=>by subst h;simp at *)).symm,rfl⟩
 (try simp only[sd] at c1);have h1:a.length=b.length:=by simp at c1;omega
 refine Aq (Am (An As 1 [] O (A1 (MU (a.length) (fun i=>agree a b i) (fun i=>⟨27,mk [(0,e6 a),(1,e6 b),(5,.p (I i))],[],[]⟩) (0) Ah (JE _ _) ?_ ?_))))
 ·exact DL ⟨O,O,O,Aj⟩ AA
 intro i hi hC;refine Am (Ar (Ap As 2 [] O (Al O (CS Eh O) (Ak As 1 [] O (Ao O (fun c2=>?_) (fun c2=>?_))))))
 ·(try simp only[sd] at c2);have hi2:i<a.length:=by simp at c2;omega
  obtain⟨x,hx⟩:=A0 hi2;obtain⟨y,hy⟩:=A0 (l:=b) (i:=i) Ah;refine Aq (Am (A1 (Am (By (fun k=>false) Eg (BU As 2 [] O (BG O (fun _=>A3 Eh O O Ah (F6 hx) (DT _)) Aj (BU As 3 [] O (BG O (fun _=>A3 Eh O O Ah (F6 hy) (DT _)) Aj (BG O (fun _=>BL S6 O (DT _)) Aj (BG O (fun _=>BA O O (XS x y (hn x (List.mem_of_getElem? hx)).vars) O) Aj (B1 As 1 [] O (Ao O (fun c3=>?_) (fun c3=>?_)))))))))))))
  ·(try simp only[sd] at c3);refine An As 1 [] O (Av ⟨O,_,[],CQ O,List.nil_sublist _,?_⟩);exact⟨pB (CI (fun h=>by subst h;rw[hx] at hy;injection hy with hy;subst hy;simp[CR] at *)).symm,rfl⟩
  (try simp only[sd] at c3);have hxy:x=y:=EE.1 (by simpa using c3);subst hxy;exact Aq (Au (Ak As 3 [] O (⟨by omega,JG hC hx hy,DL ⟨rfl,rfl,rfl,trivial⟩ AA⟩)))
 (try simp only[sd] at c2);have hi2:i=a.length:=by simp at c2;omega
 refine Bc (An As 1 [] O (Av ⟨O,_,[],CQ O,List.nil_sublist _,?_⟩));exact⟨pB (CR (J7 hC Ah Ah)).symm,O⟩
theorem Vd:∀(n:Nat) (a b:Tm),size a≤n→Nd a→Df Tryz.prog 10 [TV a,TV b] (.p (.bool (E9 a b))):=by
 intro n
 induction n with
 | zero=>intro a b h;cases a;simp[size] at h
 | succ n ih =>
  intro a b hs hnd;obtain⟨ak,ai,an,al,aks⟩:=a;obtain⟨bk,bi,bn,bl,bks⟩:=b;simp only[size] at hs;simp only[Nd,Cr] at hnd;obtain⟨hn1,hn2,hn3,hn4,hn5,hn6⟩:=hnd;refine Aw Tryz.func10 O gu (n:=61) O O (Ar (A5 O (BF O) fun b2=>A5 O (BF O) fun b3=>Ak As 1 [] O (Am (Am (BO [0,1,2,3,4,5] 41 (fun y=>y= .p (.bool (ak !=bk||ai !=bi|| !(an.toList==bn.toList)|| !(E9 al bl)||(((Ay aks).length:Int) !=(Ay bks).length)))) ?_ ?_)))))
  ·refine Au (Ap As 6 [1,0] O (BE 11 O (fun g1=>?_) (fun g1=>?_)))
   ·(try simp only[sd] at g1);refine Ap As 7 [] O (BE 18 O (fun g2=>?_) (fun g2=>?_))
    ·(try simp only[sd] at g2);refine Ap As 7 [] O (BE 25 O (fun g3=>?_) (fun g3=>?_))
     ·(try simp only[sd] at g3);refine Ap As 8 [] O (BE 33 O (fun g4=>?_) (fun g4=>?_))
      ·(try simp only[sd] at g4);exact Ak As 8 [] O (⟨O,O,AG,pB Af,⟨O,O,O,O,O,O,Aj⟩⟩)
      (try simp only[sd] at g4);exact Ap As 2 [1] O (BI O (CS BP O) (Ap As 2 [0] O (BI O (CS BP O) (Ak As 2 [] O (⟨O,O,AG,pB Af,⟨O,O,O,O,O,O,Aj⟩⟩)))))
     (try simp only[sd] at g3);refine Ap As 4 [1,0] O (BI O (BA O O (J1 al bl hn2 hn3) O) (Ap As 3 [] O (BE 33 O (fun g5=>?_) (fun g5=>?_))))
     ·(try simp only[sd] at g5);exact Ak As 8 [] O (⟨O,O,AG,pB Af,⟨O,O,O,O,O,O,Aj⟩⟩)
     (try simp only[sd] at g5);exact Ap As 2 [1] O (BI O (CS BP O) (Ap As 2 [0] O (BI O (CS BP O) (Ak As 2 [] O (⟨O,O,AG,pB Af,⟨O,O,O,O,O,O,Aj⟩⟩)))))
    (try simp only[sd] at g2);refine Ap As 4 [1,0] O (BI O (Gs O O) (Ap As 2 [] O (BE 25 O (fun g6=>?_) (fun g6=>?_))))
    ·(try simp only[sd] at g6);refine Ap As 8 [] O (BE 33 O (fun g7=>?_) (fun g7=>?_))
     ·(try simp only[sd] at g7);exact Ak As 8 [] O (⟨O,O,AG,pB Af,⟨O,O,O,O,O,O,Aj⟩⟩)
     (try simp only[sd] at g7);exact Ap As 2 [1] O (BI O (CS BP O) (Ap As 2 [0] O (BI O (CS BP O) (Ak As 2 [] O (⟨O,O,AG,pB Af,⟨O,O,O,O,O,O,Aj⟩⟩)))))
    (try simp only[sd] at g6);refine Ap As 4 [1,0] O (BI O (BA O O (J1 al bl hn2 hn3) O) (Ap As 3 [] O (BE 33 O (fun g8=>?_) (fun g8=>?_))))
    ·(try simp only[sd] at g8);exact Ak As 8 [] O (⟨O,O,AG,pB Af,⟨O,O,O,O,O,O,Aj⟩⟩)
    (try simp only[sd] at g8);exact Ap As 2 [1] O (BI O (CS BP O) (Ap As 2 [0] O (BI O (CS BP O) (Ak As 2 [] O (⟨O,O,AG,pB Af,⟨O,O,O,O,O,O,Aj⟩⟩)))))
   (try simp only[sd] at g1);refine Ap As 7 [1,0] O (BE 18 O (fun g9=>?_) (fun g9=>?_))
   ·(try simp only[sd] at g9);refine Ap As 7 [] O (BE 25 O (fun g10=>?_) (fun g10=>?_))
    ·(try simp only[sd] at g10);refine Ap As 8 [] O (BE 33 O (fun g11=>?_) (fun g11=>?_))
     ·(try simp only[sd] at g11);exact Ak As 8 [] O (⟨O,O,AG,pB Af,⟨O,O,O,O,O,O,Aj⟩⟩)
     (try simp only[sd] at g11);exact Ap As 2 [1] O (BI O (CS BP O) (Ap As 2 [0] O (BI O (CS BP O) (Ak As 2 [] O (⟨O,O,AG,pB Af,⟨O,O,O,O,O,O,Aj⟩⟩)))))
    (try simp only[sd] at g10);refine Ap As 4 [1,0] O (BI O (BA O O (J1 al bl hn2 hn3) O) (Ap As 3 [] O (BE 33 O (fun g12=>?_) (fun g12=>?_))))
    ·(try simp only[sd] at g12);exact Ak As 8 [] O (⟨O,O,AG,pB Af,⟨O,O,O,O,O,O,Aj⟩⟩)
    (try simp only[sd] at g12);exact Ap As 2 [1] O (BI O (CS BP O) (Ap As 2 [0] O (BI O (CS BP O) (Ak As 2 [] O (⟨O,O,AG,pB Af,⟨O,O,O,O,O,O,Aj⟩⟩)))))
   (try simp only[sd] at g9);refine Ap As 4 [1,0] O (BI O (Gs O O) (Ap As 2 [] O (BE 25 O (fun g13=>?_) (fun g13=>?_))))
   ·(try simp only[sd] at g13);refine Ap As 8 [] O (BE 33 O (fun g14=>?_) (fun g14=>?_))
    ·(try simp only[sd] at g14);exact Ak As 8 [] O (⟨O,O,AG,pB Af,⟨O,O,O,O,O,O,Aj⟩⟩)
    (try simp only[sd] at g14);exact Ap As 2 [1] O (BI O (CS BP O) (Ap As 2 [0] O (BI O (CS BP O) (Ak As 2 [] O (⟨O,O,AG,pB Af,⟨O,O,O,O,O,O,Aj⟩⟩)))))
   (try simp only[sd] at g13);refine Ap As 4 [1,0] O (BI O (BA O O (J1 al bl hn2 hn3) O) (Ap As 3 [] O (BE 33 O (fun g15=>?_) (fun g15=>?_))))
   ·(try simp only[sd] at g15);exact Ak As 8 [] O (⟨O,O,AG,pB Af,⟨O,O,O,O,O,O,Aj⟩⟩)
   (try simp only[sd] at g15);exact Ap As 2 [1] O (BI O (CS BP O) (Ap As 2 [0] O (BI O (CS BP O) (Ak As 2 [] O (⟨O,O,AG,pB Af,⟨O,O,O,O,O,O,Aj⟩⟩)))))
  rintro _ rfl;refine Ao O (fun c16=>?_) (fun c16=>?_)
  ·(try simp only[sd] at c16);refine An As 1 [] O (Av ⟨O,_,[],CQ O,List.nil_sublist _,?_⟩);exact⟨pB (CI (fun h=>by simp at h;simp[h,CR] at *)).symm,rfl⟩
  (try simp only[sd] at c16);have h1:ak=bk∧ai=bi∧an.toList=bn.toList∧al=bl∧aks.length=bks.length:=by simp[A8,EE] at c16;obtain⟨⟨⟨⟨e1,e2⟩,e3⟩,e4⟩,e5⟩:=c16;exact⟨e1,e2,e3,e4,by omega⟩
  refine Aq (Am (An As 1 [] O (A1 (MU (aks.length) (fun i=>agree aks bks i) (fun i=>⟨61,mk [(2,.ptr b2 0),(3,.ptr b3 0),(5,.p (I i))],[.box b3 ((BQ (.mk bk bi bn bl bks)).map .p),.box b2 ((BQ (.mk ak ai an al aks)).map .p)],[]⟩) (0) Ah (JE _ _) ?_ ?_))))
  ·exact DL ⟨O,O,O,Aj⟩ AA
  intro i hi hC;refine Am (Ar (Ap As 3 [1] O (Al O (CS BP O) (Ak As 1 [] O (Ao O (fun c17=>?_) (fun c17=>?_))))))
  ·(try simp only[sd] at c17);have hi2:i<aks.length:=by simp[A8] at c17;omega
   obtain⟨x,hx⟩:=A0 hi2;obtain⟨y,hy⟩:=A0 (l:=bks) (i:=i) Ah;refine Aq (Am (A1 (Am (By (fun k=>false) Eg (BU As 3 [1] O (BG O (fun _=>A3 BP O O Ah (Be hx) (A7 _)) Aj (BU As 4 [0] O (BG O (fun _=>A3 BP O O Ah (Be hy) (A7 _)) Aj (BG O (fun _=>BL Bf O (A7 _)) Aj (BG O (fun _=>BA O O (ih x y (by have:=Bw hx;omega) (CY hn5 hx)) O) Aj (B1 As 1 [] O (Ao O (fun c18=>?_) (fun c18=>?_)))))))))))))
   ·(try simp only[sd] at c18);refine An As 1 [] O (Av ⟨O,_,[],CQ O,List.nil_sublist _,?_⟩);exact⟨pB (CI (fun h=>by simp at h;obtain⟨_,_,_,_,rfl⟩:=h;rw[hx] at hy;injection hy with hy;subst hy;simp[CR] at *)).symm,rfl⟩
   (try simp only[sd] at c18);have hxy:x=y:=EE.1 (by simpa using c18);subst hxy;exact Aq (Au (Ak As 3 [] O (⟨by omega,JG hC hx hy,DL ⟨rfl,rfl,rfl,trivial⟩ AA⟩)))
  (try simp only[sd] at c17);have hi2:i=aks.length:=by simp[A8] at c17;omega
  refine Bc (An As 1 [] O (Av ⟨O,_,[],CQ O,List.nil_sublist _,?_⟩));exact⟨pB (CR (by obtain⟨e1,e2,e3,e4,e5⟩:=h1;rw[e1,e2,e4,Gl e3,J7 hC Ah Ah])).symm,rfl⟩
theorem ZG:∀(n:Nat) (t:Tm),size t≤n→size t<2 ^ 62→Df Tryz.prog 50 [TV t] (.p (I (size t))):=by
 intro n
 induction n with
 | zero=>intro t h;cases t;simp[size] at h
 | succ n ih =>
  intro t hn hb;obtain⟨kd,ix,nm,ls,ks⟩:=t;simp only[size] at hn hb;refine Aw Tryz.func50 O eZ (n:=21) O O (Ar (A5 O (BF O) fun b1=>Ak As 1 [] O (An As 1 [] O (Am (An As 1 [] O (A1 (Rt (ks.length) (fun i=>⟨21,mk [(1,.ptr b1 0),(3,.p (I (1+BC (ks.take i):Nat))),(4,.p (I i))],[.box b1 ((BQ (.mk kd ix nm ls ks)).map .p)],[]⟩) (0) Ah ?_ ?_)))))))
  ·exact DL ⟨O,O,O,Aj⟩ AA
  intro i hi;have hsz:=Hy (ts:=ks) i;have hll:=DK ks;refine Am (Ar (Ap As 3 [0] O (Al O (CS BP O) (Ak As 1 [] O (Ao O (fun c1=>?_) (fun c1=>?_))))))
  ·(try simp only[sd] at c1);have hi2:i<ks.length:=by rw[A8] at c1;omega
   obtain⟨t,hk⟩:∃t,ks[i]?=some t:=⟨_,List.getElem?_eq_getElem hi2⟩;have hks:=Bw hk;have hsz2:=HB hk;have hsz3:=Hy (ts:=ks) (i+1);exact Aq (Am (A1 (Au (Ap As 4 [0] O (Al O (A3 BP O O Ah (Be hk) (A7 _)) (Al O (BL Bf O (A7 _)) (Al O (BA O O (ih t Ah Ah) O) (Ak As 2 [] O (Au (Ak As 3 [] O (⟨by omega,DL ⟨rfl,pI (by rw[HB hk];omega),rfl,trivial⟩ AA⟩)))))))))))
  (try simp only[sd] at c1);have hi2:i=ks.length:=by rw[A8] at c1;omega
  refine Bc (An As 2 [] O (Av ⟨O,_,[],CQ O,List.nil_sublist _,?_⟩));exact⟨pI (by subst hi2;rw[List.take_length];simp[size]),O⟩
theorem W2:∀(n:Nat) (t:Tm),size t≤n→size t<2 ^ 62→Df Tryz.prog 51 [TV t] (.p (I (depth t))):=by
 intro n
 induction n with
 | zero=>intro t h;cases t;simp[size] at h
 | succ n ih =>
  intro t hn hb;obtain⟨kd,ix,nm,ls,ks⟩:=t;simp only[size] at hn hb;refine Aw Tryz.func51 O dB (n:=22) O O (Ar (A5 O (BF O) fun b1=>Ak As 1 [] O (An As 1 [] O (Am (An As 1 [] O (A1 (Rt (ks.length) (fun i=>⟨22,mk [(1,.ptr b1 0),(3,.p (I (EH (ks.take i):Nat))),(4,.p (I i))],[.box b1 ((BQ (.mk kd ix nm ls ks)).map .p)],[]⟩) (0) Ah ?_ ?_)))))))
  ·exact DL ⟨O,O,O,Aj⟩ AA
  intro i hi;have hsz:=Hy (ts:=ks) i;have hll:=DK ks;have hdd:=FO ks;have hdi:=Mf (ts:=ks) i;refine Am (Ar (Ap As 3 [0] O (Al O (CS BP O) (Ak As 1 [] O (Ao O (fun c1=>?_) (fun c1=>?_))))))
  ·(try simp only[sd] at c1);have hi2:i<ks.length:=by rw[A8] at c1;omega
   obtain⟨t,hk⟩:∃t,ks[i]?=some t:=⟨_,List.getElem?_eq_getElem hi2⟩;have hks:=Bw hk;have hsz2:=HB hk;have hsz3:=Hy (ts:=ks) (i+1);exact Aq (Am (A1 (Au (Ap As 4 [0] O (Al O (A3 BP O O Ah (Be hk) (A7 _)) (Al O (BL Bf O (A7 _)) (Al O (BA O O (ih t Ah Ah) O) (Al O (LN O O) (Ak As 1 [] O (Au (Ak As 3 [] O (⟨by omega,DL ⟨rfl,pI (by rw[QV hk];omega),rfl,trivial⟩ AA⟩))))))))))))
  (try simp only[sd] at c1);have hi2:i=ks.length:=by rw[A8] at c1;omega
  refine Bc (An As 3 [] O (Av ⟨O,_,[],CQ O,List.nil_sublist _,?_⟩));exact⟨pI (by subst hi2;rw[List.take_length];simp[depth]),O⟩
end Go.Proofs.YtifphifongokcaaGreat
