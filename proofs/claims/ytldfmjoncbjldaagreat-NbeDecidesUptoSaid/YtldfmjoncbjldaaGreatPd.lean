/- Part of the proofs: an abstract program logic, plain models and contracts of functions. -/
import Derived.Test.YtldfmjoncbjldaaGreatPc
import Derived.Test.YtldfmjoncbjldaaGreatPa
import Derived.Test.YtldfmjoncbjldaaGreatPb
import Derived.Test.YtldfmjoncbjldaaGreatProg
set_option linter.unusedVariables false
set_option linter.unusedSimpArgs false
set_option maxRecDepth 100000
namespace Go.Abs
theorem Yw {F:Nat→Prop}{w:World}{b:Nat}{vs:List Value}{T:TypeId}(hb:w.heap[b]?=some (.cells ⟨vs⟩ T (0,0))):∀(cs:List PV) (o:Nat),Bf F w (cs.map .p) (vs.drop o)→CM F w b o cs
 | [],_,_=>by simp[CM]
 | c::cs,o,h=>by
  simp only[List.map_cons,Bf,Bz] at h;obtain⟨u,us,e,hu,hr⟩:=h;have ho:o<vs.length:=by
   by_cases q:o<vs.length
   ·exact q
   rw[List.drop_eq_nil_of_le Au] at e;cases e
  rw[List.drop_eq_getElem_cons ho] at e;injection e with e1 e2;simp only[CM];refine⟨⟨u,?_,hu⟩,Yw hb cs (o+1) (by rw[e2];exact hr)⟩;unfold World.cell?;rw[hb];simp[ho,e1]
theorem HR {n:Nat}{τ:Nat→AV}{H:List A4}{D:List D4}{i b:Nat}{cs:List PV}(ts:List Nat) (hi:H[i]?=some (.box b (cs.map .p))) (ht:∀t∈ts,τ t= .ptr b 0) :
  Ia ⟨n,τ,H,D⟩ ⟨n,Ky ts (.ref cs) τ,H.eraseIdx i,D⟩:=by
 intro F a w hs;have hmem:=List.mem_of_getElem? hi;have hFb:F b:=hs.heap.sub _ hmem b rfl;have hbd:b<w.heap.size:=hs.heap.bd b hFb;have st:Dq F w (fun k=>F k∧k≠b) w:=⟨Nat.le_refl _,fun _ _ _=>rfl,fun _ h _ h'=>h h'.1⟩;have hne:∀x∈H.eraseIdx i,∀k,x.key=some k→k≠b:=by
  intro x hx k hk hkb;subst hkb;obtain⟨j,hj⟩:=List.mem_iff_getElem?.1 hx;rw[List.getElem?_eraseIdx] at hj;split at hj
  ·have:=It hs.heap.nodup hj hi hk rfl;omega
  have:=It hs.heap.nodup hj hi hk rfl;omega
 have hsub:(H.eraseIdx i).Sublist H:=List.eraseIdx_sublist H i;refine⟨fun k=>F k∧k≠b,⟨hs.size,?_,?_,Gg.mono st _ _ hs.defs⟩,?_⟩
 ·intro t;simp only[Ky];cases hq:ts.any (Nat.beq t ·) with
  | false=>exact Bz.mono st _ _ (hs.tmp t)
  | true =>
   obtain⟨t',ht',he⟩:=List.any_eq_true.1 hq;have e:=Nat.eq_of_beq_eq_true he;subst e;have hv:=hs.tmp t;simp only[ht t ht',Bz] at hv;obtain⟨vs,T,hb,hr⟩:=hs.heap.obj _ hmem;show Bz (fun k=>F k∧k≠b) w (.ref cs) _;simp only[Bz];exact⟨b,0,hv,fun h=>h.2 O,hbd,Yw hb cs 0 (by rw[List.drop_zero];exact Bf.mono st _ _ hr)⟩
 ·have:=hs.heap.sublist hsub;exact⟨fun x hx k hk=>⟨this.sub x hx k hk,hne x hx k hk⟩,this.nodup,fun x hx=>JV.mono st x (fun _ _=>O) (this.obj x hx),fun k hk=>this.bd k hk.1⟩
 exact⟨Nat.le_refl _,fun _ _ _=>O,fun k hk hn=>⟨hk,fun e=>hn _ hmem (by rw[e];rfl)⟩,fun k hk=> .inl hk.1,fun x hx k hk=> .inl ⟨x,hsub.subset hx,hk⟩,O,O,O⟩
section
variable {P:Program}{dst:Option Tmp}{ty:TypeId}{pos:String}{aft:Array Edge}{g:Option (Nat×Bool)}{ρ:Operand→AV}{H:List A4}{x y:Operand}
theorem UM {T:TypeId}{bl:Bool}{b o:Nat}(hT:EH P T=some (bl,0)) (hx:ρ x= .ptr b o) (hy:E0 (ρ y)=some []):Dm P ⟨dst,.store T x y,ty,pos,aft,g⟩ ρ H (.p .any) H :=
 I3 fun F w E hH hE=>by
  have e1:=hE x Al;have e2:=hE y Al;rw[hx] at e1;simp only[Bz] at e1;obtain⟨ws,hc,hl⟩:=LC e2 hy;simp only[Bf] at hl;subst hl;obtain⟨d,hu,hd,hz⟩:=FV hT;refine⟨w,_,F,?_,⟨O,O⟩,.refl,hH⟩;cases hq:P.info? T with
  | none=>simp[hq] at hz
  | some i =>
   have hs:i.size=0:=by simpa [hq] using hz
   simp[execOp,Instr.storeAt,e1,Instr.sureAddr,Sem.run_bind,Sem.run_pure,Result.andThen_ok,storeVar,sizeOf,typeInfo,hq,hc,hs,storeCells]
end
theorem pO {P:Program}{ops:Array Oper}{r:Option Nat}{Q:Cj→BM→Prop}{k n:Nat}{τ:Nat→AV}{H Hs:List A4}{D:List D4}{dst:Option Tmp}{ty:TypeId}{pos:String}{aft:Array Edge}{c:Call}{f:Operand}{fid:FuncId}{first caps A:List AV}{v:AV}(is:List Nat) (ho:ops[k]?=some ⟨dst,.call c,ty,pos,aft,none⟩) (hd:Gj dst n=true)
  (hc:c.callee= .value f) (hf:(ev τ f= .p (.fn fid)∧first=[]∧caps=[])∨ev τ f= .fn (.func fid) first caps) (h:BL P fid A Hs (Gm v [])) (hg:GF H is Hs) (hn:is.Nodup) (hA:Fc (first++c.args.toList.map (ev τ)++caps) A)
  (next:AL P r ops (k+1) ⟨n,put τ dst v,DM is 0 H,D⟩ Q):AL P r ops k ⟨n,τ,H,D⟩ Q :=
 Jj ho hd hc hf (DP hn hg) (h.args hA) (.inl rfl) (fun v' H' h'=>by obtain⟨h1,h2⟩:=h';subst h1;subst h2;exact next) (fun _ _ h=>h.elim)
structure Sx (P:Program) where
 fd:Nat→Option (List (Nat×Nat))
 ty:Nat→Option (Bool×Nat)
 zr:Nat→Option (List AV)
 hfd:∀T l,fd T=some l→fieldsOf P T=some l
 hty:∀T l,ty T=some l→EH P T=some l
 hzr:∀T l,zr T=some l→∃z,zeroOf P T=some z∧z.cells.toList.map HG=l
def xB (op:BinOp) (m n:Int):Option Bool :=
 match op with | .eql=>some (m==n) | .neq=>some (m !=n) | .lss=>some (decide (m<n)) | .leq=>some (decide (m≤n)) | .gtr=>some (decide (m > n)) | .geq=>some (decide (m≥n)) | _=>none
def wY (op:BinOp) (m n:Int):Option Int :=
 match op with | .add=>some (m+n) | .sub=>some (m - n) | .mul=>some (m*n) | _=>none
abbrev wA:=AV×List A4×List Nat×Prop
def kE (op:BinOp) (H:List A4) (is:List Nat) (C:Prop):AV→AV→Option wA
 | .p (.int k m),.p (.int k' n) =>
  match xB op m n with
  | some b=>some (.p (.bool b),H,is,C∧k=k')
  | none =>
   match k,k',wY op m n with
   | .i64,.i64,some r=>some (.p (.int .i64 r),H,is,(C∧ -9223372036854775808≤r)∧r≤9223372036854775807)
   | _,_,_=>none
 | _,_=>none
def Xr (H:List A4) (is:List Nat) (C:Prop) (t:Bool×Nat):AV→Option wA
 | .ref cells =>
  bif t.1 then some (.agg (cells.map .p),H,is,C∧cells.length=t.2)
  else match cells with
   | c::_=>some (.p c,H,is,C)
   | []=>none
 | .ptr b o =>
  match is with
  | []=>none
  | i::is =>
   match H[i]? with
   | some (.box b' cs) =>
    bif t.1 then (match o with | 0=>some (.agg cs,H,is,(C∧b'=b)∧cs.length=t.2) | _+1=>none)
    else (match cs[o]? with | some v=>some (v,H,is,C∧b'=b) | none=>none)
   | _=>none
 | _=>none
def nW:Nat→List A4→Option (List A4)
 | n+1,o::H=>match nW n H with | some H'=>some (o::H') | none=>none
 | _,H=>some H
theorem UN:∀{n:Nat}{H H':List A4},nW n H=some H'→H'=H
 | 0,[],H',h=>by simpa [nW] using h.symm
 | 0,_::_,H',h=>by simpa [nW] using h.symm
 | _+1,[],H',h=>by simpa [nW] using h.symm
 | n+1,o::H,H',h=>by
  unfold nW at h;split at h
  ·rename_i H1 h1;injection h with h;rw[←h,UN h1]
  cases h
def vB:List AV→Option (List AV)
 | []=>some []
 | o::H=>match vB H with | some H'=>some (o::H') | none=>none
theorem kN:∀{H H':List AV},vB H=some H'→H'=H
 | [],H',h=>by simpa [vB] using h.symm
 | o::H,H',h=>by
  unfold vB at h;split at h
  ·rename_i H1 h1;injection h with h;rw[←h,kN h1]
  cases h
def XY (H:List A4) (is:List Nat) (C:Prop) (t:Bool×Nat) (y:AV):AV→Option wA
 | .ptr b o =>
  match is with
  | i::w::is =>
   match H[i]?,E0 y,t.2 with
   | some (.box b' cs),some us,n+1 =>
    match w with
    | 0=>match vB (splice cs o us) with
     | none=>none
     | some ds=>match nW (i+1) (H.set i (.box b ds)) with
      | none=>none
      | some H'=>some (.p .any,H',is,(((C∧b'=b)∧us.length=n+1)∧Nat.ble (o+(n+1)) cs.length=true)∧us.all one=true)
    | _+1=>match o with
     | 0=>(match nW (i+1) (H.set i (.box b us)) with
      | none=>none
      | some H'=>some (.p .any,H',is,(((C∧b'=b)∧us.length=n+1)∧cs.length=n+1)∧us.all one=true))
     | _+1=>none
   | _,_,_=>none
  | _=>none
 | _=>none
def Xo (H:List A4) (is:List Nat) (C:Prop) (off:Nat):AV→Option wA
 | .ptr b o=>some (.ptr b (o+off),H,is,C)
 | .ref cells=>some (.ref (cells.drop off),H,is,C)
 | _=>none
def N4 {P:Program}(tb:Sx P) (ρ:Operand→AV) (H:List A4) (is:List Nat) (C:Prop):Op→Option wA
 | .move x=>some (ρ x,H,is,C)
 | .assign x=>some (ρ x,H,is,C)
 | .pick x y z=>match ρ x with | .p (.bool b)=>some (bif b then ρ y else ρ z,H,is,C) | _=>none
 | .extract x i=>match ρ x with | .tup xs=>(match xs[i]? with | some v=>some (v,H,is,C) | none=>none) | _=>none
 | .nilCheck x=>match ρ x with | .ptr b o=>some (.ptr b o,H,is,C) | _=>none
 | .makeFunc fn first caps=>some (.fn fn (first.toList.map ρ) (caps.toList.map ρ),H,is,C)
 | .unOp .not T x=>match ρ x with | .p (.bool b)=>some (.p (.bool (!b)),H,is,C) | _=>none
 | .binOp op T x y U=>kE op H is C (ρ x) (ρ y)
 | .fieldAddr T x i=>match tb.fd T with
  | some lay=>(match lay[i]? with | some (off,_+1)=>Xo H is C off (ρ x) | _=>none)
  | none=>none
 | .build T parts=>match tb.fd T,tb.zr T with
  | some lay,some z=>(match GP (lay[·]?) z (parts.toList.map fun p=>(p.1,ρ p.2)) with | some cs=>some (.agg cs,H,is,C) | none=>none)
  | _,_=>none
 | .load T x=>match tb.ty T with | some t=>Xr H is C t (ρ x) | none=>none
 | .store T x y=>match tb.ty T with | some t=>XY H is C t (ρ y) (ρ x) | none=>none
 | _=>none
section
variable {P:Program}{tb:Sx P}{ρ:Operand→AV}{H H':List A4}{is is':List Nat}{C C':Prop}{v:AV}
 {dst:Option Tmp} {ty:TypeId} {pos:String} {aft:Array Edge} {g:Option (Nat×Bool)}
theorem Ga {op:Op}(h:N4 tb ρ H is C op=some (v,H',is',C')) (c:C'):C∧Dm P ⟨dst,op,ty,pos,aft,g⟩ ρ H v H':=by
 unfold N4 at h;split at h
 ·injection h with h;simp only[Prod.mk.injEq] at h;obtain⟨rfl,rfl,rfl,rfl⟩:=h;exact⟨c,Bh rfl⟩
 ·injection h with h;simp only[Prod.mk.injEq] at h;obtain⟨rfl,rfl,rfl,rfl⟩:=h;exact⟨c,H7 rfl⟩
 ·split at h
  ·rename_i b hb;injection h with h;simp only[Prod.mk.injEq] at h;obtain⟨rfl,rfl,rfl,rfl⟩:=h;exact⟨c,lC hb rfl⟩
  cases h
 ·split at h
  ·rename_i xs hx;split at h
   ·rename_i u hu;injection h with h;simp only[Prod.mk.injEq] at h;obtain⟨rfl,rfl,rfl,rfl⟩:=h;exact⟨c,HI hx hu⟩
   cases h
  cases h
 ·split at h
  ·rename_i b o hx;injection h with h;simp only[Prod.mk.injEq] at h;obtain⟨rfl,rfl,rfl,rfl⟩:=h;exact⟨c,Xy hx⟩
  cases h
 ·injection h with h;simp only[Prod.mk.injEq] at h;obtain⟨rfl,rfl,rfl,rfl⟩:=h;exact⟨c,EK rfl rfl⟩
 ·split at h
  ·rename_i b hb;injection h with h;simp only[Prod.mk.injEq] at h;obtain⟨rfl,rfl,rfl,rfl⟩:=h;exact⟨c,qP hb⟩
  cases h
 ·rename_i op T x y U;generalize hx:ρ x=vx at h;generalize hy:ρ y=vy at h;unfold kE at h;split at h
  ·rename_i k m k' n;split at h
   ·rename_i b hb;injection h with h;simp only[Prod.mk.injEq] at h;obtain⟨rfl,rfl,rfl,rfl⟩:=h;obtain⟨c,rfl⟩:=c;exact⟨c,rA hx hy hb⟩
   split at h
   ·rename_i r hr;injection h with h;simp only[Prod.mk.injEq] at h;obtain⟨rfl,rfl,rfl,rfl⟩:=h;obtain⟨⟨c,c1⟩,c2⟩:=c;refine⟨c,?_⟩;unfold wY at hr;split at hr
    ·injection hr with hr;subst hr;exact Kd hx hy c1 c2
    ·injection hr with hr;subst hr;exact p7 hx hy c1 c2
    ·injection hr with hr;subst hr;exact oQ hx hy c1 c2
    cases hr
   cases h
  cases h
 ·rename_i T x i;split at h
  ·rename_i lay hl;split at h
   ·rename_i off sz hi;generalize hx:ρ x=vx at h;unfold Xo at h;split at h
    ·injection h with h;simp only[Prod.mk.injEq] at h;obtain⟨rfl,rfl,rfl,rfl⟩:=h;exact⟨c,BG (tb.hfd _ _ hl) hi hx⟩
    ·injection h with h;simp only[Prod.mk.injEq] at h;obtain⟨rfl,rfl,rfl,rfl⟩:=h;exact⟨c,DN (tb.hfd _ _ hl) hi hx⟩
    cases h
   cases h
  cases h
 ·rename_i T parts;split at h
  ·rename_i lay z hl hz;split at h
   ·rename_i cs hc;injection h with h;simp only[Prod.mk.injEq] at h;obtain⟨rfl,rfl,rfl,rfl⟩:=h;obtain⟨z',hz',rfl⟩:=tb.hzr _ _ hz;exact⟨c,EW (tb.hfd _ _ hl) hz' hc⟩
   cases h
  cases h
 ·rename_i T x;split at h
  ·rename_i t ht;have ht:=tb.hty _ _ ht;obtain⟨tb1,tn⟩:=t;generalize hx:ρ x=vx at h;unfold Xr at h;split at h
   ·rename_i cells;cases tb1 with
    | true =>
     simp only[cond_true] at h;injection h with h;simp only[Prod.mk.injEq] at h;obtain⟨rfl,rfl,rfl,rfl⟩:=h;exact⟨c.1,Bk ht hx c.2⟩
    | false =>
     simp only[cond_false] at h;split at h
     ·injection h with h;simp only[Prod.mk.injEq] at h;obtain⟨rfl,rfl,rfl,rfl⟩:=h;exact⟨c,Gp ht hx⟩
     cases h
   ·rename_i b o;split at h
    ·cases h
    rename_i i is1;split at h
    ·rename_i b' cs hi;cases tb1 with
     | true =>
      simp only[cond_true] at h;split at h
      ·injection h with h;simp only[Prod.mk.injEq] at h;obtain⟨rfl,rfl,rfl,rfl⟩:=h;obtain⟨⟨c,rfl⟩,c2⟩:=c;exact⟨c,Cy ht hx hi c2⟩
      ·cases h
     | false =>
      simp only[cond_false] at h;split at h
      ·rename_i u hu;injection h with h;simp only[Prod.mk.injEq] at h;obtain⟨rfl,rfl,rfl,rfl⟩:=h;obtain⟨c,rfl⟩:=c;exact⟨c,Bt ht hx hi hu⟩
      cases h
    cases h
   cases h
  cases h
 ·rename_i T x y;split at h
  ·rename_i t ht;have ht:=tb.hty _ _ ht;obtain⟨tb1,tn⟩:=t;generalize hx:ρ x=vx at h;generalize hy:ρ y=vy at h;unfold XY at h;split at h
   ·rename_i b o;split at h
    ·rename_i i w is1;simp only at h;split at h
     ·rename_i b' cs us n hi hu hn;split at h
      ·split at h
       ·cases h
       rename_i ds hds;split at h
       ·cases h
       rename_i H2 hH2;injection h with h;simp only[Prod.mk.injEq] at h;obtain⟨rfl,rfl,rfl,rfl⟩:=h;obtain⟨⟨⟨⟨c,rfl⟩,c1⟩,c2⟩,c3⟩:=c;rw[UN hH2,kN hds];exact⟨c,Hq ht hx hi (by rw[hy];exact hu) c1 c2 c3⟩
      split at h
      ·split at h
       ·cases h
       rename_i H2 hH2;injection h with h;simp only[Prod.mk.injEq] at h;obtain⟨rfl,rfl,rfl,rfl⟩:=h;obtain⟨⟨⟨⟨c,rfl⟩,c1⟩,c2⟩,c3⟩:=c;rw[UN hH2];exact⟨c,DX ht hx hi (by rw[hy];exact hu) c1 c2 c3⟩
      cases h
     cases h
    cases h
   cases h
  cases h
 cases h
def runs (tb:Sx P) (ops:Array Oper) (n:Nat):Nat→Nat→(Nat→AV)→List A4→List Nat→Prop→Option ((Nat→AV)×List A4×Prop)
 | 0,_,τ,H,_,C=>some (τ,H,C)
 | m+1,k,τ,H,is,C =>
  match ops[k]? with
  | none=>none
  | some ⟨dst,op,_,_,_,g⟩ =>
   bif Gj dst n then
    match g with
    | none =>
     (match N4 tb (ev τ) H is C op with
     | some (v,H',is',C')=>runs tb ops n m (k+1) (put τ dst v) H' is' C'
     | none=>none)
    | some (j,want) =>
     match (ops[j]?).bind (·.dst) with
     | none=>none
     | some d =>
      match τ d with
      | .p (.bool b) =>
       bif b==want then
        (match N4 tb (ev τ) H is C op with
        | some (v,H',is',C')=>runs tb ops n m (k+1) (put τ dst v) H' is' C'
        | none=>none)
       else runs tb ops n m (k+1) (put τ dst (.tup [])) H is C
      | .tup []=>runs tb ops n m (k+1) (put τ dst (.tup [])) H is C
      | _=>none
   else none
end
section
variable {P:Program}{r:Option Nat}{ops:Array Oper}{n:Nat}{D:List D4}{Q:Cj→BM→Prop}
theorem PG (tb:Sx P):∀(m k:Nat) {τ τ':Nat→AV}{H H':List A4}{is:List Nat}{C C':Prop},runs tb ops n m k τ H is C=some (τ',H',C')→C' →
  C∧(AL P r ops (k+m) ⟨n,τ',H',D⟩ Q→AL P r ops k ⟨n,τ,H,D⟩ Q)
 | 0,k,τ,τ',H,H',is,C,C',h,c=>by
  simp only[runs,Option.some.injEq,Prod.mk.injEq] at h;obtain⟨rfl,rfl,rfl⟩:=h;exact⟨c,fun h=>h⟩
 | m+1,k,τ,τ',H,H',is,C,C',h,c=>by
  rw[runs] at h;split at h
  ·cases h
  rename_i dst op ty pos aft g ho;cases hd:Gj dst n with
  | false=>rw[hd] at h;cases h
  | true =>
   rw[hd,cond_true] at h;rw[show k+(m+1)=k+1+m by omega];split at h
   ·split at h
    ·rename_i v H1 is1 C1 hv;obtain⟨c1,ih⟩:=PG tb m (k+1) h c;obtain⟨c2,hop⟩:=Ga (dst:=dst) (ty:=ty) (pos:=pos) (aft:=aft) (g:=none) hv c1;exact⟨c2,fun hq=>R8 ho hd hop (ih hq)⟩
    cases h
   rename_i j want;split at h
   ·cases h
   rename_i d hj;split at h
   ·rename_i b hb;cases hw:b==want with
    | true =>
     rw[hw,cond_true] at h;split at h
     ·rename_i v H1 is1 C1 hv;obtain⟨c1,ih⟩:=PG tb m (k+1) h c;obtain⟨c2,hop⟩:=Ga (dst:=dst) (ty:=ty) (pos:=pos) (aft:=aft) (g:=some (j,want)) hv c1;have hbw:b=want:=by simpa using hw
      exact⟨c2,fun hq=>Sr ho hj (by rw[hb,hbw]) hd hop (ih hq)⟩
     ·cases h
    | false =>
     rw[hw,cond_false] at h;obtain⟨c1,ih⟩:=PG tb m (k+1) h c;exact⟨c1,fun hq=>fP ho hj hb hw hd (ih hq)⟩
   ·rename_i hb;obtain⟨c1,ih⟩:=PG tb m (k+1) h c;exact⟨c1,fun hq=>Zo ho hj hb hd (ih hq)⟩
   cases h
end
def look {α:Type}:List (Nat×α)→Nat→Option α
 | [],_=>none
 | (a,v)::r,t=>bif Nat.beq a t then some v else look r t
def Xt {α:Type}(f:Nat→Option α):List (Nat×α)→Prop
 | []=>True
 | (a,v)::r=>f a=some v∧Xt f r
theorem look_of {α:Type}{f:Nat→Option α}{T:Nat}{v:α}:∀{l:List (Nat×α)},Xt f l→look l T=some v→f T=some v
 | [],_,h=>by cases h
 | (a,u)::r,ha,h=>by
  unfold look at h;cases hb:Nat.beq a T with
  | true=>rw[hb,cond_true] at h;injection h with h;subst h;rw[←Nat.eq_of_beq_eq_true hb];exact ha.1
  | false=>rw[hb,cond_false] at h;exact look_of ha.2 h
def Wn (P:Program) (T:Nat):Option (List AV):=(zeroOf P T).map fun z=>z.cells.toList.map HG
def vA {P:Program}{fd:List (Nat×List (Nat×Nat))}{ty:List (Nat×Bool×Nat)}{zr:List (Nat×List AV)}(hf:Xt (fieldsOf P) fd) (ht:Xt (EH P) ty) (hz:Xt (Wn P) zr):Sx P where
 fd:=look fd
 ty:=look ty
 zr:=look zr
 hfd _ _ h:=look_of hf h
 hty _ _ h:=look_of ht h
 hzr T l h:=by
  have h1:=look_of hz h;unfold Wn at h1;cases hq:zeroOf P T with
  | none=>rw[hq] at h1;cases h1
  | some z=>rw[hq] at h1;injection h1 with h1;exact⟨z,rfl,h1⟩
end Go.Abs
namespace Go.Abs
open Go.Eu
section
variable {P:Program}{r:Option Nat}{ops:Array Oper}{n k:Nat}{D:List D4}{Q:Cj→BM→Prop}{τ τ':Nat→AV}{H H':List A4}{C:Prop}
theorem JX {C:Prop}(c:C:=by repeat' first | exact trivial | refine And.intro ?_ ?_ | (simp only[List.length_map,A7,O7,DJ,Eh,Ds,EX,gp,Ei,LL];done) | exact Gd _ | exact qu _ | exact qp _ | exact np _ | exact oJ _ | exact Xl _ | exact qY _ | exact pN _ | exact rfl | omega):C:=c
theorem BT (tb:Sx P) (m:Nat) (is:List Nat) (h:runs tb ops n m k τ H is True=some (τ',H',C)) (next:AL P r ops (k+m) ⟨n,τ',H',D⟩ Q) (c:C:=by exact JX):AL P r ops k ⟨n,τ,H,D⟩ Q:=(PG tb m k h c).2 next
theorem BK (tb:Sx P) (m:Nat) (is:List Nat) (h:runs tb ops n m k τ H is True=some (τ',H',C)) (next:Q .normal ⟨n,τ',H',D⟩) (hk:ops.size - (k+m)=0:=by exact rfl) (c:C:=by exact JX):AL P r ops k ⟨n,τ,H,D⟩ Q:=BT tb m is h (Ch hk next) c
theorem BZ {id:Nat}{c₂:Code}(tb:Sx P) (m:Nat) (is:List Nat) (h:runs tb ops n m 0 τ H is True=some (τ',H',C)) (next:IK P r c₂ ⟨n,τ',H',D⟩ Q) (hk:ops.size - (0+m)=0:=by exact rfl) (c:C:=by exact JX):IK P r (.seq (.region id ops false) c₂) ⟨n,τ,H,D⟩ Q:=BQ (BK tb m is h next hk c)
end
end Go.Abs
namespace Go.Abs
section
variable {P:Program}{tb:Sx P}{ρ:Operand→AV}{H H':List A4}{is is':List Nat}{C C':Prop}{v:AV}
 {dst:Option Tmp} {ty:TypeId} {pos:String} {aft:Array Edge} {g:Option (Nat×Bool)}
theorem fy {op:Op}(h:N4 tb ρ [] [] C op=some (v,H',is',C')) (H:List A4) (is:List Nat):N4 tb ρ H is C op=some (v,H,is,C'):=by
 unfold N4 at h ⊢;split at h
 ·injection h with h;simp only[Prod.mk.injEq] at h;obtain⟨rfl,rfl,rfl,rfl⟩:=h;rfl
 ·injection h with h;simp only[Prod.mk.injEq] at h;obtain⟨rfl,rfl,rfl,rfl⟩:=h;rfl
 ·split at h
  ·rename_i b hb;injection h with h;simp only[Prod.mk.injEq] at h;obtain⟨rfl,rfl,rfl,rfl⟩:=h;simp only[hb]
  cases h
 ·split at h
  ·rename_i xs hx;split at h
   ·rename_i u hu;injection h with h;simp only[Prod.mk.injEq] at h;obtain⟨rfl,rfl,rfl,rfl⟩:=h;simp only[hx,hu]
   cases h
  cases h
 ·split at h
  ·rename_i b o hx;injection h with h;simp only[Prod.mk.injEq] at h;obtain⟨rfl,rfl,rfl,rfl⟩:=h;simp only[hx]
  cases h
 ·injection h with h;simp only[Prod.mk.injEq] at h;obtain⟨rfl,rfl,rfl,rfl⟩:=h;rfl
 ·split at h
  ·rename_i b hb;injection h with h;simp only[Prod.mk.injEq] at h;obtain⟨rfl,rfl,rfl,rfl⟩:=h;simp only[hb]
  cases h
 ·rename_i op T x y U
  try dsimp only
  generalize hx:ρ x=vx at h ⊢;generalize hy:ρ y=vy at h ⊢;unfold kE at h ⊢;split at h
  ·rename_i k m k' n
   try dsimp only
   split at h
   ·rename_i b hb;injection h with h;simp only[Prod.mk.injEq] at h;obtain⟨rfl,rfl,rfl,rfl⟩:=h;simp only[hb]
   rename_i hb;split at h
   ·rename_i r hr;injection h with h;simp only[Prod.mk.injEq] at h;obtain⟨rfl,rfl,rfl,rfl⟩:=h;simp only[hb,hr]
   cases h
  cases h
 ·rename_i T x i;split at h
  ·rename_i lay hl;split at h
   ·rename_i off sz hi
    try dsimp only
    generalize hx:ρ x=vx at h ⊢;unfold Xo at h ⊢;split at h
    ·injection h with h;simp only[Prod.mk.injEq] at h;obtain⟨rfl,rfl,rfl,rfl⟩:=h;simp only[hl,hi]
    ·injection h with h;simp only[Prod.mk.injEq] at h;obtain⟨rfl,rfl,rfl,rfl⟩:=h;simp only[hl,hi]
    cases h
   cases h
  cases h
 ·rename_i T parts;split at h
  ·rename_i lay z hl hz;split at h
   ·rename_i cs hc;injection h with h;simp only[Prod.mk.injEq] at h;obtain⟨rfl,rfl,rfl,rfl⟩:=h;simp only[hl,hz,hc]
   cases h
  cases h
 ·rename_i T x;split at h
  ·rename_i t ht
   try dsimp only
   try rw[ht]
   try dsimp only
   generalize hx:ρ x=vx at h ⊢;unfold Xr at h ⊢;split at h
   ·rename_i cells
    try dsimp only
    cases hb:t.1 with
    | true =>
     rw[hb,cond_true] at h;injection h with h;simp only[Prod.mk.injEq] at h;obtain⟨rfl,rfl,rfl,rfl⟩:=h;rfl
    | false =>
     rw[hb,cond_false] at h;rw[cond_false];split at h
     ·injection h with h;simp only[Prod.mk.injEq] at h;obtain⟨rfl,rfl,rfl,rfl⟩:=h;rfl
     cases h
   ·cases h
   cases h
  cases h
 ·rename_i T x y;split at h
  ·rename_i t ht;generalize hx:ρ x=vx at h;unfold XY at h;split at h
   ·cases h
   cases h
  cases h
 cases h
theorem iW {T:TypeId}{x:Operand}{ob:A4}{i:Nat}(h:N4 tb ρ [ob] [0] C (.load T x)=some (v,H',is',C')) (h0:N4 tb ρ [] [] C (.load T x)=none) (hi:H[i]?=some ob):N4 tb ρ H [i] C (.load T x)=some (v,H,[],C'):=by
 unfold N4 at h h0 ⊢;dsimp only at h h0 ⊢;split at h
 ·rename_i t ht
  try simp only[ht] at h0
  skip
  generalize hx:ρ x=vx at h h0 ⊢;unfold Xr at h h0 ⊢;split at h
  ·rename_i cells;dsimp only at h0;cases hb:t.1 with
   | true=>rw[hb,cond_true] at h0;cases h0
   | false =>
    rw[hb,cond_false] at h h0;split at h
    ·cases h0
    cases h
  ·rename_i b o;dsimp only at h ⊢;rw[hi];simp only[List.getElem?_cons_zero] at h;cases ob with
   | box b' cs =>
    dsimp only at h ⊢;cases hb:t.1 with
    | true =>
     rw[hb,cond_true] at h;rw[cond_true];split at h
     ·injection h with h;simp only[Prod.mk.injEq] at h;obtain⟨rfl,rfl,rfl,rfl⟩:=h;rfl
     ·cases h
    | false =>
     rw[hb,cond_false] at h;rw[cond_false];split at h
     ·rename_i u hu;injection h with h;simp only[Prod.mk.injEq] at h;obtain⟨rfl,rfl,rfl,rfl⟩:=h;rfl
     ·cases h
   | _=>cases h
  cases h
 cases h
def WW (tb:Sx P) (ops:Array Oper) (k:Nat) (ρ:Operand→AV) (H:List A4) (rd:ZW) (ef:Yy) (is:List Nat) (C:Prop) (op:Op):Option (Sp×List Nat×Prop) :=
 match N4 tb ρ [] [] C op with
 | some (v,_,_,C')=>some (.free v,is,C')
 | none =>
  match op with
  | .load T x =>
   match is with
   | i::is' =>
    match H[i]? with
    | some ob =>
     match N4 tb ρ [ob] [0] C (.load T x) with
     | some (v,_,_,C')=>some (.read [ob] v,is',C'∧iS ops k ob ef)
     | none=>none
    | none=>none
   | []=>none
  | .store T x y =>
   match N4 tb ρ H is C (.store T x y) with
   | some (v,H',is',C')=>some (.eff v H',is',C'∧KJ ops k H H' rd)
   | none=>none
  | _=>none
theorem NL {ops:Array Oper}{k:Nat}{τ:Nat→AV}{rd:ZW}{ef:Yy}{op:Op}{s:Sp}(h:WW tb ops k (ev τ) H rd ef is C op=some (s,is',C')) (c:C') (hw:Ep ops ⟨0,τ,[],[]⟩ ⟨dst,op,ty,pos,aft,g⟩) :
  C∧lO P ops ⟨dst,op,ty,pos,aft,g⟩ τ H s∧uE ops k H rd ef s:=by
 unfold WW at h;split at h
 ·rename_i v H1 is1 C1 hv;injection h with h;simp only[Prod.mk.injEq] at h;obtain⟨rfl,rfl,rfl⟩:=h;exact⟨(Ga (dst:=dst) (ty:=ty) (pos:=pos) (aft:=aft) (g:=g) hv c).1,⟨hw,fun H=>(Ga (fy hv H []) c).2⟩,Aw⟩
 rename_i hn;split at h
 ·split at h
  ·rename_i i is2;split at h
   ·rename_i ob hi;split at h
    ·rename_i v H1 is1 C1 hv;injection h with h;simp only[Prod.mk.injEq] at h;obtain⟨rfl,rfl,rfl⟩:=h;obtain⟨c1,c2⟩:=c;refine⟨(Ga (dst:=dst) (ty:=ty) (pos:=pos) (aft:=aft) (g:=g) hv c1).1,⟨hw,fun ob' hm=>?_,fun H hm=>?_⟩,fun ob' hm=>?_⟩
     ·rw[List.mem_singleton] at hm;subst hm;exact List.mem_of_getElem? hi
     ·obtain⟨i',hi'⟩:=List.mem_iff_getElem?.1 (hm ob List.mem_cons_self);exact(Ga (iW hv hn hi') c1).2
     rw[List.mem_singleton] at hm;subst hm;exact c2
    cases h
   cases h
  cases h
 ·split at h
  ·rename_i v H1 is1 C1 hv;injection h with h;simp only[Prod.mk.injEq] at h;obtain⟨rfl,rfl,rfl⟩:=h;obtain⟨c1,c2⟩:=c;obtain⟨c0,hop⟩:=Ga (dst:=dst) (ty:=ty) (pos:=pos) (aft:=aft) (g:=g) hv c1;exact⟨c0,⟨hw,hop⟩,c2⟩
  cases h
 cases h
def ua (k:Nat) (s:Sp) (C:Prop):List (Nat×Sp)→Prop
 | []=>C
 | p::r=>C∧Hp k s (p::r)
theorem NP {k:Nat}{s:Sp}{C:Prop}:∀{fx:List (Nat×Sp)},ua k s C fx→C∧Hp k s fx
 | [],h=>⟨h,trivial⟩
 | p::r,h=>h
abbrev xb:=(Nat→AV)×List A4×ZW×Yy×List Bool×Prop
def Wk (k:Nat) (τ:Nat→AV) (dst:Option Tmp) (H:List A4) (rd:ZW) (ef:Yy) (effs:List Bool) (fx:List (Nat×Sp)) (f:(Nat→AV)→List A4→ZW→Yy→List Bool→List Nat→Prop→Option xb):Option (Sp×List Nat×Prop)→Option xb
 | some (.free v,is,C)=>f (put τ dst v) H rd ef (false::effs) is (ua k (.free v) C fx)
 | some (.read [ob] v,is,C)=>f (put τ dst v) H ((k,ob)::rd) ef (false::effs) is (ua k (.read [ob] v) C fx)
 | some (.eff v H',is,C)=>f (put τ dst v) H' rd ((k,H,H')::ef) (true::effs) is (ua k (.eff v H') C fx)
 | _=>none
def MV (tb:Sx P) (ops:Array Oper) (opn:Nat→Bool) (fx:List (Nat×Sp)):Nat→Nat→(Nat→AV)→List A4→ZW→Yy→List Bool→List Nat→Prop→Option xb
 | 0,_,τ,H,rd,ef,effs,_,C=>some (τ,H,rd,ef,effs,C)
 | m+1,k,τ,H,rd,ef,effs,is,C =>
  match ops[k]? with
  | none=>none
  | some ⟨dst,op,_,_,_,g⟩ =>
   bif opn k then none else
    match g with
    | none=>Wk k τ dst H rd ef effs fx (MV tb ops opn fx m (k+1)) (WW tb ops k (ev τ) H rd ef is C op)
    | some (j,want) =>
     match (ops[j]?).bind (·.dst) with
     | none=>none
     | some d =>
      match τ d with
      | .p (.bool b) =>
       bif b==want then Wk k τ dst H rd ef effs fx (MV tb ops opn fx m (k+1)) (WW tb ops k (ev τ) H rd ef is C op)
       else MV tb ops opn fx m (k+1) (put τ dst (.tup [])) H rd ef (false::effs) is (ua k .skip C fx)
      | .tup []=>MV tb ops opn fx m (k+1) (put τ dst (.tup [])) H rd ef (false::effs) is (ua k .skip C fx)
      | _=>none
end
section
variable {P:Program}{ops:Array Oper}{n:Nat}{τ₀:Nat→AV}{D:List D4}{Q:Cj→BM→Prop}{opn:Nat→Bool}{fx:List (Nat×Sp)}
theorem Lf (tb:Sx P):∀(m k:Nat) {τ τ':Nat→AV}{H H':List A4}{rd rd':ZW}{ef ef':Yy}{effs effs':List Bool}{is:List Nat}{C C':Prop},MV tb ops opn fx m k τ H rd ef effs is C=some (τ',H',rd',ef',effs',C')→C' →
  C∧(Dr P ops n τ₀ D Q opn (k+m) τ' H' rd' ef' effs' fx→Dr P ops n τ₀ D Q opn k τ H rd ef effs fx)
 | 0,k,τ,τ',H,H',rd,rd',ef,ef',effs,effs',is,C,C',h,c=>by
  simp only[MV,Option.some.injEq,Prod.mk.injEq] at h;obtain⟨rfl,rfl,rfl,rfl,rfl,rfl⟩:=h;exact⟨c,fun h=>h⟩
 | m+1,k,τ,τ',H,H',rd,rd',ef,ef',effs,effs',is,C,C',h,c=>by
  rw[MV] at h;split at h
  ·cases h
  rename_i dst op ty pos aft g ho;cases hn:opn k with
  | true=>rw[hn] at h;cases h
  | false =>
   rw[hn,cond_false] at h;rw[show k+(m+1)=k+1+m by omega];have key:Ep ops ⟨0,τ,[],[]⟩ ⟨dst,op,ty,pos,aft,g⟩→Wk k τ dst H rd ef effs fx (MV tb ops opn fx m (k+1)) (WW tb ops k (ev τ) H rd ef is C op)=some (τ',H',rd',ef',effs',C')→C∧(Dr P ops n τ₀ D Q opn (k+1+m) τ' H' rd' ef' effs' fx→Dr P ops n τ₀ D Q opn k τ H rd ef effs fx):=by
    intro hw h;generalize hs:WW tb ops k (ev τ) H rd ef is C op=so at h;unfold Wk at h;split at h
    ·rename_i v is1 C1;obtain⟨c1,ih⟩:=Lf tb m (k+1) h c;obtain⟨c1,hfx⟩:=NP c1;obtain⟨c2,hok,howe⟩:=NL hs c1 hw;exact⟨c2,fun hq=> .step (.free v) ho (.inl hn) hok howe hfx (ih hq)⟩
    ·rename_i ob v is1 C1;obtain⟨c1,ih⟩:=Lf tb m (k+1) h c;obtain⟨c1,hfx⟩:=NP c1;obtain⟨c2,hok,howe⟩:=NL hs c1 hw;exact⟨c2,fun hq=> .step (.read [ob] v) ho (.inl hn) hok howe hfx (ih hq)⟩
    ·rename_i v H1 is1 C1;obtain⟨c1,ih⟩:=Lf tb m (k+1) h c;obtain⟨c1,hfx⟩:=NP c1;obtain⟨c2,hok,howe⟩:=NL hs c1 hw;exact⟨c2,fun hq=> .step (.eff v H1) ho (.inl hn) hok howe hfx (ih hq)⟩
    cases h
   split at h
   ·exact key An h
   rename_i j want;split at h
   ·cases h
   rename_i d hj;split at h
   ·rename_i b hb;cases hw:b==want with
    | true =>
     rw[hw,cond_true] at h;have hbw:b=want:=by simpa using hw
     exact key (by simp only[Ep];exact⟨d,hj,by rw[hb,hbw]⟩) h
    | false =>
     rw[hw,cond_false] at h;obtain⟨c1,ih⟩:=Lf tb m (k+1) h c;obtain⟨c1,hfx⟩:=NP c1;exact⟨c1,fun hq=>pF ho hn hj hb hw hfx (ih hq)⟩
   ·rename_i hb;obtain⟨c1,ih⟩:=Lf tb m (k+1) h c;obtain⟨c1,hfx⟩:=NP c1;exact⟨c1,fun hq=>mM ho hn hj hb hfx (ih hq)⟩
   cases h
variable {k:Nat}{τ τ':Nat→AV}{H H':List A4}{rd rd':ZW}{ef ef':Yy}{effs effs':List Bool}{C:Prop}
theorem eh {C:Prop}(c:C:=by repeat' first | exact trivial | refine And.intro ?_ ?_ | ((refine Or.inr (And.intro ?_ ?_)<;>repeat (first | exact List.Mem.head _ | apply List.Mem.tail));done) | exact Or.inl Ap | exact JX):C:=c
theorem DO (tb:Sx P) (m:Nat) (is:List Nat) (h:MV tb ops opn fx m k τ H rd ef effs is True=some (τ',H',rd',ef',effs',C)) (next:Dr P ops n τ₀ D Q opn (k+m) τ' H' rd' ef' effs' fx) (c:C:=by exact eh):Dr P ops n τ₀ D Q opn k τ H rd ef effs fx:=(Lf tb m k h c).2 next
theorem CY (tb:Sx P) (m:Nat) (is:List Nat) (h:MV tb ops opn fx m k τ H rd ef effs is True=some (τ',H',rd',ef',effs',C)) (next:Q .normal ⟨n,τ',H',D⟩) (hk:k+m=ops.size:=by exact rfl) (chk:Me ops n effs'.reverse=true:=by kernel_rfl) (c:C:=by exact eh):Dr P ops n τ₀ D Q opn k τ H rd ef effs fx:=DO tb m is h (HC hk chk next) c
end
inductive Fr where
 | seq (c:Code)
 | blk (id:Nat)
inductive cW where
 | code (c:Code)
 | ops (o:Array Oper) (k:Nat)
 | fin
 | ext (i:Nat)
def QF (P:Program) (r:Option Nat):List Fr→(Cj→BM→Prop)→Cj→BM→Prop
 | [],Q=>Q
 | .seq c::fs,Q=>Kj (fun S'=>IK P r c S' (QF P r fs Q)) (QF P r fs Q)
 | .blk id::fs,Q=>XU id (QF P r fs Q)
def JC (P:Program) (r:Option Nat):cW→BM→(Cj→BM→Prop)→Prop
 | .code c,S,Q=>IK P r c S Q
 | .ops o k,S,Q=>AL P r o k S Q
 | .fin,S,Q=>Q .normal S
 | .ext i,S,Q=>Q (.exit i) S
def GO (P:Program) (r:Option Nat) (c:cW) (fs:List Fr) (S:BM) (Q:Cj→BM→Prop):Prop:=JC P r c S (QF P r fs Q)
def X5 (st:Nat):Nat→cW→List Fr→cW×List Fr
 | 0,c,fs=>(c,fs)
 | m+1,.ops o k,fs=>match o[k]? with
  | some _=>(.ops o k,fs)
  | none=>X5 st m .fin fs
 | m+1,.fin,.seq c::fs=>X5 st m (.code c) fs
 | m+1,.fin,.blk _::fs=>X5 st m .fin fs
 | _+1,.fin,[]=>(.fin,[])
 | m+1,.ext i,.seq _::fs=>X5 st m (.ext i) fs
 | m+1,.ext i,.blk id::fs=>bif Nat.beq i id then X5 st m .fin fs else X5 st m (.ext i) fs
 | _+1,.ext i,[]=>(.ext i,[])
 | m+1,.code c,fs=>match c with
  | .seq a b=>X5 st m (.code a) (.seq b::fs)
  | .block id a=>X5 st m (.code a) (.blk id::fs)
  | .region id o false=>bif Nat.beq id st then (.code (.region id o false),fs) else X5 st m (.ops o 0) fs
  | .skip=>X5 st m .fin fs
  | .exit i=>X5 st m (.ext i) fs
  | c=>(.code c,fs)
section
variable {P:Program}{r:Option Nat}{S:BM}{Q:Cj→BM→Prop}
theorem FJ (st:Nat):∀(m:Nat) (c:cW) (fs:List Fr),GO P r (X5 st m c fs).1 (X5 st m c fs).2 S Q→GO P r c fs S Q
 | 0,c,fs,h=>h
 | m+1,.ops o k,fs,h=>by
  unfold X5 at h;split at h
  ·exact h
  ·rename_i hk;refine Ch (Q:=QF P r fs Q) ?_ (FJ st m .fin fs h);have:=Array.getElem?_eq_none_iff.1 hk;omega
 | m+1,.fin,.seq c::fs,h=>FJ st m (.code c) fs h
 | m+1,.fin,.blk _::fs,h=>FJ st m .fin fs h
 | _+1,.fin,[],h=>h
 | m+1,.ext i,.seq _::fs,h=>FJ st m (.ext i) fs h
 | m+1,.ext i,.blk id::fs,h=>by
  unfold X5 at h;have e:GO P r (.ext i) (.blk id::fs) S Q=(bif Nat.beq i id then GO P r .fin fs S Q else GO P r (.ext i) fs S Q):=by
   show (bif Nat.beq i id then QF P r fs Q .normal S else QF P r fs Q (.exit i) S)=_;rfl
  rw[e];cases hb:Nat.beq i id with
  | true=>rw[hb,cond_true] at h;exact FJ st m .fin fs h
  | false=>rw[hb,cond_false] at h;exact FJ st m (.ext i) fs h
 | _+1,.ext i,[],h=>h
 | m+1,.code c,fs,h=>by
  unfold X5 at h;split at h
  ·exact BR (FJ st m _ _ h)
  ·exact B3 (FJ st m _ _ h)
  ·rename_i id o;cases hb:Nat.beq id st with
   | true=>rw[hb,cond_true] at h;exact h
   | false=>rw[hb,cond_false] at h;exact Be (FJ st m _ _ h)
  ·exact Bn (FJ st m _ _ h)
  ·exact EN (FJ st m _ _ h)
  exact h
def uh:AV→Option AV
 | .p x=>some (.p x) | .ptr b o=>some (.ptr b o) | .nilp=>some .nilp | .ref c=>some (.ref c) | .vs o n c=>some (.vs o n c) | .map b=>some (.map b) | .fn f a c=>some (.fn f a c) | .agg cs=>some (.agg cs) | .tup xs=>some (.tup xs)
theorem Xe {a v:AV}(h:uh a=some v):a=v:=by cases a<;>simpa [uh] using h
def go (tb:Sx P) (n st:Nat):Nat→cW→List Fr→(Nat→AV)→List A4→List Nat→Prop→Option (cW×List Fr×(Nat→AV)×List A4×Prop)
 | 0,c,fs,τ,H,_,C=>bif Nat.beq st 888888 then some (c,fs,τ,H,C) else match X5 st 200 c fs with | (c',fs')=>some (c',fs',τ,H,C)
 | m+1,c,fs,τ,H,is,C =>
  match X5 st 200 c fs with
  | (.ops o k,fs)=>(match o[k]? with
   | none=>none
   | some ⟨dst,op,_,_,_,g⟩ =>
    bif Gj dst n then
     match g with
     | none =>
      (match N4 tb (ev τ) H is C op with
      | some (v,H',is',C')=>(match uh v with | some v=>go tb n st m (.ops o (k+1)) fs (put τ dst v) H' is' C' | none=>none)
      | none=>none)
     | some (j,want) =>
      match (o[j]?).bind (·.dst) with
      | none=>none
      | some d =>
       match τ d with
       | .p (.bool b) =>
        bif b==want then
         (match N4 tb (ev τ) H is C op with
         | some (v,H',is',C')=>(match uh v with | some v=>go tb n st m (.ops o (k+1)) fs (put τ dst v) H' is' C' | none=>none)
         | none=>none)
        else go tb n st m (.ops o (k+1)) fs (put τ dst (.tup [])) H is C
       | .tup []=>go tb n st m (.ops o (k+1)) fs (put τ dst (.tup [])) H is C
       | _=>none
    else none)
  | _=>none
theorem go_sound (tb:Sx P) (n st:Nat) {D:List D4}:∀(m:Nat) {c c':cW}{fs fs':List Fr}{τ τ':Nat→AV}{H H':List A4}{is:List Nat}{C C':Prop},go tb n st m c fs τ H is C=some (c',fs',τ',H',C')→C' →
  C∧(GO P r c' fs' ⟨n,τ',H',D⟩ Q→GO P r c fs ⟨n,τ,H,D⟩ Q)
 | 0,c,c',fs,fs',τ,τ',H,H',is,C,C',h,c1=>by
  unfold go at h;cases hs:Nat.beq st 888888 with
  | true =>
   rw[hs] at h;simp only[cond_true,Option.some.injEq,Prod.mk.injEq] at h;obtain⟨rfl,rfl,rfl,rfl,rfl⟩:=h;exact⟨c1,id⟩
  | false =>
   rw[hs] at h;simp only[cond_false,Option.some.injEq,Prod.mk.injEq] at h;obtain⟨rfl,rfl,rfl,rfl,rfl⟩:=h;exact⟨c1,FJ st 200 c fs⟩
 | m+1,c,c',fs,fs',τ,τ',H,H',is,C,C',h,c1=>by
  unfold go at h;have cs:=FJ (P:=P) (r:=r) (S:=⟨n,τ,H,D⟩) (Q:=Q) st 200 c fs;split at h
  ·rename_i o k fs1 hc;rw[hc] at cs;split at h
   ·cases h
   rename_i dst op ty pos aft g ho;cases hd:Gj dst n with
   | false=>rw[hd] at h;cases h
   | true =>
    rw[hd,cond_true] at h;split at h
    ·split at h
     ·rename_i v H1 is1 C1 hv;split at h
      ·rename_i v2 hv2;obtain rfl:=Xe hv2;obtain⟨c2,ih⟩:=go_sound tb n st m h c1;obtain⟨c3,hop⟩:=Ga (dst:=dst) (ty:=ty) (pos:=pos) (aft:=aft) (g:=none) hv c2;exact⟨c3,fun hq=>cs (R8 ho hd hop (ih hq))⟩
      cases h
     cases h
    rename_i j want;split at h
    ·cases h
    rename_i d hj;split at h
    ·rename_i b hb;cases hw:b==want with
     | true =>
      rw[hw,cond_true] at h;split at h
      ·rename_i v H1 is1 C1 hv;split at h
       ·rename_i v2 hv2;obtain rfl:=Xe hv2;obtain⟨c2,ih⟩:=go_sound tb n st m h c1;obtain⟨c3,hop⟩:=Ga (dst:=dst) (ty:=ty) (pos:=pos) (aft:=aft) (g:=some (j,want)) hv c2;have hbw:b=want:=by simpa using hw
        exact⟨c3,fun hq=>cs (Sr ho hj (by rw[hb,hbw]) hd hop (ih hq))⟩
       cases h
      ·cases h
     | false =>
      rw[hw,cond_false] at h;obtain⟨c2,ih⟩:=go_sound tb n st m h c1;exact⟨c2,fun hq=>cs (fP ho hj hb hw hd (ih hq))⟩
    ·rename_i hb;obtain⟨c2,ih⟩:=go_sound tb n st m h c1;exact⟨c2,fun hq=>cs (Zo ho hj hb hd (ih hq))⟩
    cases h
  cases h
def sj (o:Array Oper) (k n:Nat) (τ:Nat→AV):Option Oper :=
 match o[k]? with
 | none=>none
 | some ⟨dst,op,ty,pos,aft,g⟩ =>
  bif Gj dst n then
   match g with
   | none=>some ⟨dst,op,ty,pos,aft,none⟩
   | some (j,want) =>
    match (o[j]?).bind (·.dst) with
    | none=>none
    | some d=>match τ d with | .p (.bool b)=>bif b==want then some ⟨dst,op,ty,pos,aft,some (j,want)⟩ else none | _=>none
  else none
theorem gH {o:Array Oper}{k n:Nat}{τ:Nat→AV}{H:List A4}{D:List D4}{x:Oper}(h:sj o k n τ=some x):o[k]?=some x∧Ep o ⟨n,τ,H,D⟩ x∧(∀t,x.dst=some t→t<n):=by
 unfold sj at h;split at h
 ·cases h
 rename_i dst op ty pos aft g ho;cases hd:Gj dst n with
 | false=>rw[hd] at h;cases h
 | true =>
  rw[hd,cond_true] at h;split at h
  ·injection h with h;subst h;exact⟨ho,trivial,He hd⟩
  rename_i j want;split at h
  ·cases h
  rename_i d hj;split at h
  ·rename_i b hb;cases hw:b==want with
   | true =>
    rw[hw,cond_true] at h;injection h with h;subst h;exact⟨ho,⟨d,hj,hb.trans (by rw[show b=want by simpa using hw])⟩,He hd⟩
   | false=>rw[hw,cond_false] at h;cases h
  cases h
end
class TabOf (P:Program) where
 tab:Sx P
 el:Nat→Option (Nat×Nat×Nat)
 hel:∀T l,el T=some l→E1 P T=some l
 ent:Nat→Bool
 hent:∀f,ent f=true→Ck P f=true
 mx:P.follows .mixedOrders=true
theorem tH {P:Program}{l:List Nat}(h:l.all (Ck P)=true) (f:Nat) (hf:l.any (Nat.beq f)=true):Ck P f=true:=by
 obtain⟨g,hg,he⟩:=List.any_eq_true.1 hf;rw[Nat.eq_of_beq_eq_true he];exact List.all_eq_true.1 h g hg
section
variable {P:Program}{r:Option Nat}{n k:Nat}{o:Array Oper}{D:List D4}{Q:Cj→BM→Prop}{c c':cW}{fs fs':List Fr}{τ τ':Nat→AV}{H H':List A4}{C:Prop}
 {dst:Option Nat} {op:Op} {ty:TypeId} {pos:String} {aft:Array Edge} {g:Option (Nat×Bool)} {v:AV} {a b:Code} {S:BM}
theorem xg (h:GO P r (.code a) [] S Q):IK P r a S Q:=h
theorem rK {M:BM}(l:Le S M) (bd:AL P r o k M Q):AL P r o k S Q :=
 fun F a w hs=>Ev (fun _ _ _=>HE hs.heap.bd (Trans.le l)) _ _ _ (bd F a w (hs.le l))
def cW.live:cW→Bool
 | .code _ | .ops _ _=>true
 | _=>false
theorem BW (h:GO P r (.ops o k) fs S Q):AL P r o k S (QF P r fs Q):=h
theorem Cu (h:GO P r .fin fs S Q):QF P r fs Q .normal S:=h
theorem BP (h:GO P r (.code a) fs S Q):IK P r a S (QF P r fs Q):=h
theorem ca (h:Q .ret S):∀fs,QF P r fs Q .ret S
 | []=>h
 | .seq _::fs=>ca h fs
 | .blk _::fs=>ca h fs
def rh (tb:Sx P) (n m:Nat) (c:cW) (fs:List Fr) (τ:Nat→AV) (H:List A4) (is:List Nat):Option (Oper×Array Oper×Nat×List Fr×(Nat→AV)×List A4×Prop) :=
 match go tb n 999999 m c fs τ H is True with
 | some (.ops o k,fs',τ',H',C)=>(match sj o k n τ' with | some x=>some (x,o,k,fs',τ',H',C) | none=>none)
 | _=>none
theorem V7 {tb:Sx P}{m:Nat}{is:List Nat}{x:Oper}(h:rh tb n m c fs τ H is=some (x,o,k,fs',τ',H',C)) (c1:C) {R:EG→List A4→Prop}(hop:DL P x (ev τ') H' R)
  (next:∀v H1,R (.val v) H1→GO P r (.ops o (k+1)) fs' ⟨n,put τ' x.dst v,H1,D⟩ Q) (pan:∀v H1,R (.panic v) H1→QF P r fs' Q (.panic v) ⟨n,τ',H1,D⟩):GO P r c fs ⟨n,τ,H,D⟩ Q:=by
 unfold rh at h;split at h
 ·rename_i o1 k1 fs1 τ1 H1 C1 hg;split at h
  ·rename_i x1 hx;simp only[Option.some.injEq,Prod.mk.injEq] at h;obtain⟨rfl,rfl,rfl,rfl,rfl,rfl,rfl⟩:=h;have sp:=gH (H:=H1) (D:=D) hx;exact(go_sound tb n _ m hg c1).2 (Fm (S:=⟨n,τ1,H1,D⟩) (Q:=QF P r fs1 Q) sp.1 sp.2.1 sp.2.2 hop next pan)
  cases h
 cases h
def Yl (tb:Sx P) (τ:Nat→AV) (H:List A4):List ResultVar→List Nat→Option (List AV×Prop)
 | [],_=>some ([],True)
 | .tmp t::rs,is=>match uh (τ t) with
  | some v=>(match Yl tb τ H rs is with | some (vs,C)=>some (v::vs,C) | none=>none)
  | none=>none
 | .cell a T::rs,i::is=>match τ a with
  | .ptr b 0=>(match H[i]? with
   | some (.box b' cs)=>(match tb.ty T with
    | some (true,m)=>(match Yl tb τ H rs is with | some (vs,C)=>some (.agg cs::vs,(C∧b'=b)∧cs.length=m) | none=>none)
    | some (false,_)=>(match cs with
     | [v]=>(match Yl tb τ H rs is with | some (vs,C)=>some (v::vs,C∧b'=b) | none=>none)
     | _=>none)
    | none=>none)
   | _=>none)
  | _=>none
 | _::_,[]=>none
theorem MJ (tb:Sx P) {S:BM}:∀(rs:List ResultVar) (is:List Nat) {vs:List AV}{C:Prop},Yl tb S.τ S.H rs is=some (vs,C)→C→Re P S rs vs
 | [],is,vs,C,h,c=>by simp only[Yl,Option.some.injEq,Prod.mk.injEq] at h;obtain⟨rfl,rfl⟩:=h;rfl
 | .tmp t::rs,is,vs,C,h,c=>by
  unfold Yl at h;split at h
  ·rename_i v hv;split at h
   ·rename_i vs1 C1 h1;simp only[Option.some.injEq,Prod.mk.injEq] at h;obtain⟨rfl,rfl⟩:=h;exact⟨v,vs1,O,Xe hv,MJ tb rs is h1 c⟩
   cases h
  ·cases h
 | .cell a T::rs,[],vs,C,h,c=>by cases h
 | .cell a T::rs,i::is,vs,C,h,c=>by
  unfold Yl at h;split at h
  ·rename_i b ha;split at h
   ·rename_i b' cs hi;split at h
    ·rename_i m hT;split at h
     ·rename_i vs1 C1 h1;simp only[Option.some.injEq,Prod.mk.injEq] at h;obtain⟨rfl,rfl⟩:=h;obtain⟨⟨c,rfl⟩,hm⟩:=c;obtain⟨d,h2,h3,h4⟩:=FV (tb.hty _ _ hT);exact⟨_,vs1,O,⟨b',cs,i,ha,hi,.inl ⟨d,h2,h3,by rw[h4,hm],rfl⟩⟩,MJ tb rs is h1 c⟩
     cases h
    ·rename_i m hT;split at h
     ·rename_i v;split at h
      ·rename_i vs1 C1 h1;simp only[Option.some.injEq,Prod.mk.injEq] at h;obtain⟨rfl,rfl⟩:=h;obtain⟨c,rfl⟩:=c;obtain⟨d,h2,h3,h4⟩:=FV (tb.hty _ _ hT);exact⟨_,vs1,O,⟨b',[v],i,ha,hi,.inr ⟨d,h2,h3,O⟩⟩,MJ tb rs is h1 c⟩
      cases h
     cases h
    cases h
   cases h
  cases h
end
section
variable {P:Program} [it:TabOf P] {r:Option Nat}{n k:Nat}{o:Array Oper}{D:List D4}{Q:Cj→BM→Prop}{c c':cW}{fs fs':List Fr}{τ τ':Nat→AV}{H H':List A4}{C:Prop}
 {dst:Option Nat} {op:Op} {ty:TypeId} {pos:String} {aft:Array Edge} {g:Option (Nat×Bool)} {v:AV} {a b:Code} {S:BM}
theorem iH {f:FuncId}{fn:Func}{args:List AV}{R:EG→List A4→Prop}(hf:P.funcs[f]?=some fn) (h:GO P none (.code a) [] ⟨fn.ntmps,Pc args,H,[]⟩ (ki P fn R)) (hb:fn.body=some a:=by exact rfl) (he:it.ent f=true:=by exact rfl) (hn:Nat.ble args.length fn.ntmps=true:=by exact rfl):BL P f args H R:=Cb hf hb (it.hent f he) rfl hn h
theorem yA (l:List Nat) (h:go it.tab n 999999 (l.headD 0) c fs τ H l.tail True=some (.ops o k,fs',τ',H',C)) (next:AL P r o k ⟨n,τ',H',D⟩ (QF P r fs' Q)) (c1:C:=by exact JX):GO P r c fs ⟨n,τ,H,D⟩ Q:=(go_sound it.tab n _ _ h c1).2 next
theorem wC (l:List Nat) (h:go it.tab n 999999 (l.headD 0) c fs τ H l.tail True=some (.code a,fs',τ',H',C)) (next:IK P r a ⟨n,τ',H',D⟩ (QF P r fs' Q)) (c1:C:=by exact JX):GO P r c fs ⟨n,τ,H,D⟩ Q:=(go_sound it.tab n _ _ h c1).2 next
theorem wc (l:List Nat) (h:go it.tab n 999999 (l.headD 0) c fs τ H l.tail True=some (.fin,[],τ',H',C)) (next:Q .normal ⟨n,τ',H',D⟩) (c1:C:=by exact JX):GO P r c fs ⟨n,τ,H,D⟩ Q:=(go_sound it.tab n _ _ h c1).2 next
theorem v7 (l:List Nat) {i:Nat}{K:BM→Prop}{gs:List Fr}{Q':Cj→BM→Prop}(h:go it.tab n 999999 (l.headD 0) c fs τ H l.tail True=some (.ext i,[],τ',H',C)) (next:GO P r (.ext i) gs ⟨n,τ',H',D⟩ Q') (c1:C:=by exact JX):GO P r c fs ⟨n,τ,H,D⟩ (Kj K (QF P r gs Q')):=(go_sound it.tab n _ _ h c1).2 next
theorem vQ (l:List Nat) (h:go it.tab n 999999 (l.headD 0) c fs τ H l.tail True=some (.code .ret,fs',τ',H',C)) (next:Q .ret ⟨n,τ',H',D⟩) (c1:C:=by exact JX):GO P r c fs ⟨n,τ,H,D⟩ Q:=(go_sound it.tab n _ _ h c1).2 (CB (ca next fs'))
theorem kJ (l:List Nat) {x:Operand}{q:Bool}(h:go it.tab n 999999 (l.headD 0) c fs τ H l.tail True=some (.code (.cond x a b),fs',τ',H',C)) (hx:ev τ' x= .p (.bool q)) (ht:q=true→GO P r (.code a) fs' ⟨n,τ',H',D⟩ Q) (hf:q=false→GO P r (.code b) fs' ⟨n,τ',H',D⟩ Q) (c1:C:=by exact JX):GO P r c fs ⟨n,τ,H,D⟩ Q:=(go_sound it.tab n _ _ h c1).2 (BX hx ht hf)
variable {x y:Operand}{T:Nat}
theorem Wl (l:List Nat) {H'':List A4}(h:rh it.tab n (l.headD 0) c fs τ H l.tail=some (⟨dst,op,ty,pos,aft,g⟩,o,k,fs',τ',H',C)) (hop:Dm P ⟨dst,op,ty,pos,aft,g⟩ (ev τ') H' v H'')
  (next:GO P r (.ops o (k+1)) fs' ⟨n,put τ' dst v,H'',D⟩ Q) (c1:C:=by exact JX):GO P r c fs ⟨n,τ,H,D⟩ Q :=
 V7 h c1 hop (fun v' H1 hr=>by obtain⟨rfl,rfl⟩:=hr;exact next) (fun _ _ h=>h.elim)
theorem rI (l:List Nat) {cs:List AV}(h:rh it.tab n (l.headD 0) c fs τ H l.tail=some (⟨dst,op,ty,pos,aft,g⟩,o,k,fs',τ',H',C)) (hop:DL P ⟨dst,op,ty,pos,aft,g⟩ (ev τ') H' (J0 cs H'))
  (next:∀b,GO P r (.ops o (k+1)) fs' ⟨n,put τ' dst (.ptr b 0),.box b cs::H',D⟩ Q) (c1:C:=by exact JX):GO P r c fs ⟨n,τ,H,D⟩ Q :=
 V7 h c1 hop (fun v' H1 ⟨b,h1,h2⟩=>by subst h1;subst h2;exact next b) (fun _ _ h=>h.elim)
theorem vh (l:List Nat) {cs:List AV}(h:rh it.tab n (l.headD 0) c fs τ H l.tail=some (⟨dst,.box T x,ty,pos,aft,g⟩,o,k,fs',τ',H',C)) (hx:E0 (ev τ' x)=some cs)
  (next:∀b,GO P r (.ops o (k+1)) fs' ⟨n,put τ' dst (.ptr b 0),.box b cs::H',D⟩ Q) (c1:C:=by exact JX):GO P r c fs ⟨n,τ,H,D⟩ Q:=rI l h (Dk hx) next c1
theorem vD (l:List Nat) {cl:Call}{f:Operand}{fid:FuncId}{A:List AV}(h:rh it.tab n (l.headD 0) c fs τ H l.tail=some (⟨dst,.call cl,ty,pos,aft,g⟩,o,k,fs',τ',H',C)) (hf:En P fid A v)
  (next:GO P r (.ops o (k+1)) fs' ⟨n,put τ' dst v,H',D⟩ Q) (hc:cl.callee= .value f:=by exact rfl) (hq:ev τ' f= .p (.fn fid):=by exact rfl) (hA:cl.args.toList.map (ev τ')=A:=by exact rfl) (c1:C:=by exact JX):GO P r c fs ⟨n,τ,H,D⟩ Q:=Wl l h (BF hc hq hf hA) next c1
theorem vr (l:List Nat) {a:Operand}{e n1 n2 q:Nat}{rows:List (List PV)}(h:rh it.tab n (l.headD 0) c fs τ H l.tail=some (⟨dst,.call { callee:= .builtin .len,args:=#[a],argTypes:=#[T] },ty,pos,aft,g⟩,o,k,fs',τ',H',C)) (hx:ev τ' a= .p (.lst rows)) (hn:rows.length=q)
  (next:GO P r (.ops o (k+1)) fs' ⟨n,put τ' dst (.p (.int .i64 q)),H',D⟩ Q) (hT:it.el T=some (e,n1,n2):=by exact rfl) (c1:C:=by exact JX):GO P r c fs ⟨n,τ,H,D⟩ Q:=Wl l h (Ct (it.hel T _ hT) hx hn) next c1
def eW {α:Type}(rows:List (List PV)) (l:List α) (f:α→List PV) (sz:Nat):Prop:=rows=l.map f∧∀x,(f x).length=sz
theorem wm {i:Int}{j m:Nat}(h:0≤i∧i.toNat=j∧j<m:=by exact⟨by omega,by first | rfl | omega,by omega⟩):0≤i∧i.toNat=j∧j<m:=h
theorem wO (l:List Nat) {α:Type}{e n1 n2:Nat}{kk:IntKind}{i:Int}{rows:List (List PV)}{f:α→List PV}(xs:List α) (j:Nat) (h:rh it.tab n (l.headD 0) c fs τ H l.tail=some (⟨dst,.indexAddr T x y,ty,pos,aft,g⟩,o,k,fs',τ',H',C)) (hx:ev τ' x= .p (.lst rows)) (hy:ev τ' y= .p (.int kk i)) (hr:eW rows xs f n1)
  (next:∀z,xs[j]?=some z→GO P r (.ops o (k+1)) fs' ⟨n,put τ' dst (.ref (f z)),H',D⟩ Q) (hj:0≤i∧i.toNat=j∧j<xs.length:=by exact wm) (hT:it.el T=some (e,n1,n2):=by exact rfl) (c1:C:=by exact JX):GO P r c fs ⟨n,τ,H,D⟩ Q:=by
 obtain⟨h0,rfl,h2⟩:=hj;have hz:xs[i.toNat]?=some xs[i.toNat]:=List.getElem?_eq_getElem h2;exact Wl l h (A0 (it.hel T _ hT) hx hy h0 (by rw[hr.1,List.getElem?_map,hz];rfl) (hr.2 _)) (next _ hz) c1
theorem nz {a p:Prop}(h:a→p:=by first | (intro h;simp only[Go.Eu.sd,Go.Eu.se] at h;exact h) | exact fun h=>h):a→p:=h
def yF (tb:Sx P) (n:Nat) (l:List Nat) (c:cW) (fs:List Fr) (τ:Nat→AV) (H:List A4):Option (Code×Code×Bool×List Fr×(Nat→AV)×List A4×Prop) :=
 match go tb n 999999 (l.headD 0) c fs τ H l.tail True with
 | some (.code (.cond x a b),fs',τ',H',C)=>(match ev τ' x with | .p (.bool q)=>some (a,b,q,fs',τ',H',C) | _=>none)
 | _=>none
theorem uz (l:List Nat) {q:Bool}{p p':Prop}(h:yF it.tab n l c fs τ H=some (a,b,q,fs',τ',H',C)) (ht:p→GO P r (.code a) fs' ⟨n,τ',H',D⟩ Q) (hf:p'→GO P r (.code b) fs' ⟨n,τ',H',D⟩ Q)
  (e1:q=true→p:=by exact nz) (e2:q=false→p':=by exact nz) (c1:C:=by exact JX):GO P r c fs ⟨n,τ,H,D⟩ Q:=by
 unfold yF at h;split at h
 ·rename_i x a1 b1 fs1 τ1 H1 C1 hg;split at h
  ·rename_i q1 hx;simp only[Option.some.injEq,Prod.mk.injEq] at h;obtain⟨rfl,rfl,rfl,rfl,rfl,rfl,rfl⟩:=h;exact kJ l hg hx (fun e=>ht (e1 e)) (fun e=>hf (e2 e)) c1
  cases h
 cases h
theorem rt (is hs:List Nat) {fn:Func}{R:EG→List A4→Prop}{vs:List AV}{H1:List A4}(h:Yl it.tab τ H fn.results.toList is=some (vs,C)) (hH:nW hs.length (N9 hs 0 H)=some H1) (e:R (.val (pack vs)) H1) (c1:C:=by exact JX):ki P fn R .ret ⟨n,τ,H,[]⟩ :=
 ⟨rfl,vs,H1,MJ it.tab (S:=⟨n,τ,H,[]⟩) _ is h c1,HB (UN hH).symm,e⟩
theorem uC (l:List Nat) (d:Nat) {q:Bool}{p p':Prop}(h:go it.tab n 999999 (l.headD 0) c fs τ H l.tail True=some (.ops o k,fs',τ',H',C)) (hb:τ' d= .p (.bool q)) (ht:p→GO P r (.ops o k) fs' ⟨n,put τ' (some d) (.p (.bool true)),H',D⟩ Q) (hf:p'→GO P r (.ops o k) fs' ⟨n,put τ' (some d) (.p (.bool false)),H',D⟩ Q)
  (e1:q=true→p:=by exact nz) (e2:q=false→p':=by exact nz) (c1:C:=by exact JX):GO P r c fs ⟨n,τ,H,D⟩ Q:=(go_sound it.tab n _ _ h c1).2 (D6 (Q:=QF P r fs' Q) d hb (fun e=>ht (e1 e)) (fun e=>hf (e2 e)))
def iq:List A4→List (Nat×A4)→List A4
 | H,[]=>H
 | H,(i,o)::g=>iq (H.set i o) g
def MQ (n:Nat) (D:List D4) (H0:List A4) (R:AV→Prop) (d:Nat) (τ0:Nat→AV) (live:List Nat) (S:BM):Prop:=S.n=n∧S.D=D∧H0.Sublist S.H∧R (S.τ d)∧jv S.τ τ0 live
def WQ {α:Type}(n:Nat) (D:List D4) (kl:List (Nat×AV)) (f:α→List (Nat×AV)) (Hk:List A4) (g:α→List (Nat×A4)) (μ:α→Nat) (C0:α→Prop) (a1:α) (S:BM):Prop:=∃a2,μ a2<μ a1∧C0 a2∧Le S ⟨n,mk (kl++f a2),iq Hk (g a2),D⟩
theorem yU {p:Prop}(h:p:=by first | rfl | (refine pB ?_;simp_all;done) | (refine pB ?_;simp_all<;>(intros;omega))):p:=h
theorem xm {p:Prop}(h:p:=by first | exact List.Sublist.refl _ | exact List.sublist_cons_self _ _):p:=h
theorem wM {p:Prop}(h:p:=by repeat' first | exact trivial | exact rfl | refine And.intro ?_ ?_):p:=h
theorem xw (l:List Nat) {H0:List A4}{R:AV→Prop}{d:Nat}{τ0:Nat→AV}{live:List Nat}(h:go it.tab n 999999 (l.headD 0) c fs τ H l.tail True=some (.fin,[],τ',H',C))
  (hr:R (τ' d):=by exact yU) (hs:H0.Sublist H':=by exact xm) (hl:jv τ' τ0 live:=by exact wM) (c1:C:=by exact JX):GO P r c fs ⟨n,τ,H,D⟩ (Kj (MQ n D H0 R d τ0 live) Q):=(go_sound it.tab n _ _ h c1).2 ⟨rfl,rfl,hs,hr,hl⟩
def Sm (τ:Nat→AV):List Nat→Option (List (Nat×AV))
 | []=>some []
 | t::r=>match uh (τ t) with
  | some v=>(match Sm τ r with | some l=>some ((t,v)::l) | none=>none)
  | none=>none
theorem UD:∀{l:List Nat}{kl:List (Nat×AV)},Sm τ l=some kl→kl=l.map fun t=>(t,τ t)
 | [],kl,h=>by simpa [Sm] using h.symm
 | t::l,kl,h=>by
  unfold Sm at h;split at h
  ·rename_i v hv;split at h
   ·rename_i kl1 h1;injection h with h;rw[←h,UD h1,←Xe hv];rfl
   cases h
  cases h
theorem ko (l:List Nat) (st:Nat) (live:List Nat) (d:Nat) (R:AV→Prop) {kl:List (Nat×AV)}(h:go it.tab n st (l.headD 0) c fs τ H l.tail True=some (.code a,fs',τ',H',C)) (hk:Sm τ' live=some kl)
  (h1:GO P r (.code a) [] ⟨n,τ',H',D⟩ (Kj (MQ n D H' R d τ' live) (QF P r fs' Q))) (next:∀x,R x→GO P r .fin fs' ⟨n,mk ((d,x)::kl),H',D⟩ Q) (c1:C:=by exact JX):GO P r c fs ⟨n,τ,H,D⟩ Q:=by
 have e:=UD hk;subst e;exact(go_sound it.tab n _ _ h c1).2 (Gq live d R h1 next)
theorem oZ (l:List Nat) (st:Nat) (live:List Nat) (d:Nat) (q:Bool) {kl:List (Nat×AV)}(h:go it.tab n st (l.headD 0) c fs τ H l.tail True=some (.code a,fs',τ',H',C)) (hk:Sm τ' live=some kl)
  (h1:GO P r (.code a) [] ⟨n,τ',H',D⟩ (Kj (MQ n D H' (fun y=>y= .p (.bool q)) d τ' live) (QF P r fs' Q))) (next:GO P r .fin fs' ⟨n,mk ((d,.p (.bool q))::kl),H',D⟩ Q) (c1:C:=by exact JX):GO P r c fs ⟨n,τ,H,D⟩ Q :=
 ko l st live d (fun y=>y= .p (.bool q)) h hk h1 (fun x e=>by subst e;exact next) c1
theorem xy {p:Prop}(h:p:=by repeat' first | exact trivial | exact we rfl | exact O8 _ | refine And.intro ?_ ?_):p:=h
theorem yI {p:Prop}(h:p:=by repeat' first | exact rfl | refine⟨_,_,rfl,oe rfl,?_⟩):p:=h
theorem M8:∀{l l':List (Nat×AV)},I7 τ l→I7 τ l'→I7 τ (l++l')
 | [],_,_,h=>h
 | _::_,_,h,h'=>⟨h.1,M8 h.2 h'⟩
theorem PS:∀(l:List Nat),I7 τ (l.map fun t=>(t,τ t))
 | []=>trivial
 | _::l=>⟨we rfl,PS l⟩
theorem sF {H1 M:List A4}(k:Nat) (h:F3 (H1.drop k) M):nw H1 M:=⟨_,List.drop_sublist k H1,h⟩
theorem w8 {α:Type}(l:List Nat) (L:List Nat) (is:List Nat) (f:α→List (Nat×AV)) (g:α→List (Nat×A4)) (μ:α→Nat) (C0:α→Prop) (a0:α) {kl:List (Nat×AV)}{Hk:List A4}(h:go it.tab n 999999 (l.headD 0) c fs τ H l.tail True=some (.code (.loop a),fs',τ',H',C))
  (hk:Sm τ' L=some kl) (hH:nW is.length (N9 is 0 H')=some Hk) (hC:C0 a0)
  (round:∀a1,C0 a1→GO P r (.code a) [] ⟨n,mk (kl++f a1),iq Hk (g a1),D⟩ (Kj (WQ n D kl f Hk g μ C0 a1) (QF P r fs' Q)))
  (e0:I7 τ' (f a0):=by exact xy) (e1:F3 Hk (iq Hk (g a0)):=by exact yI) (c1:C:=by exact JX):GO P r c fs ⟨n,τ,H,D⟩ Q:=by
 refine(go_sound it.tab n _ _ h c1).2 (Er (fun a1=>⟨n,mk (kl++f a1),iq Hk (g a1),D⟩) μ C0 a0 hC ?_ round);have e:=UD hk;subst e;exact Ec (M8 (PS L) e0) ⟨Hk,HB (UN hH).symm,e1⟩
theorem xW {α:Type}(l:List Nat) (k:Nat) {kl:List (Nat×AV)}{f:α→List (Nat×AV)}{g:α→List (Nat×A4)}{Hk:List A4}{μ:α→Nat}{C0:α→Prop}{a1:α}(a2:α) (h:go it.tab n 999999 (l.headD 0) c fs τ H l.tail True=some (.fin,[],τ',H',C))
  (hC:C0 a2) (hμ:μ a2<μ a1:=by first | omega | (simp only;omega)) (e1:I7 τ' (f a2):=by exact xy) (e2:F3 (H'.drop k) (iq Hk (g a2)):=by exact yI) (e0:I7 τ' kl:=by exact xy) (c1:C:=by exact JX) :
  GO P r c fs ⟨n,τ,H,D⟩ (Kj (WQ n D kl f Hk g μ C0 a1) Q) :=
 (go_sound it.tab n _ _ h c1).2 ⟨a2,hμ,hC,Ec (M8 e0 e1) (sF k e2)⟩
end
end Go.Abs
namespace Go.Abs
open Go.Eu
theorem H5 {α:Type}{l:List α}{f:α→List PV}{sz:Nat}(h:∀x,(f x).length=sz):eW (l.map f) l f sz:=⟨rfl,h⟩
theorem IH (l:List Tm):eW (A6 l) l BD 5:=⟨EY l,A7⟩
theorem tX (l:List G3):eW (MU l) l HY 10:=⟨K7 l,EX⟩
end Go.Abs
namespace Go.Abs
section
variable {P:Program} [it:TabOf P] {r:Option Nat}{n k:Nat}{ops:Array Oper}{D:List D4}{Q:Cj→BM→Prop}{c:cW}{fs fs':List Fr}{τ τ' τ₀:Nat→AV}{H H':List A4}{C:Prop}
theorem xd (l op:List Nat) {id:Nat}(h:go it.tab n 999999 (l.headD 0) c fs τ H l.tail True=some (.code (.region id ops true),fs',τ',H',C)) (next:Dr P ops n τ' D (QF P r fs' Q) (fun k=>op.any (Nat.beq k)) 0 τ' H' [] [] [] []) (c1:C:=by exact JX):GO P r c fs ⟨n,τ,H,D⟩ Q:=(go_sound it.tab n _ _ h c1).2 (Hg _ it.mx next)
variable {opn:Nat→Bool}{rd rd':ZW}{ef ef':Yy}{effs effs':List Bool}{fx:List (Nat×Sp)}
theorem rG (l:List Nat) (h:MV it.tab ops opn fx (l.headD 0) k τ H rd ef effs l.tail True=some (τ',H',rd',ef',effs',C)) (next:Dr P ops n τ₀ D Q opn (k+l.headD 0) τ' H' rd' ef' effs' fx) (c1:C:=by exact eh):Dr P ops n τ₀ D Q opn k τ H rd ef effs fx:=(Lf it.tab _ k h c1).2 next
theorem vw (l:List Nat) (h:MV it.tab ops opn fx (l.headD 0) k τ H rd ef effs l.tail True=some (τ',H',rd',ef',effs',C)) (next:GO P r .fin fs ⟨n,τ',H',D⟩ Q) (hk:k+l.headD 0=ops.size:=by exact rfl) (chk:Me ops n effs'.reverse=true:=by kernel_rfl) (c1:C:=by exact eh):Dr P ops n τ₀ D (QF P r fs Q) opn k τ H rd ef effs fx:=rG l h (HC hk chk next) c1
end
end Go.Abs
namespace Go.Proofs.YtldfmjoncbjldaaGreat
open Go.Abs
def yW:List (Nat×Bool×Nat):=[(26,true,5),(3,false,1),(24,false,1),(116,true,2),(134,true,23),(9,false,1),(114,false,1),(23,false,1),(126,true,9),(142,true,8),(132,false,1),(129,false,1),(177,true,2),(140,false,1),(4,false,1),(29,false,1),(91,false,1),(22,false,1),(244,true,25),(299,false,1),(105,false,1),(150,false,1),(144,true,15),(240,true,10),(233,false,1),(253,false,1),(88,false,1),(94,false,1),(153,false,1),(154,false,1),(60,false,1),(77,false,1),(107,true,9),(200,true,2),(160,true,1),(261,true,2),(230,true,65),(205,true,6),(54,true,0),(158,false,1),(56,false,1),(178,true,0),(124,false,1),(227,false,1),(221,false,1)]
def yV:List (Nat×List (Nat×Nat)):=[(26,[(0,1),(1,1),(2,1),(3,1),(4,1)]),(134,[(0,1),(1,1),(2,1),(3,5),(8,5),(13,1),(14,1),(15,7),(22,1)]),(116,[(0,1),(1,1)]),(142,[(0,1),(1,5),(6,1),(7,1)]),(126,[(0,1),(1,1),(2,1),(3,1),(4,5)]),(177,[(0,1),(1,1)]),(144,[(0,1),(1,5),(6,1),(7,8)]),(131,[(0,1),(1,5),(6,1)]),(67,[(0,1),(1,1),(2,1),(3,1),(4,1)]),(240,[(0,1),(1,1),(2,8)]),(109,[(0,9),(9,1)]),(82,[(0,1),(1,1)]),(107,[(0,1),(1,1),(2,5),(7,1),(8,1)]),(205,[(0,1),(1,5)]),(229,[(0,1),(1,1),(2,1),(3,1),(4,1)]),(58,[(0,1),(1,1),(2,1)]),(244,[(0,1),(1,1),(2,23)]),(102,[(0,1),(1,1),(2,1)]),(255,[(0,1),(1,1)]),(171,[(0,5),(5,1),(6,1)]),(181,[(0,1),(1,1)]),(200,[(0,1),(1,1)]),(261,[(0,1),(1,1)]),(99,[(0,1),(1,1)]),(97,[(0,1),(1,1)]),(156,[(0,1)]),(160,[(0,1)]),(54,[]),(178,[])]
def yZ:List (Nat×List AV):=[(26,[.p (.int .i64 0),.p (.int .i64 0),.p (.str ⟨#[]⟩),.p .nils,.p .nils]),(116,[.p (.int .i64 0),.p .nils]),(229,[.p (.bool false),.p (.bool false),.p (.int .i64 0),.p (.int .i64 0),.p (.int .i64 0)]),(134,[.p (.int .i64 0),.p (.str ⟨#[]⟩),.p (.int .i64 0),.p (.int .i64 0),.p (.int .i64 0),.p (.str ⟨#[]⟩),.p .nils,.p .nils,.p (.int .i64 0),.p (.int .i64 0),.p (.str ⟨#[]⟩),.p .nils,.p .nils,.p (.int .i64 0),.p .nils,.p (.int .i64 0),.p (.int .i64 0),.p (.int .i64 0),.p (.str ⟨#[]⟩),.p .nils,.p .nils,.p .nils,.p .nils]),(126,[.p (.int .i64 0),.p (.int .i64 0),.p (.int .i64 0),.p (.int .i64 0),.p (.int .i64 0),.p (.int .i64 0),.p (.str ⟨#[]⟩),.p .nils,.p .nils]),(109,[.p (.int .i64 0),.p (.int .i64 0),.p (.int .i64 0),.p (.int .i64 0),.p (.str ⟨#[]⟩),.p .nils,.p .nils,.p .nils,.p .nilFn,.p .nils]),(107,[.p (.int .i64 0),.p (.int .i64 0),.p (.int .i64 0),.p (.int .i64 0),.p (.str ⟨#[]⟩),.p .nils,.p .nils,.p .nils,.p .nilFn]),(177,[.p (.int .i64 0),.p (.int .i64 0)]),(82,[.p (.int .i64 0),.p (.int .i64 0)]),(99,[.nilp,.nilp]),(160,[.p .nilFn]),(54,[]),(142,[.p (.int .i64 0),.p (.int .i64 0),.p (.int .i64 0),.p (.str ⟨#[]⟩),.p .nils,.p .nils,.p (.int .i64 0),.p .nils]),(171,[.p (.int .i64 0),.p (.int .i64 0),.p (.str ⟨#[]⟩),.p .nils,.p .nils,.nilp,.p .nilIface]),(200,[.p (.int .i64 0),.p .nils]),(178,[]),(261,[.p (.int .i64 0),.p .nils]),(58,[.p .nils,.p (.int .i64 0),.p (.int .i64 0)]),(97,[.nilp,.p .nilFn]),(102,[.nilp,.nilp,.nilp]),(67,[.p (.int .i64 0),.p (.int .i64 0),.p (.int .i64 0),.p (.int .i64 0),.p (.bool false)]),(156,[.p (.int .i64 0)]),(181,[.p .nils,.p (.int .i64 0)]),(244,[.p .nils,.p .nils,.p (.int .i64 0),.p (.str ⟨#[]⟩),.p (.int .i64 0),.p (.int .i64 0),.p (.int .i64 0),.p (.str ⟨#[]⟩),.p .nils,.p .nils,.p (.int .i64 0),.p (.int .i64 0),.p (.str ⟨#[]⟩),.p .nils,.p .nils,.p (.int .i64 0),.p .nils,.p (.int .i64 0),.p (.int .i64 0),.p (.int .i64 0),.p (.str ⟨#[]⟩),.p .nils,.p .nils,.p .nils,.p .nils]),(255,[.p .any,.p (.int .i64 0)])]
theorem yh : Xt (EH Tryz.prog) yW := And.intro Ap <| And.intro Ap <| And.intro Ap <| And.intro Ap <| And.intro Ap <| And.intro Ap <| And.intro Ap <| And.intro Ap <| And.intro Ap <| And.intro Ap <| And.intro Ap <| And.intro Ap <| And.intro Ap <| And.intro Ap <| And.intro Ap <| And.intro Ap <| And.intro Ap <| And.intro Ap <| And.intro Ap <| And.intro Ap <| And.intro Ap <| And.intro Ap <| And.intro Ap <| And.intro Ap <| And.intro Ap <| And.intro Ap <| And.intro Ap <| And.intro Ap <| And.intro Ap <| And.intro Ap <| And.intro Ap <| And.intro Ap <| And.intro Ap <| And.intro Ap <| And.intro Ap <| And.intro Ap <| And.intro Ap <| And.intro Ap <| And.intro Ap <| And.intro Ap <| And.intro Ap <| And.intro Ap <| And.intro Ap <| And.intro Ap <| And.intro Ap <| trivial
theorem yN : Xt (fieldsOf Tryz.prog) yV := And.intro Ap <| And.intro Ap <| And.intro Ap <| And.intro Ap <| And.intro Ap <| And.intro Ap <| And.intro Ap <| And.intro Ap <| And.intro Ap <| And.intro Ap <| And.intro Ap <| And.intro Ap <| And.intro Ap <| And.intro Ap <| And.intro Ap <| And.intro Ap <| And.intro Ap <| And.intro Ap <| And.intro Ap <| And.intro Ap <| And.intro Ap <| And.intro Ap <| And.intro Ap <| And.intro Ap <| And.intro Ap <| And.intro Ap <| And.intro Ap <| And.intro Ap <| And.intro Ap <| trivial
theorem yc : Xt (Wn Tryz.prog) yZ := And.intro Ap <| And.intro Ap <| And.intro Ap <| And.intro Ap <| And.intro Ap <| And.intro Ap <| And.intro Ap <| And.intro Ap <| And.intro Ap <| And.intro Ap <| And.intro Ap <| And.intro Ap <| And.intro Ap <| And.intro Ap <| And.intro Ap <| And.intro Ap <| And.intro Ap <| And.intro Ap <| And.intro Ap <| And.intro Ap <| And.intro Ap <| And.intro Ap <| And.intro Ap <| And.intro Ap <| And.intro Ap <| trivial
def yB:List (Nat×Nat×Nat×Nat):=[(22,134,23,360),(23,116,2,32),(24,26,5,80),(105,91,1,8),(114,177,2,16),(122,24,1,24),(129,205,6,96),(132,144,15,224),(140,240,10,144),(150,3,1,8),(198,200,2,32),(233,9,1,16),(259,261,2,32),(331,105,1,24)]
theorem ye : Xt (E1 Tryz.prog) yB := And.intro Ap <| And.intro Ap <| And.intro Ap <| And.intro Ap <| And.intro Ap <| And.intro Ap <| And.intro Ap <| And.intro Ap <| And.intro Ap <| And.intro Ap <| And.intro Ap <| And.intro Ap <| And.intro Ap <| And.intro Ap <| trivial
def yJ:List Nat:=[2,3,4,5,6,7,8,9,10,11,12,13,14,15,16,17,18,19,20,21,22,23,24,25,26,27,28,29,30,31,32,33,34,35,36,37,38,39,40,41,42,43,44,45,46,47,48,49,50,51,52,53,54,55,56,57,58,59,60,61,62,63,64,65,66,67,68,69,70,71,72,73,74,75,76,77,78,79,80,81,82,83,84,85,86,87,88,89,90,91,92,93,94,95,96,97,98,99,100,101,102,103,104,105,106,107,108,109,110,111,112,113,114,115,116,117,118,119,120,121,122,123,124,125,126,127,128,129,130,131,132,133,134,135,136,137,138,139,140,141,142,143,144,145,146,147,148,149,150,151,152,153,154,155,156,157,158,159,160,161,162,163,164,165,166,167,168,169,170,171,172,173,174,175,176,177,178,179,180,181,182,183,184,185,186,187,188,189,190,191,192,193,194,195,196,197,198,199,200,201,202,203,204,205,206,207,208,209,210,211,212,213,214,215,216,217,218,219,220,221,222,223,224,225,226,227,228,229,230,231,232,248,249,250,251,252,253,254,255,256,257,258,259,260,261,262,263,264]
theorem yO : yJ.all (Ck Tryz.prog) = true := by kernel_rfl
def tab:Sx Tryz.prog:=vA yN yh yc
instance tabOf:TabOf Tryz.prog:=⟨tab,Go.Abs.look yB,fun _ _ h=>Go.Abs.look_of ye h,fun f=>yJ.any (Nat.beq f),tH yO,by kernel_rfl⟩
abbrev DS:= @yA Tryz.prog tabOf
abbrev CK:= @wC Tryz.prog tabOf
abbrev Ks:= @wc Tryz.prog tabOf
abbrev DF:= @v7 Tryz.prog tabOf
abbrev A9:= @vQ Tryz.prog tabOf
abbrev ID:= @kJ Tryz.prog tabOf
abbrev A2:= @Wl Tryz.prog tabOf
abbrev Bp:= @rI Tryz.prog tabOf
abbrev CG:= @vh Tryz.prog tabOf
abbrev CQ:= @vD Tryz.prog tabOf
abbrev CA:= @vr Tryz.prog tabOf
abbrev D7:= @wO Tryz.prog tabOf
abbrev BC:= @uz Tryz.prog tabOf
abbrev Bc:= @uC Tryz.prog tabOf
abbrev CT:= @xw Tryz.prog tabOf
abbrev Fo:= @ko Tryz.prog tabOf
abbrev CI:= @oZ Tryz.prog tabOf
abbrev GG:= @w8 Tryz.prog tabOf
abbrev FR:= @xW Tryz.prog tabOf
abbrev E2:= @xd Tryz.prog tabOf
abbrev Bb:= @rG Tryz.prog tabOf
abbrev Dj:= @vw Tryz.prog tabOf
abbrev Bg:= @rt Tryz.prog tabOf
abbrev DI:= @iH Tryz.prog tabOf
end Go.Proofs.YtldfmjoncbjldaaGreat
namespace Go.Proofs.YtldfmjoncbjldaaGreat
open Go.Abs Go.Eu
theorem _root_.Go.AA {α:Prop}(h:α:=by first | exact List.Sublist.refl _ | exact .cons _ (.refl _) | exact .cons _ (.cons _ (.refl _)) | exact .cons _ (.cons _ (.cons _ (.refl _))) | exact .cons _ (.cons _ (.cons _ (.cons _ (.refl _))))):α:=h
theorem _root_.Go.Ar {α:Prop}(h:α:=by simp_all):α:=h
theorem _root_.Go.AQ {α:Prop}(h:α:=by first | exact List.Sublist.refl _ | exact List.sublist_cons_self _ _):α:=h
theorem qv : ∀ (a b : CX), a.vars.length < Db → En Tryz.prog 64 [LV a, LV b] (.p (.bool (ML a b))) := by
 intro a b hb
 obtain ⟨ac, av⟩ := a
 obtain ⟨bc, bv⟩ := b
 simp only [Db] at hb
 refine Cb Tryz.func64 O xJ (n := 38) O O ?_
 refine BQ ?_
 refine C8 O (Dk O) fun b2 => ?_
 refine C8 O (Dk O) fun b3 => ?_
 refine BK tab 1 [] O ?_
 refine BR ?_
 refine BR ?_
 refine Gq [0, 1, 2, 3, 4, 5] 19 (fun y => y = .p (.bool (ac != bc || (av.length : Int) != bv.length))) ?_ ?_
 ·refine Be ?_
  refine BT tab 6 [1, 0] O ?_
  refine D6 11 O (fun g1 => ?_) (fun g1 => ?_)
  ·(try simp only [sd] at g1)
   refine BK tab 8 [] O ?_
   exact ⟨O, O, AQ, pB Ar, ⟨O, O, O, O, O, O, Aw⟩⟩
  (try simp only [sd] at g1)
  refine BT tab 2 [1] O ?_
  refine DW O (Dv DC O) ?_
  refine BT tab 2 [0] O ?_
  refine DW O (Dv DC O) ?_
  refine BK tab 2 [] O ?_
  exact ⟨O, O, AQ, pB Ar, ⟨O, O, O, O, O, O, Aw⟩⟩
 rintro _ rfl
 refine BX O (fun c2 => ?_) (fun c2 => ?_)
 ·(try simp only [sd] at c2)
  refine BZ tab 1 [] O ?_
  refine CB ?_
  refine ⟨O, _, [], Dx O, List.nil_sublist _, ?_⟩
  exact ⟨pB (FL (fun h => by simp at h; simp [h] at *)).symm, rfl⟩
 (try simp only [sd] at c2)
 have h1 : ac = bc ∧ av.length = bv.length := by simp at c2; omega
 refine Bn ?_
 refine BR ?_
 refine BZ tab 1 [] O ?_
 refine B3 ?_
 refine Tv (av.length) (fun i => agree av bv i) (fun i => ⟨38, mk [(2, .ptr b2 0), (3, .ptr b3 0), (5, .p (I i))], [.box b3 ((B4 ⟨bc, bv⟩).map .p), .box b2 ((B4 ⟨ac, av⟩).map .p)], []⟩) (0) Au (OI _ _) ?_ ?_
 ·exact G5 ⟨O, O, O, Aw⟩ AA
 intro i hi hC
 refine BR ?_
 refine BQ ?_
 refine BT tab 3 [1] O ?_
 refine BA O (Dv DC O) ?_
 refine BK tab 1 [] O ?_
 refine BX O (fun c3 => ?_) (fun c3 => ?_)
 ·(try simp only [sd] at c3)
  have hi2 : i < av.length := by simp at c3; omega
  obtain ⟨x, hx⟩ := A1 hi2
  obtain ⟨y, hy⟩ := A1 (l := bv) (i := i) Au
  refine Bn ?_
  refine BR ?_
  refine B3 ?_
  refine BR ?_
  refine Hg (fun k => false) Ot ?_
  refine DO tab 3 [1] O ?_
  refine A3 O (fun _ => A0 DC O O Au (DT hx) (O)) Aw ?_
  refine DO tab 4 [0] O ?_
  refine A3 O (fun _ => A0 DC O O Au (DT hy) (O)) Aw ?_
  refine A3 O (fun _ => Bk rS O (O)) Aw ?_
  refine A3 O (fun _ => VM r9 O O) Aw ?_
  refine HC O Ap ?_
  refine BX O (fun c4 => ?_) (fun c4 => ?_)
  ·(try simp only [sd] at c4)
   refine BZ tab 1 [] O ?_
   refine CB ?_
   refine ⟨O, _, [], Dx O, List.nil_sublist _, ?_⟩
   exact ⟨pB (FL (fun h => by simp at h; obtain ⟨_, rfl⟩ := h; rw [hx] at hy; injection hy with hy; subst hy; simp_all)).symm, rfl⟩
  (try simp only [sd] at c4)
  have hxy : x = y := by obtain ⟨x1, x2⟩ := x; obtain ⟨y1, y2⟩ := y; simp at c4; simp [c4]
  subst hxy
  refine Bn ?_
  refine Be ?_
  refine BK tab 3 [] O ?_
  exact ⟨by omega, Oc hC hx hy, G5 ⟨rfl, rfl, rfl, trivial⟩ AA⟩
 (try simp only [sd] at c3)
 have hi2 : i = av.length := by simp at c3; omega
 refine EN ?_
 refine BZ tab 1 [] O ?_
 refine CB ?_
 refine ⟨O, _, [], Dx O, List.nil_sublist _, ?_⟩
 exact ⟨pB (FP (by rw [h1.1, Qj hC Au Au])).symm, O⟩
theorem PB : ∀ (a b : List CX), a.length < Db → (∀ l ∈ a, OA l) → En Tryz.prog 36 [w6 a, w6 b] (.p (.bool (ML a b))) := by
 intro a b hb hn
 simp only [Db] at hb
 refine Cb Tryz.func36 O xY (n := 27) O O ?_
 refine BZ tab 1 [] O ?_
 refine BR ?_
 refine BQ ?_
 refine D3 O ?_
 refine BA O (Dv KX O) ?_
 refine D3 O ?_
 refine BA O (Dv KX O) ?_
 refine BK tab 1 [] O ?_
 refine BX O (fun c1 => ?_) (fun c1 => ?_)
 ·(try simp only [sd] at c1)
  refine BZ tab 1 [] O ?_
  refine CB ?_
  refine ⟨O, _, [], Dx O, List.nil_sublist _, ?_⟩
  exact ⟨pB (FL (fun h => by subst h; simp at *)).symm, rfl⟩
 (try simp only [sd] at c1)
 have h1 : a.length = b.length := by simp at c1; omega
 refine Bn ?_
 refine BR ?_
 refine BZ tab 1 [] O ?_
 refine B3 ?_
 refine Tv (a.length) (fun i => agree a b i) (fun i => ⟨27, mk [(0, w6 a), (1, w6 b), (5, .p (I i))], [], []⟩) (0) Au (OI _ _) ?_ ?_
 ·exact G5 ⟨O, O, O, Aw⟩ AA
 intro i hi hC
 refine BR ?_
 refine BQ ?_
 refine BT tab 2 [] O ?_
 refine BA O (Dv KX O) ?_
 refine BK tab 1 [] O ?_
 refine BX O (fun c2 => ?_) (fun c2 => ?_)
 ·(try simp only [sd] at c2)
  have hi2 : i < a.length := by simp at c2; omega
  obtain ⟨x, hx⟩ := A1 hi2
  obtain ⟨y, hy⟩ := A1 (l := b) (i := i) Au
  refine Bn ?_
  refine BR ?_
  refine B3 ?_
  refine BR ?_
  refine Hg (fun k => false) Ot ?_
  refine DO tab 2 [] O ?_
  refine A3 O (fun _ => A0 KX O O Au (Pa hx) (E3 _)) Aw ?_
  refine DO tab 3 [] O ?_
  refine A3 O (fun _ => A0 KX O O Au (Pa hy) (E3 _)) Aw ?_
  refine A3 O (fun _ => Bk re O (E3 _)) Aw ?_
  refine A3 O (fun _ => BF O O (qv x y (hn x (List.mem_of_getElem? hx)).vars) O) Aw ?_
  refine CY tab 1 [] O ?_
  refine BX O (fun c3 => ?_) (fun c3 => ?_)
  ·(try simp only [sd] at c3)
   refine BZ tab 1 [] O ?_
   refine CB ?_
   refine ⟨O, _, [], Dx O, List.nil_sublist _, ?_⟩
   exact ⟨pB (FL (fun h => by subst h; rw [hx] at hy; injection hy with hy; subst hy; simp [FP] at *)).symm, rfl⟩
  (try simp only [sd] at c3)
  have hxy : x = y := GY.1 (by simpa using c3)
  subst hxy
  refine Bn ?_
  refine Be ?_
  refine BK tab 3 [] O ?_
  exact ⟨by omega, Oc hC hx hy, G5 ⟨rfl, rfl, rfl, trivial⟩ AA⟩
 (try simp only [sd] at c2)
 have hi2 : i = a.length := by simp at c2; omega
 refine EN ?_
 refine BZ tab 1 [] O ?_
 refine CB ?_
 refine ⟨O, _, [], Dx O, List.nil_sublist _, ?_⟩
 exact ⟨pB (FP (Qj hC Au Au)).symm, O⟩
theorem XS : ∀ (n : Nat) (a b : Tm), size a ≤ n → Nd a → En Tryz.prog 14 [TV a, TV b] (.p (.bool (ML a b))) := by
 intro n
 induction n with
 | zero => intro a b h; cases a; simp [size] at h
 | succ n ih =>
  intro a b hs hnd
  obtain ⟨ak, ai, an, al, aks⟩ := a
  obtain ⟨bk, bi, bn, bl, bks⟩ := b
  simp only [size] at hs
  simp only [Nd, Db] at hnd
  obtain ⟨hn1, hn2, hn3, hn4, hn5, hn6⟩ := hnd
  refine Cb Tryz.func14 O xx (n := 61) O O ?_
  refine BQ ?_
  refine C8 O (Dk O) fun b2 => ?_
  refine C8 O (Dk O) fun b3 => ?_
  refine BK tab 1 [] O ?_
  refine BR ?_
  refine BR ?_
  refine Gq [0, 1, 2, 3, 4, 5] 41 (fun y => y = .p (.bool (ak != bk || ai != bi || !(an.toList == bn.toList) || !(ML al bl) || (((A6 aks).length : Int) != (A6 bks).length)))) ?_ ?_
  ·refine Be ?_
   refine BT tab 6 [1, 0] O ?_
   refine D6 11 O (fun g1 => ?_) (fun g1 => ?_)
   ·(try simp only [sd] at g1)
    refine BT tab 7 [] O ?_
    refine D6 18 O (fun g2 => ?_) (fun g2 => ?_)
    ·(try simp only [sd] at g2)
     refine BT tab 7 [] O ?_
     refine D6 25 O (fun g3 => ?_) (fun g3 => ?_)
     ·(try simp only [sd] at g3)
      refine BT tab 8 [] O ?_
      refine D6 33 O (fun g4 => ?_) (fun g4 => ?_)
      ·(try simp only [sd] at g4)
       refine BK tab 8 [] O ?_
       exact ⟨O, O, AQ, pB Ar, ⟨O, O, O, O, O, O, Aw⟩⟩
      (try simp only [sd] at g4)
      refine BT tab 2 [1] O ?_
      refine DW O (Dv BS O) ?_
      refine BT tab 2 [0] O ?_
      refine DW O (Dv BS O) ?_
      refine BK tab 2 [] O ?_
      exact ⟨O, O, AQ, pB Ar, ⟨O, O, O, O, O, O, Aw⟩⟩
     (try simp only [sd] at g3)
     refine BT tab 4 [1, 0] O ?_
     refine DW O (BF O O (PB al bl hn2 hn3) O) ?_
     refine BT tab 3 [] O ?_
     refine D6 33 O (fun g5 => ?_) (fun g5 => ?_)
     ·(try simp only [sd] at g5)
      refine BK tab 8 [] O ?_
      exact ⟨O, O, AQ, pB Ar, ⟨O, O, O, O, O, O, Aw⟩⟩
     (try simp only [sd] at g5)
     refine BT tab 2 [1] O ?_
     refine DW O (Dv BS O) ?_
     refine BT tab 2 [0] O ?_
     refine DW O (Dv BS O) ?_
     refine BK tab 2 [] O ?_
     exact ⟨O, O, AQ, pB Ar, ⟨O, O, O, O, O, O, Aw⟩⟩
    (try simp only [sd] at g2)
    refine BT tab 4 [1, 0] O ?_
    refine DW O (Js O O) ?_
    refine BT tab 2 [] O ?_
    refine D6 25 O (fun g6 => ?_) (fun g6 => ?_)
    ·(try simp only [sd] at g6)
     refine BT tab 8 [] O ?_
     refine D6 33 O (fun g7 => ?_) (fun g7 => ?_)
     ·(try simp only [sd] at g7)
      refine BK tab 8 [] O ?_
      exact ⟨O, O, AQ, pB Ar, ⟨O, O, O, O, O, O, Aw⟩⟩
     (try simp only [sd] at g7)
     refine BT tab 2 [1] O ?_
     refine DW O (Dv BS O) ?_
     refine BT tab 2 [0] O ?_
     refine DW O (Dv BS O) ?_
     refine BK tab 2 [] O ?_
     exact ⟨O, O, AQ, pB Ar, ⟨O, O, O, O, O, O, Aw⟩⟩
    (try simp only [sd] at g6)
    refine BT tab 4 [1, 0] O ?_
    refine DW O (BF O O (PB al bl hn2 hn3) O) ?_
    refine BT tab 3 [] O ?_
    refine D6 33 O (fun g8 => ?_) (fun g8 => ?_)
    ·(try simp only [sd] at g8)
     refine BK tab 8 [] O ?_
     exact ⟨O, O, AQ, pB Ar, ⟨O, O, O, O, O, O, Aw⟩⟩
    (try simp only [sd] at g8)
    refine BT tab 2 [1] O ?_
    refine DW O (Dv BS O) ?_
    refine BT tab 2 [0] O ?_
    refine DW O (Dv BS O) ?_
    refine BK tab 2 [] O ?_
    exact ⟨O, O, AQ, pB Ar, ⟨O, O, O, O, O, O, Aw⟩⟩
   (try simp only [sd] at g1)
   refine BT tab 7 [1, 0] O ?_
   refine D6 18 O (fun g9 => ?_) (fun g9 => ?_)
   ·(try simp only [sd] at g9)
    refine BT tab 7 [] O ?_
    refine D6 25 O (fun g10 => ?_) (fun g10 => ?_)
    ·(try simp only [sd] at g10)
     refine BT tab 8 [] O ?_
     refine D6 33 O (fun g11 => ?_) (fun g11 => ?_)
     ·(try simp only [sd] at g11)
      refine BK tab 8 [] O ?_
      exact ⟨O, O, AQ, pB Ar, ⟨O, O, O, O, O, O, Aw⟩⟩
     (try simp only [sd] at g11)
     refine BT tab 2 [1] O ?_
     refine DW O (Dv BS O) ?_
     refine BT tab 2 [0] O ?_
     refine DW O (Dv BS O) ?_
     refine BK tab 2 [] O ?_
     exact ⟨O, O, AQ, pB Ar, ⟨O, O, O, O, O, O, Aw⟩⟩
    (try simp only [sd] at g10)
    refine BT tab 4 [1, 0] O ?_
    refine DW O (BF O O (PB al bl hn2 hn3) O) ?_
    refine BT tab 3 [] O ?_
    refine D6 33 O (fun g12 => ?_) (fun g12 => ?_)
    ·(try simp only [sd] at g12)
     refine BK tab 8 [] O ?_
     exact ⟨O, O, AQ, pB Ar, ⟨O, O, O, O, O, O, Aw⟩⟩
    (try simp only [sd] at g12)
    refine BT tab 2 [1] O ?_
    refine DW O (Dv BS O) ?_
    refine BT tab 2 [0] O ?_
    refine DW O (Dv BS O) ?_
    refine BK tab 2 [] O ?_
    exact ⟨O, O, AQ, pB Ar, ⟨O, O, O, O, O, O, Aw⟩⟩
   (try simp only [sd] at g9)
   refine BT tab 4 [1, 0] O ?_
   refine DW O (Js O O) ?_
   refine BT tab 2 [] O ?_
   refine D6 25 O (fun g13 => ?_) (fun g13 => ?_)
   ·(try simp only [sd] at g13)
    refine BT tab 8 [] O ?_
    refine D6 33 O (fun g14 => ?_) (fun g14 => ?_)
    ·(try simp only [sd] at g14)
     refine BK tab 8 [] O ?_
     exact ⟨O, O, AQ, pB Ar, ⟨O, O, O, O, O, O, Aw⟩⟩
    (try simp only [sd] at g14)
    refine BT tab 2 [1] O ?_
    refine DW O (Dv BS O) ?_
    refine BT tab 2 [0] O ?_
    refine DW O (Dv BS O) ?_
    refine BK tab 2 [] O ?_
    exact ⟨O, O, AQ, pB Ar, ⟨O, O, O, O, O, O, Aw⟩⟩
   (try simp only [sd] at g13)
   refine BT tab 4 [1, 0] O ?_
   refine DW O (BF O O (PB al bl hn2 hn3) O) ?_
   refine BT tab 3 [] O ?_
   refine D6 33 O (fun g15 => ?_) (fun g15 => ?_)
   ·(try simp only [sd] at g15)
    refine BK tab 8 [] O ?_
    exact ⟨O, O, AQ, pB Ar, ⟨O, O, O, O, O, O, Aw⟩⟩
   (try simp only [sd] at g15)
   refine BT tab 2 [1] O ?_
   refine DW O (Dv BS O) ?_
   refine BT tab 2 [0] O ?_
   refine DW O (Dv BS O) ?_
   refine BK tab 2 [] O ?_
   exact ⟨O, O, AQ, pB Ar, ⟨O, O, O, O, O, O, Aw⟩⟩
  rintro _ rfl
  refine BX O (fun c16 => ?_) (fun c16 => ?_)
  ·(try simp only [sd] at c16)
   refine BZ tab 1 [] O ?_
   refine CB ?_
   refine ⟨O, _, [], Dx O, List.nil_sublist _, ?_⟩
   exact ⟨pB (FL (fun h => by simp at h; simp [h, FP] at *)).symm, rfl⟩
  (try simp only [sd] at c16)
  have h1 : ak = bk ∧ ai = bi ∧ an.toList = bn.toList ∧ al = bl ∧ aks.length = bks.length := by simp [A8, GY] at c16; obtain ⟨⟨⟨⟨e1, e2⟩, e3⟩, e4⟩, e5⟩ := c16; exact ⟨e1, e2, e3, e4, by omega⟩
  refine Bn ?_
  refine BR ?_
  refine BZ tab 1 [] O ?_
  refine B3 ?_
  refine Tv (aks.length) (fun i => agree aks bks i) (fun i => ⟨61, mk [(2, .ptr b2 0), (3, .ptr b3 0), (5, .p (I i))], [.box b3 ((BD (.mk bk bi bn bl bks)).map .p), .box b2 ((BD (.mk ak ai an al aks)).map .p)], []⟩) (0) Au (OI _ _) ?_ ?_
  ·exact G5 ⟨O, O, O, Aw⟩ AA
  intro i hi hC
  refine BR ?_
  refine BQ ?_
  refine BT tab 3 [1] O ?_
  refine BA O (Dv BS O) ?_
  refine BK tab 1 [] O ?_
  refine BX O (fun c17 => ?_) (fun c17 => ?_)
  ·(try simp only [sd] at c17)
   have hi2 : i < aks.length := by simp [A8] at c17; omega
   obtain ⟨x, hx⟩ := A1 hi2
   obtain ⟨y, hy⟩ := A1 (l := bks) (i := i) Au
   refine Bn ?_
   refine BR ?_
   refine B3 ?_
   refine BR ?_
   refine Hg (fun k => false) Ot ?_
   refine DO tab 3 [1] O ?_
   refine A3 O (fun _ => A0 BS O O Au (BO hx) (A7 _)) Aw ?_
   refine DO tab 4 [0] O ?_
   refine A3 O (fun _ => A0 BS O O Au (BO hy) (A7 _)) Aw ?_
   refine A3 O (fun _ => Bk CN O (A7 _)) Aw ?_
   refine A3 O (fun _ => BF O O (ih x y (by have := CU hx; omega) (DV hn5 hx)) O) Aw ?_
   refine CY tab 1 [] O ?_
   refine BX O (fun c18 => ?_) (fun c18 => ?_)
   ·(try simp only [sd] at c18)
    refine BZ tab 1 [] O ?_
    refine CB ?_
    refine ⟨O, _, [], Dx O, List.nil_sublist _, ?_⟩
    exact ⟨pB (FL (fun h => by simp at h; obtain ⟨_, _, _, _, rfl⟩ := h; rw [hx] at hy; injection hy with hy; subst hy; simp [FP] at *)).symm, rfl⟩
   (try simp only [sd] at c18)
   have hxy : x = y := GY.1 (by simpa using c18)
   subst hxy
   refine Bn ?_
   refine Be ?_
   refine BK tab 3 [] O ?_
   exact ⟨by omega, Oc hC hx hy, G5 ⟨rfl, rfl, rfl, trivial⟩ AA⟩
  (try simp only [sd] at c17)
  have hi2 : i = aks.length := by simp [A8] at c17; omega
  refine EN ?_
  refine BZ tab 1 [] O ?_
  refine CB ?_
  refine ⟨O, _, [], Dx O, List.nil_sublist _, ?_⟩
  exact ⟨pB (FP (by obtain ⟨e1, e2, e3, e4, e5⟩ := h1; rw [e1, e2, e4, Gk e3, Qj hC Au Au])).symm, rfl⟩
theorem sw : ∀ (n : Nat) (t : Tm), size t ≤ n → size t < 2 ^ 62 → En Tryz.prog 26 [TV t] (.p (I (size t))) := by
 intro n
 induction n with
 | zero => intro t h; cases t; simp [size] at h
 | succ n ih =>
  intro t hn hb
  obtain ⟨kd, ix, nm, ls, ks⟩ := t
  simp only [size] at hn hb
  refine Cb Tryz.func26 O xV (n := 21) O O ?_
  refine BQ ?_
  refine C8 O (Dk O) fun b1 => ?_
  refine BK tab 1 [] O ?_
  refine BZ tab 1 [] O ?_
  refine BR ?_
  refine BZ tab 1 [] O ?_
  refine B3 ?_
  refine dY (ks.length) (fun i => ⟨21, mk [(1, .ptr b1 0), (3, .p (I (1 + BB (ks.take i) : Nat))), (4, .p (I i))], [.box b1 ((BD (.mk kd ix nm ls ks)).map .p)], []⟩) (0) Au ?_ ?_
  ·exact G5 ⟨O, O, O, Aw⟩ AA
  intro i hi
  have hsz := NM (ts := ks) i
  have hll := Fl ks
  refine BR ?_
  refine BQ ?_
  refine BT tab 3 [0] O ?_
  refine BA O (Dv BS O) ?_
  refine BK tab 1 [] O ?_
  refine BX O (fun c1 => ?_) (fun c1 => ?_)
  ·(try simp only [sd] at c1)
   have hi2 : i < ks.length := by rw [A8] at c1; omega
   obtain ⟨t, hk⟩ : ∃ t, ks[i]? = some t := ⟨_, List.getElem?_eq_getElem hi2⟩
   have hks := CU hk
   have hsz2 := Ls hk
   have hsz3 := NM (ts := ks) (i + 1)
   refine Bn ?_
   refine BR ?_
   refine B3 ?_
   refine Be ?_
   refine BT tab 4 [0] O ?_
   refine BA O (A0 BS O O Au (BO hk) (A7 _)) ?_
   refine BA O (Bk CN O (A7 _)) ?_
   refine BA O (BF O O (ih t Au Au) O) ?_
   refine BK tab 2 [] O ?_
   refine Be ?_
   refine BK tab 3 [] O ?_
   exact ⟨by omega, G5 ⟨rfl, pI (by rw [Ls hk]; omega), rfl, trivial⟩ AA⟩
  (try simp only [sd] at c1)
  have hi2 : i = ks.length := by rw [A8] at c1; omega
  refine EN ?_
  refine BZ tab 2 [] O ?_
  refine CB ?_
  refine ⟨O, _, [], Dx O, List.nil_sublist _, ?_⟩
  exact ⟨pI (by subst hi2; rw [List.take_length]; simp [size]), O⟩
theorem qC : ∀ (n : Nat) (t : Tm), size t ≤ n → size t < 2 ^ 62 → En Tryz.prog 87 [TV t] (.p (I (depth t))) := by
 intro n
 induction n with
 | zero => intro t h; cases t; simp [size] at h
 | succ n ih =>
  intro t hn hb
  obtain ⟨kd, ix, nm, ls, ks⟩ := t
  simp only [size] at hn hb
  refine Cb Tryz.func87 O xU (n := 22) O O ?_
  refine BQ ?_
  refine C8 O (Dk O) fun b1 => ?_
  refine BK tab 1 [] O ?_
  refine BZ tab 1 [] O ?_
  refine BR ?_
  refine BZ tab 1 [] O ?_
  refine B3 ?_
  refine dY (ks.length) (fun i => ⟨22, mk [(1, .ptr b1 0), (3, .p (I (Hx (ks.take i) : Nat))), (4, .p (I i))], [.box b1 ((BD (.mk kd ix nm ls ks)).map .p)], []⟩) (0) Au ?_ ?_
  ·exact G5 ⟨O, O, O, Aw⟩ AA
  intro i hi
  have hsz := NM (ts := ks) i
  have hll := Fl ks
  have hdd := JZ ks
  have hdi := Sv (ts := ks) i
  refine BR ?_
  refine BQ ?_
  refine BT tab 3 [0] O ?_
  refine BA O (Dv BS O) ?_
  refine BK tab 1 [] O ?_
  refine BX O (fun c1 => ?_) (fun c1 => ?_)
  ·(try simp only [sd] at c1)
   have hi2 : i < ks.length := by rw [A8] at c1; omega
   obtain ⟨t, hk⟩ : ∃ t, ks[i]? = some t := ⟨_, List.getElem?_eq_getElem hi2⟩
   have hks := CU hk
   have hsz2 := Ls hk
   have hsz3 := NM (ts := ks) (i + 1)
   refine Bn ?_
   refine BR ?_
   refine B3 ?_
   refine Be ?_
   refine BT tab 4 [0] O ?_
   refine BA O (A0 BS O O Au (BO hk) (A7 _)) ?_
   refine BA O (Bk CN O (A7 _)) ?_
   refine BA O (BF O O (ih t Au Au) O) ?_
   refine BA O (F7 O O) ?_
   refine BK tab 1 [] O ?_
   refine Be ?_
   refine BK tab 3 [] O ?_
   exact ⟨by omega, G5 ⟨rfl, pI (by rw [aE hk]; omega), rfl, trivial⟩ AA⟩
  (try simp only [sd] at c1)
  have hi2 : i = ks.length := by rw [A8] at c1; omega
  refine EN ?_
  refine BZ tab 3 [] O ?_
  refine CB ?_
  refine ⟨O, _, [], Dx O, List.nil_sublist _, ?_⟩
  exact ⟨pI (by subst hi2; rw [List.take_length]; simp [depth]), O⟩
end Go.Proofs.YtldfmjoncbjldaaGreat
