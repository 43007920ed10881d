/- Part of the proofs: an abstract program logic, plain models and contracts of functions. -/
import Derived.Test.YtajnpndfkbnkoaaGreatPc
import Derived.Test.YtajnpndfkbnkoaaGreatPa
import Derived.Test.YtajnpndfkbnkoaaGreatPb
import Derived.Test.YtajnpndfkbnkoaaGreatProg
set_option linter.unusedVariables false
set_option linter.unusedSimpArgs false
set_option maxRecDepth 100000
namespace Go.Abs
section
variable {P:Program}{tb:Kz P}{ρ:Operand→AV}{H H':List Aj}{is is':List Nat}{C C':Prop}{v:AV}
 {dst:Option Tmp} {ty:TypeId} {pos:String} {aft:Array Edge} {g:Option (Nat×Bool)}
theorem VQ {op:Op}(h:Jm tb ρ [] [] C op=some (v,H',is',C')) (H:List Aj) (is:List Nat):Jm tb ρ H is C op=some (v,H,is,C'):=by
 unfold Jm at h ⊢;split at h
 ·grind
 ·grind
 ·split at h
  ·grind
  cases h
 ·split at h
  ·rename_i xs hx;split at h
   ·grind
   cases h
  cases h
 ·split at h
  ·grind
  cases h
 ·grind
 ·split at h
  ·grind
  cases h
 ·rename_i op T x y U
  try dsimp only
  generalize hx:ρ x=vx at h ⊢;generalize hy:ρ y=vy at h ⊢;unfold Wx at h ⊢;split at h
  ·rename_i k m k' n
   try dsimp only
   split at h
   ·grind
   rename_i hb;split at h
   ·grind
   cases h
  cases h
 ·rename_i T x i;split at h
  ·rename_i lay hl;split at h
   ·rename_i off sz hi
    try dsimp only
    generalize hx:ρ x=vx at h ⊢;unfold RZ at h ⊢;split at h
    ·grind
    ·grind
    cases h
   cases h
  cases h
 ·rename_i T parts;split at h
  ·rename_i lay z hl hz;split at h
   ·grind
   cases h
  cases h
 ·rename_i T x;split at h
  ·rename_i t ht
   try dsimp only
   try rw[ht]
   try dsimp only
   generalize hx:ρ x=vx at h ⊢;unfold RO at h ⊢;split at h
   ·grind
   ·cases h
   cases h
  cases h
 ·rename_i T x y;split at h
  ·rename_i t ht;generalize hx:ρ x=vx at h;unfold RE at h
   grind
  cases h
 cases h
theorem V1 {T:TypeId}{x:Operand}{ob:Aj}{i:Nat}(h:Jm tb ρ [ob] [0] C (.load T x)=some (v,H',is',C')) (h0:Jm tb ρ [] [] C (.load T x)=none) (hi:H[i]?=some ob):Jm tb ρ H [i] C (.load T x)=some (v,H,[],C'):=by
 unfold Jm at h h0 ⊢;dsimp only at h h0 ⊢;split at h
 ·rename_i t ht
  try simp only[ht] at h0
  skip
  generalize hx:ρ x=vx at h h0 ⊢;unfold RO at h h0 ⊢;split at h
  ·grind
  ·rename_i b o;dsimp only at h ⊢;rw[hi];simp only[List.getElem?_cons_zero] at h;cases ob with
   | box b' cs =>
    grind
   | _=>cases h
  cases h
 cases h
def QN (tb:Kz P) (ops:Array Oper) (k:Nat) (ρ:Operand→AV) (H:List Aj) (rd:Ot) (ef:O7) (is:List Nat) (C:Prop) (op:Op):Option (Sp×List Nat×Prop) :=
 match Jm tb ρ [] [] C op with
 | some (v,_,_,C')=>some (.free v,is,C')
 | none =>
  match op with
  | .load T x =>
   match is with
   | i::is' =>
    match H[i]? with
    | some ob =>
     match Jm tb ρ [ob] [0] C (.load T x) with
     | some (v,_,_,C')=>some (.read [ob] v,is',C'∧Sh ops k ob ef)
     | none=>none
    | none=>none
   | []=>none
  | .store T x y =>
   match Jm tb ρ H is C (.store T x y) with
   | some (v,H',is',C')=>some (.eff v H',is',C'∧GJ ops k H H' rd)
   | none=>none
  | _=>none
theorem JN {ops:Array Oper}{k:Nat}{τ:Nat→AV}{rd:Ot}{ef:O7}{op:Op}{s:Sp}(h:QN tb ops k (ev τ) H rd ef is C op=some (s,is',C')) (c:C') (hw:DI ops ⟨0,τ,[],[]⟩ ⟨dst,op,ty,pos,aft,g⟩) :
  C∧YE P ops ⟨dst,op,ty,pos,aft,g⟩ τ H s∧cX ops k H rd ef s:=by
 unfold QN at h;split at h
 ·rename_i v H1 is1 C1 hv;injection h with h;simp only[Prod.mk.injEq] at h;obtain⟨rfl,rfl,rfl⟩:=h;exact⟨(D4 (dst:=dst) (ty:=ty) (pos:=pos) (aft:=aft) (g:=g) hv c).1,⟨hw,fun H=>(D4 (VQ hv H []) c).2⟩,Ah⟩
 rename_i hn;split at h
 ·split at h
  ·rename_i i is2;split at h
   ·rename_i ob hi;split at h
    ·rename_i v H1 is1 C1 hv;injection h with h;simp only[Prod.mk.injEq] at h;obtain⟨rfl,rfl,rfl⟩:=h;obtain⟨c1,c2⟩:=c;refine⟨(D4 (dst:=dst) (ty:=ty) (pos:=pos) (aft:=aft) (g:=g) hv c1).1,⟨hw,fun ob' hm=>?_,fun H hm=>?_⟩,fun ob' hm=>?_⟩
     ·grind
     ·have ⟨i',hi'⟩:=List.mem_iff_getElem?.1 (hm ob List.mem_cons_self);exact(D4 (V1 hv hn hi') c1).2
     grind
    cases h
   cases h
  cases h
 ·split at h
  ·rename_i v H1 is1 C1 hv;injection h with h;simp only[Prod.mk.injEq] at h;obtain⟨rfl,rfl,rfl⟩:=h;obtain⟨c1,c2⟩:=c;have ⟨c0,hop⟩:=D4 (dst:=dst) (ty:=ty) (pos:=pos) (aft:=aft) (g:=g) hv c1;exact⟨c0,⟨hw,hop⟩,c2⟩
  cases h
 cases h
def eJ (k:Nat) (s:Sp) (C:Prop):List (Nat×Sp)→Prop
 | []=>C
 | p::r=>C∧D6 k s (p::r)
theorem JF {k:Nat}{s:Sp}{C:Prop}:∀{fx:List (Nat×Sp)},eJ k s C fx→C∧D6 k s fx
 | [],h=>⟨h,trivial⟩
 | p::r,h=>h
abbrev gI:=(Nat→AV)×List Aj×Ot×O7×List Bool×Prop
def Rc (k:Nat) (τ:Nat→AV) (dst:Option Tmp) (H:List Aj) (rd:Ot) (ef:O7) (effs:List Bool) (fx:List (Nat×Sp)) (f:(Nat→AV)→List Aj→Ot→O7→List Bool→List Nat→Prop→Option gI):Option (Sp×List Nat×Prop)→Option gI
 | some (.free v,is,C)=>f (put τ dst v) H rd ef (false::effs) is (eJ k (.free v) C fx)
 | some (.read [ob] v,is,C)=>f (put τ dst v) H ((k,ob)::rd) ef (false::effs) is (eJ k (.read [ob] v) C fx)
 | some (.eff v H',is,C)=>f (put τ dst v) H' rd ((k,H,H')::ef) (true::effs) is (eJ k (.eff v H') C fx)
 | _=>none
def GY (tb:Kz P) (ops:Array Oper) (opn:Nat→Bool) (fx:List (Nat×Sp)):Nat→Nat→(Nat→AV)→List Aj→Ot→O7→List Bool→List Nat→Prop→Option gI
 | 0,_,τ,H,rd,ef,effs,_,C=>some (τ,H,rd,ef,effs,C)
 | m+1,k,τ,H,rd,ef,effs,is,C =>
  match ops[k]? with
  | none=>none
  | some ⟨dst,op,_,_,_,g⟩ =>
   bif opn k then none else
    match g with
    | none=>Rc k τ dst H rd ef effs fx (GY tb ops opn fx m (k+1)) (QN tb ops k (ev τ) H rd ef is C op)
    | some (j,want) =>
     match (ops[j]?).bind (·.dst) with
     | none=>none
     | some d =>
      match τ d with
      | .p (.bool b) =>
       bif b==want then Rc k τ dst H rd ef effs fx (GY tb ops opn fx m (k+1)) (QN tb ops k (ev τ) H rd ef is C op)
       else GY tb ops opn fx m (k+1) (put τ dst (.tup [])) H rd ef (false::effs) is (eJ k .skip C fx)
      | .tup []=>GY tb ops opn fx m (k+1) (put τ dst (.tup [])) H rd ef (false::effs) is (eJ k .skip C fx)
      | _=>none
end
section
variable {P:Program}{ops:Array Oper}{n:Nat}{τ₀:Nat→AV}{D:List Cb}{Q:Bd→As→Prop}{opn:Nat→Bool}{fx:List (Nat×Sp)}
theorem FL (tb:Kz P):∀(m k:Nat) {τ τ':Nat→AV}{H H':List Aj}{rd rd':Ot}{ef ef':O7}{effs effs':List Bool}{is:List Nat}{C C':Prop},GY tb ops opn fx m k τ H rd ef effs is C=some (τ',H',rd',ef',effs',C')→C' →
  C∧(Dr P ops n τ₀ D Q opn (k+m) τ' H' rd' ef' effs' fx→Dr P ops n τ₀ D Q opn k τ H rd ef effs fx)
 | 0,k,τ,τ',H,H',rd,rd',ef,ef',effs,effs',is,C,C',h,c=>by
  simp only[GY,Option.some.injEq,Prod.mk.injEq] at h;obtain⟨rfl,rfl,rfl,rfl,rfl,rfl⟩:=h;exact⟨c,fun h=>h⟩
 | m+1,k,τ,τ',H,H',rd,rd',ef,ef',effs,effs',is,C,C',h,c=>by
  rw[GY] at h;split at h
  ·cases h
  rename_i dst op ty pos aft g ho;cases hn:opn k with
  | true=>rw[hn] at h;cases h
  | false =>
   rw[hn,cond_false] at h;rw[show k+(m+1)=k+1+m by omega];have key:DI ops ⟨0,τ,[],[]⟩ ⟨dst,op,ty,pos,aft,g⟩→Rc k τ dst H rd ef effs fx (GY tb ops opn fx m (k+1)) (QN tb ops k (ev τ) H rd ef is C op)=some (τ',H',rd',ef',effs',C')→C∧(Dr P ops n τ₀ D Q opn (k+1+m) τ' H' rd' ef' effs' fx→Dr P ops n τ₀ D Q opn k τ H rd ef effs fx):=by
    intro hw h;generalize hs:QN tb ops k (ev τ) H rd ef is C op=so at h;unfold Rc at h;split at h
    ·rename_i v is1 C1;have ⟨c1,ih⟩:=FL tb m (k+1) h c;have ⟨c1,hfx⟩:=JF c1;have ⟨c2,hok,howe⟩:=JN hs c1 hw;exact⟨c2,fun hq=> .step (.free v) ho (.inl hn) hok howe hfx (ih hq)⟩
    ·rename_i ob v is1 C1;have ⟨c1,ih⟩:=FL tb m (k+1) h c;have ⟨c1,hfx⟩:=JF c1;have ⟨c2,hok,howe⟩:=JN hs c1 hw;exact⟨c2,fun hq=> .step (.read [ob] v) ho (.inl hn) hok howe hfx (ih hq)⟩
    ·rename_i v H1 is1 C1;have ⟨c1,ih⟩:=FL tb m (k+1) h c;have ⟨c1,hfx⟩:=JF c1;have ⟨c2,hok,howe⟩:=JN hs c1 hw;exact⟨c2,fun hq=> .step (.eff v H1) ho (.inl hn) hok howe hfx (ih hq)⟩
    cases h
   split at h
   ·exact key AZ h
   rename_i j want;split at h
   ·cases h
   rename_i d hj;split at h
   ·rename_i b hb;cases hw:b==want with
    | true =>
     rw[hw,cond_true] at h;have hbw:b=want:=by simpa using hw
     exact key (by simp only[DI];exact⟨d,hj,by rw[hb,hbw]⟩) h
    | false =>
     rw[hw,cond_false] at h;have ⟨c1,ih⟩:=FL tb m (k+1) h c;have ⟨c1,hfx⟩:=JF c1;exact⟨c1,fun hq=>VD ho hn hj hb hw hfx (ih hq)⟩
   ·rename_i hb;have ⟨c1,ih⟩:=FL tb m (k+1) h c;have ⟨c1,hfx⟩:=JF c1;exact⟨c1,fun hq=>XZ ho hn hj hb hfx (ih hq)⟩
   cases h
variable {k:Nat}{τ τ':Nat→AV}{H H':List Aj}{rd rd':Ot}{ef ef':O7}{effs effs':List Bool}{C:Prop}
theorem GG {C:Prop}(c:C:=by first | ((repeat' first | exact trivial | refine And.intro ?_ ?_ | ((refine Or.inr (And.intro ?_ ?_)<;>repeat (first | exact List.Mem.head _ | apply List.Mem.tail));done) | exact Or.inl Ab | exact Ek)<;>fail) | fail):C:=c
theorem E1 (tb:Kz P) (m:Nat) (is:List Nat) (h:GY tb ops opn fx m k τ H rd ef effs is True=some (τ',H',rd',ef',effs',C)) (next:Dr P ops n τ₀ D Q opn (k+m) τ' H' rd' ef' effs' fx) (c:C:=by exact GG):Dr P ops n τ₀ D Q opn k τ H rd ef effs fx:=(FL tb m k h c).2 next
theorem GH (tb:Kz P) (m:Nat) (is:List Nat) (h:GY tb ops opn fx m k τ H rd ef effs is True=some (τ',H',rd',ef',effs',C)) (next:Q .normal ⟨n,τ',H',D⟩) (hk:k+m=ops.size:=by exact rfl) (chk:KI ops n effs'.reverse=true:=by kernel_rfl) (c:C:=by exact GG):Dr P ops n τ₀ D Q opn k τ H rd ef effs fx:=E1 tb m is h (Fj hk chk next) c
end
inductive Fr where
 | seq (c:Code)
 | blk (id:Nat)
inductive Mx where
 | code (c:Code)
 | ops (o:Array Oper) (k:Nat)
 | fin
 | ext (i:Nat)
def QF (P:Program) (r:Option Nat):List Fr→(Bd→As→Prop)→Bd→As→Prop
 | [],Q=>Q
 | .seq c::fs,Q=>HU (fun S'=>GF P r c S' (QF P r fs Q)) (QF P r fs Q)
 | .blk id::fs,Q=>Qx id (QF P r fs Q)
def JC (P:Program) (r:Option Nat):Mx→As→(Bd→As→Prop)→Prop
 | .code c,S,Q=>GF P r c S Q
 | .ops o k,S,Q=>AL P r o k S Q
 | .fin,S,Q=>Q .normal S
 | .ext i,S,Q=>Q (.exit i) S
def GO (P:Program) (r:Option Nat) (c:Mx) (fs:List Fr) (S:As) (Q:Bd→As→Prop):Prop:=JC P r c S (QF P r fs Q)
def Pp (st:Nat):Nat→Mx→List Fr→Mx×List Fr
 | 0,c,fs=>(c,fs)
 | m+1,.ops o k,fs=>match o[k]? with
  | some _=>(.ops o k,fs)
  | none=>Pp st m .fin fs
 | m+1,.fin,.seq c::fs=>Pp st m (.code c) fs
 | m+1,.fin,.blk _::fs=>Pp st m .fin fs
 | _+1,.fin,[]=>(.fin,[])
 | m+1,.ext i,.seq _::fs=>Pp st m (.ext i) fs
 | m+1,.ext i,.blk id::fs=>bif Nat.beq i id then Pp st m .fin fs else Pp st m (.ext i) fs
 | _+1,.ext i,[]=>(.ext i,[])
 | m+1,.code c,fs=>match c with
  | .seq a b=>Pp st m (.code a) (.seq b::fs)
  | .block id a=>Pp st m (.code a) (.blk id::fs)
  | .region id o false=>bif Nat.beq id st then (.code (.region id o false),fs) else Pp st m (.ops o 0) fs
  | .skip=>Pp st m .fin fs
  | .exit i=>Pp st m (.ext i) fs
  | c=>(.code c,fs)
section
variable {P:Program}{r:Option Nat}{S:As}{Q:Bd→As→Prop}
theorem DU (st:Nat):∀(m:Nat) (c:Mx) (fs:List Fr),GO P r (Pp st m c fs).1 (Pp st m c fs).2 S Q→GO P r c fs S Q
 | 0,c,fs,h=>h
 | m+1,.ops o k,fs,h=>by
  unfold Pp at h;split at h
  ·exact h
  ·rename_i hk;refine Ba (Q:=QF P r fs Q) ?_ (DU st m .fin fs h);have:=Array.getElem?_eq_none_iff.1 hk;omega
 | m+1,.fin,.seq c::fs,h=>DU st m (.code c) fs h
 | m+1,.fin,.blk _::fs,h=>DU st m .fin fs h
 | _+1,.fin,[],h=>h
 | m+1,.ext i,.seq _::fs,h=>DU st m (.ext i) fs h
 | m+1,.ext i,.blk id::fs,h=>by
  unfold Pp at h;have e:GO P r (.ext i) (.blk id::fs) S Q=(bif Nat.beq i id then GO P r .fin fs S Q else GO P r (.ext i) fs S Q):=by
   show (bif Nat.beq i id then QF P r fs Q .normal S else QF P r fs Q (.exit i) S)=_;rfl
  rw[e];cases hb:Nat.beq i id with
  | true=>rw[hb,cond_true] at h;exact DU st m .fin fs h
  | false=>rw[hb,cond_false] at h;exact DU st m (.ext i) fs h
 | _+1,.ext i,[],h=>h
 | m+1,.code c,fs,h=>by
  unfold Pp at h;split at h
  ·exact Ax (DU st m _ _ h)
  ·exact BG (DU st m _ _ h)
  ·rename_i id o;cases hb:Nat.beq id st with
   | true=>rw[hb,cond_true] at h;exact h
   | false=>rw[hb,cond_false] at h;exact A1 (DU st m _ _ h)
  ·exact BJ (DU st m _ _ h)
  ·exact Cq (DU st m _ _ h)
  exact h
def eK:AV→Option AV
 | .p x=>some (.p x) | .ptr b o=>some (.ptr b o) | .nilp=>some .nilp | .ref c=>some (.ref c) | .vs o n c=>some (.vs o n c) | .map b=>some (.map b) | .fn f a c=>some (.fn f a c) | .agg cs=>some (.agg cs) | .tup xs=>some (.tup xs)
theorem Rs {a v:AV}(h:eK a=some v):a=v:=by cases a<;>simpa [eK] using h
def go (tb:Kz P) (n st:Nat):Nat→Mx→List Fr→(Nat→AV)→List Aj→List Nat→Prop→Option (Mx×List Fr×(Nat→AV)×List Aj×Prop)
 | 0,c,fs,τ,H,_,C=>bif Nat.beq st 888888 then some (c,fs,τ,H,C) else match Pp st 200 c fs with | (c',fs')=>some (c',fs',τ,H,C)
 | m+1,c,fs,τ,H,is,C =>
  match Pp st 200 c fs with
  | (.ops o k,fs)=>(match o[k]? with
   | none=>none
   | some ⟨dst,op,_,_,_,g⟩ =>
    bif D9 dst n then
     match g with
     | none =>
      (match Jm tb (ev τ) H is C op with
      | some (v,H',is',C')=>(match eK v with | some v=>go tb n st m (.ops o (k+1)) fs (put τ dst v) H' is' C' | none=>none)
      | none=>none)
     | some (j,want) =>
      match (o[j]?).bind (·.dst) with
      | none=>none
      | some d =>
       match τ d with
       | .p (.bool b) =>
        bif b==want then
         (match Jm tb (ev τ) H is C op with
         | some (v,H',is',C')=>(match eK v with | some v=>go tb n st m (.ops o (k+1)) fs (put τ dst v) H' is' C' | none=>none)
         | none=>none)
        else go tb n st m (.ops o (k+1)) fs (put τ dst (.tup [])) H is C
       | .tup []=>go tb n st m (.ops o (k+1)) fs (put τ dst (.tup [])) H is C
       | _=>none
    else none)
  | _=>none
theorem go_sound (tb : Kz P) (n st : Nat) {D : List Cb} : ∀ (m : Nat) {c c' : Mx} {fs fs' : List Fr} {τ τ' : Nat → AV} {H H' : List Aj} {is : List Nat} {C C' : Prop}, go tb n st m c fs τ H is C = some (c', fs', τ', H', C') → C' →
  C ∧ (GO P r c' fs' ⟨n, τ', H', D⟩ Q → GO P r c fs ⟨n, τ, H, D⟩ Q)
 | 0, c, c', fs, fs', τ, τ', H, H', is, C, C', h, c1 => by
  unfold go at h
  cases hs : Nat.beq st 888888 with
  | true =>
   rw [hs] at h
   simp only [cond_true, Option.some.injEq, Prod.mk.injEq] at h
   obtain ⟨rfl, rfl, rfl, rfl, rfl⟩ := h
   exact ⟨c1, id⟩
  | false =>
   rw [hs] at h
   simp only [cond_false, Option.some.injEq, Prod.mk.injEq] at h
   obtain ⟨rfl, rfl, rfl, rfl, rfl⟩ := h
   exact ⟨c1, DU st 200 c fs⟩
 | m + 1, c, c', fs, fs', τ, τ', H, H', is, C, C', h, c1 => by
  unfold go at h
  have cs := DU (P := P) (r := r) (S := ⟨n, τ, H, D⟩) (Q := Q) st 200 c fs
  split at h
  ·rename_i o k fs1 hc
   rw [hc] at cs
   split at h
   ·cases h
   rename_i dst op ty pos aft g ho
   cases hd : D9 dst n with
   | false => rw [hd] at h; cases h
   | true =>
    rw [hd, cond_true] at h
    split at h
    ·split at h
     ·rename_i v H1 is1 C1 hv
      split at h
      ·rename_i v2 hv2
       obtain rfl := Rs hv2
       obtain ⟨c2, ih⟩ := go_sound tb n st m h c1
       obtain ⟨c3, hop⟩ := D4 (dst := dst) (ty := ty) (pos := pos) (aft := aft) (g := none) hv c2
       exact ⟨c3, fun hq => cs (Im ho hd hop (ih hq))⟩
      cases h
     cases h
    rename_i j want
    split at h
    ·cases h
    rename_i d hj
    split at h
    ·rename_i b hb
     cases hw : b == want with
     | true =>
      rw [hw, cond_true] at h
      split at h
      ·rename_i v H1 is1 C1 hv
       split at h
       ·rename_i v2 hv2
        obtain rfl := Rs hv2
        obtain ⟨c2, ih⟩ := go_sound tb n st m h c1
        obtain ⟨c3, hop⟩ := D4 (dst := dst) (ty := ty) (pos := pos) (aft := aft) (g := some (j, want)) hv c2
        have hbw : b = want := by simpa using hw
        exact ⟨c3, fun hq => cs (N9 ho hj (by rw [hb, hbw]) hd hop (ih hq))⟩
       cases h
      ·cases h
     | false =>
      rw [hw, cond_false] at h
      obtain ⟨c2, ih⟩ := go_sound tb n st m h c1
      exact ⟨c2, fun hq => cs (Q1 ho hj hb hw hd (ih hq))⟩
    ·rename_i hb
     obtain ⟨c2, ih⟩ := go_sound tb n st m h c1
     exact ⟨c2, fun hq => cs (JO ho hj hb hd (ih hq))⟩
    cases h
  cases h
def dz (o:Array Oper) (k n:Nat) (τ:Nat→AV):Option Oper :=
 match o[k]? with
 | none=>none
 | some ⟨dst,op,ty,pos,aft,g⟩ =>
  bif D9 dst n then
   match g with
   | none=>some ⟨dst,op,ty,pos,aft,none⟩
   | some (j,want) =>
    match (o[j]?).bind (·.dst) with
    | none=>none
    | some d=>match τ d with | .p (.bool b)=>bif b==want then some ⟨dst,op,ty,pos,aft,some (j,want)⟩ else none | _=>none
  else none
theorem VV {o:Array Oper}{k n:Nat}{τ:Nat→AV}{H:List Aj}{D:List Cb}{x:Oper}(h:dz o k n τ=some x):o[k]?=some x∧DI o ⟨n,τ,H,D⟩ x∧(∀t,x.dst=some t→t<n):=by
 unfold dz at h;split at h
 ·cases h
 rename_i dst op ty pos aft g ho;cases hd:D9 dst n with
 | false=>rw[hd] at h;cases h
 | true =>
  rw[hd,cond_true] at h;split at h
  ·injection h with h;subst h;exact⟨ho,trivial,FK hd⟩
  rename_i j want;split at h
  ·cases h
  rename_i d hj;split at h
  ·rename_i b hb;cases hw:b==want with
   | true =>
    rw[hw,cond_true] at h;injection h with h;subst h;exact⟨ho,⟨d,hj,hb.trans (by rw[show b=want by simpa using hw])⟩,FK hd⟩
   | false=>rw[hw,cond_false] at h;cases h
  cases h
end
class TabOf (P:Program) where
 tab:Kz P
 el:Nat→Option (Nat×Nat×Nat)
 hel:∀T l,el T=some l→D0 P T=some l
 ent:Nat→Bool
 hent:∀f,ent f=true→Bt P f=true
 mx:P.follows .mixedOrders=true
theorem eG {P:Program}{l:List Nat}(h:l.all (Bt P)=true) (f:Nat) (hf:l.any (Nat.beq f)=true):Bt P f=true:=by grind [List.any_eq_true.1,Nat.eq_of_beq_eq_true,List.all_eq_true.1]
section
variable {P:Program}{r:Option Nat}{n k:Nat}{o:Array Oper}{D:List Cb}{Q:Bd→As→Prop}{c c':Mx}{fs fs':List Fr}{τ τ':Nat→AV}{H H':List Aj}{C:Prop}
 {dst:Option Nat} {op:Op} {ty:TypeId} {pos:String} {aft:Array Edge} {g:Option (Nat×Bool)} {v:AV} {a b:Code} {S:As}
theorem gg (h:GO P r (.code a) [] S Q):GF P r a S Q:=h
theorem JG {M:As}(l:Le S M) (bd:AL P r o k M Q):AL P r o k S Q :=
 fun F a w hs=>DE (fun _ _ _=>EV hs.heap.bd (Trans.le l)) _ _ _ (bd F a w (hs.le l))
def Mx.live:Mx→Bool
 | .code _ | .ops _ _=>true
 | _=>false
theorem BT (h:GO P r (.ops o k) fs S Q):AL P r o k S (QF P r fs Q):=h
theorem I8 (h:GO P r .fin fs S Q):QF P r fs Q .normal S:=h
theorem CF (h:GO P r (.code a) fs S Q):GF P r a S (QF P r fs Q):=h
theorem Tf (h:Q .ret S):∀fs,QF P r fs Q .ret S
 | []=>h
 | .seq _::fs=>Tf h fs
 | .blk _::fs=>Tf h fs
def Wg (tb:Kz P) (n m:Nat) (c:Mx) (fs:List Fr) (τ:Nat→AV) (H:List Aj) (is:List Nat):Option (Oper×Array Oper×Nat×List Fr×(Nat→AV)×List Aj×Prop) :=
 match go tb n 999999 m c fs τ H is True with
 | some (.ops o k,fs',τ',H',C)=>(match dz o k n τ' with | some x=>some (x,o,k,fs',τ',H',C) | none=>none)
 | _=>none
theorem Qt {tb:Kz P}{m:Nat}{is:List Nat}{x:Oper}(h:Wg tb n m c fs τ H is=some (x,o,k,fs',τ',H',C)) (c1:C) {R:DL→List Aj→Prop}(hop:CL P x (ev τ') H' R)
  (next:∀v H1,R (.val v) H1→GO P r (.ops o (k+1)) fs' ⟨n,put τ' x.dst v,H1,D⟩ Q) (pan:∀v H1,R (.panic v) H1→QF P r fs' Q (.panic v) ⟨n,τ',H1,D⟩):GO P r c fs ⟨n,τ,H,D⟩ Q:=by
 unfold Wg at h;split at h
 ·rename_i o1 k1 fs1 τ1 H1 C1 hg;split at h
  ·rename_i x1 hx;simp only[Option.some.injEq,Prod.mk.injEq] at h;obtain⟨rfl,rfl,rfl,rfl,rfl,rfl,rfl⟩:=h;have sp:=VV (H:=H1) (D:=D) hx;exact(go_sound tb n _ m hg c1).2 (EC (S:=⟨n,τ1,H1,D⟩) (Q:=QF P r fs1 Q) sp.1 sp.2.1 sp.2.2 hop next pan)
  cases h
 cases h
def Rx (tb:Kz P) (τ:Nat→AV) (H:List Aj):List ResultVar→List Nat→Option (List AV×Prop)
 | [],_=>some ([],True)
 | .tmp t::rs,is=>match eK (τ t) with
  | some v=>(match Rx tb τ H rs is with | some (vs,C)=>some (v::vs,C) | none=>none)
  | none=>none
 | .cell a T::rs,i::is=>match τ a with
  | .ptr b 0=>(match H[i]? with
   | some (.box b' cs)=>(match tb.ty T with
    | some (true,m)=>(match Rx tb τ H rs is with | some (vs,C)=>some (.agg cs::vs,(C∧b'=b)∧cs.length=m) | none=>none)
    | some (false,_)=>(match cs with
     | [v]=>(match Rx tb τ H rs is with | some (vs,C)=>some (v::vs,C∧b'=b) | none=>none)
     | _=>none)
    | none=>none)
   | _=>none)
  | _=>none
 | _::_,[]=>none
theorem II (tb:Kz P) {S:As}:∀(rs:List ResultVar) (is:List Nat) {vs:List AV}{C:Prop},Rx tb S.τ S.H rs is=some (vs,C)→C→M1 P S rs vs
 | [],is,vs,C,h,c=>by simp only[Rx,Option.some.injEq,Prod.mk.injEq] at h;obtain⟨rfl,rfl⟩:=h;rfl
 | .tmp t::rs,is,vs,C,h,c=>by
  unfold Rx at h;split at h
  ·rename_i v hv;split at h
   ·rename_i vs1 C1 h1;simp only[Option.some.injEq,Prod.mk.injEq] at h;obtain⟨rfl,rfl⟩:=h;exact⟨v,vs1,O,Rs hv,II tb rs is h1 c⟩
   cases h
  ·cases h
 | .cell a T::rs,[],vs,C,h,c=>by cases h
 | .cell a T::rs,i::is,vs,C,h,c=>by
  unfold Rx at h;split at h
  ·rename_i b ha;split at h
   ·rename_i b' cs hi;split at h
    ·rename_i m hT;split at h
     ·rename_i vs1 C1 h1;simp only[Option.some.injEq,Prod.mk.injEq] at h;obtain⟨rfl,rfl⟩:=h;obtain⟨⟨c,rfl⟩,hm⟩:=c;have ⟨d,h2,h3,h4⟩:=Df (tb.hty _ _ hT);exact⟨_,vs1,O,⟨b',cs,i,ha,hi,.inl ⟨d,h2,h3,by rw[h4,hm],rfl⟩⟩,II tb rs is h1 c⟩
     cases h
    ·rename_i m hT;split at h
     ·rename_i v;split at h
      ·rename_i vs1 C1 h1;simp only[Option.some.injEq,Prod.mk.injEq] at h;obtain⟨rfl,rfl⟩:=h;obtain⟨c,rfl⟩:=c;have ⟨d,h2,h3,h4⟩:=Df (tb.hty _ _ hT);exact⟨_,vs1,O,⟨b',[v],i,ha,hi,.inr ⟨d,h2,h3,O⟩⟩,II tb rs is h1 c⟩
      cases h
     cases h
    cases h
   cases h
  cases h
end
section
variable {P:Program} [it:TabOf P] {r:Option Nat}{n k:Nat}{o:Array Oper}{D:List Cb}{Q:Bd→As→Prop}{c c':Mx}{fs fs':List Fr}{τ τ':Nat→AV}{H H':List Aj}{C:Prop}
 {dst:Option Nat} {op:Op} {ty:TypeId} {pos:String} {aft:Array Edge} {g:Option (Nat×Bool)} {v:AV} {a b:Code} {S:As}
theorem Vu {f:FuncId}{fn:Func}{args:List AV}{R:DL→List Aj→Prop}(hf:P.funcs[f]?=some fn) (hb:fn.body=some a) (h:GO P none (.code a) [] ⟨fn.ntmps,Kk args,H,[]⟩ (Y6 P fn R)) (he:it.ent f=true:=by exact rfl) (hn:Nat.ble args.length fn.ntmps=true:=by exact rfl):BO P f args H R:=Bv hf hb (it.hent f he) rfl hn h
theorem gx (l:List Nat) (h:go it.tab n 999999 (l.headD 0) c fs τ H l.tail True=some (.ops o k,fs',τ',H',C)) (next:AL P r o k ⟨n,τ',H',D⟩ (QF P r fs' Q)) (c1:C:=by exact Ek):GO P r c fs ⟨n,τ,H,D⟩ Q:=(go_sound it.tab n _ _ h c1).2 next
theorem eg (l:List Nat) (h:go it.tab n 999999 (l.headD 0) c fs τ H l.tail True=some (.code a,fs',τ',H',C)) (next:GF P r a ⟨n,τ',H',D⟩ (QF P r fs' Q)) (c1:C:=by exact Ek):GO P r c fs ⟨n,τ,H,D⟩ Q:=(go_sound it.tab n _ _ h c1).2 next
theorem gD (l:List Nat) (h:go it.tab n 999999 (l.headD 0) c fs τ H l.tail True=some (.fin,[],τ',H',C)) (next:Q .normal ⟨n,τ',H',D⟩) (c1:C:=by exact Ek):GO P r c fs ⟨n,τ,H,D⟩ Q:=(go_sound it.tab n _ _ h c1).2 next
theorem ep (l:List Nat) {i:Nat}{K:As→Prop}{gs:List Fr}{Q':Bd→As→Prop}(h:go it.tab n 999999 (l.headD 0) c fs τ H l.tail True=some (.ext i,[],τ',H',C)) (next:GO P r (.ext i) gs ⟨n,τ',H',D⟩ Q') (c1:C:=by exact Ek):GO P r c fs ⟨n,τ,H,D⟩ (HU K (QF P r gs Q')):=(go_sound it.tab n _ _ h c1).2 next
theorem eT (l:List Nat) (h:go it.tab n 999999 (l.headD 0) c fs τ H l.tail True=some (.code .ret,fs',τ',H',C)) (next:Q .ret ⟨n,τ',H',D⟩) (c1:C:=by exact Ek):GO P r c fs ⟨n,τ,H,D⟩ Q:=(go_sound it.tab n _ _ h c1).2 (Bk (Tf next fs'))
theorem Xz (l:List Nat) {x:Operand}{q:Bool}(h:go it.tab n 999999 (l.headD 0) c fs τ H l.tail True=some (.code (.cond x a b),fs',τ',H',C)) (hx:ev τ' x= .p (.bool q)) (ht:q=true→GO P r (.code a) fs' ⟨n,τ',H',D⟩ Q) (hf:q=false→GO P r (.code b) fs' ⟨n,τ',H',D⟩ Q) (c1:C:=by exact Ek):GO P r c fs ⟨n,τ,H,D⟩ Q:=(go_sound it.tab n _ _ h c1).2 (A5 hx ht hf)
variable {x y:Operand}{T:Nat}
theorem Rn (l:List Nat) {H'':List Aj}(h:Wg it.tab n (l.headD 0) c fs τ H l.tail=some (⟨dst,op,ty,pos,aft,g⟩,o,k,fs',τ',H',C)) (hop:Ce P ⟨dst,op,ty,pos,aft,g⟩ (ev τ') H' v H'')
  (next:GO P r (.ops o (k+1)) fs' ⟨n,put τ' dst v,H'',D⟩ Q) (c1:C:=by exact Ek):GO P r c fs ⟨n,τ,H,D⟩ Q :=
 Qt h c1 hop (fun v' H1 hr=>by obtain⟨rfl,rfl⟩:=hr;exact next) (fun _ _ h=>h.elim)
theorem Ue (l:List Nat) {cs:List AV}(h:Wg it.tab n (l.headD 0) c fs τ H l.tail=some (⟨dst,op,ty,pos,aft,g⟩,o,k,fs',τ',H',C)) (hop:CL P ⟨dst,op,ty,pos,aft,g⟩ (ev τ') H' (Hl cs H'))
  (next:∀b,GO P r (.ops o (k+1)) fs' ⟨n,put τ' dst (.ptr b 0),.box b cs::H',D⟩ Q) (c1:C:=by exact Ek):GO P r c fs ⟨n,τ,H,D⟩ Q :=
 Qt h c1 hop (fun v' H1 ⟨b,h1,h2⟩=>by subst h1;subst h2;exact next b) (fun _ _ h=>h.elim)
theorem fP (l:List Nat) {cs:List AV}(h:Wg it.tab n (l.headD 0) c fs τ H l.tail=some (⟨dst,.box T x,ty,pos,aft,g⟩,o,k,fs',τ',H',C)) (hx:DA (ev τ' x)=some cs)
  (next:∀b,GO P r (.ops o (k+1)) fs' ⟨n,put τ' dst (.ptr b 0),.box b cs::H',D⟩ Q) (c1:C:=by exact Ek):GO P r c fs ⟨n,τ,H,D⟩ Q:=Ue l h (CJ hx) next c1
theorem fq (l:List Nat) {cl:Call}{f:Operand}{fid:FuncId}{A:List AV}(h:Wg it.tab n (l.headD 0) c fs τ H l.tail=some (⟨dst,.call cl,ty,pos,aft,g⟩,o,k,fs',τ',H',C)) (hf:EE P fid A v)
  (next:GO P r (.ops o (k+1)) fs' ⟨n,put τ' dst v,H',D⟩ Q) (hc:cl.callee= .value f:=by exact rfl) (hq:ev τ' f= .p (.fn fid):=by exact rfl) (hA:cl.args.toList.map (ev τ')=A:=by exact rfl) (c1:C:=by exact Ek):GO P r c fs ⟨n,τ,H,D⟩ Q:=Rn l h (BM hc hq hf hA) next c1
theorem eu (l:List Nat) {a:Operand}{e n1 n2 q:Nat}{rows:List (List PV)}(h:Wg it.tab n (l.headD 0) c fs τ H l.tail=some (⟨dst,.call { callee:= .builtin .len,args:=#[a],argTypes:=#[T] },ty,pos,aft,g⟩,o,k,fs',τ',H',C)) (hx:ev τ' a= .p (.lst rows)) (hn:rows.length=q)
  (next:GO P r (.ops o (k+1)) fs' ⟨n,put τ' dst (.p (.int .i64 q)),H',D⟩ Q) (hT:it.el T=some (e,n1,n2):=by exact rfl) (c1:C:=by exact Ek):GO P r c fs ⟨n,τ,H,D⟩ Q:=Rn l h (Bp (it.hel T _ hT) hx hn) next c1
def Ko {α:Type}(rows:List (List PV)) (l:List α) (f:α→List PV) (sz:Nat):Prop:=rows=l.map f∧∀x,(f x).length=sz
theorem eX {i:Int}{j m:Nat}(h:0≤i∧i.toNat=j∧j<m:=by exact⟨by omega,by first | rfl | omega,by omega⟩):0≤i∧i.toNat=j∧j<m:=h
theorem bT (l:List Nat) {α:Type}{e n1 n2:Nat}{kk:IntKind}{i:Int}{rows:List (List PV)}{f:α→List PV}(xs:List α) (j:Nat) (h:Wg it.tab n (l.headD 0) c fs τ H l.tail=some (⟨dst,.indexAddr T x y,ty,pos,aft,g⟩,o,k,fs',τ',H',C)) (hx:ev τ' x= .p (.lst rows)) (hy:ev τ' y= .p (.int kk i)) (hr:Ko rows xs f n1)
  (next:∀z,xs[j]?=some z→GO P r (.ops o (k+1)) fs' ⟨n,put τ' dst (.ref (f z)),H',D⟩ Q) (hj:0≤i∧i.toNat=j∧j<xs.length:=by exact eX) (hT:it.el T=some (e,n1,n2):=by exact rfl) (c1:C:=by exact Ek):GO P r c fs ⟨n,τ,H,D⟩ Q:=by
 obtain⟨h0,rfl,h2⟩:=hj;have hz:xs[i.toNat]?=some xs[i.toNat]:=List.getElem?_eq_getElem h2;exact Rn l h (Ao (it.hel T _ hT) hx hy h0 (by rw[hr.1,List.getElem?_map,hz];rfl) (hr.2 _)) (next _ hz) c1
theorem aV {a p:Prop}(h:a→p:=by first | (intro h;simp only[Go.Eu.sd,Go.Eu.se] at h;exact h) | exact fun h=>h):a→p:=h
def iu (tb:Kz P) (n:Nat) (l:List Nat) (c:Mx) (fs:List Fr) (τ:Nat→AV) (H:List Aj):Option (Code×Code×Bool×List Fr×(Nat→AV)×List Aj×Prop) :=
 match go tb n 999999 (l.headD 0) c fs τ H l.tail True with
 | some (.code (.cond x a b),fs',τ',H',C)=>(match ev τ' x with | .p (.bool q)=>some (a,b,q,fs',τ',H',C) | _=>none)
 | _=>none
theorem gF (l:List Nat) {q:Bool}{p p':Prop}(h:iu it.tab n l c fs τ H=some (a,b,q,fs',τ',H',C)) (ht:p→GO P r (.code a) fs' ⟨n,τ',H',D⟩ Q) (hf:p'→GO P r (.code b) fs' ⟨n,τ',H',D⟩ Q)
  (e1:q=true→p:=by exact aV) (e2:q=false→p':=by exact aV) (c1:C:=by exact Ek):GO P r c fs ⟨n,τ,H,D⟩ Q:=by
 unfold iu at h;split at h
 ·rename_i x a1 b1 fs1 τ1 H1 C1 hg;split at h
  ·rename_i q1 hx;simp only[Option.some.injEq,Prod.mk.injEq] at h;obtain⟨rfl,rfl,rfl,rfl,rfl,rfl,rfl⟩:=h;exact Xz l hg hx (fun e=>ht (e1 e)) (fun e=>hf (e2 e)) c1
  cases h
 cases h
theorem rt (is hs:List Nat) {fn:Func}{R:DL→List Aj→Prop}{vs:List AV}{H1:List Aj}(h:Rx it.tab τ H fn.results.toList is=some (vs,C)) (hH:ZC hs.length (Jv hs 0 H)=some H1) (e:R (.val (pack vs)) H1) (c1:C:=by exact Ek):Y6 P fn R .ret ⟨n,τ,H,[]⟩ :=
 ⟨rfl,vs,H1,II it.tab (S:=⟨n,τ,H,[]⟩) _ is h c1,Fe (Rg hH).symm,e⟩
theorem dH (l:List Nat) (d:Nat) {q:Bool}{p p':Prop}(h:go it.tab n 999999 (l.headD 0) c fs τ H l.tail True=some (.ops o k,fs',τ',H',C)) (hb:τ' d= .p (.bool q)) (ht:p→GO P r (.ops o k) fs' ⟨n,put τ' (some d) (.p (.bool true)),H',D⟩ Q) (hf:p'→GO P r (.ops o k) fs' ⟨n,put τ' (some d) (.p (.bool false)),H',D⟩ Q)
  (e1:q=true→p:=by exact aV) (e2:q=false→p':=by exact aV) (c1:C:=by exact Ek):GO P r c fs ⟨n,τ,H,D⟩ Q:=(go_sound it.tab n _ _ h c1).2 (Br (Q:=QF P r fs' Q) d hb (fun e=>ht (e1 e)) (fun e=>hf (e2 e)))
def WM:List Aj→List (Nat×Aj)→List Aj
 | H,[]=>H
 | H,(i,o)::g=>WM (H.set i o) g
def MQ (n:Nat) (D:List Cb) (H0:List Aj) (R:AV→Prop) (d:Nat) (τ0:Nat→AV) (live:List Nat) (S:As):Prop:=S.n=n∧S.D=D∧H0.Sublist S.H∧R (S.τ d)∧X6 S.τ τ0 live
def WQ {α:Type}(n:Nat) (D:List Cb) (kl:List (Nat×AV)) (f:α→List (Nat×AV)) (Hk:List Aj) (g:α→List (Nat×Aj)) (μ:α→Nat) (C0:α→Prop) (a1:α) (S:As):Prop:=∃a2,μ a2<μ a1∧C0 a2∧Le S ⟨n,mk (kl++f a2),WM Hk (g a2),D⟩
theorem jk {p:Prop}(h:p:=by first | rfl | (refine pB ?_;simp_all;done) | (refine pB ?_;simp_all<;>(intros;omega))):p:=h
theorem gk {p:Prop}(h:p:=by first | exact List.Sublist.refl _ | exact List.sublist_cons_self _ _):p:=h
theorem ez {p:Prop}(h:p:=by repeat' first | exact trivial | exact rfl | refine And.intro ?_ ?_):p:=h
theorem hQ (l:List Nat) {H0:List Aj}{R:AV→Prop}{d:Nat}{τ0:Nat→AV}{live:List Nat}(h:go it.tab n 999999 (l.headD 0) c fs τ H l.tail True=some (.fin,[],τ',H',C))
  (hr:R (τ' d):=by exact jk) (hs:H0.Sublist H':=by exact gk) (hl:X6 τ' τ0 live:=by exact ez) (c1:C:=by exact Ek):GO P r c fs ⟨n,τ,H,D⟩ (HU (MQ n D H0 R d τ0 live) Q):=(go_sound it.tab n _ _ h c1).2 ⟨rfl,rfl,hs,hr,hl⟩
def Oi (τ:Nat→AV):List Nat→Option (List (Nat×AV))
 | []=>some []
 | t::r=>match eK (τ t) with
  | some v=>(match Oi τ r with | some l=>some ((t,v)::l) | none=>none)
  | none=>none
theorem OA:∀{l:List Nat}{kl:List (Nat×AV)},Oi τ l=some kl→kl=l.map fun t=>(t,τ t)
 | [],kl,h=>by simpa [Oi] using h.symm
 | t::l,kl,h=>by
  unfold Oi at h;split at h
  ·rename_i v hv;split at h
   ·rename_i kl1 h1;injection h with h;rw[←h,OA h1,←Rs hv];rfl
   cases h
  cases h
theorem X8 (l:List Nat) (st:Nat) (live:List Nat) (d:Nat) (R:AV→Prop) {kl:List (Nat×AV)}(h:go it.tab n st (l.headD 0) c fs τ H l.tail True=some (.code a,fs',τ',H',C)) (hk:Oi τ' live=some kl)
  (h1:GO P r (.code a) [] ⟨n,τ',H',D⟩ (HU (MQ n D H' R d τ' live) (QF P r fs' Q))) (next:∀x,R x→GO P r .fin fs' ⟨n,mk ((d,x)::kl),H',D⟩ Q) (c1:C:=by exact Ek):GO P r c fs ⟨n,τ,H,D⟩ Q:=by
 have e:=OA hk;subst e;exact(go_sound it.tab n _ _ h c1).2 (DV live d R h1 next)
theorem bD (l:List Nat) (st:Nat) (live:List Nat) (d:Nat) (q:Bool) {kl:List (Nat×AV)}(h:go it.tab n st (l.headD 0) c fs τ H l.tail True=some (.code a,fs',τ',H',C)) (hk:Oi τ' live=some kl)
  (h1:GO P r (.code a) [] ⟨n,τ',H',D⟩ (HU (MQ n D H' (fun y=>y= .p (.bool q)) d τ' live) (QF P r fs' Q))) (next:GO P r .fin fs' ⟨n,mk ((d,.p (.bool q))::kl),H',D⟩ Q) (c1:C:=by exact Ek):GO P r c fs ⟨n,τ,H,D⟩ Q :=
 X8 l st live d (fun y=>y= .p (.bool q)) h hk h1 (fun x e=>by subst e;exact next) c1
theorem gp {p:Prop}(h:p:=by repeat' first | exact trivial | exact we rfl | exact N8 _ | refine And.intro ?_ ?_):p:=h
theorem iz {p:Prop}(h:p:=by repeat' first | exact rfl | refine⟨_,_,rfl,oe rfl,?_⟩):p:=h
theorem JT:∀{l l':List (Nat×AV)},Fq τ l→Fq τ l'→Fq τ (l++l')
 | [],_,_,h=>h
 | _::_,_,h,h'=>⟨h.1,JT h.2 h'⟩
theorem Kj:∀(l:List Nat),Fq τ (l.map fun t=>(t,τ t))
 | []=>trivial
 | _::l=>⟨we rfl,Kj l⟩
theorem dV {H1 M:List Aj}(k:Nat) (h:Dq (H1.drop k) M):aU H1 M:=⟨_,List.drop_sublist k H1,h⟩
theorem ib {α:Type}(l:List Nat) (L:List Nat) (is:List Nat) (f:α→List (Nat×AV)) (g:α→List (Nat×Aj)) (μ:α→Nat) (C0:α→Prop) (a0:α) {kl:List (Nat×AV)}{Hk:List Aj}(h:go it.tab n 999999 (l.headD 0) c fs τ H l.tail True=some (.code (.loop a),fs',τ',H',C))
  (hk:Oi τ' L=some kl) (hH:ZC is.length (Jv is 0 H')=some Hk) (hC:C0 a0)
  (round:∀a1,C0 a1→GO P r (.code a) [] ⟨n,mk (kl++f a1),WM Hk (g a1),D⟩ (HU (WQ n D kl f Hk g μ C0 a1) (QF P r fs' Q)))
  (e0:Fq τ' (f a0):=by exact gp) (e1:Dq Hk (WM Hk (g a0)):=by exact iz) (c1:C:=by exact Ek):GO P r c fs ⟨n,τ,H,D⟩ Q:=by
 refine(go_sound it.tab n _ _ h c1).2 (C4 (fun a1=>⟨n,mk (kl++f a1),WM Hk (g a1),D⟩) μ C0 a0 hC ?_ round);have e:=OA hk;subst e;exact C3 (JT (Kj L) e0) ⟨Hk,Fe (Rg hH).symm,e1⟩
theorem iS {α:Type}(l:List Nat) (k:Nat) {kl:List (Nat×AV)}{f:α→List (Nat×AV)}{g:α→List (Nat×Aj)}{Hk:List Aj}{μ:α→Nat}{C0:α→Prop}{a1:α}(a2:α) (h:go it.tab n 999999 (l.headD 0) c fs τ H l.tail True=some (.fin,[],τ',H',C))
  (hC:C0 a2) (hμ:μ a2<μ a1:=by first | omega | (simp only;omega)) (e1:Fq τ' (f a2):=by exact gp) (e2:Dq (H'.drop k) (WM Hk (g a2)):=by exact iz) (e0:Fq τ' kl:=by exact gp) (c1:C:=by exact Ek) :
  GO P r c fs ⟨n,τ,H,D⟩ (HU (WQ n D kl f Hk g μ C0 a1) Q) :=
 (go_sound it.tab n _ _ h c1).2 ⟨a2,hμ,hC,C3 (JT e0 e1) (dV k e2)⟩
end
end Go.Abs
namespace Go.Abs
open Go.Eu
theorem IK {α:Type}{l:List α}{f:α→List PV}{sz:Nat}(h:∀x,(f x).length=sz):Ko (l.map f) l f sz:=⟨rfl,h⟩
theorem Jt (l:List Tm):Ko (A0 l) l BB 5:=⟨Cl l,An⟩
theorem dF (l:List HC):Ko (Is l) l EL 10:=⟨Ht l,Dy⟩
end Go.Abs
namespace Go.Abs
section
variable {P:Program} [it:TabOf P] {r:Option Nat}{n k:Nat}{ops:Array Oper}{D:List Cb}{Q:Bd→As→Prop}{c:Mx}{fs fs':List Fr}{τ τ' τ₀:Nat→AV}{H H':List Aj}{C:Prop}
theorem ic (l op:List Nat) {id:Nat}(h:go it.tab n 999999 (l.headD 0) c fs τ H l.tail True=some (.code (.region id ops true),fs',τ',H',C)) (next:Dr P ops n τ' D (QF P r fs' Q) (fun k=>op.any (Nat.beq k)) 0 τ' H' [] [] [] []) (c1:C:=by exact Ek):GO P r c fs ⟨n,τ,H,D⟩ Q:=(go_sound it.tab n _ _ h c1).2 (GS _ it.mx next)
variable {opn:Nat→Bool}{rd rd':Ot}{ef ef':O7}{effs effs':List Bool}{fx:List (Nat×Sp)}
theorem bq (l:List Nat) (h:GY it.tab ops opn fx (l.headD 0) k τ H rd ef effs l.tail True=some (τ',H',rd',ef',effs',C)) (next:Dr P ops n τ₀ D Q opn (k+l.headD 0) τ' H' rd' ef' effs' fx) (c1:C:=by exact GG):Dr P ops n τ₀ D Q opn k τ H rd ef effs fx:=(FL it.tab _ k h c1).2 next
theorem eS (l:List Nat) (h:GY it.tab ops opn fx (l.headD 0) k τ H rd ef effs l.tail True=some (τ',H',rd',ef',effs',C)) (next:GO P r .fin fs ⟨n,τ',H',D⟩ Q) (hk:k+l.headD 0=ops.size:=by exact rfl) (chk:KI ops n effs'.reverse=true:=by kernel_rfl) (c1:C:=by exact GG):Dr P ops n τ₀ D (QF P r fs Q) opn k τ H rd ef effs fx:=bq l h (Fj hk chk next) c1
end
end Go.Abs
namespace Go.Abs
open Go.Eu
class AtC (cells:List PV) (o n:Nat) (us:outParam (List PV)):Prop where
 at':At cells o us
 len:us.length=n
instance (x:B4):AtC (Bn x) 0 1 [I x.kind]:=⟨Ch x,rfl⟩
instance (x:B4):AtC (Bn x) 1 1 [.str x.name]:=⟨Ec x,rfl⟩
instance (x:B4):AtC (Bn x) 2 1 [I x.params]:=⟨B3 x,rfl⟩
instance (x:B4):AtC (Bn x) 3 5 (BB x.type):=⟨D8 x,An _⟩
instance (x:B4):AtC (Bn x) 8 5 (BB x.value):=⟨Dp x,An _⟩
instance (x:B4):AtC (Bn x) 13 1 [I x.fixed]:=⟨Dm x,rfl⟩
instance (x:B4):AtC (Bn x) 14 1 [.lst (x.ctors.map FM)]:=⟨Bw x,rfl⟩
instance (x:B4):AtC (Bn x) 15 7 (JH x.recs):=⟨FT x,GC _⟩
instance (x:B4):AtC (Bn x) 22 1 [.lst (x.funs.map Gz)]:=⟨Bb x,rfl⟩
instance (x:X3):AtC (JH x) 0 1 [I x.params]:=⟨JR x,rfl⟩
instance (x:X3):AtC (JH x) 1 5 (BB x.type):=⟨K8 x,An _⟩
instance (x:X3):AtC (JH x) 6 1 [.lst (A0 x.rules)]:=⟨J2 x,rfl⟩
instance (x:I1):AtC (FM x) 0 1 [.str x.name]:=⟨K5 x,rfl⟩
instance (x:I1):AtC (FM x) 1 5 (BB x.type):=⟨Ef x,An _⟩
instance (x:Ie):AtC (Gz x) 0 1 [.str x.name]:=⟨KV x,rfl⟩
instance (x:Ie):AtC (Gz x) 1 5 (BB x.type):=⟨Gi x,An _⟩
instance (x:Ie):AtC (Gz x) 6 1 [I x.arity]:=⟨Ft x,rfl⟩
instance (x:Ie):AtC (Gz x) 7 8 (DF x.tree):=⟨Ih x,DD _⟩
instance (x:Fv):AtC (DF x) 0 1 [I x.kind]:=⟨Gh x,rfl⟩
instance (x:Fv):AtC (DF x) 1 5 (BB x.body):=⟨Eh x,An _⟩
instance (x:Fv):AtC (DF x) 6 1 [I x.var]:=⟨FC x,rfl⟩
instance (x:Fv):AtC (DF x) 7 1 [.lst (Is x.branches)]:=⟨Bf x,rfl⟩
instance (x:HC):AtC (EL x) 0 1 [.str x.ctor]:=⟨FO x,rfl⟩
instance (x:HC):AtC (EL x) 1 1 [.bool x.absurd]:=⟨FF x,rfl⟩
instance (x:HC):AtC (EL x) 2 8 (DF x.tree):=⟨Ee x,DD _⟩
instance (x:GZ):AtC (GA x) 0 1 [I x.kind]:=⟨KY x,rfl⟩
instance (x:GZ):AtC (GA x) 1 1 [I x.decl]:=⟨Kw x,rfl⟩
instance (x:GZ):AtC (GA x) 2 1 [I x.item]:=⟨LM x,rfl⟩
instance (x:GZ):AtC (GA x) 3 1 [I x.params]:=⟨Gr x,rfl⟩
instance (x:GZ):AtC (GA x) 4 5 (BB x.type):=⟨Ra x,An _⟩
instance (x:Hq):AtC (Cs x) 0 1 [.lst (x.env.map Bn)]:=⟨F5 x,rfl⟩
instance (x:Hq):AtC (Cs x) 1 1 [.lst (x.own.map FX)]:=⟨MP x,rfl⟩
instance (x:Hq):AtC (Cs x) 2 23 (Bn x.d):=⟨Dv x,ET _⟩
instance (x:B4):AtC (Bn x) 15 1 [I x.recs.params]:=⟨CO x,rfl⟩
instance (x:B4):AtC (Bn x) 16 5 (BB x.recs.type):=⟨Dj x,An _⟩
instance (x:B4):AtC (Bn x) 21 1 [.lst (A0 x.recs.rules)]:=⟨CB x,rfl⟩
instance (x:Hq):AtC (Cs x) 2 1 [I x.d.kind]:=⟨O1 x,rfl⟩
instance (x:Hq):AtC (Cs x) 3 1 [.str x.d.name]:=⟨PG x,rfl⟩
instance (x:Hq):AtC (Cs x) 4 1 [I x.d.params]:=⟨Hu x,rfl⟩
instance (x:Hq):AtC (Cs x) 5 5 (BB x.d.type):=⟨Oc x,An _⟩
instance (x:Hq):AtC (Cs x) 10 5 (BB x.d.value):=⟨Mp x,An _⟩
instance (x:Hq):AtC (Cs x) 15 1 [I x.d.fixed]:=⟨My x,rfl⟩
instance (x:Hq):AtC (Cs x) 16 1 [.lst (x.d.ctors.map FM)]:=⟨Mw x,rfl⟩
instance (x:Hq):AtC (Cs x) 17 7 (JH x.d.recs):=⟨Oj x,GC _⟩
instance (x:Hq):AtC (Cs x) 24 1 [.lst (x.d.funs.map Gz)]:=⟨NW x,rfl⟩
def ej {P:Program}(tb:Kz P) (n:Nat):Nat→Mx→List Fr→(Nat→AV)→List Aj→Prop→Mx×List Fr×(Nat→AV)×List Aj×Prop
 | 0,c,fs,τ,H,C=>(c,fs,τ,H,C)
 | m+1,c,fs,τ,H,C=>match go tb n 888888 1 c fs τ H [] C with
  | some (c',fs',τ',H',C')=>ej tb n m c' fs' τ' H' C'
  | none=>(c,fs,τ,H,C)
def jF {P:Program}(tb:Kz P) (n:Nat) (c:Mx) (fs:List Fr) (τ:Nat→AV) (H:List Aj):Option (Mx×List Fr×(Nat→AV)×List Aj×Prop) :=
 match go tb n 888888 1 c fs τ H [] True with
 | some (c',fs',τ',H',C')=>some (ej tb n 60 c' fs' τ' H' C')
 | none=>none
def eb {P:Program}(tb:Kz P) (ops:Array Oper) (opn:Nat→Bool) (fx:List (Nat×Sp)):Nat→Nat→(Nat→AV)→List Aj→Ot→O7→List Bool→Prop→Nat×gI
 | 0,k,τ,H,rd,ef,effs,C=>(k,τ,H,rd,ef,effs,C)
 | m+1,k,τ,H,rd,ef,effs,C=>match GY tb ops opn fx 1 k τ H rd ef effs [] C with
  | some (τ',H',rd',ef',effs',C')=>eb tb ops opn fx m (k+1) τ' H' rd' ef' effs' C'
  | none=>(k,τ,H,rd,ef,effs,C)
def jH {P:Program}(tb:Kz P) (ops:Array Oper) (opn:Nat→Bool) (fx:List (Nat×Sp)) (k:Nat) (τ:Nat→AV) (H:List Aj) (rd:Ot) (ef:O7) (effs:List Bool):Option (Nat×gI) :=
 match GY tb ops opn fx 1 k τ H rd ef effs [] True with
 | some (τ',H',rd',ef',effs',C')=>some (eb tb ops opn fx 60 (k+1) τ' H' rd' ef' effs' C')
 | none=>none
def da (ops:Array Oper) (opn:Nat→Bool) (k:Nat) (τ:Nat→AV):Option Oper :=
 match ops[k]? with
 | none=>none
 | some ⟨dst,op,ty,pos,aft,g⟩ =>
  bif opn k then none else
   match g with
   | none=>some ⟨dst,op,ty,pos,aft,none⟩
   | some (j,want) =>
    match (ops[j]?).bind (·.dst) with
    | none=>none
    | some d=>match τ d with | .p (.bool b)=>bif b==want then some ⟨dst,op,ty,pos,aft,some (j,want)⟩ else none | _=>none
def jh:Op→Nat
 | .load _ _=>1 | .store _ _ _=>2 | .alloc _=>3 | .box _ _=>3 | .indexAddr _ _ _=>4 | .call _=>5 | .binOp _ _ _ _ _=>6
 | _=>0
def fQ (ops:Array Oper) (k:Nat):Nat:=match ops[k]? with | some o=>jh o.op | none=>7
def fy:Mx→Nat
 | .ops o k=>fQ o k
 | _=>8
structure Kp (C:Prop):Prop where
 get:C
section
variable {P:Program}{r:Option Nat}{n k k':Nat}{ops:Array Oper}{D:List Cb}{Q:Bd→As→Prop}{τ τ' τ₀:Nat→AV}{H H':List Aj}{C C':Prop}{opn:Nat→Bool}{rd rd':Ot}{ef ef':O7}{effs effs':List Bool}{fx:List (Nat×Sp)}{v:AV}
 {dst:Option Nat} {op:Op} {ty:TypeId} {pos:String} {aft:Array Edge} {g:Option (Nat×Bool)}
theorem TJ {x:Oper}(h:da ops opn k τ=some x):ops[k]?=some x∧opn k=false∧DI ops ⟨0,τ,[],[]⟩ x:=by
 unfold da at h;split at h
 ·cases h
 rename_i dst op ty pos aft g ho;cases hn:opn k with
 | true=>rw[hn] at h;cases h
 | false =>
  rw[hn,cond_false] at h;split at h
  ·injection h with h;subst h;exact⟨ho,rfl,trivial⟩
  rename_i j want;split at h
  ·cases h
  rename_i d hj;split at h
  ·rename_i b hb;cases hw:b==want with
   | true =>
    rw[hw,cond_true] at h;injection h with h;subst h;exact⟨ho,O,⟨d,hj,hb.trans (by rw[show b=want by simpa using hw])⟩⟩
   | false=>rw[hw,cond_false] at h;cases h
  cases h
theorem gT (q:Nat) {c:Mx}{fs:List Fr}{S:As}(h:fy (Pp 999999 200 c fs).1=q) (next:GO P r c fs S Q):GO P r c fs S Q:=next
theorem jc {c:Mx}{fs:List Fr}{S:As}(h:Nat.blt (fy (Pp 999999 200 c fs).1) 7=true) (next:GO P r c fs S Q):GO P r c fs S Q:=next
theorem jd (next:Dr P ops n τ₀ D Q opn k τ H rd ef effs fx):Dr P ops n τ₀ D Q opn k τ H rd ef effs fx:=next
theorem gH (q:Nat) (h:fQ ops k=q) (next:Dr P ops n τ₀ D Q opn k τ H rd ef effs fx):Dr P ops n τ₀ D Q opn k τ H rd ef effs fx:=next
theorem Ql (tb:Kz P):∀(m:Nat) {c c':Mx}{fs fs':List Fr}{τ τ':Nat→AV}{H H':List Aj}{C C':Prop},ej tb n m c fs τ H C=(c',fs',τ',H',C')→C'→C∧(GO P r c' fs' ⟨n,τ',H',D⟩ Q→GO P r c fs ⟨n,τ,H,D⟩ Q)
 | 0,c,c',fs,fs',τ,τ',H,H',C,C',h,c1=>by
  simp only[ej,Prod.mk.injEq] at h;obtain⟨rfl,rfl,rfl,rfl,rfl⟩:=h;exact⟨c1,id⟩
 | m+1,c,c',fs,fs',τ,τ',H,H',C,C',h,c1=>by
  unfold ej at h;split at h
  ·rename_i hg;have ⟨c2,ih⟩:=Ql tb m h c1;have ⟨c3,i2⟩:=go_sound (r:=r) (Q:=Q) tb n 888888 (D:=D) 1 hg c2;exact⟨c3,fun q=>i2 (ih q)⟩
  simp only[Prod.mk.injEq] at h;obtain⟨rfl,rfl,rfl,rfl,rfl⟩:=h;exact⟨c1,id⟩
theorem Ps (tb:Kz P):∀(m:Nat) {k k':Nat}{τ τ':Nat→AV}{H H':List Aj}{rd rd':Ot}{ef ef':O7}{effs effs':List Bool}{C C':Prop},eb tb ops opn fx m k τ H rd ef effs C=(k',τ',H',rd',ef',effs',C')→C'→C∧(Dr P ops n τ₀ D Q opn k' τ' H' rd' ef' effs' fx→Dr P ops n τ₀ D Q opn k τ H rd ef effs fx)
 | 0,k,k',τ,τ',H,H',rd,rd',ef,ef',effs,effs',C,C',h,c1=>by
  simp only[eb,Prod.mk.injEq] at h;obtain⟨rfl,rfl,rfl,rfl,rfl,rfl,rfl⟩:=h;exact⟨c1,id⟩
 | m+1,k,k',τ,τ',H,H',rd,rd',ef,ef',effs,effs',C,C',h,c1=>by
  unfold eb at h;split at h
  ·rename_i hg;have ⟨c2,ih⟩:=Ps tb m h c1;have ⟨c3,i2⟩:=FL (n:=n) (τ₀:=τ₀) (D:=D) (Q:=Q) tb 1 k hg c2;exact⟨c3,fun q=>i2 (ih q)⟩
  simp only[Prod.mk.injEq] at h;obtain⟨rfl,rfl,rfl,rfl,rfl,rfl,rfl⟩:=h;exact⟨c1,id⟩
theorem UY (h:da ops opn k τ=some ⟨dst,op,ty,pos,aft,g⟩) (hop:∀H,Ce P ⟨dst,op,ty,pos,aft,g⟩ (ev τ) H v H) (next:Dr P ops n τ₀ D Q opn (k+1) (put τ dst v) H rd ef (false::effs) fx) (hfx:D6 k (.free v) fx:=by first | exact GG | fail):Dr P ops n τ₀ D Q opn k τ H rd ef effs fx :=
 have s:=TJ h
 .step (.free v) s.1 (.inl s.2.1) ⟨s.2.2,hop⟩ trivial hfx next
theorem iU {ob:Aj}{i:Nat}(h:da ops opn k τ=some ⟨dst,op,ty,pos,aft,g⟩) (hi:H[i]?=some ob) (hop:∀(H:List Aj) (i:Nat),H[i]?=some ob→Ce P ⟨dst,op,ty,pos,aft,g⟩ (ev τ) H v H) (next:Dr P ops n τ₀ D Q opn (k+1) (put τ dst v) H ((k,ob)::rd) ef (false::effs) fx) (owe:Sh ops k ob ef:=by first | exact GG | fail) (hfx:D6 k (.read [ob] v) fx:=by first | exact GG | fail):Dr P ops n τ₀ D Q opn k τ H rd ef effs fx :=
 have s:=TJ h
 .step (.read [ob] v) s.1 (.inl s.2.1) ⟨s.2.2,fun ob' hm=>by rw[List.mem_singleton] at hm;subst hm;exact List.mem_of_getElem? hi,fun H hm=>let ⟨i,hi⟩:=List.mem_iff_getElem?.1 (hm ob List.mem_cons_self);hop H i hi⟩ (fun ob' hm=>by rw[List.mem_singleton] at hm;subst hm;exact owe) hfx next
theorem gh {cs:List AV}{T:TypeId}{x:Operand}(ho:ops[k]?=some ⟨dst,.box T x,ty,pos,aft,none⟩) (hn:opn k=true) (hx:DA (ev τ x)=some cs) (next:∀b,Dr P ops n τ₀ D Q opn (k+1) (put τ dst (.ptr b 0)) (.box b cs::H) rd ((k,H,.box b cs::H)::ef) (true::effs) fx)
  (haft:Ct ops k []=true:=by first | kernel_rfl | fail) (howe:∀b,GJ ops k H (.box b cs::H) rd:=by first | exact fun _=>GG | fail) (hfx:∀b,D6 k (.eff (.ptr b 0) (.box b cs::H)) fx:=by first | exact fun _=>GG | fail):Dr P ops n τ₀ D Q opn k τ H rd ef effs fx :=
 Nk [] ho hn (CJ hx) haft fun b=>⟨howe b,hfx b,next b⟩
theorem iW {fs:List Fr}(hk:k=ops.size) (next:GO P r .fin fs ⟨n,τ,H,D⟩ Q) (chk:KI ops n effs.reverse=true:=by first | kernel_rfl | fail):Dr P ops n τ₀ D (QF P r fs Q) opn k τ H rd ef effs fx:=Fj hk chk next
theorem jL {H:List Aj}{o:Aj}(h:H[0]?=some o):H[0]?=some o:=h
theorem jM {H:List Aj}{o:Aj}(h:H[1]?=some o):H[1]?=some o:=h
theorem jZ {H:List Aj}{o:Aj}(h:H[2]?=some o):H[2]?=some o:=h
theorem jS {H:List Aj}{o:Aj}(h:H[3]?=some o):H[3]?=some o:=h
theorem jV {H:List Aj}{o:Aj}(h:H[4]?=some o):H[4]?=some o:=h
theorem jg {H:List Aj}{o:Aj}(h:H[5]?=some o):H[5]?=some o:=h
theorem di {p:Prop}(h:p:=by first | exact jL rfl | exact jM rfl | exact jZ rfl | exact jS rfl | exact jV rfl | exact jg rfl | fail):p:=h
theorem aX {cs:List AV}{T:TypeId}{x:Operand}{b off i:Nat}(h:da ops opn k τ=some ⟨dst,.load T x,ty,pos,aft,g⟩) (hx:ev τ x= .ptr b off) (hi:H[i]?=some (.box b cs):=by first | exact di | fail) (hop:∀(H:List Aj) (i:Nat),H[i]?=some (.box b cs)→Ce P ⟨dst,.load T x,ty,pos,aft,g⟩ (ev τ) H v H) (next:Dr P ops n τ₀ D Q opn (k+1) (put τ dst v) H ((k,.box b cs)::rd) ef (false::effs) fx) (owe:Sh ops k (.box b cs) ef:=by first | exact GG | fail) (hfx:D6 k (.read [.box b cs] v) fx:=by first | exact GG | fail):Dr P ops n τ₀ D Q opn k τ H rd ef effs fx:=iU h hi hop next owe hfx
end
section
variable {P:Program} [it:TabOf P] {r:Option Nat}{n k k':Nat}{ops:Array Oper}{D:List Cb}{Q:Bd→As→Prop}{τ τ' τ₀:Nat→AV}{H H':List Aj}{C C':Prop}{opn:Nat→Bool}{rd rd':Ot}{ef ef':O7}{effs effs':List Bool}{fx:List (Nat×Sp)}{v:AV}
 {dst:Option Nat} {op:Op} {ty:TypeId} {pos:String} {aft:Array Edge} {g:Option (Nat×Bool)}
 {ρ:Operand→AV} {c c':Mx} {fs fs':List Fr} {T n1 b off i:Nat} {x y:Operand} {cells us:List PV} {u:PV} {rows:List (List PV)}
theorem ia (h:jF it.tab n c fs τ H=some (c',fs',τ',H',C)) (next:GO P r c' fs' ⟨n,τ',H',D⟩ Q) (c1:C:=by first | exact Ek | fail):GO P r c fs ⟨n,τ,H,D⟩ Q:=by
 unfold jF at h;split at h
 ·rename_i hg;injection h with h;have ⟨c2,ih⟩:=Ql (r:=r) (Q:=Q) (D:=D) it.tab 60 h c1;exact(go_sound it.tab n 888888 1 hg c2).2 (ih next)
 cases h
theorem iD (h:jH it.tab ops opn fx k τ H rd ef effs=some (k',τ',H',rd',ef',effs',C)) (next:Dr P ops n τ₀ D Q opn k' τ' H' rd' ef' effs' fx) (c1:C:=by first | exact GG | fail):Dr P ops n τ₀ D Q opn k τ H rd ef effs fx:=by
 unfold jH at h;split at h
 ·rename_i hg;injection h with h;have ⟨c2,ih⟩:=Ps (n:=n) (τ₀:=τ₀) (D:=D) (Q:=Q) it.tab 60 h c1;exact(FL it.tab 1 k hg c2).2 (ih next)
 cases h
theorem gn (l:List Nat) (h:go it.tab n 888888 1 c fs τ H l True=some (c',fs',τ',H',C)) (next:GO P r c' fs' ⟨n,τ',H',D⟩ Q) (c1:C:=by first | exact Ek | fail):GO P r c fs ⟨n,τ,H,D⟩ Q:=(go_sound it.tab n _ _ h c1).2 next
theorem gl (l:List Nat) (h:GY it.tab ops opn fx 1 k τ H rd ef effs l True=some (τ',H',rd',ef',effs',C)) (next:Dr P ops n τ₀ D Q opn (k+1) τ' H' rd' ef' effs' fx) (c1:C:=by first | exact GG | fail):Dr P ops n τ₀ D Q opn k τ H rd ef effs fx:=(FL it.tab 1 k h c1).2 next
theorem iO {cs:List AV}(h:Wg it.tab n 0 c fs τ H []=some (⟨dst,.box T x,ty,pos,aft,g⟩,ops,k,fs',τ',H',C)) (hx:DA (ev τ' x)=some cs)
  (next:∀b,GO P r (.ops ops (k+1)) fs' ⟨n,put τ' dst (.ptr b 0),.box b cs::H',D⟩ Q) (c1:C:=by first | exact Ek | fail):GO P r c fs ⟨n,τ,H,D⟩ Q:=Ue [0] h (CJ hx) next c1
theorem iG {cs:List AV}(h:Wg it.tab n 0 c fs τ H []=some (⟨dst,.alloc T,ty,pos,aft,g⟩,ops,k,fs',τ',H',C)) (next:∀b,GO P r (.ops ops (k+1)) fs' ⟨n,put τ' dst (.ptr b 0),.box b cs::H',D⟩ Q) (hz:it.tab.zr T=some cs:=by first | exact rfl | fail) (c1:C:=by first | exact Ek | fail):GO P r c fs ⟨n,τ,H,D⟩ Q :=
 let ⟨_,h1,h2⟩:=it.tab.hzr T cs hz
 Ue [0] h (Am h1 h2) next c1
theorem jU (w:Nat) {cs:List AV}{c2:Mx}{fs2:List Fr}{τ2:Nat→AV}{H2:List Aj}{C2:Prop}(h:Wg it.tab n 0 c fs τ H []=some (⟨dst,.store T x y,ty,pos,aft,g⟩,ops,k,fs',τ',H',C)) (hx:ev τ' x= .ptr b off) (next:GO P r c2 fs2 ⟨n,τ2,H2,D⟩ Q)
  (hi:H'[i]?=some (.box b cs):=by first | exact di | fail) (hg:go it.tab n 888888 1 c fs τ H [i,w] True=some (c2,fs2,τ2,H2,C2):=by first | exact rfl | fail) (c1:C2:=by first | exact Ek | fail):GO P r c fs ⟨n,τ,H,D⟩ Q:=(go_sound it.tab n _ _ hg c1).2 next
theorem jT (w:Nat) {cs:List AV}(h:da ops opn k τ=some ⟨dst,.store T x y,ty,pos,aft,g⟩) (hx:ev τ x= .ptr b off) (next:Dr P ops n τ₀ D Q opn (k+1) τ' H' rd' ef' effs' fx)
  (hi:H[i]?=some (.box b cs):=by first | exact di | fail) (hg:GY it.tab ops opn fx 1 k τ H rd ef effs [i,w] True=some (τ',H',rd',ef',effs',C):=by first | exact rfl | fail) (c1:C:=by first | exact GG | fail):Dr P ops n τ₀ D Q opn k τ H rd ef effs fx:=(FL it.tab 1 k hg c1).2 next
theorem iC {rows:List (List PV)}{q:Nat}(h:rows.length=q:=by first | exact Av _ | exact List.length_map _ | exact Ed _ | exact rfl | fail):rows.length=q:=h
theorem Xy {α:Type}{rows:List (List PV)}{l:List α}{f:α→List PV}{sz:Nat}(h:Ko rows l f sz:=by first | exact Jt _ | exact dF _ | exact IK fun _=>rfl | exact IK ET | exact IK FD | exact IK EW | fail):Ko rows l f sz:=h
theorem iK {i:Int}{j:Nat}(h:0≤i∧i.toNat=j:=by first | exact⟨by omega,Int.toNat_natCast _⟩ | exact⟨by omega,(rfl:Int.toNat 0=0)⟩ | exact⟨by omega,(rfl:Int.toNat 1=1)⟩ | exact⟨by omega,(rfl:Int.toNat 2=2)⟩ | exact⟨by omega,rfl⟩ | fail):0≤i∧i.toNat=j:=h
theorem gA {i:Int}{j m:Nat}(h:0≤i∧i.toNat=j∧j<m:=by first | exact⟨by omega,Int.toNat_natCast _,by omega⟩ | exact⟨by omega,(rfl:Int.toNat 0=0),by omega⟩ | exact⟨by omega,(rfl:Int.toNat 1=1),by omega⟩ | exact⟨by omega,(rfl:Int.toNat 2=2),by omega⟩ | exact⟨by omega,rfl,by omega⟩ | fail):0≤i∧i.toNat=j∧j<m:=h
theorem jG {cs:List AV}(hx:ρ x= .ptr b off:=by first | exact rfl | fail) (hT:it.tab.ty T=some (false,n1):=by first | exact rfl | fail) (hi:H[i]?=some (.box b cs):=by first | exact di | fail) (hc:cs[off]?=some v:=by first | exact rfl | fail):Ce P ⟨dst,.load T x,ty,pos,aft,g⟩ ρ H v H:=BQ (it.tab.hty _ _ hT) hx hi hc
theorem im {cs:List AV}(hx:ρ x= .ptr b 0:=by first | exact rfl | fail) (hT:it.tab.ty T=some (true,n1):=by first | exact rfl | fail) (hi:H[i]?=some (.box b cs):=by first | exact di | fail) (hc:cs.length=n1:=by first | exact Ek | fail):Ce P ⟨dst,.load T x,ty,pos,aft,g⟩ ρ H (.agg cs) H:=B1 (it.tab.hty _ _ hT) hx hi hc
theorem il (hx:ρ x= .ptr b off:=by first | exact rfl | fail) (hi:H[i]?=some (.box b (cells.map .p)):=by first | exact di | fail) (ha:AtC cells off 1 [u]:=by first | exact inferInstance | (simp only[Nat.reduceAdd];exact inferInstance) | fail) (hT:it.tab.ty T=some (false,n1):=by first | exact rfl | fail):Ce P ⟨dst,.load T x,ty,pos,aft,g⟩ ρ H (.p u) H:=Ai (it.tab.hty _ _ hT) hx hi ha.at'
theorem jC (hx:ρ x= .ptr b off:=by first | exact rfl | fail) (hT:it.tab.ty T=some (true,n1):=by first | exact rfl | fail) (hi:H[i]?=some (.box b (cells.map .p)):=by first | exact di | fail) (ha:AtC cells off n1 us:=by first | exact inferInstance | (simp only[Nat.reduceAdd];exact inferInstance) | fail):Ce P ⟨dst,.load T x,ty,pos,aft,g⟩ ρ H (.agg (us.map .p)) H:=BY (it.tab.hty _ _ hT) hx hi ha.at' ha.len
theorem jJ (hx:ρ x= .ref (cells.drop off):=by first | exact rfl | fail) (ha:AtC cells off 1 [u]:=by first | exact inferInstance | (simp only[Nat.reduceAdd];exact inferInstance) | fail) (hT:it.tab.ty T=some (false,n1):=by first | exact rfl | fail):Ce P ⟨dst,.load T x,ty,pos,aft,g⟩ ρ H (.p u) H:=EP (it.tab.hty _ _ hT) hx ha.at'
theorem ij (hx:ρ x= .ref (cells.drop off):=by first | exact rfl | fail) (hT:it.tab.ty T=some (true,n1):=by first | exact rfl | fail) (ha:AtC cells off n1 us:=by first | exact inferInstance | (simp only[Nat.reduceAdd];exact inferInstance) | fail):Ce P ⟨dst,.load T x,ty,pos,aft,g⟩ ρ H (.agg (us.map .p)) H:=Cn (it.tab.hty _ _ hT) hx ha.at' ha.len
theorem jE {e n2 n3 q:Nat}(hx:ρ x= .p (.lst rows):=by first | exact rfl | fail) (hn:rows.length=q:=by first | exact iC | fail) (hT:it.el T=some (e,n2,n3):=by first | exact rfl | fail):Ce P ⟨dst,.call { callee:= .builtin .len,args:=#[x],argTypes:=#[T] },ty,pos,aft,g⟩ ρ H (.p (.int .i64 q)) H:=Bp (it.hel _ _ hT) hx hn
theorem ir {α:Type}{e n2:Nat}{kk:IntKind}{q:Int}{f:α→List PV}{xs:List α}{z:α}{j:Nat}(hx:ρ x= .p (.lst rows):=by first | exact rfl | fail) (hy:ρ y= .p (.int kk q):=by first | exact rfl | fail) (hT:it.el T=some (e,n1,n2):=by first | exact rfl | fail) (hr:Ko rows xs f n1:=by first | exact Xy | fail) (hq:0≤q∧q.toNat=j:=by first | exact iK | fail) (hz:xs[j]?=some z:=by assumption):Ce P ⟨dst,.indexAddr T x y,ty,pos,aft,g⟩ ρ H (.ref (f z)) H :=
 Ao (it.hel T _ hT) hx hy hq.1 (by rw[hr.1,hq.2,List.getElem?_map,hz];rfl) (hr.2 _)
theorem gu {α:Type}{e n2:Nat}{kk:IntKind}{q:Int}{f:α→List PV}{xs:List α}{j:Nat}(h:Wg it.tab n 0 c fs τ H []=some (⟨dst,.indexAddr T x y,ty,pos,aft,g⟩,ops,k,fs',τ',H',C)) (hx:ev τ' x= .p (.lst rows)) (hy:ev τ' y= .p (.int kk q))
  (next:∀z,xs[j]?=some z→GO P r (.ops ops (k+1)) fs' ⟨n,put τ' dst (.ref (f z)),H',D⟩ Q) (hT:it.el T=some (e,n1,n2):=by first | exact rfl | fail) (hr:Ko rows xs f n1:=by first | exact Xy | fail) (hj:0≤q∧q.toNat=j∧j<xs.length:=by first | exact gA | fail) (c1:C:=by first | exact Ek | fail):GO P r c fs ⟨n,τ,H,D⟩ Q :=
 bT [0] xs j h hx hy hr next hj hT c1
theorem iX {α:Type}{e n2:Nat}{kk:IntKind}{q:Int}{f:α→List PV}{xs:List α}{j:Nat}(h:da ops opn k τ=some ⟨dst,.indexAddr T x y,ty,pos,aft,g⟩) (hx:ev τ x= .p (.lst rows)) (hy:ev τ y= .p (.int kk q))
  (next:∀z,xs[j]?=some z→Dr P ops n τ₀ D Q opn (k+1) (put τ dst (.ref (f z))) H rd ef (false::effs) fx) (hT:it.el T=some (e,n1,n2):=by first | exact rfl | fail) (hr:Ko rows xs f n1:=by first | exact Xy | fail) (hj:0≤q∧q.toNat=j∧j<xs.length:=by first | exact gA | fail) (hfx:∀z,D6 k (.free (.ref (f z))) fx:=by first | exact fun _=>GG | fail):Dr P ops n τ₀ D Q opn k τ H rd ef effs fx:=by
 obtain⟨h0,rfl,h2⟩:=hj;have hz:xs[q.toNat]?=some xs[q.toNat]:=List.getElem?_eq_getElem h2;exact UY h (fun _=>Ao (it.hel T _ hT) hx hy h0 (by rw[hr.1,List.getElem?_map,hz];rfl) (hr.2 _)) (next _ hz) (hfx _)
theorem gZ {cs:List AV}(ho:ops[k]?=some ⟨dst,.alloc T,ty,pos,aft,none⟩) (hn:opn k=true) (next:∀b,Dr P ops n τ₀ D Q opn (k+1) (put τ dst (.ptr b 0)) (.box b cs::H) rd ((k,H,.box b cs::H)::ef) (true::effs) fx)
  (hz:it.tab.zr T=some cs:=by first | exact rfl | fail) (haft:Ct ops k []=true:=by first | kernel_rfl | fail) (howe:∀b,GJ ops k H (.box b cs::H) rd:=by first | exact fun _=>GG | fail) (hfx:∀b,D6 k (.eff (.ptr b 0) (.box b cs::H)) fx:=by first | exact fun _=>GG | fail):Dr P ops n τ₀ D Q opn k τ H rd ef effs fx :=
 let ⟨_,h1,h2⟩:=it.tab.hzr T cs hz
 Nk [] ho hn (Am h1 h2) haft fun b=>⟨howe b,hfx b,next b⟩
def fJ:Op→Bool
 | .alloc _ | .box _ _=>true
 | _=>false
def news (ops:Array Oper) (k:Nat):Bool:=match ops[k]? with | some o=>fJ o.op | none=>false
theorem iI {id:Nat}(h:go it.tab n 999999 0 c fs τ H [] True=some (.code (.region id ops true),fs',τ',H',C)) (next:Dr P ops n τ' D (QF P r fs' Q) (news ops) 0 τ' H' [] [] [] []) (c1:C:=by first | exact Ek | fail):GO P r c fs ⟨n,τ,H,D⟩ Q:=(go_sound it.tab n _ _ h c1).2 (GS _ it.mx next)
end
end Go.Abs
namespace Go.Proofs.YtajnpndfkbnkoaaGreat
open Go.Abs
def jQ:List (Nat×Bool×Nat):=[(29,true,5),(3,false,1),(24,false,1),(64,true,2),(62,false,1),(129,true,23),(9,false,1),(27,false,1),(137,true,9),(134,true,2),(127,false,1),(4,false,1),(124,false,1),(174,true,8),(172,false,1),(32,false,1),(22,false,1),(23,false,1),(220,true,25),(294,false,1),(47,false,1),(58,true,12),(176,true,15),(56,false,1),(218,true,10),(92,false,1),(204,false,1),(233,false,1),(91,false,1),(179,false,1),(180,false,1),(165,false,1),(26,true,3),(53,false,1),(163,true,65),(186,true,1),(171,true,6),(160,false,1),(184,false,1),(153,false,1),(135,false,1),(240,true,0)]
def jf:List (Nat×List (Nat×Nat)):=[(29,[(0,1),(1,1),(2,1),(3,1),(4,1)]),(129,[(0,1),(1,1),(2,1),(3,5),(8,5),(13,1),(14,1),(15,7),(22,1)]),(64,[(0,1),(1,1)]),(134,[(0,1),(1,1)]),(137,[(0,1),(1,1),(2,1),(3,1),(4,5)]),(174,[(0,1),(1,5),(6,1),(7,1)]),(58,[(0,5),(5,1),(6,5),(11,1)]),(176,[(0,1),(1,5),(6,1),(7,8)]),(40,[(0,1),(1,1),(2,1),(3,1),(4,1)]),(126,[(0,1),(1,5),(6,1)]),(26,[(0,1),(1,1),(2,1)]),(218,[(0,1),(1,1),(2,8)]),(201,[(0,1),(1,1)]),(162,[(0,1),(1,1),(2,1),(3,1),(4,1)]),(171,[(0,1),(1,5)]),(220,[(0,1),(1,1),(2,23)]),(70,[(0,1),(1,1),(2,1),(3,1)]),(243,[(0,1),(1,1)]),(235,[(0,1),(1,1)]),(182,[(0,1)]),(186,[(0,1)]),(240,[])]
def jn:List (Nat×List AV):=[(29,[.p (.int .i64 0),.p (.int .i64 0),.p (.str ⟨#[]⟩),.p .nils,.p .nils]),(64,[.p (.int .i64 0),.p .nils]),(137,[.p (.int .i64 0),.p (.int .i64 0),.p (.int .i64 0),.p (.int .i64 0),.p (.int .i64 0),.p (.int .i64 0),.p (.str ⟨#[]⟩),.p .nils,.p .nils]),(129,[.p (.int .i64 0),.p (.str ⟨#[]⟩),.p (.int .i64 0),.p (.int .i64 0),.p (.int .i64 0),.p (.str ⟨#[]⟩),.p .nils,.p .nils,.p (.int .i64 0),.p (.int .i64 0),.p (.str ⟨#[]⟩),.p .nils,.p .nils,.p (.int .i64 0),.p .nils,.p (.int .i64 0),.p (.int .i64 0),.p (.int .i64 0),.p (.str ⟨#[]⟩),.p .nils,.p .nils,.p .nils,.p .nils]),(134,[.p (.int .i64 0),.p (.int .i64 0)]),(162,[.p (.bool false),.p (.bool false),.p (.int .i64 0),.p (.int .i64 0),.p (.int .i64 0)]),(174,[.p (.int .i64 0),.p (.int .i64 0),.p (.int .i64 0),.p (.str ⟨#[]⟩),.p .nils,.p .nils,.p (.int .i64 0),.p .nils]),(58,[.p (.int .i64 0),.p (.int .i64 0),.p (.str ⟨#[]⟩),.p .nils,.p .nils,.p (.bool false),.p (.int .i64 0),.p (.int .i64 0),.p (.str ⟨#[]⟩),.p .nils,.p .nils,.p (.bool false)]),(186,[.p .nilFn]),(176,[.p (.str ⟨#[]⟩),.p (.int .i64 0),.p (.int .i64 0),.p (.str ⟨#[]⟩),.p .nils,.p .nils,.p (.int .i64 0),.p (.int .i64 0),.p (.int .i64 0),.p (.int .i64 0),.p (.str ⟨#[]⟩),.p .nils,.p .nils,.p (.int .i64 0),.p .nils]),(240,[]),(201,[.p (.int .i64 0),.p (.int .i64 0)]),(163,[.p (.bool false),.p (.bool false),.p (.int .i64 0),.p (.int .i64 0),.p (.int .i64 0),.p (.bool false),.p (.bool false),.p (.int .i64 0),.p (.int .i64 0),.p (.int .i64 0),.p (.bool false),.p (.bool false),.p (.int .i64 0),.p (.int .i64 0),.p (.int .i64 0),.p (.bool false),.p (.bool false),.p (.int .i64 0),.p (.int .i64 0),.p (.int .i64 0),.p (.bool false),.p (.bool false),.p (.int .i64 0),.p (.int .i64 0),.p (.int .i64 0),.p (.bool false),.p (.bool false),.p (.int .i64 0),.p (.int .i64 0),.p (.int .i64 0),.p (.bool false),.p (.bool false),.p (.int .i64 0),.p (.int .i64 0),.p (.int .i64 0),.p (.bool false),.p (.bool false),.p (.int .i64 0),.p (.int .i64 0),.p (.int .i64 0),.p (.bool false),.p (.bool false),.p (.int .i64 0),.p (.int .i64 0),.p (.int .i64 0),.p (.bool false),.p (.bool false),.p (.int .i64 0),.p (.int .i64 0),.p (.int .i64 0),.p (.bool false),.p (.bool false),.p (.int .i64 0),.p (.int .i64 0),.p (.int .i64 0),.p (.bool false),.p (.bool false),.p (.int .i64 0),.p (.int .i64 0),.p (.int .i64 0),.p (.bool false),.p (.bool false),.p (.int .i64 0),.p (.int .i64 0),.p (.int .i64 0)]),(218,[.p (.str ⟨#[]⟩),.p (.bool false),.p (.int .i64 0),.p (.int .i64 0),.p (.int .i64 0),.p (.str ⟨#[]⟩),.p .nils,.p .nils,.p (.int .i64 0),.p .nils]),(220,[.p .nils,.p .nils,.p (.int .i64 0),.p (.str ⟨#[]⟩),.p (.int .i64 0),.p (.int .i64 0),.p (.int .i64 0),.p (.str ⟨#[]⟩),.p .nils,.p .nils,.p (.int .i64 0),.p (.int .i64 0),.p (.str ⟨#[]⟩),.p .nils,.p .nils,.p (.int .i64 0),.p .nils,.p (.int .i64 0),.p (.int .i64 0),.p (.int .i64 0),.p (.str ⟨#[]⟩),.p .nils,.p .nils,.p .nils,.p .nils]),(70,[.p .nils,.p .nils,.p .nilFn,.p (.int .i64 0)]),(40,[.p (.int .i64 0),.p (.int .i64 0),.p (.int .i64 0),.p (.int .i64 0),.p (.bool false)]),(182,[.p (.int .i64 0)]),(243,[.p .nils,.p (.int .i64 0)]),(171,[.p (.str ⟨#[]⟩),.p (.int .i64 0),.p (.int .i64 0),.p (.str ⟨#[]⟩),.p .nils,.p .nils]),(235,[.p .any,.p (.int .i64 0)]),(264,[.p .nilFn,.p .nilFn,.p .nilFn,.p .nilFn,.p .nilFn,.p .nilFn,.p .nilFn])]
theorem jm:RC (DO Tryz.prog) jQ:=And.intro Ab <| And.intro Ab <| And.intro Ab <| And.intro Ab <| And.intro Ab <| And.intro Ab <| And.intro Ab <| And.intro Ab <| And.intro Ab <| And.intro Ab <| And.intro Ab <| And.intro Ab <| And.intro Ab <| And.intro Ab <| And.intro Ab <| And.intro Ab <| And.intro Ab <| And.intro Ab <| And.intro Ab <| And.intro Ab <| And.intro Ab <| And.intro Ab <| And.intro Ab <| And.intro Ab <| And.intro Ab <| And.intro Ab <| And.intro Ab <| And.intro Ab <| And.intro Ab <| And.intro Ab <| And.intro Ab <| And.intro Ab <| And.intro Ab <| And.intro Ab <| And.intro Ab <| And.intro Ab <| And.intro Ab <| And.intro Ab <| And.intro Ab <| And.intro Ab <| And.intro Ab <| And.intro Ab <| trivial
theorem jl:RC (fieldsOf Tryz.prog) jf:=And.intro Ab <| And.intro Ab <| And.intro Ab <| And.intro Ab <| And.intro Ab <| And.intro Ab <| And.intro Ab <| And.intro Ab <| And.intro Ab <| And.intro Ab <| And.intro Ab <| And.intro Ab <| And.intro Ab <| And.intro Ab <| And.intro Ab <| And.intro Ab <| And.intro Ab <| And.intro Ab <| And.intro Ab <| And.intro Ab <| And.intro Ab <| And.intro Ab <| trivial
theorem ja:RC (Rl Tryz.prog) jn:=And.intro Ab <| And.intro Ab <| And.intro Ab <| And.intro Ab <| And.intro Ab <| And.intro Ab <| And.intro Ab <| And.intro Ab <| And.intro Ab <| And.intro Ab <| And.intro Ab <| And.intro Ab <| And.intro Ab <| And.intro Ab <| And.intro Ab <| And.intro Ab <| And.intro Ab <| And.intro Ab <| And.intro Ab <| And.intro Ab <| And.intro Ab <| And.intro Ab <| trivial
def iv:List (Nat×Nat×Nat×Nat):=[(22,129,23,360),(23,58,12,176),(24,29,5,80),(27,64,2,32),(47,3,1,8),(62,134,2,16),(124,171,6,96),(127,176,15,224),(172,218,10,144),(204,9,1,16)]
theorem jO:RC (D0 Tryz.prog) iv:=And.intro Ab <| And.intro Ab <| And.intro Ab <| And.intro Ab <| And.intro Ab <| And.intro Ab <| And.intro Ab <| And.intro Ab <| And.intro Ab <| And.intro Ab <| trivial
def jA:List Nat:=[2,3,4,5,6,7,8,9,10,11,12,13,14,15,16,17,18,19,20,21,22,23,24,25,26,27,28,29,30,31,32,33,34,35,36,37,38,39,40,41,42,43,44,45,46,47,48,49,50,51,52,53,54,55,56,57,58,59,60,61,62,63,64,65,66,67,68,69,70,71,72,73,74,75,76,77,78,79,80,81,82,83,84,85,86,87,88,89,90,91,92,93,94,95,96,97,98,99,100,101,102,103,104,105,106,107,108,109,110,111,112,113,114,115,116,117,118,119,120,121,122,123,124,125,126,127,128,129,130,131,132,133,134,135,136,137,138,139,140,141,142,143,144,145,146,147,148,149,150,151,152,153,154,155,156,157,158,159,160,161,162,163,164,165,166,167,168,169,170,171,172,173,174,175,176,177,178,179,180,181,182,183,184,185,186,187,188,189,190,191,192,193,194,195,196,197,198,199,200,201,202,203,204,205,206,207,208,209,210,211,212,213,214,215,216,217,218,219,220,221,222,223,224,225,226,227,228,229,230,231,232,233,234,235,236,237,238,239,240,241,242,243,244,245,246,247,248,249,250,251,252,253,254,255]
theorem jX:jA.all (Bt Tryz.prog)=true:=by kernel_rfl
def tab:Kz Tryz.prog:=gN jl jm ja
instance tabOf:TabOf Tryz.prog:=⟨tab,Go.Abs.look iv,fun _ _ h=>Go.Abs.look_of jO h,fun f=>jA.any (Nat.beq f),eG jX,by kernel_rfl⟩
abbrev De:= @gx Tryz.prog tabOf
abbrev D5:= @eg Tryz.prog tabOf
abbrev L0:= @gD Tryz.prog tabOf
abbrev C6:= @ep Tryz.prog tabOf
abbrev BF:= @eT Tryz.prog tabOf
abbrev Cr:= @Xz Tryz.prog tabOf
abbrev Ak:= @Rn Tryz.prog tabOf
abbrev DR:= @Ue Tryz.prog tabOf
abbrev DT:= @fP Tryz.prog tabOf
abbrev Cc:= @fq Tryz.prog tabOf
abbrev CD:= @eu Tryz.prog tabOf
abbrev Em:= @bT Tryz.prog tabOf
abbrev BH:= @gF Tryz.prog tabOf
abbrev A9:= @dH Tryz.prog tabOf
abbrev Bu:= @hQ Tryz.prog tabOf
abbrev CS:= @X8 Tryz.prog tabOf
abbrev DM:= @bD Tryz.prog tabOf
abbrev F3:= @ib Tryz.prog tabOf
abbrev Fa:= @iS Tryz.prog tabOf
abbrev Jf:= @ic Tryz.prog tabOf
abbrev DB:= @bq Tryz.prog tabOf
abbrev GU:= @eS Tryz.prog tabOf
abbrev jq:= @ia Tryz.prog tabOf
abbrev ik:= @gn Tryz.prog tabOf
abbrev jb:= @iO Tryz.prog tabOf
abbrev jr:= @iG Tryz.prog tabOf
abbrev jP:= @gu Tryz.prog tabOf
abbrev jW:= @iI Tryz.prog tabOf
abbrev gS:= @jU Tryz.prog tabOf
abbrev jN:= @iD Tryz.prog tabOf
abbrev iw:= @gl Tryz.prog tabOf
abbrev je:= @gZ Tryz.prog tabOf
abbrev ji:= @iX Tryz.prog tabOf
abbrev dS:= @jT Tryz.prog tabOf
abbrev B7:= @rt Tryz.prog tabOf
abbrev Db:= @Vu Tryz.prog tabOf
end Go.Proofs.YtajnpndfkbnkoaaGreat
namespace Go.Proofs.YtajnpndfkbnkoaaGreat
open Go.Abs Go.Eu
theorem _root_.Go.AA {α:Prop}(h:α:=by first | exact List.Sublist.refl _ | exact .cons _ (.refl _) | exact .cons _ (.cons _ (.refl _)) | exact .cons _ (.cons _ (.cons _ (.refl _))) | exact .cons _ (.cons _ (.cons _ (.cons _ (.refl _))))):α:=h
theorem _root_.Go.Ad {α:Prop}(h:α:=by simp_all):α:=h
theorem _root_.Go.AK {α:Prop}(h:α:=by first | exact List.Sublist.refl _ | exact List.sublist_cons_self _ _):α:=h
theorem Zi:∀(a b:DK),a.vars.length<C7→EE Tryz.prog 73 [LV a,LV b] (.p (.bool (PO a b))):=by
 intro a b hb;obtain⟨ac,av⟩:=a;obtain⟨bc,bv⟩:=b;simp only[C7] at hb;refine Bv Tryz.func73 O iH (n:=38) O O (A4 (Bz O (CJ O) fun b2=>Bz O (CJ O) fun b3=>Ar tab 1 [] O (Ax (Ax (DV [0,1,2,3,4,5] 19 (fun y=>y= .p (.bool (ac !=bc||(av.length:Int) !=bv.length))) ?_ ?_)))))
 ·refine A1 (Az tab 6 [1,0] O (Br 11 O (fun g1=>?_) (fun g1=>?_)))
  ·(try simp only[sd] at g1);exact Ar tab 8 [] O (⟨O,O,AK,pB Ad,⟨O,O,O,O,O,O,Ah⟩⟩)
  (try simp only[sd] at g1);exact Az tab 2 [1] O (A8 O (CQ UL O) (Az tab 2 [0] O (A8 O (CQ UL O) (Ar tab 2 [] O (⟨O,O,AK,pB Ad,⟨O,O,O,O,O,O,Ah⟩⟩)))))
 rintro _ rfl;refine A5 O (fun c2=>?_) (fun c2=>?_)
 ·(try simp only[sd] at c2);refine BD tab 1 [] O (Bk ⟨O,_,[],Bq O,List.nil_sublist _,?_⟩);exact⟨pB (ED (fun h=>by simp at h;simp[h] at *)).symm,rfl⟩
 (try simp only[sd] at c2);have h1:ac=bc∧av.length=bv.length:=by simp at c2;omega
 refine BJ (Ax (BD tab 1 [] O (BG (Oe (av.length) (fun i=>agree av bv i) (fun i=>⟨38,mk [(2,.ptr b2 0),(3,.ptr b3 0),(5,.p (I i))],[.box b3 ((Dd ⟨bc,bv⟩).map .p),.box b2 ((Dd ⟨ac,av⟩).map .p)],[]⟩) (0) Af (Gy _ _) ?_ ?_))))
 ·exact Ds ⟨O,O,O,Ah⟩ AA
 intro i hi hC;refine Ax (A4 (Az tab 3 [1] O (Au O (CQ UL O) (Ar tab 1 [] O (A5 O (fun c3=>?_) (fun c3=>?_))))))
 ·(try simp only[sd] at c3);have hi2:i<av.length:=by simp at c3;omega
  have ⟨x,hx⟩:=Ap hi2;have ⟨y,hy⟩:=Ap (l:=bv) (i:=i) Af;refine BJ (Ax (BG (Ax (GS (fun k=>false) Y0 (E1 tab 3 [1] O (Aw O (fun _=>Ao UL O O Af (Sf hx) (O)) Ah (E1 tab 4 [0] O (Aw O (fun _=>Ao UL O O Af (Sf hy) (O)) Ah (Aw O (fun _=>Bl eR O (O)) Ah (Aw O (fun _=>WJ ek O O) Ah (Fj O Ab (A5 O (fun c4=>?_) (fun c4=>?_)))))))))))))
  ·(try simp only[sd] at c4);refine BD tab 1 [] O (Bk ⟨O,_,[],Bq O,List.nil_sublist _,?_⟩);exact⟨pB (ED (fun h=>by simp at h;obtain⟨_,rfl⟩:=h;rw[hx] at hy;injection hy with hy;subst hy;simp_all)).symm,rfl⟩
  (try simp only[sd] at c4);have hxy:x=y:=by obtain⟨x1,x2⟩:=x;obtain⟨y1,y2⟩:=y;simp at c4;simp[c4]
  subst hxy;exact BJ (A1 (Ar tab 3 [] O (⟨by omega,HB hC hx hy,Ds ⟨rfl,rfl,rfl,trivial⟩ AA⟩)))
 (try simp only[sd] at c3);have hi2:i=av.length:=by simp at c3;omega
 refine Cq (BD tab 1 [] O (Bk ⟨O,_,[],Bq O,List.nil_sublist _,?_⟩));exact⟨pB (A2 (by rw[h1.1,H9 hC Af Af])).symm,O⟩
theorem LC:∀(a b:List DK),a.length<C7→(∀l∈a,dc l)→EE Tryz.prog 31 [gU a,gU b] (.p (.bool (PO a b))):=by
 intro a b hb hn;simp only[C7] at hb;refine Bv Tryz.func31 O ie (n:=27) O O (BD tab 1 [] O (Ax (A4 (B6 O (Au O (CQ RS O) (B6 O (Au O (CQ RS O) (Ar tab 1 [] O (A5 O (fun c1=>?_) (fun c1=>?_))))))))))
 ·(try simp only[sd] at c1);refine BD tab 1 [] O (Bk ⟨O,_,[],Bq O,List.nil_sublist _,?_⟩);exact⟨pB (ED (fun h=>by subst h;simp at *)).symm,rfl⟩
 (try simp only[sd] at c1);have h1:a.length=b.length:=by simp at c1;omega
 refine BJ (Ax (BD tab 1 [] O (BG (Oe (a.length) (fun i=>agree a b i) (fun i=>⟨27,mk [(0,gU a),(1,gU b),(5,.p (I i))],[],[]⟩) (0) Af (Gy _ _) ?_ ?_))))
 ·exact Ds ⟨O,O,O,Ah⟩ AA
 intro i hi hC;refine Ax (A4 (Az tab 2 [] O (Au O (CQ RS O) (Ar tab 1 [] O (A5 O (fun c2=>?_) (fun c2=>?_))))))
 ·(try simp only[sd] at c2);have hi2:i<a.length:=by simp at c2;omega
  have ⟨x,hx⟩:=Ap hi2;have ⟨y,hy⟩:=Ap (l:=b) (i:=i) Af;refine BJ (Ax (BG (Ax (GS (fun k=>false) Y0 (E1 tab 2 [] O (Aw O (fun _=>Ao RS O O Af (Rv hx) (JP _)) Ah (E1 tab 3 [] O (Aw O (fun _=>Ao RS O O Af (Rv hy) (JP _)) Ah (Aw O (fun _=>Bl gX O (JP _)) Ah (Aw O (fun _=>BM O O (Zi x y (hn x (List.mem_of_getElem? hx)).vars) O) Ah (GH tab 1 [] O (A5 O (fun c3=>?_) (fun c3=>?_)))))))))))))
  ·(try simp only[sd] at c3);refine BD tab 1 [] O (Bk ⟨O,_,[],Bq O,List.nil_sublist _,?_⟩);exact⟨pB (ED (fun h=>by subst h;rw[hx] at hy;injection hy with hy;subst hy;simp[A2] at *)).symm,rfl⟩
  (try simp only[sd] at c3);have hxy:x=y:=Ga.1 (by simpa using c3);subst hxy;exact BJ (A1 (Ar tab 3 [] O (⟨by omega,HB hC hx hy,Ds ⟨rfl,rfl,rfl,trivial⟩ AA⟩)))
 (try simp only[sd] at c2);have hi2:i=a.length:=by simp at c2;omega
 refine Cq (BD tab 1 [] O (Bk ⟨O,_,[],Bq O,List.nil_sublist _,?_⟩));exact⟨pB (A2 (H9 hC Af Af)).symm,O⟩
theorem Hn:∀(n:Nat) (a b:Tm),size a≤n→Nd a→EE Tryz.prog 10 [TV a,TV b] (.p (.bool (PO a b))):=by
 intro n
 induction n with
 | zero=>intro a b h;cases a;simp[size] at h
 | succ n ih =>
  intro a b hs hnd;obtain⟨ak,ai,an,al,aks⟩:=a;obtain⟨bk,bi,bn,bl,bks⟩:=b;simp only[size] at hs;simp only[Nd,C7] at hnd;have ⟨hn1,hn2,hn3,hn4,hn5,hn6⟩:=hnd;refine Bv Tryz.func10 O iY (n:=61) O O (A4 (Bz O (CJ O) fun b2=>Bz O (CJ O) fun b3=>Ar tab 1 [] O (Ax (Ax (DV [0,1,2,3,4,5] 41 (fun y=>y= .p (.bool (ak !=bk||ai !=bi|| !(an.toList==bn.toList)|| !(PO al bl)||(((A0 aks).length:Int) !=(A0 bks).length)))) ?_ ?_)))))
  ·refine A1 (Az tab 6 [1,0] O (Br 11 O (fun g1=>?_) (fun g1=>?_)))
   ·(try simp only[sd] at g1);refine Az tab 7 [] O (Br 18 O (fun g2=>?_) (fun g2=>?_))
    ·(try simp only[sd] at g2);refine Az tab 7 [] O (Br 25 O (fun g3=>?_) (fun g3=>?_))
     ·(try simp only[sd] at g3);refine Az tab 8 [] O (Br 33 O (fun g4=>?_) (fun g4=>?_))
      ·(try simp only[sd] at g4);exact Ar tab 8 [] O (⟨O,O,AK,pB Ad,⟨O,O,O,O,O,O,Ah⟩⟩)
      (try simp only[sd] at g4);exact Az tab 2 [1] O (A8 O (CQ Bc O) (Az tab 2 [0] O (A8 O (CQ Bc O) (Ar tab 2 [] O (⟨O,O,AK,pB Ad,⟨O,O,O,O,O,O,Ah⟩⟩)))))
     (try simp only[sd] at g3);refine Az tab 4 [1,0] O (A8 O (BM O O (LC al bl hn2 hn3) O) (Az tab 3 [] O (Br 33 O (fun g5=>?_) (fun g5=>?_))))
     ·(try simp only[sd] at g5);exact Ar tab 8 [] O (⟨O,O,AK,pB Ad,⟨O,O,O,O,O,O,Ah⟩⟩)
     (try simp only[sd] at g5);exact Az tab 2 [1] O (A8 O (CQ Bc O) (Az tab 2 [0] O (A8 O (CQ Bc O) (Ar tab 2 [] O (⟨O,O,AK,pB Ad,⟨O,O,O,O,O,O,Ah⟩⟩)))))
    (try simp only[sd] at g2);refine Az tab 4 [1,0] O (A8 O (Jk O O) (Az tab 2 [] O (Br 25 O (fun g6=>?_) (fun g6=>?_))))
    ·(try simp only[sd] at g6);refine Az tab 8 [] O (Br 33 O (fun g7=>?_) (fun g7=>?_))
     ·(try simp only[sd] at g7);exact Ar tab 8 [] O (⟨O,O,AK,pB Ad,⟨O,O,O,O,O,O,Ah⟩⟩)
     (try simp only[sd] at g7);exact Az tab 2 [1] O (A8 O (CQ Bc O) (Az tab 2 [0] O (A8 O (CQ Bc O) (Ar tab 2 [] O (⟨O,O,AK,pB Ad,⟨O,O,O,O,O,O,Ah⟩⟩)))))
    (try simp only[sd] at g6);refine Az tab 4 [1,0] O (A8 O (BM O O (LC al bl hn2 hn3) O) (Az tab 3 [] O (Br 33 O (fun g8=>?_) (fun g8=>?_))))
    ·(try simp only[sd] at g8);exact Ar tab 8 [] O (⟨O,O,AK,pB Ad,⟨O,O,O,O,O,O,Ah⟩⟩)
    (try simp only[sd] at g8);exact Az tab 2 [1] O (A8 O (CQ Bc O) (Az tab 2 [0] O (A8 O (CQ Bc O) (Ar tab 2 [] O (⟨O,O,AK,pB Ad,⟨O,O,O,O,O,O,Ah⟩⟩)))))
   (try simp only[sd] at g1);refine Az tab 7 [1,0] O (Br 18 O (fun g9=>?_) (fun g9=>?_))
   ·(try simp only[sd] at g9);refine Az tab 7 [] O (Br 25 O (fun g10=>?_) (fun g10=>?_))
    ·(try simp only[sd] at g10);refine Az tab 8 [] O (Br 33 O (fun g11=>?_) (fun g11=>?_))
     ·(try simp only[sd] at g11);exact Ar tab 8 [] O (⟨O,O,AK,pB Ad,⟨O,O,O,O,O,O,Ah⟩⟩)
     (try simp only[sd] at g11);exact Az tab 2 [1] O (A8 O (CQ Bc O) (Az tab 2 [0] O (A8 O (CQ Bc O) (Ar tab 2 [] O (⟨O,O,AK,pB Ad,⟨O,O,O,O,O,O,Ah⟩⟩)))))
    (try simp only[sd] at g10);refine Az tab 4 [1,0] O (A8 O (BM O O (LC al bl hn2 hn3) O) (Az tab 3 [] O (Br 33 O (fun g12=>?_) (fun g12=>?_))))
    ·(try simp only[sd] at g12);exact Ar tab 8 [] O (⟨O,O,AK,pB Ad,⟨O,O,O,O,O,O,Ah⟩⟩)
    (try simp only[sd] at g12);exact Az tab 2 [1] O (A8 O (CQ Bc O) (Az tab 2 [0] O (A8 O (CQ Bc O) (Ar tab 2 [] O (⟨O,O,AK,pB Ad,⟨O,O,O,O,O,O,Ah⟩⟩)))))
   (try simp only[sd] at g9);refine Az tab 4 [1,0] O (A8 O (Jk O O) (Az tab 2 [] O (Br 25 O (fun g13=>?_) (fun g13=>?_))))
   ·(try simp only[sd] at g13);refine Az tab 8 [] O (Br 33 O (fun g14=>?_) (fun g14=>?_))
    ·(try simp only[sd] at g14);exact Ar tab 8 [] O (⟨O,O,AK,pB Ad,⟨O,O,O,O,O,O,Ah⟩⟩)
    (try simp only[sd] at g14);exact Az tab 2 [1] O (A8 O (CQ Bc O) (Az tab 2 [0] O (A8 O (CQ Bc O) (Ar tab 2 [] O (⟨O,O,AK,pB Ad,⟨O,O,O,O,O,O,Ah⟩⟩)))))
   (try simp only[sd] at g13);refine Az tab 4 [1,0] O (A8 O (BM O O (LC al bl hn2 hn3) O) (Az tab 3 [] O (Br 33 O (fun g15=>?_) (fun g15=>?_))))
   ·(try simp only[sd] at g15);exact Ar tab 8 [] O (⟨O,O,AK,pB Ad,⟨O,O,O,O,O,O,Ah⟩⟩)
   (try simp only[sd] at g15);exact Az tab 2 [1] O (A8 O (CQ Bc O) (Az tab 2 [0] O (A8 O (CQ Bc O) (Ar tab 2 [] O (⟨O,O,AK,pB Ad,⟨O,O,O,O,O,O,Ah⟩⟩)))))
  rintro _ rfl;refine A5 O (fun c16=>?_) (fun c16=>?_)
  ·(try simp only[sd] at c16);refine BD tab 1 [] O (Bk ⟨O,_,[],Bq O,List.nil_sublist _,?_⟩);exact⟨pB (ED (fun h=>by simp at h;simp[h,A2] at *)).symm,rfl⟩
  (try simp only[sd] at c16);have h1:ak=bk∧ai=bi∧an.toList=bn.toList∧al=bl∧aks.length=bks.length:=by simp[Av,Ga] at c16;obtain⟨⟨⟨⟨e1,e2⟩,e3⟩,e4⟩,e5⟩:=c16;exact⟨e1,e2,e3,e4,by omega⟩
  refine BJ (Ax (BD tab 1 [] O (BG (Oe (aks.length) (fun i=>agree aks bks i) (fun i=>⟨61,mk [(2,.ptr b2 0),(3,.ptr b3 0),(5,.p (I i))],[.box b3 ((BB (.mk bk bi bn bl bks)).map .p),.box b2 ((BB (.mk ak ai an al aks)).map .p)],[]⟩) (0) Af (Gy _ _) ?_ ?_))))
  ·exact Ds ⟨O,O,O,Ah⟩ AA
  intro i hi hC;refine Ax (A4 (Az tab 3 [1] O (Au O (CQ Bc O) (Ar tab 1 [] O (A5 O (fun c17=>?_) (fun c17=>?_))))))
  ·(try simp only[sd] at c17);have hi2:i<aks.length:=by simp[Av] at c17;omega
   have ⟨x,hx⟩:=Ap hi2;have ⟨y,hy⟩:=Ap (l:=bks) (i:=i) Af;refine BJ (Ax (BG (Ax (GS (fun k=>false) Y0 (E1 tab 3 [1] O (Aw O (fun _=>Ao Bc O O Af (B9 hx) (An _)) Ah (E1 tab 4 [0] O (Aw O (fun _=>Ao Bc O O Af (B9 hy) (An _)) Ah (Aw O (fun _=>Bl Bh O (An _)) Ah (Aw O (fun _=>BM O O (ih x y (by have:=BW hx;omega) (CE hn5 hx)) O) Ah (GH tab 1 [] O (A5 O (fun c18=>?_) (fun c18=>?_)))))))))))))
   ·(try simp only[sd] at c18);refine BD tab 1 [] O (Bk ⟨O,_,[],Bq O,List.nil_sublist _,?_⟩);exact⟨pB (ED (fun h=>by simp at h;obtain⟨_,_,_,_,rfl⟩:=h;rw[hx] at hy;injection hy with hy;subst hy;simp[A2] at *)).symm,rfl⟩
   (try simp only[sd] at c18);have hxy:x=y:=Ga.1 (by simpa using c18);subst hxy;exact BJ (A1 (Ar tab 3 [] O (⟨by omega,HB hC hx hy,Ds ⟨rfl,rfl,rfl,trivial⟩ AA⟩)))
  (try simp only[sd] at c17);have hi2:i=aks.length:=by simp[Av] at c17;omega
  refine Cq (BD tab 1 [] O (Bk ⟨O,_,[],Bq O,List.nil_sublist _,?_⟩));exact⟨pB (A2 (by obtain⟨e1,e2,e3,e4,e5⟩:=h1;rw[e1,e2,e4,Gv e3,H9 hC Af Af])).symm,rfl⟩
theorem cU:∀(n:Nat) (t:Tm),size t≤n→size t<2 ^ 62→EE Tryz.prog 82 [TV t] (.p (I (size t))):=by
 intro n
 induction n with
 | zero=>intro t h;cases t;simp[size] at h
 | succ n ih =>
  intro t hn hb;obtain⟨kd,ix,nm,ls,ks⟩:=t;simp only[size] at hn hb;refine Bv Tryz.func82 O gi (n:=21) O O (A4 (Bz O (CJ O) fun b1=>Ar tab 1 [] O (BD tab 1 [] O (Ax (BD tab 1 [] O (BG (U1 (ks.length) (fun i=>⟨21,mk [(1,.ptr b1 0),(3,.p (I (1+Aq (ks.take i):Nat))),(4,.p (I i))],[.box b1 ((BB (.mk kd ix nm ls ks)).map .p)],[]⟩) (0) Af ?_ ?_)))))))
  ·exact Ds ⟨O,O,O,Ah⟩ AA
  intro i hi;have hsz:=H7 (ts:=ks) i;have hll:=DN ks;refine Ax (A4 (Az tab 3 [0] O (Au O (CQ Bc O) (Ar tab 1 [] O (A5 O (fun c1=>?_) (fun c1=>?_))))))
  ·(try simp only[sd] at c1);have hi2:i<ks.length:=by rw[Av] at c1;omega
   obtain⟨t,hk⟩:∃t,ks[i]?=some t:=⟨_,List.getElem?_eq_getElem hi2⟩;have hks:=BW hk;have hsz2:=E3 hk;have hsz3:=H7 (ts:=ks) (i+1);exact BJ (Ax (BG (A1 (Az tab 4 [0] O (Au O (Ao Bc O O Af (B9 hk) (An _)) (Au O (Bl Bh O (An _)) (Au O (BM O O (ih t Af Af) O) (Ar tab 2 [] O (A1 (Ar tab 3 [] O (⟨by omega,Ds ⟨rfl,pI (by rw[E3 hk];omega),rfl,trivial⟩ AA⟩)))))))))))
  (try simp only[sd] at c1);have hi2:i=ks.length:=by rw[Av] at c1;omega
  refine Cq (BD tab 2 [] O (Bk ⟨O,_,[],Bq O,List.nil_sublist _,?_⟩));exact⟨pI (by subst hi2;rw[List.take_length];simp[size]),O⟩
theorem a7:∀(n:Nat) (t:Tm),size t≤n→size t<2 ^ 62→EE Tryz.prog 83 [TV t] (.p (I (depth t))):=by
 intro n
 induction n with
 | zero=>intro t h;cases t;simp[size] at h
 | succ n ih =>
  intro t hn hb;obtain⟨kd,ix,nm,ls,ks⟩:=t;simp only[size] at hn hb;refine Bv Tryz.func83 O gr (n:=22) O O (A4 (Bz O (CJ O) fun b1=>Ar tab 1 [] O (BD tab 1 [] O (Ax (BD tab 1 [] O (BG (U1 (ks.length) (fun i=>⟨22,mk [(1,.ptr b1 0),(3,.p (I (Dz (ks.take i):Nat))),(4,.p (I i))],[.box b1 ((BB (.mk kd ix nm ls ks)).map .p)],[]⟩) (0) Af ?_ ?_)))))))
  ·exact Ds ⟨O,O,O,Ah⟩ AA
  intro i hi;have hsz:=H7 (ts:=ks) i;have hll:=DN ks;have hdd:=GN ks;have hdi:=OY (ts:=ks) i;refine Ax (A4 (Az tab 3 [0] O (Au O (CQ Bc O) (Ar tab 1 [] O (A5 O (fun c1=>?_) (fun c1=>?_))))))
  ·(try simp only[sd] at c1);have hi2:i<ks.length:=by rw[Av] at c1;omega
   obtain⟨t,hk⟩:∃t,ks[i]?=some t:=⟨_,List.getElem?_eq_getElem hi2⟩;have hks:=BW hk;have hsz2:=E3 hk;have hsz3:=H7 (ts:=ks) (i+1);exact BJ (Ax (BG (A1 (Az tab 4 [0] O (Au O (Ao Bc O O Af (B9 hk) (An _)) (Au O (Bl Bh O (An _)) (Au O (BM O O (ih t Af Af) O) (Au O (Ky O O) (Ar tab 1 [] O (A1 (Ar tab 3 [] O (⟨by omega,Ds ⟨rfl,pI (by rw[R4 hk];omega),rfl,trivial⟩ AA⟩))))))))))))
  (try simp only[sd] at c1);have hi2:i=ks.length:=by rw[Av] at c1;omega
  refine Cq (BD tab 3 [] O (Bk ⟨O,_,[],Bq O,List.nil_sublist _,?_⟩));exact⟨pI (by subst hi2;rw[List.take_length];simp[depth]),O⟩
end Go.Proofs.YtajnpndfkbnkoaaGreat
