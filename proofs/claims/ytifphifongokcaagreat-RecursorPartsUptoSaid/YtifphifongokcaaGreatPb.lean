/- Part of the proofs: an abstract program logic, plain models and contracts of functions. -/
import Derived.Test.YtifphifongokcaaGreatPa
import Derived.MapKept
set_option linter.unusedVariables false
set_option linter.unusedSimpArgs false
namespace Go.Abs
section
variable {P:Program}{ops:Array Oper}{n:Nat}{τ₀:Nat→AV}{D:List DV}{Q:CV→Be→Prop}{opn:Nat→Bool}{k:Nat}{τ:Nat→AV}{H:List A8}{rd:Sj}{ef:RH}{effs:List Bool}{fx:List (Nat×Sp)}{dst:Option Tmp}{op:Op}{ty:TypeId}{pos:String}{aft:Array Edge}{v:AV}{H':List A8}
theorem db {cs:List AV}(fx':List (Nat×Sp)) (ho:ops[k]?=some ⟨dst,op,ty,pos,aft,none⟩) (hn:opn k=true) (h:Cc P ⟨dst,op,ty,pos,aft,none⟩ (ev τ) H (GC cs H)) (haft:Dx ops k (fx'.map (·.1))=true)
  (next:∀b,IJ ops k H (.box b cs::H) rd∧F6 k (.eff (.ptr b 0) (.box b cs::H)) fx∧Dr P ops n τ₀ D Q opn (k+1) (put τ dst (.ptr b 0)) (.box b cs::H) rd ((k,H,.box b cs::H)::ef) (true::effs) (fx'++fx)):Dr P ops n τ₀ D Q opn k τ H rd ef effs fx :=
 Jm fx' ho hn h haft ⟨_,_,0,rfl,rfl⟩ (fun _ _ h=>h.elim) (fun v H' ⟨b,h1,h2⟩=>by subst h1;subst h2;exact next b)
theorem Sm {i sz:Nat}{rows:List (List PV)}(fx':List (Nat×Sp)) (ho:ops[k]?=some ⟨dst,op,ty,pos,aft,none⟩) (hn:opn k=true) (h:Cc P ⟨dst,op,ty,pos,aft,none⟩ (ev τ) H (GU i sz rows H)) (haft:Dx ops k (fx'.map (·.1))=true)
  (next:∀o c,IJ ops k H (H.set i (.vec o sz rows c)) rd∧F6 k (.eff (.vs o rows.length c) (H.set i (.vec o sz rows c))) fx∧Dr P ops n τ₀ D Q opn (k+1) (put τ dst (.vs o rows.length c)) (H.set i (.vec o sz rows c)) rd ((k,H,H.set i (.vec o sz rows c))::ef) (true::effs) (fx'++fx)):Dr P ops n τ₀ D Q opn k τ H rd ef effs fx :=
 Jm fx' ho hn h haft ⟨_,_,none,0,rfl,rfl⟩ (fun _ _ h=>h.elim) (fun v H' ⟨o,c,h1,h2⟩=>by subst h1;subst h2;exact next o c)
def FV (v:AV) (H':List A8):DN→List A8→Prop
 | .val v',H''=>v'=v∧H''=H'
 | .panic _,_=>False
theorem ZN {c:Call}{g:Option (Nat×Bool)}{f:Operand}{fid:FuncId}{first caps:List AV}{ρ:Operand→AV}{Hs Hf Hs':List A8}{A:List AV}
  (hc:c.callee= .value f) (hf:(ρ f= .p (.fn fid)∧first=[]∧caps=[])∨ρ f= .fn (.func fid) first caps) (hp:H.Perm (Hs++Hf)) (h:Br P fid A Hs (FV v Hs')) (hA:first++c.args.toList.map ρ++caps=A∨(first++c.args.toList.map ρ++caps).map norm=A) :
  DT P ⟨dst,.call c,ty,pos,aft,g⟩ ρ H v (Hs'++Hf):=by
 refine(El (H:=H) hc hf hp h hA).mono ?_;rintro r H' ⟨Hs',h1,rfl⟩;cases r with
 | val v'=>obtain⟨rfl,rfl⟩:=h1;exact⟨rfl,rfl⟩
 | panic v'=>exact h1
end
def lO (k:Int):List (Int×AV)→Option AV
 | []=>none
 | (j,x)::r=>if j=k then some x else lO k r
def js (k:Int) (v:AV):List (Int×AV)→List (Int×AV)
 | []=>[(k,v)]
 | (j,x)::r=>if j=k then (j,v)::r else (j,x)::js k v r
def kr (l:List (Int×AV)):List (PV×AV):=l.map fun p=>(.int .i64 p.1,p.2)
def mapOf (P:Program) (T:TypeId):Option TypeId :=
 match P.underlying T with
 | some (.map k e)=>match P.underlying k with
  | some (.int .i64)=>some e
  | _=>none
 | _=>none
section
variable {F:Nat→Prop}{w:World}
end
section
variable {P:Program}{dst:Option Tmp}{ty:TypeId}{pos:String}{aft:Array Edge}{g:Option (Nat×Bool)}{ρ:Operand→AV}{H:List A8}{x y z:Operand}{v:AV}
def kJ (H:List A8):DN→List A8→Prop
 | .val v,H'=>∃b,v= .map b∧H'= .map b (kr [])::H
 | .panic _,_=>False
theorem PC {T:TypeId}{d:TypeDesc}{a b:Value}{c:Bool}{w:World}(hu:P.underlying T=some d) (h:(match d,a,b with
  | .bool,.bool x,.bool y=>some (x==y)
  | .interface _,.nilIface,.nilIface=>some true
  | .interface _,.iface _ _,.nilIface=>some false
  | .slice _,.slice none _ _,.slice none _ _=>some true
  | .slice _,.slice (some _) _ _,.slice none _ _=>some false
  | _,_,_=>none)=some c):(Op.equal T a b).run P w= .ok c w:=by
 unfold Op.equal;rw[show Op.maxDepth=9999+1 from rfl];unfold Op.equalIn;simp only[Sem.run_bind,run_underlying hu,Result.andThen_ok];split at h<;>simp_all
theorem ME {T U:TypeId}{ms:Array (String×TypeId)}{X:PV}{b:Bool}(hu:P.underlying T=some (.interface ms)) (hx:ρ x= .p X) (hy:ρ (.const .nilIface)= .p .nilIface) (hX:(match X with | .nilIface=>some false | .iface _ _=>some true | _=>none)=some b):DT P ⟨dst,.binOp .neq T x (.const .nilIface) U,ty,pos,aft,g⟩ ρ H (.p (.bool b)) H :=
 CH fun F w E hH hE=>by
  have e2:=hE (.const .nilIface) AY;rw[hy] at e2;simp only[B2,CI] at e2;have e1:=hE x AY;rw[hx] at e1;have hg:∀a,(eqGuard .neq T x (.const .nilIface) a .nilIface).run P w= .ok () w:=by
   intro a;unfold eqGuard;cases a<;>simp<;>rfl
  refine⟨.bool b,?_,by simp[B2,CI]⟩;cases X with
  | nilIface =>
   simp at hX;subst hX;simp only[B2,CI] at e1;have hq:(Op.equal T .nilIface .nilIface).run P w= .ok true w:=PC hu rfl;simp[execOp,Sem.run_bind,hg,e1,e2,binOp,hq]
  | iface t c =>
   simp at hX;subst hX;simp only[B2,CI] at e1;obtain⟨u,e1,_⟩:=e1;have hq:(Op.equal T (.iface t u) .nilIface).run P w= .ok false w:=PC hu rfl;simp[execOp,Sem.run_bind,hg,e1,e2,binOp,hq]
  | _=>simp at hX
theorem Oa {T e:TypeId}{len sz b o:Nat}{k:IntKind}{i:Int}{inf:TypeInfo}(hu:P.underlying T=some (.array len e)) (hj:P.info? e=some inf) (hs:inf.size=sz) (hx:ρ x= .ptr b o) (hy:ρ y= .p (.int k i)) (h0:0≤i) (hn:i<len) :
  DT P ⟨dst,.indexAddr T x y,ty,pos,aft,g⟩ ρ H (.ptr b (o+i.toNat*sz)) H :=
 CH fun F w E hH hE=>by
  have h1:=hE x AY;have h2:=hE y AY;rw[hx] at h1;rw[hy] at h2;simp only[B2,CI] at h1 h2;refine⟨.pointer (some ⟨b,o+i.toNat*sz,none⟩),?_,by simp[B2]⟩;simp[execOp,Instr.indexAt,Sem.run_bind,run_underlying hu,h1,h2,asIntOf,h0,hn,sizeOf,typeInfo,hj,hs,Addr.add_mid,Instr.sureAddr,asAddr]
theorem Oi {T e:TypeId}{len:Nat}{parts:Array (Nat×Operand)}{z:Value}{cs:List AV}{inf:TypeInfo}(hu:P.underlying T=some (.array len e)) (hj:P.info? e=some inf) (hz:zeroOf P T=some z)
  (hc:Ff (fun i=>some (i*inf.size,inf.size)) (z.cells.toList.map EH) (parts.toList.map fun p=>(p.1,ρ p.2))=some cs):DT P ⟨dst,.build T parts,ty,pos,aft,g⟩ ρ H (.agg cs) H :=
 CH fun F w E hH hE=>by
  unfold zeroOf at hz;cases hi:P.info? T with
  | none=>simp[hi] at hz
  | some i =>
   have hz':i.zero=some z:=by simpa [hi] using hz
   have hzv:(zeroValue T).run P w= .ok z w:=by simp[zeroValue,typeInfo,hi,hz',Sem.run_bind]
   have hsz:(sizeOf e).run P w= .ok inf.size w:=by simp[sizeOf,typeInfo,hj]
   obtain⟨us,hf,hr⟩:=GG (F:=F) (w:=w) (place:=(fun i=>some (i*inf.size,inf.size))) _ (parts.toList.map fun p=>(p.1,E p.2)) _ z.cells.toList _ Ao (by
    intro j p q h1 h2;simp only[List.getElem?_map] at h1 h2;cases hj:parts.toList[j]? with
    | none=>simp[hj] at h1
    | some t =>
     simp[hj] at h1 h2;subst h1;subst h2;exact⟨O,hE _ (by
      have:=List.mem_of_getElem? hj;simp only[Op.operands];exact List.mem_map.2 ⟨t,this,O⟩)⟩) (Et _) hc
   refine⟨.agg ⟨us⟩,?_,by simp only[B2];exact⟨us,rfl,hr⟩⟩;simp only[execOp,Instr.build,Sem.run_bind,hzv,Result.andThen_ok,run_underlying hu,hsz];have hf':Instr.fill (fun i=>some (i*inf.size,inf.size)) z.cells (parts.toList.map fun p=>(p.1,E p.2))=some ⟨us⟩:=hf;simp[hf']
end
def Kl (P:Program) (T:TypeId):Bool :=
 match P.underlying T with
 | some (.struct fs)=>match fs.toList with
  | [f,g]=>f.name != "_" &&g.name != "_" &&Nat.beq f.offset 0&&Nat.beq g.offset 1&&(match P.underlying f.type,P.underlying g.type with | some (.int .i64),some (.int .i64)=>true | _,_=>false)&& !P.stoodInHeld T&& !P.eqGuardType P.depth T
  | _=>false
 | _=>false
theorem Sn {P:Program}{T:TypeId}{a b c d:Int}{w:World}(h:Kl P T=true):(Op.equal T (.agg #[.int .i64 a,.int .i64 b]) (.agg #[.int .i64 c,.int .i64 d])).run P w= .ok (a==c&&b==d) w:=by
 unfold Kl at h;split at h
 ·rename_i fs hu;split at h
  ·rename_i f g hfs;obtain rfl:fs=#[f,g]:=by apply Array.ext';simpa using hfs
   simp only[Bool.and_eq_true,bne_iff_ne,ne_eq,Bool.not_eq_true'] at h;obtain⟨⟨⟨⟨⟨⟨h1,h2⟩,h3⟩,h4⟩,h5⟩,h6⟩,h7⟩:=h;split at h5
   ·rename_i hf hg;have e3:=Nat.eq_of_beq_eq_true h3;have e4:=Nat.eq_of_beq_eq_true h4;have hp:(program).run P w= .ok P w:=rfl;have af:(isAgg f.type).run P w= .ok false w:=LR hf false rfl w;have ag:(isAgg g.type).run P w= .ok false w:=LR hg false rfl w;have pf:∀x y,(part f.type #[.int .i64 x,.int .i64 y] f.offset).run P w= .ok (.int .i64 x) w:=by
     intro x y;unfold part;simp[Sem.run_bind,af,e3]
    have pg:∀x y,(part g.type #[.int .i64 x,.int .i64 y] g.offset).run P w= .ok (.int .i64 y) w:=by
     intro x y;unfold part;simp[Sem.run_bind,ag,e4]
    have qf:∀x y,(Op.equalIn 9999 f.type (.int .i64 x) (.int .i64 y)).run P w= .ok (x==y) w:=by
     intro x y;rw[show (9999:Nat)=9998+1 from rfl];unfold Op.equalIn;simp[Sem.run_bind,run_underlying hf]
    have qg:∀x y,(Op.equalIn 9999 g.type (.int .i64 x) (.int .i64 y)).run P w= .ok (x==y) w:=by
     intro x y;rw[show (9999:Nat)=9998+1 from rfl];unfold Op.equalIn;simp[Sem.run_bind,run_underlying hg]
    unfold Op.equal;rw[show Op.maxDepth=9999+1 from rfl];unfold Op.equalIn;simp only[Sem.run_bind,run_underlying hu,Result.andThen_ok,hp,h6];simp[Sem.run_bind,h1,h2,pf,pg,qf,qg];cases hac:(a==c)<;>cases hbd:(b==d)<;>simp_all [Sem.run_bind,h1,h2,pf,pg,qf,qg]
   cases h5
  cases h
 cases h
section
variable {P:Program}{dst:Option Tmp}{ty:TypeId}{pos:String}{aft:Array Edge}{g:Option (Nat×Bool)}{ρ:Operand→AV}{H:List A8}{x y z:Operand}{v:AV}
theorem Pm {T U:TypeId}{a b c d:Int}(h:Kl P T=true) (hx:ρ x= .agg [.p (.int .i64 a),.p (.int .i64 b)]) (hy:ρ y= .agg [.p (.int .i64 c),.p (.int .i64 d)]):DT P ⟨dst,.binOp .neq T x y U,ty,pos,aft,g⟩ ρ H (.p (.bool (!(a==c&&b==d)))) H :=
 CH fun F w E hH hE=>by
  have e1:=hE x AY;have e2:=hE y AY;rw[hx] at e1;rw[hy] at e2;simp only[B2,Bl,CI] at e1 e2;obtain⟨vs,e1,u1,us1,rfl,rfl,u2,us2,rfl,rfl,rfl⟩:=e1;obtain⟨vs',e2,v1,vs1,rfl,rfl,v2,vs2,rfl,rfl,rfl⟩:=e2;refine⟨.bool (!(a==c&&b==d)),?_,by simp[B2,CI]⟩;have hq:=Sn (P:=P) (T:=T) (a:=a) (b:=b) (c:=c) (d:=d) (w:=w) h;have h':=h;have hg:(eqGuard .neq T x y (.agg #[.int .i64 a,.int .i64 b]) (.agg #[.int .i64 c,.int .i64 d])).run P w= .ok () w:=by
   unfold Kl at h';split at h'
   ·split at h'
    ·simp only[Bool.and_eq_true,Bool.not_eq_true'] at h';have h7:=h'.2;have hp:(program).run P w= .ok P w:=rfl;unfold eqGuard;simp[Sem.run_bind,hp,h7]
    cases h'
   cases h'
  simp[execOp,Sem.run_bind,hg,e1,e2,binOp,hq]
end
theorem Nb {P:Program}{r:Option Nat}{c:Code}{S:Be}{Q:CV→Be→Prop}(N:Nat) (C:Nat→Prop) (St:Nat→Be) (i₀:Nat) (h₀:i₀≤N) (hC:C i₀) (l:Le S (St i₀))
  (round:∀i,i≤N→C i→Gj P r c (St i) (Pg (fun S'=>i<N∧C (i+1)∧Le S' (St (i+1))) Q)):Gj P r (.loop c) S Q:=by
 refine SH (fun m S=>∃i,i≤N∧m=N - i∧C i∧S=St i) (m:=N - i₀) l ⟨i₀,h₀,O,hC,O⟩ ?_;rintro m S ⟨i,hi,rfl,hc,rfl⟩;refine(round i hi hc).mono ?_;intro e S' h;cases e with
 | normal =>
  obtain⟨h1,h2,h3⟩:=h;exact⟨N - (i+1),St (i+1),by omega,h3,i+1,by omega,rfl,h2,rfl⟩
 | exit id=>exact h
 | ret=>exact h
 | panic v=>exact h
theorem Bh {α:Type}{P:Program}{r:Option Nat}{c:Code}{S:Be}{Q:CV→Be→Prop}(St:α→Be) (μ:α→Nat) (C:α→Prop) (a₀:α) (hC:C a₀) (l:Le S (St a₀))
  (round:∀a,C a→Gj P r c (St a) (Pg (fun S'=>∃a',μ a' < μ a∧C a'∧Le S' (St a')) Q)):Gj P r (.loop c) S Q:=by
 refine SH (fun m S=>∃a,m=μ a∧C a∧S=St a) (m:=μ a₀) l ⟨a₀,O,hC,O⟩ ?_;rintro m S ⟨a,rfl,hc,rfl⟩;refine(round a hc).mono ?_;intro e S' h;cases e with
 | normal =>
  obtain⟨a',h1,h2,h3⟩:=h;exact⟨μ a',St a',h1,h3,a',O,h2,O⟩
 | exit id=>exact h
 | ret=>exact h
 | panic v=>exact h
abbrev wr (n:Int):Int:=IntKind.i64.wrap n
section
variable {P:Program}{dst:Option Tmp}{ty:TypeId}{pos:String}{aft:Array Edge}{g:Option (Nat×Bool)}{ρ:Operand→AV}{H:List A8}{x y z:Operand}{v:AV}
theorem GZ {m n:Int}{T U:TypeId}(hx:ρ x= .p (.int .i64 m)) (hy:ρ y= .p (.int .i64 n)):DT P ⟨dst,.binOp .add T x y U,ty,pos,aft,g⟩ ρ H (.p (.int .i64 (wr (m+n)))) H :=
 CH fun F w E hH hE=>by
  have e1:=hE x AY;have e2:=hE y AY;rw[hx] at e1;rw[hy] at e2;simp only[B2,CI] at e1 e2;exact⟨.int .i64 (wr (m+n)),by simp[execOp,Sem.run_bind,Hn,e1,e2,binOp,Op.intArith],by simp[B2,CI]⟩
theorem Wp {m n:Int}{T U:TypeId}(hx:ρ x= .p (.int .i64 m)) (hy:ρ y= .p (.int .i64 n)):DT P ⟨dst,.binOp .sub T x y U,ty,pos,aft,g⟩ ρ H (.p (.int .i64 (wr (m - n)))) H :=
 CH fun F w E hH hE=>by
  have e1:=hE x AY;have e2:=hE y AY;rw[hx] at e1;rw[hy] at e2;simp only[B2,CI] at e1 e2;exact⟨.int .i64 (wr (m - n)),by simp[execOp,Sem.run_bind,Hn,e1,e2,binOp,Op.intArith],by simp[B2,CI]⟩
end
def kp (R:AV→Prop):DN→List A8→Prop
 | .val v,H'=>R v∧H'=[]
 | .panic _,_=>False
abbrev Lj (P:Program) (f:FuncId) (args:List AV) (R:AV→Prop):Prop:=Br P f args [] (kp R)
theorem Lj.of {P:Program}{f:FuncId}{args:List AV}{v:AV}{R:AV→Prop}(h:D3 P f args v) (hR:R v):Lj P f args R :=
 Br.mono h fun r H hr=>by
  cases r with
  | val v'=>obtain⟨rfl,rfl⟩:=hr;exact⟨hR,rfl⟩
  | panic v'=>exact hr
def Rp (R:AV→Prop) (H:List A8):DN→List A8→Prop
 | .val v,H'=>R v∧H'=H
 | .panic _,_=>False
section
variable {P:Program}{r:Option Nat}{ops:Array Oper}{Q:CV→Be→Prop}{k:Nat}{n:Nat}{τ:Nat→AV}{H H':List A8}{D:List DV}{dst:Option Tmp}{op:Op}{ty:TypeId}{pos:String}{aft:Array Edge}{g:Option (Nat×Bool)}{v:AV}
theorem Dl {c:Call}{f:Operand}{fid:FuncId}{ρ:Operand→AV}{A:List AV}{R:AV→Prop}(hc:c.callee= .value f) (hf:ρ f= .p (.fn fid)) (h:Lj P fid A R) (hA:c.args.toList.map ρ=A∨(c.args.toList.map ρ).map norm=A) :
  Cc P ⟨dst,.call c,ty,pos,aft,g⟩ ρ H (Rp R H):=by
 refine(El (H:=H) (Hs:=[]) (Hf:=H) (first:=[]) (caps:=[]) hc (.inl ⟨hf,O,O⟩) (A:=A) Ao h (by simpa using hA)).mono ?_;rintro r H' ⟨Hs',h1,rfl⟩;cases r with
 | val v'=>obtain⟨h1,rfl⟩:=h1;exact⟨h1,rfl⟩
 | panic v'=>exact h1
theorem I6 {R:AV→Prop}(ho:ops[k]?=some ⟨dst,op,ty,pos,aft,none⟩) (hd:Fp dst n=true) (h:Cc P ⟨dst,op,ty,pos,aft,none⟩ (ev τ) H (Rp R H))
  (next:∀v,R v→AL P r ops (k+1) ⟨n,put τ dst v,H,D⟩ Q):AL P r ops k ⟨n,τ,H,D⟩ Q :=
 FK (S:=⟨n,τ,H,D⟩) ho Ag (HK hd) h (fun v H' ⟨h1,h2⟩=>by subst h2;exact next v h1) (fun _ _ h=>h.elim)
theorem LM {R:AV→Prop}{j d:Nat}{want:Bool}(ho:ops[k]?=some ⟨dst,op,ty,pos,aft,some (j,want)⟩) (hd:Fp dst n=true) (hj:(ops[j]?).bind (·.dst)=some d) (hb:τ d= .p (.bool want)) (h:Cc P ⟨dst,op,ty,pos,aft,some (j,want)⟩ (ev τ) H (Rp R H))
  (next:∀v,R v→AL P r ops (k+1) ⟨n,put τ dst v,H,D⟩ Q):AL P r ops k ⟨n,τ,H,D⟩ Q :=
 FK (S:=⟨n,τ,H,D⟩) ho (by simp only[CY];exact⟨d,hj,hb⟩) (HK hd) h (fun v H' ⟨h1,h2⟩=>by subst h2;exact next v h1) (fun _ _ h=>h.elim)
end
section
variable {P:Program}{ops:Array Oper}{n:Nat}{τ₀:Nat→AV}{D:List DV}{Q:CV→Be→Prop}{opn:Nat→Bool}{k:Nat}{τ:Nat→AV}{H:List A8}{rd:Sj}{ef:RH}{effs:List Bool}{fx:List (Nat×Sp)}{dst:Option Tmp}{op:Op}{ty:TypeId}{pos:String}{aft:Array Edge}
theorem WE {R:AV→Prop}(fx':List (Nat×Sp)) (ho:ops[k]?=some ⟨dst,op,ty,pos,aft,none⟩) (hn:opn k=true) (h:Cc P ⟨dst,op,ty,pos,aft,none⟩ (ev τ) H (Rp R H)) (haft:Dx ops k (fx'.map (·.1))=true) (hne:∃v,R v) (owe:IJ ops k H H rd)
  (next:∀v,R v→F6 k (.eff v H) fx∧Dr P ops n τ₀ D Q opn (k+1) (put τ dst v) H rd ((k,H,H)::ef) (true::effs) (fx'++fx)):Dr P ops n τ₀ D Q opn k τ H rd ef effs fx :=
 Jm fx' ho hn h haft (let ⟨v,hv⟩:=hne;⟨v,H,hv,rfl⟩) (fun _ _ h=>h.elim) (fun v H' ⟨h1,h2⟩=>by subst h2;exact⟨owe,next v h1⟩)
end
theorem Bj {P:Program}{r:Option Nat}{c:Code}{Q:CV→Be→Prop}{n:Nat}{τ:Nat→AV}{H:List A8}{D:List DV}(live:List Nat) (d:Nat) (R:AV→Prop) (h:Gj P r c ⟨n,τ,H,D⟩ (Pg (fun S'=>S'.n=n∧S'.D=D∧H.Sublist S'.H∧R (S'.τ d)∧dY S'.τ τ live) Q))
  (next:∀x,R x→Q .normal ⟨n,mk ((d,x)::live.map fun t=>(t,τ t)),H,D⟩):Gj P r c ⟨n,τ,H,D⟩ Q:=by
 intro F a w hs;refine wpIn_mono (h F a w hs) ?_;rintro e a' w' ⟨e',S',F',hq,he,hs',ht⟩;cases e' with
 | normal =>
  obtain⟨n',τ',H',D'⟩:=S';obtain⟨h1,h3,h2,h4,h5⟩:=hq;simp only at h1 h2 h3 h4 h5;subst h1;subst h3;have l:Le ⟨n',τ',H',D'⟩ ⟨n',mk ((d,τ' d)::live.map fun t=>(t,τ t)),H,D'⟩:=EU ⟨rfl,MI h5⟩ h2;exact⟨.normal,_,F',next _ h4,he,hs'.le l,ht.sublist h2⟩
 | exit id=>exact⟨.exit id,S',F',hq,he,hs',ht⟩
 | ret=>exact⟨.ret,S',F',hq,he,hs',ht⟩
 | panic v=>exact⟨.panic v,S',F',hq,he,hs',ht⟩
def J5 (v:AV):Prop:=∃b:Bool,v= .p (.bool b)
def fU (v:AV):Prop:=∃e:Int,v= .p (.int .i64 e)
end Go.Abs
namespace Go.Eu
open Go.Abs
noncomputable def Iy {α:Type}(a b:α):Bool:= @decide (a=b) (Classical.propDecidable _)
theorem DH {α:Type}{a b:α}(h:a=b):Iy a b=true:=by simp[Iy,h]
theorem Di {α:Type}{a b:α}(h:a≠b):Iy a b=false:=by simp[Iy,h]
theorem Ed {α:Type}{a b:α}:Iy a b=true↔a=b:=by simp[Iy]
abbrev LV (l:CN):AV:= .agg ((B6 l).map .p)
abbrev iu (ts:List Tm):AV:= .p (.lst (Av ts))
abbrev ie (ls:List CN):AV:= .p (.lst (ls.map B6))
theorem FJ {ts:List Bv}{i:Nat}{t:Bv}(h:ts[i]?=some t):(ts.map FT)[i]?=some (FT t):=by simp[h]
theorem IH {ts:List CN}{i:Nat}{t:CN}(h:ts[i]?=some t):(ts.map B6)[i]?=some (B6 t):=by simp[h]
def agree {α:Type}(a b:List α) (i:Nat):Prop:=a.take i=b.take i
theorem KT {α:Type}(a b:List α):agree a b 0:=by simp[agree]
theorem KC {α:Type}{a b:List α}{i:Nat}{x:α}(h:agree a b i) (ha:a[i]?=some x) (hb:b[i]?=some x):agree a b (i+1):=by
 unfold agree at *;rw[List.take_add_one,List.take_add_one,ha,hb,h]
theorem Lv {α:Type}{a b:List α}{n:Nat}(h:agree a b n) (ha:a.length=n) (hb:b.length=n):a=b:=by
 unfold agree at h
 rwa [List.take_of_length_le An,List.take_of_length_le An] at h
theorem A9 {α:Type}{l:List α}{i:Nat}(h:i<l.length):∃x,l[i]?=some x:=⟨_,List.getElem?_eq_getElem h⟩
abbrev Cb:Nat:=1099511627776
def I3 (n:Int):Prop:= -9223372036854775808≤n∧n≤9223372036854775807
structure Vt (l:CN):Prop where
 vars:l.vars.length<Cb
 c:I3 l.const
 v:∀v∈l.vars,I3 v.index∧I3 v.plus
mutual
def Nd:Tm→Prop
 | .mk k i n ls ks=>n.size<Cb∧ls.length<Cb∧(∀l∈ls,Vt l)∧ks.length<Cb∧D7 ks∧I3 k∧I3 i
def D7:List Tm→Prop
 | []=>True
 | t::ts=>Nd t∧D7 ts
end
theorem Cq:∀{ts:List Tm}{i:Nat}{t:Tm},D7 ts→ts[i]?=some t→Nd t
 | [],i,t,_,h=>by simp at h
 | a::ts,0,t,hn,h=>by simp at h;subst h;exact hn.1
 | a::ts,i+1,t,hn,h=>by simp at h;exact Cq hn.2 h
mutual
def depth:Tm→Nat
 | .mk _ _ _ _ ks=>V0 ks+1
def V0:List Tm→Nat
 | []=>0
 | t::ts=>max (depth t) (V0 ts)
end
end Go.Eu
namespace Go.Eu
theorem Ki (bs : ByteArray) : ∀ (d i : Nat) (r : List UInt8), bs.size - i = d → ByteArray.toList.loop bs i r = r.reverse ++ bs.data.toList.drop i := by
 intro d
 induction d with
 | zero =>
  intro i r h
  unfold ByteArray.toList.loop
  have : ¬ i < bs.size := by omega
  simp only [this, if_false]
  rw [List.drop_eq_nil_of_le (by have : bs.data.size = bs.size := rfl; simp; omega)]; simp
 | succ d ih =>
  intro i r h
  unfold ByteArray.toList.loop
  have hi : i < bs.size := by omega
  simp only [hi, if_true]
  rw [ih (i + 1) _ An]
  have hlt : i < bs.data.toList.length := by have : bs.data.size = bs.size := rfl; simp; omega
  rw [List.drop_eq_getElem_cons hlt]
  have : bs.get! i = bs.data.toList[i] := by
   have h2 : i < bs.data.size := by simpa using hlt
   show bs.data[i]! = _
   rw [getElem!_pos bs.data i h2]; simp
  simp [this]
theorem Kf (bs:ByteArray):bs.toList=bs.data.toList:=by
 unfold ByteArray.toList;rw[Ki bs _ 0 [] rfl];simp
theorem Kw {a b:ByteArray}(h:a.toList=b.toList):a=b:=by
 rw[Kf,Kf] at h;cases a;cases b;simp at h;congr
end Go.Eu
namespace Go.Eu
open Go.Abs
mutual
def eK:Tm→Int→Int
 | .mk _ _ _ _ ks,most=>W6 ks most 0
def W6:List Tm→Int→Int→Int
 | [],_,n=>n
 | t::ts,most,n=>if n > most then n else W6 ts most (wr (n+wr (1+eK t (wr (most - n)))))
end
end Go.Eu
namespace Go.Eu
def arity (k:Int):Int:=if k=4∨k=5∨k=6∨k=7 then 2 else if k=8∨k=11 then 3 else if k=9∨k=10 then 1 else 0
def below (k i:Int):Int:=if ((i==1&&(k==5||k==6||k==7))||(i==2&&k==11))=true then 1 else 0
def TO:Tm→Prop
 | .mk kd _ _ _ ks=>0≤kd∧kd<13∧(ks.length:Int)=arity kd
mutual
def wf (vars metas:Int):Int→Tm→Prop
 | d,.mk kd ix _ _ ks=>0≤kd∧kd<13∧(ks.length:Int)=arity kd∧(kd=0→0≤ix∧ix - d<vars)∧(kd=12→0≤ix∧ix<metas)∧RG vars metas kd d 0 ks
def RG (vars metas:Int):Int→Int→Nat→List Tm→Prop
 | _,_,_,[]=>True
 | kd,d,i,t::ts=>wf vars metas (d+below kd i) t∧RG vars metas kd d (i+1) ts
end
theorem Il {vars metas kd d:Int}:∀{ks:List Tm}{i:Nat},(∀j t,ks[j]?=some t→wf vars metas (d+below kd ((i+j:Nat):Int)) t)→RG vars metas kd d i ks
 | [],i,_=>by simp[RG]
 | t::ts,i,h=>by
  simp only[RG];exact⟨by have:=h 0 t rfl;simpa using this,Il fun j t' ht=>by have:=h (j+1) t' (by simpa using ht);rw[show i+1+j=i+(j+1) by omega];exact this⟩
theorem Cd (k i:Int):0≤below k i∧below k i≤1:=by unfold below;split<;>omega
theorem GN {α:Type}{l:List α}{p:Nat→α→Prop}{i:Nat}{x:α}(h:∀j,j<i→∀t,l[j]?=some t→p j t) (hx:l[i]?=some x) (hp:p i x):∀j,j<i+1→∀t,l[j]?=some t→p j t:=by
 intro j hj t ht;rcases Nat.lt_or_ge j i with h' | h'
 ·exact h j h' t ht
 have e:j=i:=by omega
 subst e;rw[hx] at ht;injection ht with ht;subst ht;exact hp
end Go.Eu
namespace Go.Abs
section
variable {α:Type}
def MJ (is:List Nat):Nat→List α→List α
 | _,[]=>[]
 | k,a::l=>bif is.any (Nat.beq k ·) then a::MJ is (k+1) l else MJ is (k+1) l
theorem LU (is:List Nat):∀(k:Nat) (l:List α),(MJ is k l).Sublist l
 | _,[]=>List.Sublist.refl _
 | k,a::l=>by
  simp only[MJ];cases is.any (Nat.beq k ·)
  ·exact(LU is (k+1) l).cons _
  exact(LU is (k+1) l).cons_cons _
theorem Dn {is:List Nat}{l l':List α}(h:MJ is 0 l=l'):l'.Sublist l:=h▸LU is 0 l
def D2 (H:List α):List Nat→List α→Prop
 | [],xs=>xs=[]
 | i::is,xs=>∃x xs',xs=x::xs'∧H[i]?=some x∧D2 H is xs'
def Ha (H:List α):List Nat→List α→List α
 | i::is,x::xs=>Ha (H.set i x) is xs
 | _,_=>H
def Ci (is:List Nat):Nat→List α→List α
 | _,[]=>[]
 | k,a::l=>if k∈is then Ci is (k+1) l else a::Ci is (k+1) l
theorem MR:∀(k:Nat) (l:List α),Ci [] k l=l
 | _,[]=>rfl
 | k,a::l=>by simp[Ci,MR (k+1) l]
theorem MP {is:List Nat}{j:Nat}:∀(k:Nat) (l:List α),j<k→Ci (j::is) k l=Ci is k l
 | _,[],_=>rfl
 | k,a::l,h=>by
  have:k≠j:=by omega
  have ih:=MP (is:=is) (j:=j) (k+1) l An;simp[Ci,this,ih]
theorem Kz {is:List Nat}{x:α}:∀(l:List α) (k i:Nat),l[i]?=some x→(k+i) ∉ is→(Ci is k l).Perm (x::Ci ((k+i)::is) k l)
 | [],k,i,h,_=>by simp at h
 | a::l,k,0,h,hn=>by
  simp at h hn;subst h;simp[Ci,hn,MP (k+1) l (Nat.lt_succ_self k)]
 | a::l,k,i+1,h,hn=>by
  simp at h;have ih:=Kz l (k+1) i h (by rw[show k+1+i=k+(i+1) by omega];exact hn);rw[show k+1+i=k+(i+1) by omega] at ih;have hk:k≠k+(i+1):=by omega
  simp only[Ci,List.mem_cons,hk,false_or];split
  ·exact ih
  exact(ih.cons a).trans (.swap _ _ _)
theorem C8 {H:List α}:∀{is:List Nat}{xs:List α},is.Nodup→D2 H is xs→H.Perm (xs++Ci is 0 H)
 | [],xs,_,h=>by simp only[D2] at h;subst h;simp[MR]
 | i::is,xs,hn,h=>by
  obtain⟨x,xs',rfl,hx,hr⟩:=h;have hn':=List.nodup_cons.1 hn;have ih:=C8 hn'.2 hr;have:=Kz (is:=is) H 0 i hx (by simpa using hn'.1);simp only[Nat.zero_add] at this;exact ih.trans (((List.Perm.refl xs').append this).trans List.perm_middle)
theorem MN {is:List Nat}{y:α}:∀(l:List α) (k i:Nat),(k+i)∈is→Ci is k (l.set i y)=Ci is k l
 | [],k,i,_=>by simp
 | a::l,k,0,h=>by simp at h;simp[Ci,h]
 | a::l,k,i+1,h=>by
  have:=MN (y:=y) l (k+1) i (by rw[show k+1+i=k+(i+1) by omega];exact h);simp only[List.set_cons_succ,Ci,this]
theorem N1 {i:Nat}{y:α}:∀{is:List Nat}{xs H:List α},i ∉ is→D2 H is xs→D2 (H.set i y) is xs
 | [],xs,H,_,h=>h
 | j::is,xs,H,hn,h=>by
  obtain⟨x,xs',rfl,hx,hr⟩:=h;simp at hn;exact⟨x,xs',O,by rw[List.getElem?_set_ne hn.1];exact hx,N1 hn.2 hr⟩
theorem O9:∀{is:List Nat}{xs xs' H:List α},is.Nodup→D2 H is xs→xs'.length=xs.length→D2 (Ha H is xs') is xs'∧(∀ks k,(∀i∈is,k+i∈ks)→Ci ks k (Ha H is xs')=Ci ks k H)∧∀j,j ∉ is→(Ha H is xs')[j]?=H[j]?
 | [],xs,xs',H,_,h,hl=>by
  simp only[D2] at h;subst h;have:xs'=[]:=by simpa using hl
  subst this;exact⟨O,fun _ _ _=>O,fun _ _=>O⟩
 | i::is,xs,xs',H,hn,h,hl=>by
  obtain⟨x,xr,rfl,hx,hr⟩:=h;have hn':=List.nodup_cons.1 hn;cases xs' with
  | nil=>simp at hl
  | cons y ys =>
   have hlt:i<H.length:=(List.getElem?_eq_some_iff.1 hx).1;obtain⟨h1,h2,h3⟩:=O9 (H:=H.set i y) hn'.2 (N1 hn'.1 hr) (by simpa using hl);refine⟨⟨y,ys,O,by rw[Ha,h3 i hn'.1];simp[hlt],h1⟩,fun ks k hk=>?_,fun j hj=>?_⟩
   ·rw[Ha,h2 ks k (fun q hq=>hk q (by simp[hq])),MN _ _ _ (hk i Ao)]
   simp at hj;rw[Ha,h3 j hj.2,List.getElem?_set_ne (fun e=>hj.1 e.symm)]
theorem H6 {is:List Nat}{xs xs' H:List α}(hn:is.Nodup) (h:D2 H is xs) (hl:xs'.length=xs.length):(Ha H is xs').Perm (xs'++Ci is 0 H):=by
 obtain⟨h1,h2,_⟩:=O9 hn h hl;have:=C8 hn h1
 rwa [h2 is 0 (fun i hi=>by simpa using hi)] at this
end
def au (τ:Nat→AV) (x:AV):List Nat→Prop
 | []=>True
 | t::r=>τ t=x∧au τ x r
theorem C6 {τ:Nat→AV}{x:AV}:∀{ts:List Nat},au τ x ts→∀t∈ts,τ t=x
 | [],_,t,h=>by simp at h
 | a::r,h,t,ht=>by
  rcases List.mem_cons.1 ht with rfl | ht
  ·exact h.1
  exact C6 h.2 t ht
section
variable {P:Program}{S:Be}{a T n b i:Nat}{cs:List AV}{v:AV}
theorem BO (hT:DY P T=some (true,n)) (ha:S.τ a= .ptr b 0) (hi:S.H[i]?=some (.box b cs)) (hn:cs.length=n):aQ P S (.cell a T) (.agg cs):=by
 obtain⟨d,h1,h2,h3⟩:=EX hT;exact⟨b,cs,i,ha,hi,.inl ⟨d,h1,h2,by rw[h3,hn],rfl⟩⟩
theorem SN (hT:DY P T=some (false,n)) (ha:S.τ a= .ptr b 0) (hi:S.H[i]?=some (.box b [v])):aQ P S (.cell a T) v:=by
 obtain⟨d,h1,h2,h3⟩:=EX hT;exact⟨b,[v],i,ha,hi,.inr ⟨d,h1,h2,O⟩⟩
end
section
variable {P:Program}{dst:Option Tmp}{ty:TypeId}{pos:String}{aft:Array Edge}{g:Option (Nat×Bool)}{ρ:Operand→AV}{H Hs Hs':List A8}{x y z:Operand}{v:AV}{c:Call}{f:Operand}{fid:FuncId}{first caps A:List AV}
theorem Cc.permD {o:Oper}{H H' H'':List A8}(h:DT P o ρ H v H') (hp:H'.Perm H''):DT P o ρ H v H'':=by
 intro r F S a w hs hH hρ hd;have:=h r F S a w hs hH hρ hd;refine H4 this ?_ ?_
 ·rintro a' w' ⟨v',H1,F',⟨rfl,rfl⟩,hs',ht⟩;exact⟨v',H'',F',⟨O,O⟩,⟨hs'.size,hs'.tmp,hs'.heap.perm hp,hs'.defs⟩,{ ht with keys:=fun o ho=>ht.keys o (hp.mem_iff.2 ho) }⟩
 rintro e a' w' ⟨v',H1,F',u,h,_⟩;exact h.elim
theorem Cg (is:List Nat) (hc:c.callee= .value f) (hf:(ρ f= .p (.fn fid)∧first=[]∧caps=[])∨ρ f= .fn (.func fid) first caps) (h:Br P fid A Hs (FV v Hs')) (hg:D2 H is Hs) (hn:is.Nodup) (hl:Hs'.length=Hs.length) (hA:first++c.args.toList.map ρ++caps=A∨(first++c.args.toList.map ρ++caps).map norm=A) :
  DT P ⟨dst,.call c,ty,pos,aft,g⟩ ρ H v (Ha H is Hs') :=
 Cc.permD (ZN hc hf (C8 hn hg) h hA) (H6 hn hg hl).symm
theorem B3 {T T2 e e2:TypeId}{sz bytes n2 n3 c i n:Nat}{o:Option Nat}{rows rows' rows2:List (List PV)}{zv:Value}(hT:Ds P T=some (e,sz,bytes)) (hT2:Ds P T2=some (e2,n2,n3)) (hz:zeroOf P e=some zv) (hzs:zv.cells.size=sz) (hb0:(Nat.blt 0 sz&&Nat.blt 0 bytes)=true)
  (hx:ρ x= .vs o n c) (hn:n=rows.length) (hi:H[i]?=some (.vec o sz rows c)) (hy:norm (ρ y)= .p (.lst rows')) (hsol:∀r∈rows',DC sz r) (hroom:2*(rows.length+rows'.length)*bytes≤281474976710656) (h2:rows++rows'=rows2) :
  Cc P ⟨dst,.call { callee:= .builtin .append,args:=#[x,y],argTypes:=#[T,T2] },ty,pos,aft,g⟩ ρ H (GU i sz rows2 H):=by
 subst h2;exact Ti hT hT2 hz hzs hb0 hx hn hi hy hsol hroom
theorem T6 {F:Nat→Prop}{w:World}{u:Value}(h:B2 F w (.p .nils) u):B2 F w (.vs none 0 0) u:=by
 simp only[B2,CI] at *;exact⟨Ap,Ap,none,h⟩
theorem TB {α : Type} : ∀ {us cs : List α}, us.length = cs.length → splice cs 0 us = us := by
 have key : ∀ (us : List α) (pre cs : List α), us.length = cs.length → splice (pre ++ cs) pre.length us = pre ++ us := by
  intro us
  induction us with
  | nil => intro pre cs h; have : cs = [] := by simpa using h.symm
           subst this; simp [splice]
  | cons u us ih =>
   intro pre cs h
   cases cs with
   | nil => simp at h
   | cons c cs =>
    simp only [splice]
    have := ih (pre ++ [u]) cs (by simpa using h)
    have e : (pre ++ c :: cs).set pre.length u = pre ++ [u] ++ cs := by simp
    rw [e]
    simpa using this
 intro us cs h
 exact key us [] cs h
theorem CF {T:TypeId}{bl:Bool}{n b i:Nat}{cs us:List AV}(hT:DY P T=some (bl,n+1)) (hx:ρ x= .ptr b 0) (hi:H[i]?=some (.box b cs)) (hy:EI (ρ y)=some us) (hn:us.length=n+1)
  (ho:cs.length=n+1) (h1:us.all one=true):DT P ⟨dst,.store T x y,ty,pos,aft,g⟩ ρ H (.p .any) (H.set i (.box b us)):=by
 have:=Cl (P:=P) (dst:=dst) (ty:=ty) (pos:=pos) (aft:=aft) (g:=g) hT hx hi hy hn (by rw[ho];simp) h1
 rwa [TB (by rw[hn,ho])] at this
theorem CO {T:TypeId}{bl:Bool}{b i j sz c:Nat}{rows rows2:List (List PV)}{us:List AV}{r:List PV}(hT:DY P T=some (bl,sz)) (hpos:Nat.blt 0 sz=true) (hx:ρ x= .ptr b (j*sz)) (hi:H[i]?=some (.vec (some b) sz rows c)) (hj:j<rows.length) (hy:EI (ρ y)=some us) (hp:E8 (us.map dn)=some r) (hrl:r.length=sz) (h1:us.all one=true) (h2:rows.set j r=rows2) :
  DT P ⟨dst,.store T x y,ty,pos,aft,g⟩ ρ H (.p .any) (H.set i (.vec (some b) sz rows2 c)):=by
 subst h2;exact Ot hT hpos hx hi hj hy hp hrl h1
theorem EA {T e:TypeId}{sz bytes:Nat}{m:Int}{zs:List Value}{zv:Value}{zr:List PV}{rows2:List (List PV)}(hT:Ds P T=some (e,sz,bytes)) (hz:zeroOf P e=some zv) (hzs:zv.cells=⟨zs⟩) (hsz:zs.length=sz) (hpos:0<sz) (hp:E8 ((zs.map EH).map dn)=some zr)
  (hx:ρ x= .p (.int .i64 m)) (hy:ρ y= .p (.int .i64 m)) (h0:0≤m) (hm:bytes*m≤281474976710656) (hm2:m≤9223372036854775807) (h2:List.replicate m.toNat zr=rows2) :
  Cc P ⟨dst,.makeSlice T x y,ty,pos,aft,g⟩ ρ H (Gp sz rows2 H):=by
 subst h2;exact Oh hT hz hzs hsz hpos hp hx hy h0 hm hm2
theorem CX {T e:TypeId}{sz bytes lo hi:Nat}{rows rows2:List (List PV)}{l h:Option Operand}(hT:Ds P T=some (e,sz,bytes)) (hx:ρ x= .p (.lst rows)) (hr:∀r∈rows,r.length=sz)
  (hl:match l with | none=>lo=0 | some y=>∃k,ρ y= .p (.int k lo)) (hh:match h with | none=>hi=rows.length | some y=>∃k,ρ y= .p (.int k hi)) (h1:lo≤hi) (h2:hi≤rows.length) (h3:(rows.take hi).drop lo=rows2) :
  DT P ⟨dst,.slice T x l h none,ty,pos,aft,g⟩ ρ H (.p (.lst rows2)) H:=by
 subst h3;exact VU hT hx hr hl hh h1 h2
end
section
variable {P:Program}{r:Option Nat}{ops:Array Oper}{Q:CV→Be→Prop}{k:Nat}{n:Nat}{τ:Nat→AV}{H H':List A8}{D:List DV}{dst:Option Tmp}{op:Op}{ty:TypeId}{pos:String}{aft:Array Edge}{v:AV}
end
theorem leH {is:List Nat}{H H1 H':List A8}(h:MJ is 0 H=H1) (w:ES H1 H'):az H H':=⟨H1,Dn h,w⟩
theorem Du {x y:AV}(h:norm x=y):Ma x y:=fun _ _ _ hr=>h▸hr.norm
theorem DF:ES [] []:=rfl
theorem wl {o o':A8}{l l':List A8}(h:J8 o o') (r:ES l l'):ES (o::l) (o'::l'):=⟨o',l',rfl,h,r⟩
theorem on {b:Nat}{cs cs':List AV}(h:cs.map dn=cs'):J8 (.box b cs) (.box b cs'):=⟨rfl,fun F w hr=>by
 obtain⟨vs,T,h1,h2⟩:=hr;exact⟨vs,T,h1,h▸IA h2⟩⟩
theorem CB {n:Nat}{τ:Nat→AV}{H:List A8}{D:List DV}{i b:Nat}{cs:List AV}(hi:H[i]?=some (.box b cs)):Gv ⟨n,τ,H,D⟩ ⟨n,τ,H.set i (.box b (cs.map dn)),D⟩:=by
 intro F a w hs;refine⟨F,⟨hs.size,hs.tmp,?_,hs.defs⟩,?_⟩
 ·have hk:=Ee (x':= .box b (cs.map dn)) hi rfl;refine⟨fun o ho c hc=>?_,by show List.Nodup _;rw[hk];exact hs.heap.nodup,fun o ho=>?_,hs.heap.bd⟩
  ·rcases C3 ho with rfl | ⟨j,_,hj⟩
   ·exact hs.heap.sub _ (List.mem_of_getElem? hi) c hc
   exact hs.heap.sub _ (List.mem_of_getElem? hj) c hc
  rcases C3 ho with rfl | ⟨j,_,hj⟩
  ·exact(on O).2 F w (hs.heap.obj _ (List.mem_of_getElem? hi))
  exact hs.heap.obj _ (List.mem_of_getElem? hj)
 refine { Trans.refl (F:=F) (H:=H) (w:=w) with keys:=fun o ho c hc=>?_ };rcases C3 ho with rfl | ⟨j,_,hj⟩
 ·exact .inl ⟨_,List.mem_of_getElem? hi,hc⟩
 exact .inl ⟨_,List.mem_of_getElem? hj,hc⟩
theorem Hk {n:Nat}{τ:Nat→AV}{H:List A8}{D:List DV}(t:Nat):Gv ⟨n,τ,H,D⟩ ⟨n,put τ (some t) (norm (τ t)),H,D⟩:=N8 fun _ _ _ h=>h.norm
theorem ob {b:Nat}{cs cs':List AV}(h:cs=cs'):J8 (.box b cs) (.box b cs'):=oe (by rw[h])
def Yj (mkv:AV→AV) (sz:Nat) (rows:List (List PV)):DN→List A8→Prop
 | .val v,H'=>∃o c,v=mkv (.vs o rows.length c)∧H'=[.vec o sz rows c]
 | .panic _,_=>False
section
variable {P:Program}{r:Option Nat}{ops:Array Oper}{Q:CV→Be→Prop}{k:Nat}{n:Nat}{τ:Nat→AV}{H H':List A8}{D:List DV}{dst:Option Tmp}{op:Op}{ty:TypeId}{pos:String}{aft:Array Edge}{v:AV}
theorem Xq {c:Call}{f:Operand}{fid:FuncId}{first caps:List AV}{A:List AV}{mkv:AV→AV}{sz:Nat}{rows:List (List PV)}
  (ho:ops[k]?=some ⟨dst,.call c,ty,pos,aft,none⟩) (hd:Fp dst n=true)
  (hc:c.callee= .value f) (hf:(ev τ f= .p (.fn fid)∧first=[]∧caps=[])∨ev τ f= .fn (.func fid) first caps) (h:Br P fid A [] (Yj mkv sz rows)) (hA:first++c.args.toList.map (ev τ)++caps=A∨(first++c.args.toList.map (ev τ)++caps).map norm=A)
  (next:∀o cp,AL P r ops (k+1) ⟨n,put τ dst (mkv (.vs o rows.length cp)),.vec o sz rows cp::H,D⟩ Q):AL P r ops k ⟨n,τ,H,D⟩ Q :=
 Kd ho hd hc hf (Hs:=[]) (Hf:=H) Ao h hA (fun v H' ⟨o,cp,h1,h2⟩=>by subst h1;subst h2;exact next o cp) (fun _ _ h=>h.elim)
end
theorem S8 {P:Program}{f:FuncId}{args:List AV}{pre post:List AV}{sz:Nat}{rows:List (List PV)}(h:Br P f args [] (Yj (fun v=> .tup (pre++v::post)) sz rows)) (hb:∀x∈pre++post,∀F F' w v,Cs F w F' w→B2 F w x v→B2 F' w x v) :
  D3 P f args (.tup (pre++ .p (.lst rows)::post)):=by
 refine⟨h.1,fun F w vs hH ha=>(h.2 F w vs hH ha).mono ?_⟩;rintro e w' ⟨r,H',F',hR,he,hH',ht⟩;cases r with
 | panic v=>exact hR.elim
 | val v =>
  obtain⟨o,c,rfl,rfl⟩:=hR;obtain⟨u,rfl,hu⟩:=he;have hbd:∀b,o=some b→b<w'.heap.size:=fun b hb=>hH'.bd b (hH'.sub _ (List.mem_cons_self ..) b (by rw[←hb];rfl));have st:Cs F' w' (fun b=>F' b∧o≠some b) w':=⟨Nat.le_refl _,fun _ _ _=>rfl,fun _ h _ h'=>h h'.1⟩;have hob:=hH'.obj _ (List.mem_cons_self ..);refine⟨.val (.tup (pre++ .p (.lst rows)::post)),[],fun b=>F' b∧o≠some b,⟨O,O⟩,⟨u,O,?_⟩,?_,?_⟩
  ·simp only[B2] at hu ⊢;obtain⟨us,hus,hr⟩:=hu;refine⟨us,hus,?_⟩;have key:∀(pre:List AV) (us:List Value),(∀x∈pre++post,∀F F' w v,Cs F w F' w→B2 F w x v→B2 F' w x v)→Bl F' w' (pre++ .vs o rows.length c::post) us→Bl (fun b=>F' b∧o≠some b) w' (pre++ .p (.lst rows)::post) us:=by
    intro pre
    induction pre with
    | nil =>
     intro us hb hr;simp only[List.nil_append,Bl] at hr ⊢;obtain⟨u,us',rfl,h1,h2⟩:=hr;refine⟨u,us',O,Ij hbd hob h1 _ st (fun b hb h=>h.2 hb),?_⟩;exact Bl.mono st _ _ h2
    | cons x pre ih =>
     intro us hb hr;simp only[List.cons_append,Bl] at hr ⊢;obtain⟨u,us',rfl,h1,h2⟩:=hr;exact⟨u,us',rfl,hb x Ao _ _ _ _ st h1,ih us' (fun y hy=>hb y (by simp at hy ⊢;rcases hy with h | h<;>simp[h])) h2⟩
   exact key pre us hb hr
  ·exact⟨fun _ h=>by simp at h,by simp,fun _ h=>by simp at h,fun b hb=>hH'.bd b hb.1⟩
  refine⟨ht.size,fun b hb hn=>ht.same b hb hn,fun b hb hn=>⟨ht.keep b hb hn,?_⟩,fun b hb=>ht.fresh b hb.1,fun _ h=>by simp at h,ht.os,ht.out,ht.tape⟩;intro ho;subst ho;have:=hH.bd b hb;rcases ht.keys _ (List.mem_cons_self ..) b rfl with ⟨o',ho',_⟩ | h
  ·simp at ho'
  omega
theorem SF (c:AV) (F F':Nat→Prop) (w:World) (v:Value) (st:Cs F w F' w) (h:B2 F w c v):B2 F' w c v:=B2.mono st _ _ h
def Ek:List AV→List AV→Prop
 | [],ys=>ys=[]
 | x::xs,ys=>∃y ys',ys=y::ys'∧Ma x y∧Ek xs ys'
theorem FE:Ek [] []:=rfl
theorem aw {x y:AV}{xs ys:List AV}(h:Ma x y) (r:Ek xs ys):Ek (x::xs) (y::ys):=⟨y,ys,rfl,h,r⟩
theorem Jj {F:Nat→Prop}{w:World}:∀{xs ys:List AV}{vs:List Value},Ek xs ys→Bl F w xs vs→Bl F w ys vs
 | [],ys,vs,h,hr=>by simp only[Ek] at h;subst h;exact hr
 | x::xs,ys,vs,h,hr=>by
  obtain⟨y,ys',rfl,h1,h2⟩:=h;simp only[Bl] at hr ⊢;obtain⟨u,us,rfl,r1,r2⟩:=hr;exact⟨u,us,O,h1 F w u r1,Jj h2 r2⟩
theorem E3:Ma (.p .nils) (.vs none 0 0):=fun _ _ _ h=>T6 h
theorem Br.args {P:Program}{f:FuncId}{args A:List AV}{H:List A8}{R:DN→List A8→Prop}(h:Br P f A H R) (hA:Ek args A):Br P f args H R :=
 ⟨h.1,fun F w vs hH ha=>h.2 F w vs hH (Jj hA ha)⟩
section
variable {P:Program}{r:Option Nat}{ops:Array Oper}{Q:CV→Be→Prop}{k:Nat}{n:Nat}{τ:Nat→AV}{H Hs:List A8}{D:List DV}{dst:Option Tmp}{op:Op}{ty:TypeId}{pos:String}{aft:Array Edge}{v:AV}{c:Call}{f:Operand}{fid:FuncId}{first caps A:List AV}{R:DN→List A8→Prop}
theorem P5 {S:Be}{H':List A8}(hp:S.H.Perm H'):Gv S ⟨S.n,S.τ,H',S.D⟩:=fun F a w hs =>
 ⟨F,⟨hs.size,hs.tmp,hs.heap.perm hp,hs.defs⟩,{ Trans.refl (F:=F) (H:=S.H) (w:=w) with keys:=fun o ho b hb=> .inl ⟨o,hp.mem_iff.2 ho,hb⟩ }⟩
theorem Gg (is:List Nat) (ho:ops[k]?=some ⟨dst,.call c,ty,pos,aft,none⟩) (hd:Fp dst n=true)
  (hc:c.callee= .value f) (hf:(ev τ f= .p (.fn fid)∧first=[]∧caps=[])∨ev τ f= .fn (.func fid) first caps) (h:Br P fid A Hs R) (hg:D2 H is Hs) (hn:is.Nodup) (hA:Ek (first++c.args.toList.map (ev τ)++caps) A)
  (next:∀v Hs',R (.val v) Hs'→Hs'.length=Hs.length∧AL P r ops (k+1) ⟨n,put τ dst v,Ha H is Hs',D⟩ Q) (pan:∀v Hs',R (.panic v) Hs'→Q (.panic v) ⟨n,τ,Hs'++Ci is 0 H,D⟩):AL P r ops k ⟨n,τ,H,D⟩ Q :=
 Kd ho hd hc hf (C8 hn hg) (h.args hA) (.inl rfl) (fun v H' hR=>by
  obtain⟨hl,hn'⟩:=next v H' hR;exact B7 (P5 (S:=⟨n,put τ dst v,H'++Ci is 0 H,D⟩) (H6 hn hg hl).symm) hn') pan
theorem Np (is:List Nat) (ho:ops[k]?=some ⟨dst,.call c,ty,pos,aft,none⟩) (hd:Fp dst n=true)
  (hc:c.callee= .value f) (hf:(ev τ f= .p (.fn fid)∧first=[]∧caps=[])∨ev τ f= .fn (.func fid) first caps) (h:Br P fid A Hs R) (hg:D2 H is Hs) (hn:is.Nodup) (hA:Ek (first++c.args.toList.map (ev τ)++caps) A)
  (next:∀v Hs',R (.val v) Hs'→AL P r ops (k+1) ⟨n,put τ dst v,Hs'++Ci is 0 H,D⟩ Q) (pan:∀v Hs',R (.panic v) Hs'→Q (.panic v) ⟨n,τ,Hs'++Ci is 0 H,D⟩):AL P r ops k ⟨n,τ,H,D⟩ Q :=
 Kd ho hd hc hf (C8 hn hg) (h.args hA) (.inl rfl) next pan
theorem EM {sz:Nat}:Gv ⟨n,τ,H,D⟩ ⟨n,τ,.vec none sz [] 0::H,D⟩:=by
 intro F a w hs;have hH:HRel F (.vec none sz [] 0::H) w:=⟨fun o ho b hb=>by
   rcases List.mem_cons.1 ho with rfl | ho
   ·cases hb
   ·exact hs.heap.sub o ho b hb,by simpa [List.filterMap_cons,A8.key] using hs.heap.nodup,fun o ho=>by
   rcases List.mem_cons.1 ho with rfl | ho
   ·exact⟨O,O⟩
   exact hs.heap.obj o ho,hs.heap.bd⟩
 exact⟨F,⟨hs.size,hs.tmp,hH,hs.defs⟩,⟨Nat.le_refl _,fun _ _ _=>O,fun _ h _=>h,fun _ h=> .inl h,fun o ho b hb=>by
   rcases List.mem_cons.1 ho with rfl | ho
   ·cases hb
   exact .inl ⟨o,ho,hb⟩,O,O,O⟩⟩
end
section
variable {P:Program}{r:Option Nat}{ops:Array Oper}{Q:CV→Be→Prop}{k:Nat}{n:Nat}{τ:Nat→AV}{H:List A8}{D:List DV}{o:Option Nat}{sz cp i:Nat}{rows:List (List PV)}
theorem Ro {F:Nat→Prop}{w:World}{a:Act}(hs:Cy F ⟨n,τ,H,D⟩ a w) (hi:H[i]?=some (.vec o sz rows cp)) (hne:0<rows.length):∃b,o=some b:=by
 have:=hs.heap.obj _ (List.mem_of_getElem? hi);cases o with
 | none=>obtain⟨h,_⟩:=this;simp[h] at hne
 | some b=>exact⟨b,rfl⟩
theorem Mh (hi:H[i]?=some (.vec o sz rows cp)) (hne:0<rows.length) (next:∀b,o=some b→AL P r ops k ⟨n,τ,H,D⟩ Q):AL P r ops k ⟨n,τ,H,D⟩ Q:=fun F a w hs=>by
 obtain⟨b,hb⟩:=Ro hs hi hne;exact next b hb F a w hs
theorem SL {c:Code}(hi:H[i]?=some (.vec o sz rows cp)) (hne:0<rows.length) (next:∀b,o=some b→Gj P r c ⟨n,τ,H,D⟩ Q):Gj P r c ⟨n,τ,H,D⟩ Q:=fun F a w hs=>by
 obtain⟨b,hb⟩:=Ro hs hi hne;exact next b hb F a w hs
end
section
variable {P:Program}{dst:Option Tmp}{ty:TypeId}{pos:String}{aft:Array Edge}{g:Option (Nat×Bool)}{ρ:Operand→AV}{H:List A8}
theorem BH {a:Operand}{T e:TypeId}{n n1 n2:Nat}{rows:List (List PV)}(hT:Ds P T=some (e,n1,n2)) (hx:ρ a= .p (.lst rows)) (hn:rows.length=n) :
  DT P ⟨dst,.call { callee:= .builtin .len,args:=#[a],argTypes:=#[T] },ty,pos,aft,g⟩ ρ H (.p (.int .i64 n)) H:=KV hT (.inl ⟨rows,hx,hn⟩)
theorem EP {a:Operand}{T e:TypeId}{m n n1 n2 c:Nat}{o:Option Nat}(hT:Ds P T=some (e,n1,n2)) (hx:ρ a= .vs o m c) (hn:m=n) :
  DT P ⟨dst,.call { callee:= .builtin .len,args:=#[a],argTypes:=#[T] },ty,pos,aft,g⟩ ρ H (.p (.int .i64 n)) H:=KV hT (.inr (.inl ⟨o,c,by rw[hx,hn]⟩))
end
section
variable {P:Program}{dst:Option Tmp}{ty:TypeId}{pos:String}{aft:Array Edge}{g:Option (Nat×Bool)}{ρ:Operand→AV}{H:List A8}{x y:Operand}
end
section
variable {P:Program}{ops:Array Oper}{n:Nat}{τ₀:Nat→AV}{D:List DV}{Q:CV→Be→Prop}{opn:Nat→Bool}{k:Nat}{τ:Nat→AV}{H:List A8}{rd:Sj}{ef:RH}{effs:List Bool}{fx:List (Nat×Sp)}{dst:Option Tmp}{ty:TypeId}{pos:String}{aft:Array Edge}{c:Call}{f:Operand}{fid:FuncId}{first caps A:List AV}{mkv:AV→AV}{sz:Nat}{rows:List (List PV)}
end
section
variable {P:Program}{dst:Option Tmp}{ty:TypeId}{pos:String}{aft:Array Edge}{g:Option (Nat×Bool)}{ρ:Operand→AV}{H Hs Hs':List A8}{v:AV}{c:Call}{f:Operand}{fid:FuncId}{first caps A:List AV}
theorem EN (hc:c.callee= .value f) (hf:ρ f= .p (.fn fid)) (h:D3 P fid A v) (hA:Ek (c.args.toList.map ρ) A):DT P ⟨dst,.call c,ty,pos,aft,g⟩ ρ H v H:=BB hc hf (h.args hA) rfl
end
end Go.Abs
namespace Go.Eu
open Go.Abs
structure Mv where
 type:Tm
 known:Bool
 value:Tm
 cls:Bool
 deriving Inhabited
def CG (n:Int):List PV:=[I n]
def gv (s:ByteArray):List PV:=[.str s]
def nQ (b:Bool):List PV:=[.bool b]
def hG (m:Mv):List PV:=Bc m.type++(.bool m.known::(Bc m.value++[.bool m.cls]))
theorem Gb {ts:List Int}{i:Nat}{t:Int}(h:ts[i]?=some t):(ts.map CG)[i]?=some (CG t):=by simp[h]
abbrev MV (m:Mv):AV:= .agg ((hG m).map .p)
abbrev oR (l:List Mv):AV:= .p (.lst (l.map hG))
abbrev oU (l:List Int):AV:= .p (.lst (l.map CG))
def kT (sz:Nat) {α:Type}(f:α→List PV):Prop:=∀a,DC sz (f a)
theorem GI {α:Type}{sz:Nat}{f:α→List PV}(h:∀a,DC sz (f a)) (l:List α):∀r∈l.map f,DC sz r:=by
 intro r hr;obtain⟨a,_,rfl⟩:=List.mem_map.1 hr;exact h a
theorem HF (t:Tm):DC 5 (Bc t):=by
 obtain⟨k,i,n,l,s⟩:=t;refine⟨O,?_⟩;intro c hc;simp[Bc] at hc;rcases hc with rfl | rfl | rfl | rfl | rfl<;>simp
theorem Bn (l:List Tm):∀r∈Av l,DC 5 r:=by rw[Dt];exact GI HF l
theorem Fb (l:List Int):∀r∈l.map CG,DC 1 r:=GI (f:=CG) (fun a=>⟨rfl,by simp[CG]⟩) l
theorem Ib (l:List Bv):∀r∈l.map FT,DC 2 r:=GI (f:=FT) (fun a=>⟨rfl,by simp[FT]⟩) l
theorem Fi (l:List CN):∀r∈l.map B6,DC 2 r:=GI (f:=B6) (fun a=>⟨rfl,by simp[B6]⟩) l
theorem By {sz:Nat}{rows:List (List PV)}(h:∀r∈rows,DC sz r):∀r∈rows,r.length=sz:=fun r hr=>(h r hr).1
theorem Fe (a b:List Tm):Av a++Av b=Av (a++b):=by simp[Dt]
theorem HJ {α:Type}{f:α→List PV}(a b:List α):a.map f++b.map f=(a++b).map f:=by simp
theorem Hq (l:List Tm) (j:Nat) (x:Tm):(Av l).set j (Bc x)=Av (l.set j x):=by simp[Dt,List.map_set]
theorem V9 {α:Type}{f:α→List PV}(l:List α) (j:Nat) (x:α):(l.map f).set j (f x)=(l.set j x).map f:=by simp[List.map_set]
theorem Ur (n:Nat) (x:Tm):List.replicate n (Bc x)=Av (List.replicate n x):=by simp[Dt]
theorem WW {α:Type}{f:α→List PV}(n:Nat) (x:α):List.replicate n (f x)=(List.replicate n x).map f:=by simp
theorem PN (l:List Tm) (hi:Nat):((Av l).take hi).drop 0=Av (l.take hi):=by simp[Dt,List.map_take]
theorem c9 {α:Type}{f:α→List PV}(l:List α) (hi:Nat):((l.map f).take hi).drop 0=(l.take hi).map f:=by simp[List.map_take]
theorem MK (l:List Tm) (lo:Nat):((Av l).take (Av l).length).drop lo=Av (l.drop lo):=by rw[List.take_length];simp[Dt,List.map_drop]
theorem N5 {α:Type}{f:α→List PV}(l:List α) (lo:Nat):((l.map f).take (l.map f).length).drop lo=(l.drop lo).map f:=by rw[List.take_length,List.map_drop]
theorem Dh {sz:Nat}{r:List PV}(h:DC sz r):(r.map AV.p).all one=true:=by
 simp only[List.all_eq_true];intro x hx;obtain⟨c,hc,rfl⟩:=List.mem_map.1 hx;have:=h.2 c hc;cases c<;>simp_all [one]
theorem FU (t:Tm):((Bc t).map AV.p).all one=true:=Dh (HF t)
theorem EE (t:Tm):E8 (((Bc t).map AV.p).map dn)=some (Bc t):=by obtain⟨k,i,n,l,s⟩:=t;rfl
end Go.Eu
namespace Go.Eu
def On (f a:Tm):Tm:= .mk 4 0 ⟨#[]⟩ [] [f,a]
def apply (f:Tm) (xs:List Tm):Tm:=xs.foldl On f
theorem OC {f:Tm}{xs:List Tm}{i:Nat}{x:Tm}(h:xs[i]?=some x):apply f (xs.take (i+1))=On (apply f (xs.take i)) x:=by
 simp[apply,List.take_add_one,h]
def BI:Tm→Tm×List Tm
 | .mk k i n l [f,a]=>if k=4 then ((BI f).1,(BI f).2++[a]) else (.mk k i n l [f,a],[])
 | t=>(t,[])
theorem OI {k i:Int}{n:ByteArray}{l:List CN}{ts:List Tm}(h:k≠4∨((ts.length:Nat):Int)≠2):BI (.mk k i n l ts)=(.mk k i n l ts,[]):=by
 unfold BI;split
 ·rename_i k' i' n' l' f a e;injection e with e1 e2 e3 e4 e5;subst e1 e2 e3 e4 e5;simp at h;rw[if_neg h]
 rfl
theorem PH {k i:Int}{n:ByteArray}{l:List CN}{ts:List Tm}{x y:Tm}(h:k=4∧((ts.length:Nat):Int)=2) (hx:ts[0]?=some x) (hy:ts[1]?=some y):BI (.mk k i n l ts)=((BI x).1,(BI x).2++[y]):=by
 obtain⟨rfl,h2⟩:=h
 match ts,h2,hx,hy with
 | [a,b],_,hx,hy =>
  simp at hx hy;subst hx hy;simp[BI]
theorem WU {ts:List Tm}{x y:Tm}(h:((ts.length:Nat):Int)=2) (hx:ts[0]?=some x) (hy:ts[1]?=some y):ts=[x,y]:=by
 match ts,h,hx,hy with
 | [a,b],_,hx,hy =>
  simp at hx hy;subst hx hy;rfl
theorem Gs:∀(t:Tm),size (BI t).1+Bb (BI t).2+(BI t).2.length=size t
 | .mk k i n l [f,a]=>by
  unfold BI;split
  ·have:=Gs f;simp[size,Bb] at this ⊢;have e:∀(xs:List Tm) (y:Tm),Bb (xs++[y])=Bb xs+size y:=by
    intro xs y
    induction xs with
    | nil=>simp[Bb]
    | cons z zs ih=>simp[Bb,ih];omega
   rw[e];omega
  ·simp[Bb]
 | .mk k i n l []=>by simp[BI,Bb]
 | .mk k i n l [_]=>by simp[BI,Bb]
 | .mk k i n l (_::_::_::_)=>by simp[BI,Bb]
theorem L6 (t:Tm):(BI t).2.length<size t:=by
 have:=Gs t;have:=size_pos (BI t).1;omega
def Bw (k:Int) (xs:List Tm) (t:Tm):Tm:=xs.foldr (fun a t=> .mk k 0 ⟨#[]⟩ [] [a,t]) t
theorem R9 {k:Int}{xs:List Tm}{t x:Tm}{m j:Nat}(hx:xs[j]?=some x) (hm:m=j+1):Bw k (xs.drop (m - 1)) t= .mk k 0 ⟨#[]⟩ [] [x,Bw k (xs.drop m) t]:=by
 subst hm;have hlt:=(List.getElem?_eq_some_iff.1 hx).1;have e:xs[j]=x:=(List.getElem?_eq_some_iff.1 hx).2;rw[Nat.add_sub_cancel,List.drop_eq_getElem_cons hlt,e];rfl
theorem sd:(∀(p:Prop) [Decidable p],(decide p=true)=p)∧(∀{p:Prop} [Decidable p],decide p=false↔¬p)∧(∀{α:Type} [BEq α] [LawfulBEq α] {a b:α},(a==b)=true↔a=b)∧(∀{α:Type} [BEq α] [LawfulBEq α] {a b:α},(a !=b)=true↔a≠b)∧(∀{α:Type} [BEq α] [LawfulBEq α] {a b:α},(a==b)=false↔a≠b)∧(∀{α:Type} [BEq α] [LawfulBEq α] {a b:α},(a !=b)=false↔a=b)∧(∀{α:Type}(a b:α),(a≠b)=¬(a=b))∧(∀{α:Type} [LT α] {x y:α},x > y↔y<x)∧(∀{α:Type} [LE α] {x y:α},x≥y↔y≤x)∧(∀(b:Bool),(¬(b=true))=(b=false))∧(∀(b:Bool),(¬(b=false))=(b=true))∧(∀(b:Bool),((!b)=true)=(b=false))∧(∀(b:Bool),((!b)=false)=(b=true))∧(∀{a b:Int},¬a<b↔b≤a)∧(∀{a b:Int},¬a≤b↔b<a) :=
 ⟨fun _=>decide_eq_true_eq,decide_eq_false_iff_not,beq_iff_eq,bne_iff_ne,beq_eq_false_iff_ne,bne_eq_false_iff_eq,ne_eq,gt_iff_lt,ge_iff_le,Bool.not_eq_true,Bool.not_eq_false,fun b=>by cases b<;>simp,fun b=>by cases b<;>simp,Int.not_lt,Int.not_le⟩
theorem se:(∀(ts:List Tm),(Av ts).length=ts.length)∧(∀{α β:Type}{ays:List α}{f:α→β},(ays.map f).length=ays.length)∧(∀{α:Type}{n:Nat}{a:α},(List.replicate n a).length=n)∧(∀(a b:Bool),((a||b)=true)=(a=true∨b=true))∧(∀(a b:Bool),((a&&b)=true)=(a=true∧b=true))∧(∀{x y:Bool},(x||y)=false↔x=false∧y=false)∧(∀{x y:Bool},(x&&y)=false↔x=true→y=false) :=
 ⟨BD,List.length_map _,List.length_replicate,Bool.or_eq_true,Bool.and_eq_true,Bool.or_eq_false_iff,Bool.and_eq_false_imp⟩
end Go.Eu
namespace Go.Eu
open Go.Abs
def BP (i:Int):Tm:= .mk 0 i ⟨#[]⟩ [] []
def Bi:Tm:= .mk 0 0 ⟨#[]⟩ [] []
def H5 (er e:Int):Int:=if er=0 then e else er
def Lb (er i:Int):Int:=if i > 65535 then H5 er 24 else er
mutual
def Dg:Tm→Int
 | .mk _ _ _ _ ks=>IS 1 ks
def IS:Int→List Tm→Int
 | n,[]=>n
 | n,t::ts=>IS (wr (n+Dg t)) ts
end
mutual
def Dq:Tm→Int
 | .mk _ _ _ _ ks=>wr (Hh 0 ks+1)
def Hh:Int→List Tm→Int
 | n,[]=>n
 | n,t::ts=>Hh (max n (Dq t)) ts
end
mutual
def CP (b fr:Int):Int→Int→Tm→Tm×Int
 | d,er,.mk k i n l ks =>
  if k=0 then
   (if i<wr (fr+d) then (.mk k i n l ks,er)
    else if wr (i+b)<wr (fr+d) then (.mk k i n l ks,H5 er 24)
    else (BP (wr (i+b)),Lb er (wr (i+b))))
  else ((.mk k i n l (C0 b fr k d 0 er ks).1),(C0 b fr k d 0 er ks).2)
def C0 (b fr k:Int):Int→Nat→Int→List Tm→List Tm×Int
 | d,j,er,[]=>([],er)
 | d,j,er,t::ts=>((CP b fr (d+below k j) er t).1::(C0 b fr k d (j+1) (CP b fr (d+below k j) er t).2 ts).1,(C0 b fr k d (j+1) (CP b fr (d+below k j) er t).2 ts).2)
end
mutual
def CU (vs:List Tm):Int→Int→Int→Tm→Tm×Int×Int
 | d,er,nd,.mk k i n l ks =>
  if nd > 4096 then (.mk k i n l ks,er,nd)
  else if k=0∧i≥d∧i - d<(vs.length:Int) then
   ((CP d 0 0 er (vs.getD (i - d).toNat Bi)).1,(CP d 0 0 er (vs.getD (i - d).toNat Bi)).2,wr (nd+Dg (vs.getD (i - d).toNat Bi)))
  else if k=0 then
   (if i≥d then (BP (wr (i - vs.length)),Lb er (wr (i - vs.length)),wr (nd+1)) else (.mk k i n l ks,er,wr (nd+1)))
  else ((.mk k i n l (Cx vs k d 0 er (wr (nd+1)) ks).1),(Cx vs k d 0 er (wr (nd+1)) ks).2)
def Cx (vs:List Tm) (k:Int):Int→Nat→Int→Int→List Tm→List Tm×Int×Int
 | d,j,er,nd,[]=>([],er,nd)
 | d,j,er,nd,t::ts=>((CU vs (d+below k j) er nd t).1::(Cx vs k d (j+1) (CU vs (d+below k j) er nd t).2.1 (CU vs (d+below k j) er nd t).2.2 ts).1,
   (Cx vs k d (j+1) (CU vs (d+below k j) er nd t).2.1 (CU vs (d+below k j) er nd t).2.2 ts).2)
end
def Gn (t:Tm) (vs:List Tm) (d:Int):Tm×Int :=
 if (CU vs (min d 65536) 0 0 t).2.2 > 4096 then (Bi,5)
 else if (CU vs (min d 65536) 0 0 t).2.1≠0 then (Bi,(CU vs (min d 65536) 0 0 t).2.1)
 else if Dq (CU vs (min d 65536) 0 0 t).1 > 200 then (Bi,7)
 else ((CU vs (min d 65536) 0 0 t).1,0)
structure IP where
 steps:Int
 nodes:Int
 forms:Int
 limit:Int
 over:Bool
 deriving Inhabited
def nz (c:IP):List PV:=[I c.steps,I c.nodes,I c.forms,I c.limit,.bool c.over]
def IP.form (c:IP) (t:Tm) (e:Int):IP :=
 { c with forms:=wr (c.forms+Dg t),over:=c.over||(e !=0||decide (c.steps > c.limit)||decide (c.nodes > wr (2*c.limit))||decide (wr (c.forms+Dg t) > wr (40*c.limit))||decide (Dg t > 2000)||decide (Dq t > 95)) }
def IP.sized (c:IP) (t:Tm):IP:={ c with over:=c.over||(decide (Dg t > 2000)||decide (Dq t > 95)) }
def mU:IP:=⟨0,0,0,1000,false⟩
end Go.Eu
namespace Go.Eu
theorem Cm {α:Type}{l:List α}{i:Nat}{x:α}(h:l[i]?=some x):l.drop i=x::l.drop (i+1):=by
 have hlt:=(List.getElem?_eq_some_iff.1 h).1;have e:l[i]=x:=(List.getElem?_eq_some_iff.1 h).2;rw[List.drop_eq_getElem_cons hlt,e]
theorem Qt {α:Type}{l:List α}{i:Nat}{x d:α}(h:l[i]?=some x):l.getD i d=x:=by simp[List.getD,h]
end Go.Eu
namespace Go.Eu
open Go.Abs
theorem dD (n:Int):I3 (wr n):=by
 unfold I3 wr IntKind.wrap;have:IntKind.i64.min= -9223372036854775808:=rfl;have:IntKind.i64.max=9223372036854775807:=rfl;simp[IntKind.signed,IntKind.bits];omega
theorem cf (i:Int):Nd (BP (wr i)):=by
 have:=dD i;exact⟨by decide,by decide,by simp,by decide,trivial,⟨by decide,by decide⟩,this⟩
theorem Tw:Nd Bi:=⟨by decide,by decide,by simp,by decide,trivial,⟨by decide,by decide⟩,⟨by decide,by decide⟩⟩
mutual
theorem O8 (b fr:Int):∀(t:Tm) (d er:Int),Nd t→Nd (CP b fr d er t).1
 | .mk k i n l ks,d,er,h=>by
  unfold CP;split
  ·split
   ·exact h
   split
   ·exact h
   exact cf _
  simp only[Nd] at h ⊢;obtain⟨h1,h2,h3,h4,h5,h6⟩:=h;obtain⟨e1,e2⟩:=OO b fr k ks d 0 er h5;exact⟨h1,h2,h3,by rw[e1];exact h4,e2,h6⟩
theorem OO (b fr k:Int):∀(ts:List Tm) (d:Int) (j:Nat) (er:Int),D7 ts→(C0 b fr k d j er ts).1.length=ts.length∧D7 (C0 b fr k d j er ts).1
 | [],d,j,er,h=>by simp[C0,D7]
 | t::ts,d,j,er,h=>by
  simp only[C0,D7,List.length_cons] at *;have:=O8 b fr t (d+below k j) er h.1;obtain⟨e1,e2⟩:=OO b fr k ts d (j+1) (CP b fr (d+below k j) er t).2 h.2;exact⟨by rw[e1],this,e2⟩
end
theorem DM {o:Option Nat}{c:Nat}(l:List Tm) {l':List Tm}(h:l=l'):AV.vs o (Av l).length c= .vs o (Av l').length c:=by rw[h]
theorem FM {α:Type}{f:α→List PV}{o:Option Nat}{c:Nat}(l:List α) {l':List α}(h:l=l'):AV.vs o (l.map f).length c= .vs o (l'.map f).length c:=by rw[h]
theorem C5 {o:Option Nat}{sz c:Nat}(l:List Tm) {l':List Tm}(h:l=l'):J8 (.vec o sz (Av l) c) (.vec o sz (Av l') c):=oe (by rw[h])
theorem Eh {α:Type}{f:α→List PV}{o:Option Nat}{sz c:Nat}(l:List α) {l':List α}(h:l=l'):J8 (.vec o sz (l.map f) c) (.vec o sz (l'.map f) c):=oe (by rw[h])
theorem HC {o:Option Nat}{c:Nat}(l:List Tm) {l':List Tm}(h:l.length=l'.length):AV.vs o (Av l).length c= .vs o (Av l').length c:=by rw[BD,BD,h]
theorem O0 {α:Type}{f:α→List PV}{o:Option Nat}{c:Nat}(l:List α) {l':List α}(h:l.length=l'.length):AV.vs o (l.map f).length c= .vs o (l'.map f).length c:=by rw[List.length_map,List.length_map,h]
mutual
def S7:List Int→Tm→List Int
 | l,.mk k i _ _ ks=>if k=12 then (if i∈l then l else RD (l++[i]) ks) else RD l ks
def RD:List Int→List Tm→List Int
 | l,[]=>l
 | l,t::ts=>RD (S7 l t) ts
end
def oN (l:List Int) (n:Int):Bool:=decide (n∈l)
def FL (fr:Int):Nat→Nat→List Tm
 | _,0=>[]
 | m,k+1=>BP (fr+(m+k:Nat))::FL fr m k
theorem KF (fr:Int) (m:Nat):∀k,FL fr (m+1) k++[BP (fr+m)]=FL fr m (k+1)
 | 0=>by simp[FL]
 | k+1=>by
  have:=KF fr m k;rw[FL,List.cons_append,this]
  conv=>rhs;rw[FL]
  rw[show m+1+k=m+(k+1) by omega]
theorem Pf (fr:Int) (m:Nat):∀k,(FL fr m k).length=k
 | 0=>rfl
 | k+1=>by simp[FL,Pf fr m k]
def PF (n fr:Int):List Tm:=if n<1∨n > 4096∨fr<0 then [] else FL fr 0 n.toNat
def fW:List Int→List Tm→Option (List Int)
 | l,[]=>some l
 | l,.mk k i _ _ _::ts=>if k≠0∨i∈l then none else fW (l++[i]) ts
def nJ (t:Tm):Int×List Int×Bool :=
 if (BI t).1.kind≠12 then (0,[],false)
 else match fW [] (BI t).2 with
  | none=>(0,[],false)
  | some l=>((BI t).1.index,l,true)
def ny (ms:List Mv) (ctx:List Tm) (t:Tm) (cls:Bool):List Mv×Tm×Int :=
 if ms.length≥2000 then ([],Bi,6)
 else if Dg (Bw 6 ctx t) > 4096 then ([],Bi,5)
 else if Dq (Bw 6 ctx t) > 200 then ([],Bi,7)
 else (ms++[⟨Bw 6 ctx t,false,Bi,cls⟩],apply (.mk 12 ms.length ⟨#[]⟩ [] []) (PF ctx.length 0),0)
end Go.Eu
namespace Go.Eu
end Go.Eu
namespace Go.Eu
open Go.Abs
theorem Lm {k:Int}{ctx:List Tm}{t:Tm}(h:D7 ctx) (ht:Nd t) (hk:I3 k:=by exact⟨by decide,by decide⟩):Nd (Bw k ctx t):=by
 induction ctx with
 | nil=>exact ht
 | cons a ctx ih =>
  exact⟨by decide,by decide,by simp,by simp[Cb],⟨h.1,ih h.2,trivial⟩,hk,⟨by decide,by decide⟩⟩
theorem GA {n:Int}(h:I3 n):wr n=n:=QV (k:= .i64) h.1 h.2
mutual
theorem O5 (B:Int) (hB:B≤4611686018427387904):∀(t:Tm),(size t:Int)<B→Dg t=size t
 | .mk k i n l ks,h=>by
  have h':(1:Int)+Bb ks<B:=by rw[size] at h;omega
  show IS 1 ks=_;rw[M8 B hB ks 1 An h',size];omega
theorem M8 (B:Int) (hB:B≤4611686018427387904):∀(ts:List Tm) (n:Int),0≤n→n+Bb ts<B→IS n ts=n+Bb ts
 | [],n,_,_=>by simp[IS,Bb]
 | t::ts,n,h0,h=>by
  simp only[Bb,IS] at *;rw[O5 B hB t (by have:=size_pos t;omega),GA ⟨by omega,by omega⟩,M8 B hB ts (n+size t) An An];omega
end
theorem Nz {t:Tm}(h:(size t:Int)<4611686018427387904):Dg t=size t:=O5 _ (Int.le_refl _) t h
mutual
def Wt:Tm→Prop
 | .mk k i _ _ ks=>(ks.length:Int)=arity k∧(k=12→0≤i)∧SQ ks
def SQ:List Tm→Prop
 | []=>True
 | t::ts=>Wt t∧SQ ts
end
theorem Qo:∀{ts:List Tm}{i:Nat}{t:Tm},SQ ts→ts[i]?=some t→Wt t
 | [],i,t,_,h=>by simp at h
 | a::ts,0,t,hn,h=>by simp at h;subst h;exact hn.1
 | a::ts,i+1,t,hn,h=>by simp at h;exact Qo hn.2 h
theorem FZ:∀{a b:List Tm},D7 (a++b)↔D7 a∧D7 b
 | [],b=>by simp[D7]
 | x::a,b=>by simp only[List.cons_append,D7,FZ (a:=a),and_assoc]
theorem Ks (a b:List Tm):Bb (a++b)=Bb a+Bb b:=by
 induction a with
 | nil=>simp[Bb]
 | cons x a ih=>simp[Bb,ih];omega
mutual
theorem bF {vars metas:Int}:∀(t:Tm) (d:Int),wf vars metas d t→Wt t
 | .mk k i n l ks,d,h=>by
  simp only[wf,Wt] at *;exact⟨h.2.2.1,fun e=>(h.2.2.2.2.1 e).1,WQ ks k d 0 h.2.2.2.2.2⟩
theorem WQ {vars metas:Int}:∀(ts:List Tm) (k d:Int) (j:Nat),RG vars metas k d j ts→SQ ts
 | [],k,d,j,h=>trivial
 | t::ts,k,d,j,h=>by
  simp only[RG,SQ] at *;exact⟨bF t _ h.1,WQ ts k d (j+1) h.2⟩
end
theorem Kp:∀(t:Tm),Nd t→Nd (BI t).1∧D7 (BI t).2
 | .mk k i n l [f,a],h=>by
  unfold BI;split
  ·have h':=h;simp only[Nd,D7] at h';obtain⟨e1,e2⟩:=Kp f h'.2.2.2.2.1.1;exact⟨e1,FZ.2 ⟨e2,h'.2.2.2.2.1.2.1,Ap⟩⟩
  ·exact⟨h,Ap⟩
 | .mk k i n l [],h=>by simp only[BI];exact⟨h,trivial⟩
 | .mk k i n l [_],h=>by simp only[BI];exact⟨h,trivial⟩
 | .mk k i n l (_::_::_::_),h=>by simp only[BI];exact⟨h,trivial⟩
theorem ET {xs:List Tm}:∀{f:Tm},Nd f→D7 xs→Nd (apply f xs):=by
 induction xs with
 | nil=>intro f h _;exact h
 | cons x xs ih =>
  intro f h hx;exact ih (f:=On f x) ⟨by decide,by decide,by simp,by simp[Cb],⟨h,hx.1,trivial⟩,⟨by decide,by decide⟩,⟨by decide,by decide⟩⟩ hx.2
mutual
theorem JL (b fr:Int):∀(t:Tm) (d er:Int),t.kind=0∧t.kids=[]∨Wt t→size (CP b fr d er t).1=size t
 | .mk k i n l ks,d,er,h=>by
  unfold CP;split
  ·rename_i hk;split
   ·rfl
   split
   ·rfl
   have:ks=[]:=by
    rcases h with h | h
    ·exact h.2
    have:=h.1;subst hk;simp[arity] at this;exact this
   subst this;simp[BP,size,Bb]
  rename_i hk;have hw:SQ ks:=by
   rcases h with h | h
   ·exact absurd h.1 hk
   exact h.2.2
  simp only[size];rw[K0 b fr k ks d 0 er hw]
theorem K0 (b fr k:Int):∀(ts:List Tm) (d:Int) (j:Nat) (er:Int),SQ ts→Bb (C0 b fr k d j er ts).1=Bb ts
 | [],d,j,er,h=>by simp[C0]
 | t::ts,d,j,er,h=>by
  simp only[C0,Bb];rw[JL b fr t _ _ (.inr h.1),K0 b fr k ts _ _ _ h.2]
end
mutual
theorem JT (V:Int) (hV:1≤V) (hV2:V≤2305843009213693952):∀(t:Tm) (vs:List Tm) (d er nd:Int),Wt t→SQ vs→(∀x∈vs,(size x:Int)≤V)→0≤nd→nd≤4096+V →
  nd≤(CU vs d er nd t).2.2∧(CU vs d er nd t).2.2≤4096+V∧((CU vs d er nd t).2.2≤4096→(size (CU vs d er nd t).1:Int)=(CU vs d er nd t).2.2 - nd)
 | .mk k i n l ks,vs,d,er,nd,h,hv,hs,h0,h1=>by
  have hk0:k=0→ks=[]:=by
   intro e;have:=h.1;subst e;simp[arity] at this;exact this
  unfold CU;split
  ·exact⟨by simp,h1,by simp;omega⟩
  split
  ·rename_i hc;have hlt:(i - d).toNat<vs.length:=by omega
   obtain⟨x,hx⟩:=A9 hlt;have hxs:=hs x (List.mem_of_getElem? hx);rw[Qt hx,JL _ _ _ _ _ (.inr (Qo hv hx)),Nz An,GA ⟨by omega,by omega⟩];simp only;exact⟨by omega,by omega,by omega⟩
  split
  ·rename_i hk;have hk:=hk0 hk;subst hk;split
   ·simp only[BP,size,Bb];rw[GA ⟨by omega,by omega⟩];exact⟨by omega,by omega,by omega⟩
   simp only[size,Bb];rw[GA ⟨by omega,by omega⟩];exact⟨by omega,by omega,by omega⟩
  rw[GA (n:=nd+1) ⟨by omega,by omega⟩];obtain⟨e1,e2,e3⟩:=IZ V hV hV2 ks vs k d 0 er (nd+1) h.2.2 hv hs An An;simp only[size];exact⟨by omega,e2,fun q=>by have:=e3 q;omega⟩
theorem IZ (V:Int) (hV:1≤V) (hV2:V≤2305843009213693952):∀(ts:List Tm) (vs:List Tm) (k d:Int) (j:Nat) (er nd:Int),SQ ts→SQ vs→(∀x∈vs,(size x:Int)≤V)→0≤nd→nd≤4096+V →
  nd≤(Cx vs k d j er nd ts).2.2∧(Cx vs k d j er nd ts).2.2≤4096+V∧((Cx vs k d j er nd ts).2.2≤4096→(Bb (Cx vs k d j er nd ts).1:Int)=(Cx vs k d j er nd ts).2.2 - nd)
 | [],vs,k,d,j,er,nd,h,hv,hs,h0,h1=>by simp only[Cx,Bb];exact⟨by omega,h1,by omega⟩
 | t::ts,vs,k,d,j,er,nd,h,hv,hs,h0,h1=>by
  obtain⟨e1,e2,e3⟩:=JT V hV hV2 t vs (d+below k j) er nd h.1 hv hs h0 h1;obtain⟨f1,f2,f3⟩:=IZ V hV hV2 ts vs k d (j+1) (CU vs (d+below k j) er nd t).2.1 (CU vs (d+below k j) er nd t).2.2 h.2 hv hs An e2;simp only[Cx,Bb];exact⟨by omega,f2,fun q=>by have:=f3 q;have:=e3 An;omega⟩
end
def known (ms:List Mv) (t:Tm):Bool :=
 match t with
 | .mk k i _ _ _=>k==12&&(decide (i<ms.length)&&(match ms[i.toNat]? with | some m=>m.known | none=>false))
def valueOf (ms:List Mv) (i:Int):Tm:=match ms[i.toNat]? with | some m=>m.value | none=>Bi
def MA (F:IP→Tm→Tm×Int×IP):IP→List Tm→List Tm×Int×IP
 | c,[]=>([],0,c)
 | c,t::ts=>if (F c t).2.1≠0 then ([],(F c t).2.1,(F c t).2.2)
  else if (MA F (F c t).2.2 ts).2.1≠0 then ([],(MA F (F c t).2.2 ts).2.1,(MA F (F c t).2.2 ts).2.2)
  else ((F c t).1::(MA F (F c t).2.2 ts).1,0,(MA F (F c t).2.2 ts).2.2)
def mH (l:List Tm) (q:List Tm×Int×IP):List Tm×Int×IP:=if q.2.1≠0 then ([],q.2.1,q.2.2) else (l++q.1,0,q.2.2)
def bE:IP→Tm→List Tm→IP×Tm×List Tm
 | c,v,[]=>(c,v,[])
 | c,v,a::l=>if v.kind=5∧c.over=false then bE (c.form (Gn (v.kids.getD 1 Bi) [a] 0).1 (Gn (v.kids.getD 1 Bi) [a] 0).2) (Gn (v.kids.getD 1 Bi) [a] 0).1 l else (c,v,a::l)
def JZ:Tm→List Tm→Tm
 | .mk k i n l _,ks=> .mk k i n l ks
def JY (ms:List Mv):Nat→List Int→IP→Tm→Tm×Int×IP
 | 0,ab,c,t=>(Bi,11,c)
 | n+1,ab,c,t =>
  if c.over=true then (Bi,11,c)
  else if known ms (BI t).1=false then
   (let q:=MA (JY ms n ab) c (BI t).1.kids
    if q.2.1≠0 then (Bi,q.2.1,q.2.2)
    else
     (let r:=MA (JY ms n ab) q.2.2 (BI t).2
      if r.2.1≠0 then (Bi,r.2.1,r.2.2)
      else (apply (JZ (BI t).1 q.1) r.1,0,r.2.2.sized (apply (JZ (BI t).1 q.1) r.1))))
  else if (BI t).1.index∈ab then (Bi,22,c)
  else
   (let v:=JY ms n (ab++[(BI t).1.index]) c (valueOf ms (BI t).1.index)
    if v.2.1≠0 then (Bi,v.2.1,v.2.2)
    else
     (let r:=MA (JY ms n ab) (v.2.2.form v.1 0) (BI t).2
      if r.2.1≠0 then (Bi,r.2.1,r.2.2)
      else
       (let b:=bE r.2.2 v.1 r.1
        (apply b.2.1 b.2.2,0,b.1.form (apply b.2.1 b.2.2) 0))))
def free (ms:List Mv) (ab:List Int):Nat:=((List.range ms.length).filter fun i:Nat=> !decide ((i:Int)∈ab)).length
def Mb (S:Nat):Nat→Nat
 | 0=>0
 | k+1=>S*(Mb S k+2)+4096+Mb S k
def m6 (S:Nat) (ms:List Mv):Prop:=∀m∈ms,Nd m.value∧Wt m.value∧size m.value≤S
structure mJ (M:Nat) (s:Nat) (r:Tm):Prop where
 nd:Nd r
 wt:Wt r
 size:size r≤s*M
theorem OW (l:List Tm) (k:Nat):Bb (l.drop k)≤Bb l:=by
 induction l generalizing k with
 | nil=>simp
 | cons a l ih =>
  cases k with
  | zero=>simp
  | succ k=>simp only[List.drop_succ_cons,Bb];have:=ih k;omega
theorem HX {l:List Tm}(h:D7 l) (k:Nat):D7 (l.drop k):=by
 induction l generalizing k with
 | nil=>simp[D7]
 | cons a l ih =>
  cases k with
  | zero=>exact h
  | succ k=>exact ih h.2 k
theorem TT {α:Type}{l:List α}{x:α}(h:x∈l):∃i:Nat,l[i]?=some x:=by
 obtain⟨i,hi,he⟩:=List.mem_iff_getElem.1 h;exact⟨i,by rw[List.getElem?_eq_getElem hi,he]⟩
section
variable {ms:List Mv}{n:Nat}{ab:List Int}{c:IP}{t:Tm}{zk zi:Int}{zn:ByteArray}{zl:List CN}{zs:List Tm}
end
end Go.Eu
namespace Go.Eu
theorem ID {l:List Tm}(h:D7 l) (k:Nat):D7 (l.take k):=by
 induction l generalizing k with
 | nil=>simp[D7]
 | cons a l ih =>
  cases k with
  | zero=>trivial
  | succ k=>exact⟨h.1,ih h.2 k⟩
theorem U2 {l:List Tm}{x:Tm}(h:x∈l):size x≤Bb l:=by
 obtain⟨i,hi⟩:=TT h;exact B5 hi
def V2 (ms:List Mv) (n:Nat) (c:IP) (t:Tm):Tm×Int×IP :=
 ((JY ms n [] c t).1,(JY ms n [] c t).2.1,if (JY ms n [] c t).2.1=0 then (JY ms n [] c t).2.2.form (JY ms n [] c t).1 0 else (JY ms n [] c t).2.2)
def m0 (ms:List Mv) (n:Nat) (c:IP) (t:Tm):List Int×Int :=
 if (V2 ms n c t).2.1=0 then (S7 [] (V2 ms n c t).1,0) else ([],(V2 ms n c t).2.1)
end Go.Eu
namespace Go.Abs
section
variable {P:Program}{r:Option Nat}{ops:Array Oper}{Q:CV→Be→Prop}{k:Nat}{n:Nat}{τ:Nat→AV}{T:List A8}{D:List DV}{dst:Option Tmp}{op:Op}{ty:TypeId}{pos:String}{aft:Array Edge}{v:AV}{c:Call}{f:Operand}{fid:FuncId}{first caps A:List AV}{R:DN→List A8→Prop}
theorem JP {H H':List A8}(hp:H.Perm H') (h:AL P r ops k ⟨n,τ,H',D⟩ Q):AL P r ops k ⟨n,τ,H,D⟩ Q:=B7 (P5 (S:=⟨n,τ,H,D⟩) hp) h
theorem P7 (fr:List A8) {l:Nat}(ho:ops[k]?=some ⟨dst,.call c,ty,pos,aft,none⟩) (hd:Fp dst n=true)
  (hc:c.callee= .value f) (hf:ev τ f= .fn (.yield l) [] []) (h:JK P l A T R) (hA:c.args.toList.map (ev τ)=A)
  (next:∀v T',R (.val v) T'→AL P r ops (k+1) ⟨n,put τ dst v,fr++T',D⟩ Q) (pan:∀v T',R (.panic v) T'→Q (.panic v) ⟨n,τ,T'++fr,D⟩):AL P r ops k ⟨n,τ,fr++T,D⟩ Q :=
 FK (S:=⟨n,τ,fr++T,D⟩) ho Ag (HK hd) (U1 hc hf List.perm_append_comm h hA) (fun v H' ⟨Hs',h1,h2⟩=>by subst h2;exact JP List.perm_append_comm (next v Hs' h1)) (fun v H' ⟨Hs',h1,h2⟩=>by subst h2;exact pan v Hs' h1)
theorem Eo (fr:List A8) (ho:ops[k]?=some ⟨dst,.call c,ty,pos,aft,none⟩) (hd:Fp dst n=true)
  (hc:c.callee= .value f) (hf:(ev τ f= .p (.fn fid)∧first=[]∧caps=[])∨ev τ f= .fn (.func fid) first caps) (h:Br P fid A T R) (hA:Ek (first++c.args.toList.map (ev τ)++caps) A)
  (next:∀v T',R (.val v) T'→AL P r ops (k+1) ⟨n,put τ dst v,fr++T',D⟩ Q) (pan:∀v T',R (.panic v) T'→Q (.panic v) ⟨n,τ,T'++fr,D⟩):AL P r ops k ⟨n,τ,fr++T,D⟩ Q :=
 Kd ho hd hc hf List.perm_append_comm (h.args hA) (.inl rfl) (fun v H' h1=>JP List.perm_append_comm (next v H' h1)) pan
end
theorem ES.append:∀{l l':List A8}{T:List A8},ES l l'→ES (l++T) (l'++T)
 | [],l',T,h=>by simp only[ES] at h;subst h;exact ES.refl T
 | o::l,l',T,h=>by
  obtain⟨o',r',rfl,h1,h2⟩:=h;exact⟨o',r'++T,O,h1,ES.append h2⟩
theorem YT (is:List Nat) (l:List A8) {l1 l' T:List A8}(h:MJ is 0 l=l1) (w:ES l1 l'):az (l++T) (l'++T):=⟨l1++T,(Dn h).append_right T,w.append⟩
theorem Fu (is:List Nat) (l:List A8) {l1 T:List A8}(h:MJ is 0 l=l1):(l1++T).Sublist (l++T):=(Dn h).append_right T
def nA (b:Bool) (H':List A8):DN→List A8→Prop
 | .val v,H''=>v= .p (.bool b)∧H''=H'
 | .panic _,_=>False
theorem Ga {n:Nat}{τ:Nat→AV}{H:List A8}{D:List DV}{t:Nat}{x:AV}(h:τ t=x):Gv ⟨n,τ,H,D⟩ ⟨n,put τ (some t) x,H,D⟩:=N8 fun _ _ _ hr=>h▸hr
section
variable {P:Program}{dst:Option Tmp}{ty:TypeId}{pos:String}{aft:Array Edge}{g:Option (Nat×Bool)}{ρ:Operand→AV}{H:List A8}{x y:Operand}
theorem Tl {e:TypeId}{bl:Bool}{sz:Nat}(ht:DY P e=some (bl,sz)):∃inf,P.info? e=some inf∧inf.size=sz:=by
 obtain⟨d,_,_,h⟩:=EX ht;cases hi:P.info? e with
 | none=>simp[hi] at h
 | some inf=>simp[hi] at h;exact⟨inf,rfl,h⟩
theorem Nj {T e:TypeId}{bl:Bool}{len sz b o:Nat}{k:IntKind}{i:Int}(hu:P.underlying T=some (.array len e)) (ht:DY P e=some (bl,sz)) (hx:ρ x= .ptr b o) (hy:ρ y= .p (.int k i)) (h0:0≤i) (hn:i<len) :
  DT P ⟨dst,.indexAddr T x y,ty,pos,aft,g⟩ ρ H (.ptr b (o+i.toNat*sz)) H:=by
 obtain⟨inf,h1,h2⟩:=Tl ht;exact Oa hu h1 h2 hx hy h0 hn
theorem NM {T e:TypeId}{bl:Bool}{len sz:Nat}{parts:Array (Nat×Operand)}{z:Value}{cs:List AV}(hu:P.underlying T=some (.array len e)) (ht:DY P e=some (bl,sz)) (hz:zeroOf P T=some z)
  (hc:Ff (fun i=>some (i*sz,sz)) (z.cells.toList.map EH) (parts.toList.map fun p=>(p.1,ρ p.2))=some cs):DT P ⟨dst,.build T parts,ty,pos,aft,g⟩ ρ H (.agg cs) H:=by
 obtain⟨inf,h1,h2⟩:=Tl ht;subst h2;exact Oi hu h1 hz hc
end
theorem M3 {P:Program}{g:Operand}{ps:Array Tmp}{assign body:Code}{S:Be}{Q:CV→Be→Prop}{fid:FuncId}{first caps:List AV}
  (hg:(ev S.τ g= .p (.fn fid)∧first=[]∧caps=[])∨ev S.τ g= .fn (.func fid) first caps)
  (h:∀d l (L:OD),L=⟨.ready,none,S.n,S.τ,ps,assign,body⟩→∃Hs Hf,(A8.loop l L:: .dfr d::S.H).Perm (Hs++Hf) ∧
   Br P fid (first++[.fn (.yield l) [] []]++caps) Hs (fun r H'=>YH P l d S Q r (H'++Hf))) :
  Gj P none (.rangeFunc g ps assign body) S Q:=Vd hg fun d l=>h d l _ rfl
def nF (H':List A8):DN→List A8→Prop
 | .val v,H''=>v= .tup []∧H''=H'
 | .panic _,_=>False
def Se (v:AV) (C:List A8→Prop):DN→List A8→Prop
 | .val v',H'=>v'=v∧C H'
 | .panic _,_=>False
section
variable {P:Program}{n:Nat}{τ:Nat→AV}{H:List A8}{D:List DV}
theorem Mx {b:Nat}{cs cs':List AV}(h:Ek cs cs'):J8 (.box b cs) (.box b cs'):=⟨rfl,fun F w hr=>by
 obtain⟨vs,T,h1,h2⟩:=hr;exact⟨vs,T,h1,Jj h h2⟩⟩
theorem Ew {i:Nat}{o o':A8}(hi:H[i]?=some o) (hw:J8 o o'):Gv ⟨n,τ,H,D⟩ ⟨n,τ,H.set i o',D⟩:=by
 intro F a w hs;refine⟨F,⟨hs.size,hs.tmp,?_,hs.defs⟩,?_⟩
 ·have hk:=Ee (x':=o') hi hw.1;refine⟨fun x hx c hc=>?_,by show List.Nodup _;rw[hk];exact hs.heap.nodup,fun x hx=>?_,hs.heap.bd⟩
  ·rcases C3 hx with rfl | ⟨j,_,hj⟩
   ·exact hs.heap.sub _ (List.mem_of_getElem? hi) c (by rw[←hw.1];exact hc)
   exact hs.heap.sub _ (List.mem_of_getElem? hj) c hc
  rcases C3 hx with rfl | ⟨j,_,hj⟩
  ·exact hw.2 F w (hs.heap.obj _ (List.mem_of_getElem? hi))
  exact hs.heap.obj _ (List.mem_of_getElem? hj)
 refine { Trans.refl (F:=F) (H:=H) (w:=w) with keys:=fun x hx c hc=>?_ };rcases C3 hx with rfl | ⟨j,_,hj⟩
 ·exact .inl ⟨_,List.mem_of_getElem? hi,by rw[←hw.1];exact hc⟩
 exact .inl ⟨_,List.mem_of_getElem? hj,hc⟩
end
section
variable {P:Program}{dst:Option Tmp}{ty:TypeId}{pos:String}{aft:Array Edge}{g:Option (Nat×Bool)}{ρ:Operand→AV}{H:List A8}{x y:Operand}
end
section
variable {P:Program}{dst:Option Tmp}{ty:TypeId}{pos:String}{aft:Array Edge}{g:Option (Nat×Bool)}{ρ:Operand→AV}{H:List A8}{x y:Operand}
theorem Gk {T e:TypeId}{sz bytes:Nat}(hT:Ds P T=some (e,sz,bytes)) :
  Cc P ⟨dst,.buildSlice T 0 #[],ty,pos,aft,g⟩ ρ H (Gp sz [] H) :=
 FI fun F w E hH hE=>by
  obtain⟨hu,i,hi,hs,hby⟩:=DP hT;obtain⟨v,H',F',h1,h2,h3,h4⟩:=H8 (F:=F) (w:=w) (sz:=sz) (c:=0) (rows:=[]) (vs:=[]) (T:=e) (H:=H) hH Ao (by simp[Bl]) Ao Ao;refine⟨_,_,v,H',F',?_,h1,h2,h3,h4⟩;have hszr:(sizeOf e).run P w= .ok sz w:=by simp[sizeOf,typeInfo,hi,hs]
  simp only[execOp,Instr.buildSlice,Sem.run_bind,run_underlying hu,Result.andThen_ok,hszr];rw[if_neg An];simp only[Sem.run_pure,Result.andThen_ok,Sem.run_bind,pure_bind,Nat.zero_mul,if_true];have e0:(Array.map (fun x=>(#[]:Array Value)[x % (#[]:Array Value).size]!) (Array.range 0))=(⟨[]⟩:Array Value):=by simp
  rw[e0];simp only[Array.map_empty,Instr.fill,newRow,newObj,Sem.run_bind,Sem.run,Result.andThen,Sem.run_pure];rfl
end
section
variable {P:Program}{dst:Option Tmp}{ty:TypeId}{pos:String}{aft:Array Edge}{g:Option (Nat×Bool)}{ρ:Operand→AV}{H:List A8}{x y:Operand}
end
section
variable {P:Program}{r:Option Nat}{ops:Array Oper}{Q:CV→Be→Prop}{k:Nat}{n:Nat}{τ:Nat→AV}{H:List A8}{D:List DV}{dst:Option Tmp}{ty:TypeId}{pos:String}{aft:Array Edge}{v:AV}{c:Call}{f:Operand}{fid:FuncId}{first caps A:List AV}
theorem RS (ho:ops[k]?=some ⟨dst,.call c,ty,pos,aft,none⟩) (hd:Fp dst n=true) (hc:c.callee= .value f) (hf:(ev τ f= .p (.fn fid)∧first=[]∧caps=[])∨ev τ f= .fn (.func fid) first caps) (h:Br P fid A [] (Qa v [])) (hA:Ek (first++c.args.toList.map (ev τ)++caps) A) (pan:Q (.panic v) ⟨n,τ,H,D⟩):AL P r ops k ⟨n,τ,H,D⟩ Q :=
 Kd ho hd hc hf (Hs:=[]) (Hf:=H) Ao (h.args hA) (.inl rfl) (fun _ _ h=>h.elim) (fun v' H' ⟨h1,h2⟩=>by subst h1;subst h2;exact pan)
end
end Go.Abs
namespace Go.Eu
open Go.Abs
def Hl (k:Int):Int:=if k=5∨k=6∨k=7 then 1 else if k=11 then 2 else -1
theorem SI {k:Int}{i:Int}(h:i=Hl k) (hi:0≤i):below k i=1:=by
 unfold Hl at h;unfold below;split at h
 ·rename_i hk;subst h;rcases hk with rfl | rfl | rfl<;>simp
 split at h
 ·rename_i hk;subst h;subst hk;simp
 omega
theorem O6 {k:Int}{i:Int}(h:i≠Hl k):below k i=0:=by
 unfold Hl at h;unfold below;rw[if_neg];simp only[Bool.or_eq_true,Bool.and_eq_true,beq_iff_eq];intro hc;apply h;rcases hc with ⟨h1,h2⟩ | ⟨h1,h2⟩
 ·rw[if_pos (by rcases h2 with (h | h) | h<;>simp[h]),h1]
 rw[if_neg An,if_pos h2,h1]
theorem Rf {k:Int}(h:¬(0≤k∧k<13)):Hl k= -1:=by
 unfold Hl;rw[if_neg An,if_neg An]
section
variable {σ:Type}
mutual
def Dd (st:σ→Int→Tm→σ×Bool):Tm→Int→σ→σ×Bool
 | .mk k i n l ks,d,s=>if (st s d (.mk k i n l ks)).2=false then ((st s d (.mk k i n l ks)).1,false) else De st k d 0 (st s d (.mk k i n l ks)).1 ks
def De (st:σ→Int→Tm→σ×Bool) (k d:Int):Nat→σ→List Tm→σ×Bool
 | _,s,[]=>(s,true)
 | j,s,t::ts=>if (Dd st t (d+below k j) s).2=false then ((Dd st t (d+below k j) s).1,false) else De st k d (j+1) (Dd st t (d+below k j) s).1 ts
end
end
def Lu (ix nm:Bool) (lv ks bl:Int):List AV:=[.p (.bool ix),.p (.bool nm),.p (I lv),.p (I ks),.p (I bl)]
def Lr:List AV:=[Lu true false 0 0 (-1),Lu false false 0 0 (-1),Lu false false 1 0 (-1),Lu false true (-1) 0 (-1),Lu false false 0 2 (-1),Lu false false 0 2 1,Lu false false 0 2 1,Lu false false 0 2 1,Lu false false 0 3 (-1),Lu false false 0 1 (-1),Lu false false 0 1 (-1),Lu false false 0 3 2,Lu true false 0 0 (-1)].flatten
theorem Xv {k:Int}(h:0≤k∧k<13):Lr[0+k.toNat*5+4]?=some (.p (I (Hl k))):=by
 have:k=0∨k=1∨k=2∨k=3∨k=4∨k=5∨k=6∨k=7∨k=8∨k=9∨k=10∨k=11∨k=12:=by omega
 rcases this with rfl | rfl | rfl | rfl | rfl | rfl | rfl | rfl | rfl | rfl | rfl | rfl | rfl<;>rfl
section
variable {σ:Type}{st:σ→Int→Tm→σ×Bool}{Inv:Nat→σ→Prop}
theorem R1 {t:Tm}{d:Int}{s:σ}(h:(st s d t).2=false):Dd st t d s=((st s d t).1,false):=by
 obtain⟨k,i,n,l,ks⟩:=t;rw[Dd,if_pos h]
theorem GD {k i:Int}{n:ByteArray}{l:List CN}{ks:List Tm}{d:Int}{s:σ}(h:(st s d (.mk k i n l ks)).2=true):Dd st (.mk k i n l ks) d s=De st k d 0 (st s d (.mk k i n l ks)).1 ks:=by
 rw[Dd,if_neg (by simp[h])]
theorem G5 {k d:Int}{ts:List Tm}{i:Nat}{x:Tm}{s:σ}(hx:ts[i]?=some x) (h:(Dd st x (d+below k i) s).2=false):De st k d i s (ts.drop i)=((Dd st x (d+below k i) s).1,false):=by
 rw[Cm hx,De,if_pos h]
theorem IQ {k d:Int}{ts:List Tm}{i:Nat}{x:Tm}{s:σ}(hx:ts[i]?=some x) (h:(Dd st x (d+below k i) s).2=true):De st k d i s (ts.drop i)=De st k d (i+1) (Dd st x (d+below k i) s).1 (ts.drop (i+1)):=by
 rw[Cm hx,De,if_neg (by simp[h])]
mutual
theorem HO (hI:∀m s d t,Inv (m+1) s→Inv m (st s d t).1):∀(t:Tm) (d:Int) (s:σ) (m:Nat),Inv (m+size t) s→(Dd st t d s).2=true→Inv m (Dd st t d s).1
 | .mk k i n l ks,d,s,m,h,hv=>by
  rw[size,show m+(1+Bb ks)=(m+Bb ks)+1 by omega] at h;have h1:=hI _ _ d (.mk k i n l ks) h;rw[Dd] at hv ⊢;split at hv
  ·cases hv
  rename_i hc;rw[if_neg hc];exact MO hI ks k d 0 _ m h1 hv
theorem MO (hI:∀m s d t,Inv (m+1) s→Inv m (st s d t).1):∀(ts:List Tm) (k d:Int) (j:Nat) (s:σ) (m:Nat),Inv (m+Bb ts) s→(De st k d j s ts).2=true→Inv m (De st k d j s ts).1
 | [],k,d,j,s,m,h,hv=>by simpa [De,Bb] using h
 | t::ts,k,d,j,s,m,h,hv=>by
  rw[Bb,show m+(size t+Bb ts)=(m+Bb ts)+size t by omega] at h;rw[De] at hv ⊢;split at hv
  ·cases hv
  rename_i hc;rw[if_neg hc];have:=HO hI t (d+below k j) s _ h (by simpa using hc);exact MO hI ts k d (j+1) _ m this hv
end
end
def Tb (s:Int) (d:Int) (t:Tm):Int×Bool:=(wr (s+1),true)
mutual
theorem SC (B:Int) (hB:B≤4611686018427387904):∀(t:Tm) (d s:Int),0≤s→s+size t<B→Dd Tb t d s=(s+size t,true)
 | .mk k i n l ks,d,s,h0,h=>by
  rw[size] at h ⊢;rw[GD rfl];simp only[Tb];rw[GA ⟨by omega,by omega⟩,Pb B hB ks k d 0 (s+1) An An];congr 1;omega
theorem Pb (B:Int) (hB:B≤4611686018427387904):∀(ts:List Tm) (k d:Int) (j:Nat) (s:Int),0≤s→s+Bb ts<B→De Tb k d j s ts=(s+Bb ts,true)
 | [],k,d,j,s,h0,h=>by simp[De,Bb]
 | t::ts,k,d,j,s,h0,h=>by
  rw[Bb] at h ⊢;rw[De,SC B hB t _ s h0 An];simp only;rw[if_neg Ao,Pb B hB ts k d (j+1) (s+size t) An An];congr 1;omega
end
def nN (s:List Int) (d:Int):Tm→List Int×Bool
 | .mk k i _ _ _=>(if k=12∧i ∉ s then s++[i] else s,true)
def od (s:List Int):List (Int×AV):=s.map fun i=>(i,.p (.bool true))
def Sh (xs ys:List Tm) (i:Nat):Prop:=ys.length=xs.length∧∀k,k<xs.length→ys[k]?=if k<i∨xs.length - 1 - k<i then xs[xs.length - 1 - k]? else xs[k]?
theorem Sx (xs:List Tm):Sh xs xs 0:=⟨rfl,fun k hk=>by rw[if_neg An]⟩
theorem S0 {xs ys:List Tm}{i:Nat}{a b:Tm}(h:Sh xs ys i) (hi:i<xs.length - 1 - i) (ha:ys[i]?=some a) (hb:ys[xs.length - 1 - i]?=some b):Sh xs ((ys.set i b).set (xs.length - 1 - i) a) (i+1):=by
 obtain⟨hl,h⟩:=h;refine⟨by simp[hl],fun k hk=>?_⟩;have e1:=h i An;rw[if_neg An,ha] at e1;have e2:=h (xs.length - 1 - i) An;rw[if_neg An,hb] at e2;by_cases k1:k=xs.length - 1 - i
 ·subst k1;rw[if_pos An,List.getElem?_set_self Ah,e1];congr 1;omega
 rw[List.getElem?_set_ne (fun e=>k1 e.symm)];by_cases k2:k=i
 ·subst k2;rw[if_pos An,List.getElem?_set_self An,e2]
 rw[List.getElem?_set_ne (fun e=>k2 e.symm),h k hk];by_cases k3:k<i∨xs.length - 1 - k<i
 ·rw[if_pos k3,if_pos An]
 rw[if_neg k3,if_neg An]
theorem TF {xs ys:List Tm}{i:Nat}(h:Sh xs ys i) (hi:xs.length - 1 - i≤i):ys=xs.reverse:=by
 obtain⟨hl,h⟩:=h;apply List.ext_getElem?;intro k;by_cases hk:k<xs.length
 ·rw[h k hk,List.getElem?_reverse hk];by_cases k3:k<i∨xs.length - 1 - k<i
  ·rw[if_pos k3]
  rw[if_neg k3];congr 1;omega
 rw[List.getElem?_eq_none An,List.getElem?_eq_none Ah]
def lY (f:Int) (n i:Nat):List Tm:=(FL f 0 n).take i++List.replicate (n - i) Bi
def cW (t:Tm):Bool:=decide ((size t:Int) > 4096)||decide (Dq t > 200)
def YV {σ:Type}(st:σ→Int→Tm→σ) (xs:List Tm):Nat→σ→σ
 | 0,s=>s
 | m+1,s=>YV st xs m (st s m (xs.getD m Bi))
theorem Wb {σ:Type}{st:σ→Int→Tm→σ}{xs:List Tm}{m j:Nat}{x:Tm}{s:σ}(hx:xs[j]?=some x) (hm:m=j+1):YV st xs (m - 1) (st s ((m:Int) - 1) x)=YV st xs m s:=by
 subst hm;rw[Nat.add_sub_cancel,YV,Qt hx];congr 2;omega
def NL (k:Int) (t:Tm) (i:Int) (a:Tm):Tm:= .mk k 0 ⟨#[]⟩ [] [a,t]
theorem P0 (k:Int) (xs:List Tm):∀(m:Nat) (t:Tm),m≤xs.length→YV (NL k) xs m t=Bw k (xs.take m) t
 | 0,t,_=>rfl
 | m+1,t,h=>by
  obtain⟨x,hx⟩:=A9 (l:=xs) (i:=m) An;rw[YV,Qt hx,P0 k xs m _ An,List.take_add_one,hx];simp[Bw,NL]
end Go.Eu
namespace Go.Abs
def eH (mkv:Nat→AV) (cs:List AV):DN→List A8→Prop
 | .val v,H'=>∃b,v=mkv b∧H'=[.box b cs]
 | .panic _,_=>False
section
variable {P:Program}{ops:Array Oper}{n:Nat}{τ₀ τ:Nat→AV}{D:List DV}{Q:CV→Be→Prop}{opn:Nat→Bool}{k:Nat}{H:List A8}{dst:Option Tmp}{ty:TypeId}{pos:String}{aft:Array Edge}{c:Call}{f:Operand}{fid:FuncId}{first caps A:List AV}{mkv:Nat→AV}{cs:List AV}
theorem QD {rd ef effs fx}(fx':List (Nat×Sp)) (ho:ops[k]?=some ⟨dst,.call c,ty,pos,aft,none⟩) (hn:opn k=true)
  (hc:c.callee= .value f) (hf:(ev τ f= .p (.fn fid)∧first=[]∧caps=[])∨ev τ f= .fn (.func fid) first caps) (h:Br P fid A [] (eH mkv cs)) (hA:first++c.args.toList.map (ev τ)++caps=A∨(first++c.args.toList.map (ev τ)++caps).map norm=A) (haft:Dx ops k (fx'.map (·.1))=true)
  (next:∀b,IJ ops k H (.box b cs::H) rd∧F6 k (.eff (mkv b) (.box b cs::H)) fx∧Dr P ops n τ₀ D Q opn (k+1) (put τ dst (mkv b)) (.box b cs::H) rd ((k,H,.box b cs::H)::ef) (true::effs) (fx'++fx)):Dr P ops n τ₀ D Q opn k τ H rd ef effs fx :=
 Jm fx' ho hn (El (H:=H) (Hs:=[]) (Hf:=H) hc hf Ao h hA) haft ⟨_,_,_,⟨0,rfl,rfl⟩,rfl⟩ (fun v H' ⟨_,h,_⟩=>h.elim) (fun v H' ⟨Hs',⟨b,h1,h2⟩,h3⟩=>by subst h1;subst h2;subst h3;exact next b)
end
def Vu {α:Type}(mkv:α→AV) (mkp:Int→AV) (C:α→List A8→Prop) (x:Except Int α):DN→List A8→Prop
 | .val v,H'=>∃a,x= .ok a∧v=mkv a∧C a H'
 | .panic v,_=>∃e,x= .error e∧v=mkp e
theorem Cc.permR {P:Program}{ρ:Operand→AV}{o:Oper}{H:List A8}{R R':DN→List A8→Prop}(h:Cc P o ρ H R) (hp:∀r H1,R r H1→∃H2,H1.Perm H2∧R' r H2):Cc P o ρ H R':=by
 intro r F S a w hs hH hρ hd;have:=h r F S a w hs hH hρ hd;refine H4 this ?_ ?_
 ·rintro a' w' ⟨v',H1,F',hR,hs',ht⟩;obtain⟨H2,hp,hR'⟩:=hp _ _ hR;exact⟨v',H2,F',hR',⟨hs'.size,hs'.tmp,hs'.heap.perm hp,hs'.defs⟩,{ ht with keys:=fun o ho=>ht.keys o (hp.mem_iff.2 ho) }⟩
 rintro e a' w' ⟨v',H1,F',u,hR,h1,h2,hs',ht⟩;obtain⟨H2,hp,hR'⟩:=hp _ _ hR;exact⟨v',H2,F',u,hR',h1,h2,⟨hs'.size,hs'.tmp,hs'.heap.perm hp,hs'.defs⟩,{ ht with keys:=fun o ho=>ht.keys o (hp.mem_iff.2 ho) }⟩
section
variable {P:Program}{ops:Array Oper}{n:Nat}{τ₀ τ:Nat→AV}{D:List DV}{Q:CV→Be→Prop}{opn:Nat→Bool}{k:Nat}{T:List A8}{dst:Option Tmp}{ty:TypeId}{pos:String}{aft:Array Edge}{c:Call}{f:Operand}{fid:FuncId}{first caps A:List AV}
 {α:Type} {mkv:α→AV} {mkp:Int→AV} {C:α→List A8→Prop} {x:Except Int α}
theorem cK {r:Option Nat}(fr:List A8) (ho:ops[k]?=some ⟨dst,.call c,ty,pos,aft,none⟩) (hd:Fp dst n=true)
  (hc:c.callee= .value f) (hf:(ev τ f= .p (.fn fid)∧first=[]∧caps=[])∨ev τ f= .fn (.func fid) first caps) (h:Br P fid A T (Vu mkv mkp C x)) (hA:Ek (first++c.args.toList.map (ev τ)++caps) A)
  (next:∀a T',x= .ok a→C a T'→AL P r ops (k+1) ⟨n,put τ dst (mkv a),fr++T',D⟩ Q) (pan:∀e T',x= .error e→Q (.panic (mkp e)) ⟨n,τ,T'++fr,D⟩):AL P r ops k ⟨n,τ,fr++T,D⟩ Q :=
 Eo fr ho hd hc hf h hA (fun v T' ⟨a,h1,h2,h3⟩=>by subst h2;exact next a T' h1 h3) (fun v T' ⟨e,h1,h2⟩=>by subst h2;exact pan e T' h1)
theorem iW {rd ef effs fx}(fr:List A8) (ho:ops[k]?=some ⟨dst,.call c,ty,pos,aft,none⟩) (hn:opn k=true)
  (hc:c.callee= .value f) (hf:(ev τ f= .p (.fn fid)∧first=[]∧caps=[])∨ev τ f= .fn (.func fid) first caps) (h:Br P fid A T (Vu mkv mkp C x)) (hA:Ek (first++c.args.toList.map (ev τ)++caps) A) (haft:Dx ops k []=true) (chk:KD ops n (true::effs).reverse=true) (hfx:KG k fx=true) (owe:IJ ops k (fr++T) (fr++T) rd)
  (next:∀a T',x= .ok a→C a T'→IJ ops k (fr++T) (fr++T') rd∧F6 k (.eff (mkv a) (fr++T')) fx∧Dr P ops n τ₀ D Q opn (k+1) (put τ dst (mkv a)) (fr++T') rd ((k,fr++T,fr++T')::ef) (true::effs) fx)
  (pan:∀e,x= .error e→∀τ' T',(∀t,(∀(k:Nat) o,ops[k]?=some o→o.dst≠some t)→τ' t=τ₀ t)→Q (.panic (mkp e)) ⟨n,τ',T'++fr,D⟩):Dr P ops n τ₀ D Q opn k τ (fr++T) rd ef effs fx:=by
 have hop:Cc P ⟨dst,.call c,ty,pos,aft,none⟩ (ev τ) (fr++T) (fun r H'=>∃T',Vu mkv mkp C x r T'∧(match r with | .val _=>H'=fr++T' | .panic _=>H'=T'++fr)):=by
  refine Cc.permR (El (H:=fr++T) (Hs:=T) (Hf:=fr) hc hf List.perm_append_comm (h.args hA) (.inl O)) ?_;rintro r H1 ⟨T',hR,rfl⟩;cases r with
  | val v=>exact⟨fr++T',List.perm_append_comm,T',hR,rfl⟩
  | panic v=>exact⟨T'++fr,List.Perm.refl _,T',hR,rfl⟩
 by_cases hx:∃a T',x= .ok a∧C a T'
 ·obtain⟨a,T',hx,hC⟩:=hx;refine Dr.opn _ [] ho hn Ap hop haft ⟨mkv a,_,T',⟨a,hx,O,hC⟩,O⟩ ?_ ?_ ?_ ?_
  ·rintro v H' ⟨T',⟨a',h1,h2,h3⟩,rfl⟩;exact(next a' T' h1 h3).1
  ·rintro v H' ⟨T',⟨a',h1,h2,h3⟩,rfl⟩;subst h2;exact(next a' T' h1 h3).2.1
  ·rintro v H' ⟨T',⟨a',h1,h2,h3⟩,rfl⟩;subst h2;exact(next a' T' h1 h3).2.2
  rintro v H' ⟨T',⟨e,h1,h2⟩,rfl⟩ τ' hτ;subst h2;exact pan e h1 τ' T' hτ
 refine Dr.pan _ ho hn Ap hop haft chk hfx ?_ owe ?_
 ·rintro v H' ⟨T',⟨a',h1,h2,h3⟩,rfl⟩;exact hx ⟨a',T',h1,h3⟩
 rintro v H' ⟨T',⟨e,h1,h2⟩,rfl⟩ τ' hτ;subst h2;exact pan e h1 τ' T' hτ
end
section
variable {P:Program}{ops:Array Oper}{n:Nat}{τ₀ τ:Nat→AV}{D:List DV}{Q:CV→Be→Prop}{opn:Nat→Bool}{k:Nat}{H Hs:List A8}{dst:Option Tmp}{ty:TypeId}{pos:String}{aft:Array Edge}{c:Call}{f:Operand}{fid:FuncId}{first caps A:List AV}
 {α:Type} {mkv:α→AV} {mkp:Int→AV} {C:α→List A8→Prop} {x:Except Int α}
theorem dE {r:Option Nat}(is:List Nat) (ho:ops[k]?=some ⟨dst,.call c,ty,pos,aft,none⟩) (hd:Fp dst n=true)
  (hc:c.callee= .value f) (hf:(ev τ f= .p (.fn fid)∧first=[]∧caps=[])∨ev τ f= .fn (.func fid) first caps) (h:Br P fid A Hs (Vu mkv mkp C x)) (hg:D2 H is Hs) (hn:is.Nodup) (hA:Ek (first++c.args.toList.map (ev τ)++caps) A)
  (hl:∀a T',C a T'→T'.length=Hs.length)
  (next:∀a T',x= .ok a→C a T'→AL P r ops (k+1) ⟨n,put τ dst (mkv a),Ha H is T',D⟩ Q) (pan:∀e H',x= .error e→Q (.panic (mkp e)) ⟨n,τ,H'++Ci is 0 H,D⟩):AL P r ops k ⟨n,τ,H,D⟩ Q :=
 Gg is ho hd hc hf h hg hn hA (fun v T' ⟨a,h1,h2,h3⟩=>by subst h2;exact⟨hl a T' h3,next a T' h1 h3⟩) (fun v T' ⟨e,h1,h2⟩=>by subst h2;exact pan e T' h1)
theorem dM {rd ef effs fx}(is:List Nat) (ho:ops[k]?=some ⟨dst,.call c,ty,pos,aft,none⟩) (hn:opn k=true)
  (hc:c.callee= .value f) (hf:(ev τ f= .p (.fn fid)∧first=[]∧caps=[])∨ev τ f= .fn (.func fid) first caps) (h:Br P fid A Hs (Vu mkv mkp C x)) (hg:D2 H is Hs) (hnd:is.Nodup) (hA:Ek (first++c.args.toList.map (ev τ)++caps) A)
  (hl:∀a T',C a T'→T'.length=Hs.length) (haft:Dx ops k []=true) (chk:KD ops n (true::effs).reverse=true) (hfx:KG k fx=true) (owe:IJ ops k H H rd)
  (next:∀a T',x= .ok a→C a T'→IJ ops k H (Ha H is T') rd∧F6 k (.eff (mkv a) (Ha H is T')) fx∧Dr P ops n τ₀ D Q opn (k+1) (put τ dst (mkv a)) (Ha H is T') rd ((k,H,Ha H is T')::ef) (true::effs) fx)
  (pan:∀e,x= .error e→∀τ' H',(∀t,(∀(k:Nat) o,ops[k]?=some o→o.dst≠some t)→τ' t=τ₀ t)→Q (.panic (mkp e)) ⟨n,τ',H'++Ci is 0 H,D⟩):Dr P ops n τ₀ D Q opn k τ H rd ef effs fx:=by
 have hop:Cc P ⟨dst,.call c,ty,pos,aft,none⟩ (ev τ) H (fun r H'=>∃T',Vu mkv mkp C x r T'∧(match r with | .val _=>H'=Ha H is T' | .panic _=>H'=T'++Ci is 0 H)):=by
  refine Cc.permR (El hc hf (C8 hnd hg) (h.args hA) (.inl O)) ?_;rintro r H1 ⟨T',hR,rfl⟩;cases r with
  | val v=>obtain⟨a,h1,h2,h3⟩:=hR;exact⟨_,(H6 hnd hg (hl a T' h3)).symm,T',⟨a,h1,h2,h3⟩,rfl⟩
  | panic v=>exact⟨_,List.Perm.refl _,T',hR,rfl⟩
 by_cases hx:∃a T',x= .ok a∧C a T'
 ·obtain⟨a,T',hx,hC⟩:=hx;refine Dr.opn _ [] ho hn Ap hop haft ⟨mkv a,_,T',⟨a,hx,O,hC⟩,O⟩ ?_ ?_ ?_ ?_
  ·rintro v H' ⟨T',⟨a',h1,h2,h3⟩,rfl⟩;exact(next a' T' h1 h3).1
  ·rintro v H' ⟨T',⟨a',h1,h2,h3⟩,rfl⟩;subst h2;exact(next a' T' h1 h3).2.1
  ·rintro v H' ⟨T',⟨a',h1,h2,h3⟩,rfl⟩;subst h2;exact(next a' T' h1 h3).2.2
  rintro v H' ⟨T',⟨e,h1,h2⟩,rfl⟩ τ' hτ;subst h2;exact pan e h1 τ' T' hτ
 refine Dr.pan _ ho hn Ap hop haft chk hfx ?_ owe ?_
 ·rintro v H' ⟨T',⟨a',h1,h2,h3⟩,rfl⟩;exact hx ⟨a',T',h1,h3⟩
 rintro v H' ⟨T',⟨e,h1,h2⟩,rfl⟩ τ' hτ;subst h2;exact pan e h1 τ' T' hτ
end
theorem CQ:∀xs:List AV,Ek xs xs
 | []=>FE
 | x::xs=>aw (we rfl) (CQ xs)
def ey (ops:Array Oper) (t:Nat):Bool:=ops.toList.all fun o=>match o.dst with | some u=> !(Nat.beq u t) | none=>true
theorem Nv {ops:Array Oper}{t:Nat}(h:ey ops t=true) (k:Nat) (o:Oper) (ho:ops[k]?=some o):o.dst≠some t:=by
 intro e;have hm:o∈ops.toList:=by
  rw[←Array.getElem?_toList] at ho;exact List.mem_of_getElem? ho
 have:=List.all_eq_true.1 h o hm;simp[e] at this
theorem VW {L Hs:List A8}{is:List Nat}(X:List A8) (hn:is.Nodup) (hg:D2 L is Hs):(X++L).Perm (Hs++(X++Ci is 0 L)):=by
 have h:=(C8 hn hg).append_left X;refine h.trans ?_;rw[←List.append_assoc,←List.append_assoc];exact List.perm_append_comm.append_right _
theorem G7.eq {P:Program}{f:FuncId}{caps:List AV}{m:J3}{H X:List A8}{R:List A8→Prop}(h:G7 P f caps m H (fun H'=>H'=X)) (hq:R X):G7 P f caps m H R:=by
 refine⟨h.1,fun F w vs u hH hr hm=>?_⟩;refine(h.2 F w vs u hH hr hm).mono ?_;rintro e u' w' ⟨v,H',F',h1,h2,rfl,h3,h4⟩;exact⟨v,_,F',h1,h2,hq,h3,h4⟩
end Go.Abs
namespace Go.Eu
open Go.Abs
mutual
def Vp:Tm→Prop
 | .mk k i _ _ ks=>(k=0→0≤i∧i<1099511627776)∧I8 ks
def I8:List Tm→Prop
 | []=>True
 | t::ts=>Vp t∧I8 ts
end
theorem LF:∀{ts:List Tm}{i:Nat}{t:Tm},I8 ts→ts[i]?=some t→Vp t
 | [],i,t,_,h=>by simp at h
 | a::ts,0,t,hn,h=>by simp at h;subst h;exact hn.1
 | a::ts,i+1,t,hn,h=>by simp at h;exact LF hn.2 h
def KP:Tm→Tm
 | .mk k i n l _=> .mk k i n l []
def FA (i:Int):Except Int Tm:=if i > 65535 then .error 24 else .ok (BP i)
def Vx (n m:Int):Except Int Int:=if wr (n+m) > 4096 then .error 5 else .ok (wr (n+m))
def ae (b fr:Int) (t:Tm) (d:Int):Except Int Tm :=
 if t.index - d<fr then .ok (KP t) else if b<0∧t.index - d<fr - b then .error 24 else FA (t.index+b)
def JB {α β:Type}(f:α→β):Except Int α→Except Int β
 | .error e=> .error e
 | .ok x=> .ok (f x)
def DA {α β:Type}(x:Except Int α) (f:α→Except Int β):Except Int β :=
 match x with
 | .error e=> .error e
 | .ok x=>f x
def G1 (rep:Tm→Int→Except Int Tm) (s:Unit) (t:Tm) (d:Int):Except Int ((Tm×Bool)×Unit) :=
 if t.kind=0 then JB (fun x=>((x,true),())) (rep t d) else .ok ((KP t,false),())
mutual
def C9 {σ:Type}(vis:σ→Tm→Int→Except Int ((Tm×Bool)×σ)):Tm→Int→σ→Except Int (Tm×σ)
 | .mk k i n l ks,d,s=>DA (vis s (.mk k i n l ks) d) fun r =>
   if r.1.2=true then .ok (r.1.1,r.2) else DA (C2 vis k 0 ks d r.2) fun q=> .ok (JZ r.1.1 q.1,q.2)
def C2 {σ:Type}(vis:σ→Tm→Int→Except Int ((Tm×Bool)×σ)) (k:Int):Nat→List Tm→Int→σ→Except Int (List Tm×σ)
 | _,[],_,s=> .ok ([],s)
 | j,t::ts,d,s=>DA (C9 vis t (d+below k j) s) fun r=>DA (C2 vis k (j+1) ts d r.2) fun q=> .ok (r.1::q.1,q.2)
end
section
variable {σ:Type}{vis:σ→Tm→Int→Except Int ((Tm×Bool)×σ)}
theorem Dy {t:Tm}{d:Int}{s q:σ}{o:Tm}(h:vis s t d= .ok ((o,true),q)):C9 vis t d s= .ok (o,q):=by
 obtain⟨k,i,n,l,ks⟩:=t;simp[C9,h,DA]
theorem GQ {t:Tm}{d e:Int}{s:σ}(h:vis s t d= .error e):C9 vis t d s= .error e:=by
 obtain⟨k,i,n,l,ks⟩:=t;simp[C9,h,DA]
theorem Fa {k i d:Int}{n:ByteArray}{l:List CN}{ks:List Tm}{s q q':σ}{o:Tm}{ys:List Tm}(h:vis s (.mk k i n l ks) d= .ok ((o,false),q)) (hk:C2 vis k 0 ks d q= .ok (ys,q')):C9 vis (.mk k i n l ks) d s= .ok (JZ o ys,q'):=by
 simp[C9,h,DA,hk]
theorem Hr {k i d e:Int}{n:ByteArray}{l:List CN}{ks:List Tm}{s q:σ}{o:Tm}(h:vis s (.mk k i n l ks) d= .ok ((o,false),q)) (hk:C2 vis k 0 ks d q= .error e):C9 vis (.mk k i n l ks) d s= .error e:=by
 simp[C9,h,DA,hk]
def NW (vis:σ→Tm→Int→Except Int ((Tm×Bool)×σ)) (k:Int) (ts:List Tm) (d:Int) (q0:σ) (i:Nat) (ys:List Tm) (q:σ):Prop :=
 ys.length=i∧C2 vis k 0 ts d q0=DA (C2 vis k i (ts.drop i) d q) fun r=> .ok (ys++r.1,r.2)
theorem NW.zero (k:Int) (ts:List Tm) (d:Int) (q0:σ):NW vis k ts d q0 0 [] q0:=by
 refine⟨O,?_⟩;simp only[List.drop_zero,List.nil_append];cases C2 vis k 0 ts d q0<;>rfl
theorem NW.err {k d e:Int}{ts ys:List Tm}{q0 q:σ}{i:Nat}{x:Tm}(h:NW vis k ts d q0 i ys q) (hx:ts[i]?=some x) (hb:C9 vis x (d+below k i) q= .error e):C2 vis k 0 ts d q0= .error e:=by
 rw[h.2,Cm hx,C2,hb];rfl
theorem NW.succ {k d:Int}{ts ys:List Tm}{q0 q q':σ}{i:Nat}{x y:Tm}(h:NW vis k ts d q0 i ys q) (hx:ts[i]?=some x) (hb:C9 vis x (d+below k i) q= .ok (y,q')):NW vis k ts d q0 (i+1) (ys++[y]) q':=by
 refine⟨by simp[h.1],?_⟩;rw[h.2,Cm hx,C2,hb];simp only[DA];cases C2 vis k (i+1) (ts.drop (i+1)) d q'<;>simp
theorem NW.fin {k d:Int}{ts ys:List Tm}{q0 q:σ}{i:Nat}(h:NW vis k ts d q0 i ys q) (hi:ts.length≤i):C2 vis k 0 ts d q0= .ok (ys,q):=by
 rw[h.2,List.drop_eq_nil_of_le hi,C2];simp[DA]
end
theorem RI {ys:List Tm}{i m:Nat}{x:Tm}(h:ys.length=i) (hm:0<m):(ys++List.replicate m Bi).set i x=(ys++[x])++List.replicate (m - 1) Bi:=by
 subst h;cases m with
 | zero=>omega
 | succ m=>simp[List.replicate_succ]
section
variable {b fr d k i:Int}{n:ByteArray}{l:List CN}{ks:List Tm}
theorem aS (h:i - d<fr):ae b fr (.mk k i n l ks) d= .ok (.mk k i n l []):=by simp[ae,Tm.index,KP,h]
theorem cj (h:¬i - d<fr) (h2:¬(b<0∧i - d<fr - b)):ae b fr (.mk k i n l ks) d=FA (i+b):=by unfold ae;exact(if_neg h).trans (if_neg h2)
variable {rep:Tm→Int→Except Int Tm}{s:Unit}
theorem K7 {e:Int}(h:k=0) (hr:rep (.mk k i n l ks) d= .error e):G1 rep s (.mk k i n l ks) d= .error e:=by unfold G1;exact(if_pos h).trans (by rw[hr];rfl)
theorem Ho {x:Tm}(h:k=0) (hr:rep (.mk k i n l ks) d= .ok x):G1 rep s (.mk k i n l ks) d= .ok ((x,true),()):=by unfold G1;exact(if_pos h).trans (by rw[hr];rfl)
theorem Jr (h:k≠0):G1 rep s (.mk k i n l ks) d= .ok ((.mk k i n l [],false),()):=by unfold G1;exact(if_neg h).trans rfl
end
def KS (b fr:Int) (t:Tm):Except Int Tm:=JB Prod.fst (C9 (G1 (ae b fr)) t 0 ())
theorem Rc {α β:Type}{f:α→β}{x:Except Int α}{a:α}(h:x= .ok a):JB f x= .ok (f a):=by rw[h];rfl
theorem PB {α β:Type}{f:α→β}{x:Except Int α}{e:Int}(h:x= .error e):JB f x= .error e:=by rw[h];rfl
def LX (vs:List Tm) (dp ti d:Int):Int:=if 0≤wr (wr (ti - d) - dp)∧wr (wr (ti - d) - dp)<(vs.length:Int) then wr (wr (ti - d) - dp) else -1
def QM (vs:List Tm) (sz:List Int) (dp:Int) (t:Tm) (d:Int):Int :=
 if t.kind=0∧0≤LX vs dp t.index d then sz.getD (LX vs dp t.index d).toNat 0 else 1
def Qr (vs:List Tm) (sz:List Int) (dp:Int) (n:Int) (t:Tm) (d:Int):Except Int ((Tm×Bool)×Int) :=
 JB (fun m=>((Bi,decide (t.kind=0)),m)) (Vx n (QM vs sz dp t d))
def Kn (vs:List Tm) (dp:Int) (t:Tm) (d:Int):Except Int Tm :=
 if 0≤LX vs dp t.index d then KS (wr (dp+d)) 0 (vs.getD (LX vs dp t.index d).toNat Bi)
 else if wr (t.index - d)<dp then .ok (KP t) else FA (wr (t.index - vs.length))
def Hy (vs:List Tm) (dp:Int) (t:Tm):Except Int Tm :=
 DA (C9 (Qr vs (vs.map fun v=>(size v:Int)) dp) t 0 0) fun _=>JB Prod.fst (C9 (G1 (Kn vs dp)) t 0 ())
def Fy (t:Tm) (vs:List Tm) (dp:Int):Tm×Int :=
 match Hy vs dp t with
 | .error e=>(Bi,e)
 | .ok x=>if Dq x > 200 then (Bi,7) else (x,0)
section
variable {vs:List Tm}{sz:List Int}{dp n d k i r m e:Int}{nm:ByteArray}{l:List CN}{ks:List Tm}
theorem Uh (hm:QM vs sz dp (.mk k i nm l ks) d=m) (hz:Vx n m= .ok r):Qr vs sz dp n (.mk k i nm l ks) d= .ok ((Bi,decide (k=0)),r):=by
 subst hm;exact Rc hz
theorem SJ (hm:QM vs sz dp (.mk k i nm l ks) d=m) (hz:Vx n m= .error e):Qr vs sz dp n (.mk k i nm l ks) d= .error e:=by
 subst hm;exact PB hz
theorem Xy (h:k=0∧0≤LX vs dp i d) (hx:sz[(LX vs dp i d).toNat]?=some m):QM vs sz dp (.mk k i nm l ks) d=m:=by
 unfold QM;refine(if_pos h).trans ?_;rw[List.getD_eq_getElem?_getD];exact(congrArg (fun o=>Option.getD o 0) hx)
theorem Tp (h:¬(k=0∧0≤LX vs dp i d)):QM vs sz dp (.mk k i nm l ks) d=1:=by
 unfold QM;exact if_neg h
theorem YQ {v:Tm}(h:0≤LX vs dp i d) (hx:vs[(LX vs dp i d).toNat]?=some v):Kn vs dp (.mk k i nm l ks) d=KS (wr (dp+d)) 0 v:=by
 unfold Kn;refine(if_pos h).trans ?_;rw[List.getD_eq_getElem?_getD];exact(congrArg (fun o=>KS (wr (dp+d)) 0 (Option.getD o Bi)) hx)
theorem WG (h:¬0≤LX vs dp i d) (h2:wr (i - d)<dp):Kn vs dp (.mk k i nm l ks) d= .ok (.mk k i nm l []):=by
 unfold Kn;exact(if_neg h).trans ((if_pos h2).trans rfl)
theorem Y0 (h:¬0≤LX vs dp i d) (h2:¬wr (i - d)<dp):Kn vs dp (.mk k i nm l ks) d=FA (wr (i - vs.length)):=by
 unfold Kn;exact(if_neg h).trans (if_neg h2)
end
theorem K2 {t:Tm}{vs:List Tm}{dp e:Int}(h:Hy vs dp t= .error e):Fy t vs dp=(Bi,e):=by unfold Fy;rw[h]
theorem SR {t x:Tm}{vs:List Tm}{dp:Int}(h:Hy vs dp t= .ok x) (hd:Dq x > 200):Fy t vs dp=(Bi,7):=by unfold Fy;rw[h];exact if_pos hd
theorem Vq {t x:Tm}{vs:List Tm}{dp:Int}(h:Hy vs dp t= .ok x) (hd:¬Dq x > 200):Fy t vs dp=(x,0):=by unfold Fy;rw[h];exact if_neg hd
theorem Px {t x:Tm}{vs:List Tm}{dp:Int}{a:Tm×Int}{b:Unit}(h1:C9 (Qr vs (vs.map fun v=>(size v:Int)) dp) t 0 0= .ok a) (h2:C9 (G1 (Kn vs dp)) t 0 ()= .ok (x,b)):Hy vs dp t= .ok x:=by
 unfold Hy;rw[h1];exact Rc h2
theorem SM {t:Tm}{vs:List Tm}{dp e:Int}(h1:C9 (Qr vs (vs.map fun v=>(size v:Int)) dp) t 0 0= .error e):Hy vs dp t= .error e:=by
 unfold Hy;rw[h1];rfl
theorem R7 {t:Tm}{vs:List Tm}{dp e:Int}{a:Tm×Int}(h1:C9 (Qr vs (vs.map fun v=>(size v:Int)) dp) t 0 0= .ok a) (h2:C9 (G1 (Kn vs dp)) t 0 ()= .error e):Hy vs dp t= .error e:=by
 unfold Hy;rw[h1];exact PB h2
theorem Su:∀{ts:List Tm},(∀t∈ts,Nd t)→D7 ts
 | [],_=>trivial
 | t::ts,h=>⟨h t Ao,Su fun x hx=>h x (by simp[hx])⟩
section
variable {σ:Type}{vis:σ→Tm→Int→Except Int ((Tm×Bool)×σ)}
mutual
theorem P2 (hv:∀s t d r,Nd t→Vp t→vis s t d= .ok r→Nd r.1.1):∀(t:Tm) (d:Int) (s:σ) (r:Tm×σ),Nd t→Vp t→C9 vis t d s= .ok r→Nd r.1
 | .mk k i n l ks,d,s,r,h1,h2,h=>by
  unfold C9 DA at h;split at h
  ·cases h
  rename_i r1 hr;have hn:=hv _ _ _ _ h1 h2 hr;simp only at h;split at h
  ·injection h with h;subst h;exact hn
  split at h
  ·cases h
  rename_i q hq;injection h with h;subst h;obtain⟨g1,g2⟩:=NG hv ks k 0 d r1.2 q h1.2.2.2.2.1 h2.2 hq;obtain⟨⟨o,dn⟩,q1⟩:=r1;obtain⟨ok,oi,on,ol,os⟩:=o;exact⟨hn.1,hn.2.1,hn.2.2.1,by rw[g2];exact h1.2.2.2.1,g1,hn.2.2.2.2.2⟩
theorem NG (hv:∀s t d r,Nd t→Vp t→vis s t d= .ok r→Nd r.1.1):∀(ts:List Tm) (k:Int) (j:Nat) (d:Int) (s:σ) (r:List Tm×σ),D7 ts→I8 ts→C2 vis k j ts d s= .ok r→D7 r.1∧r.1.length=ts.length
 | [],k,j,d,s,r,h1,h2,h=>by
  unfold C2 at h;injection h with h;subst h;exact⟨trivial,rfl⟩
 | t::ts,k,j,d,s,r,h1,h2,h=>by
  unfold C2 DA at h;split at h
  ·cases h
  rename_i r1 hr;simp only at h;split at h
  ·cases h
  rename_i q hq;injection h with h;subst h;obtain⟨g1,g2⟩:=NG hv ts k (j+1) d r1.2 q h1.2 h2.2 hq;exact⟨⟨P2 hv t _ _ _ h1.1 h2.1 hr,g1⟩,by simp[g2]⟩
end
end
theorem SE {t:Tm}(h:Nd t):Nd (KP t):=by
 obtain⟨k,i,n,l,ks⟩:=t;exact⟨h.1,h.2.1,h.2.2.1,by decide,trivial,h.2.2.2.2.2⟩
theorem Xz {i:Int}{x:Tm}(hi: -9223372036854775808≤i) (h:FA i= .ok x):Nd x:=by
 unfold FA at h;split at h
 ·cases h
 injection h with h;subst h;exact⟨by decide,by decide,by simp,by decide,trivial,⟨by decide,by decide⟩,⟨hi,by omega⟩⟩
theorem Yv {rep:Tm→Int→Except Int Tm}(hr:∀t d x,Nd t→Vp t→t.kind=0→rep t d= .ok x→Nd x):∀(s:Unit) (t:Tm) (d:Int) (r:(Tm×Bool)×Unit),Nd t→Vp t→G1 rep s t d= .ok r→Nd r.1.1:=by
 intro s t d r h1 h2 h;unfold G1 at h;split at h
 ·rename_i hk;unfold JB at h;split at h
  ·cases h
  rename_i x hx;injection h with h;subst h;exact hr t d x h1 h2 hk hx
 injection h with h;subst h;exact SE h1
theorem Tz {k i:Int}{n:ByteArray}{l:List CN}{ks:List Tm}(h:Wt (.mk k i n l ks)) (hk:k=0):ks=[]:=by
 have:=h.1;subst hk;cases ks with
 | nil=>rfl
 | cons a b=>simp[arity] at this;omega
def Gt (x:Tm×Int):Except Int (Tm×Unit):=if x.2=0 then .ok (x.1,()) else .error x.2
def Hj (x:List Tm×Int):Except Int (List Tm×Unit):=if x.2=0 then .ok (x.1,()) else .error x.2
theorem RW {er e:Int}(h:er≠0):H5 er e=er:=by unfold H5;rw[if_neg h]
theorem T7 {er i:Int}(h:er≠0):Lb er i=er:=by unfold Lb;split<;>simp[RW h]
mutual
theorem PJ (b fr:Int):∀(t:Tm) (d er:Int),er≠0→(CP b fr d er t).2=er
 | .mk k i n l ks,d,er,h=>by
  unfold CP;split
  ·split
   ·rfl
   split
   ·exact RW h
   exact T7 h
  exact KX b fr k ks d 0 er h
theorem KX (b fr k:Int):∀(ts:List Tm) (d:Int) (j:Nat) (er:Int),er≠0→(C0 b fr k d j er ts).2=er
 | [],d,j,er,h=>rfl
 | t::ts,d,j,er,h=>by
  unfold C0;simp only;rw[PJ b fr t _ er h];exact KX b fr k ts d (j+1) er h
end
mutual
theorem Ps (b:Int) (hb:0≤b) (hb2:b<4398046511104):∀(t:Tm) (d:Int),Wt t→Vp t→0≤d→d+size t<2199023255552→C9 (G1 (ae b 0)) t d ()=Gt (CP b 0 d 0 t)
 | .mk k i n l ks,d,h1,h2,h3,h4=>by
  by_cases hk:k=0
  ·have hks:=Tz h1 hk;have hi:=h2.1 hk;have e1:wr (0+d)=d:=by rw[Int.zero_add];exact GA (by unfold I3;omega)
   have e2:wr (i+b)=i+b:=GA (by unfold I3;omega);by_cases hlo:i - d<0
   ·rw[Dy (Ho hk (aS hlo))];unfold CP;rw[if_pos hk,e1,if_pos An];subst hks;rfl
   have hsh:ae b 0 (.mk k i n l ks) d=FA (i+b):=cj hlo An;unfold CP;rw[if_pos hk,e1,if_neg An,e2,if_neg An];by_cases hbig:i+b > 65535
   ·rw[GQ (K7 hk (hsh.trans (if_pos hbig)))];unfold Gt Lb H5;simp[hbig]
   rw[Dy (Ho hk (hsh.trans (if_neg hbig)))];unfold Gt Lb;simp[hbig]
  have hs:d+Bb ks<2199023255551:=by simp only[size] at h4;omega
  have hL:=Nw b hb hb2 k ks d 0 h1.2.2 h2.2 h3 hs;unfold CP;rw[if_neg hk];unfold Hj at hL;unfold Gt;by_cases he:(C0 b 0 k d 0 0 ks).2=0
  ·rw[if_pos he] at hL;rw[if_pos he];exact Fa (Jr hk) hL
  rw[if_neg he] at hL;rw[if_neg he];exact Hr (Jr hk) hL
theorem Nw (b:Int) (hb:0≤b) (hb2:b<4398046511104) (k:Int):∀(ts:List Tm) (d:Int) (j:Nat),SQ ts→I8 ts→0≤d→d+Bb ts<2199023255551→C2 (G1 (ae b 0)) k j ts d ()=Hj (C0 b 0 k d j 0 ts)
 | [],d,j,h1,h2,h3,h4=>rfl
 | t::ts,d,j,h1,h2,h3,h4=>by
  have hbl:=Cd k j;simp only[Bb] at h4;have hT:=Ps b hb hb2 t (d+below k j) h1.1 h2.1 An An;have hL:=Nw b hb hb2 k ts d (j+1) h1.2 h2.2 h3 An;unfold C2 C0;rw[hT];unfold Gt Hj DA;by_cases he:(CP b 0 (d+below k j) 0 t).2=0
  ·rw[if_pos he];simp only;rw[hL,he];unfold Hj;by_cases hq:(C0 b 0 k d (j+1) 0 ts).2=0
   ·rw[if_pos hq,if_pos hq]
   rw[if_neg hq,if_neg hq]
  rw[if_neg he];simp only;rw[KX b 0 k ts d (j+1) _ he,if_neg he]
end
theorem VF {b:Int}{v:Tm}(hb:0≤b) (hb2:b<4398046511104) (h1:Wt v) (h2:Vp v) (h3:size v<1099511627776):KS b 0 v=if (CP b 0 0 0 v).2=0 then .ok (CP b 0 0 0 v).1 else .error (CP b 0 0 0 v).2:=by
 unfold KS;rw[Ps b hb hb2 v 0 h1 h2 An An];unfold Gt;split<;>rfl
section
variable {vs:List Tm}{d er nd k i:Int}{n:ByteArray}{l:List CN}{ks:List Tm}
theorem OH {t:Tm}(h:nd > 4096):CU vs d er nd t=(t,er,nd):=by
 obtain⟨k,i,n,l,ks⟩:=t;unfold CU;rw[if_pos h]
theorem Hp (h:nd > 4096):∀(ts:List Tm) (d:Int) (j:Nat),Cx vs k d j er nd ts=(ts,er,nd)
 | [],d,j=>rfl
 | t::ts,d,j=>by unfold Cx;rw[OH h];simp only;rw[Hp h ts d (j+1)]
theorem Nc {v:Tm}(h:nd≤4096) (hk:k=0) (h1:i≥d) (h2:i - d<(vs.length:Int)) (hv:vs[(i - d).toNat]?=some v):CU vs d er nd (.mk k i n l ks)=((CP d 0 0 er v).1,(CP d 0 0 er v).2,wr (nd+Dg v)):=by
 unfold CU;rw[if_neg An,if_pos ⟨hk,h1,h2⟩,List.getD_eq_getElem?_getD,hv];rfl
theorem PQ (h:nd≤4096) (hk:k=0) (h1:i≥d) (h2:¬i - d<(vs.length:Int)):CU vs d er nd (.mk k i n l ks)=(BP (wr (i - vs.length)),Lb er (wr (i - vs.length)),wr (nd+1)):=by
 unfold CU;rw[if_neg An,if_neg An,if_pos hk,if_pos h1]
theorem NX (h:nd≤4096) (hk:k=0) (h1:¬i≥d):CU vs d er nd (.mk k i n l ks)=(.mk k i n l ks,er,wr (nd+1)):=by
 unfold CU;rw[if_neg An,if_neg An,if_pos hk,if_neg h1]
theorem MG (h:nd≤4096) (hk:k≠0):CU vs d er nd (.mk k i n l ks)=((.mk k i n l (Cx vs k d 0 er (wr (nd+1)) ks).1),(Cx vs k d 0 er (wr (nd+1)) ks).2):=by
 unfold CU;rw[if_neg An,if_neg An,if_neg hk]
end
mutual
theorem Vf (vs:List Tm):∀(t:Tm) (d er nd:Int),er≠0→(CU vs d er nd t).2.1=er
 | .mk k i n l ks,d,er,nd,h=>by
  unfold CU;split
  ·rfl
  split
  ·exact PJ _ _ _ _ _ h
  split
  ·split
   ·exact T7 h
   rfl
  exact KH vs k ks d 0 er _ h
theorem KH (vs:List Tm) (k:Int):∀(ts:List Tm) (d:Int) (j:Nat) (er nd:Int),er≠0→(Cx vs k d j er nd ts).2.1=er
 | [],d,j,er,nd,h=>rfl
 | t::ts,d,j,er,nd,h=>by
  unfold Cx;simp only;rw[Vf vs t _ er nd h];exact KH vs k ts d (j+1) er _ h
end
structure SG (vs:List Tm) (dp:Int):Prop where
 wt:SQ vs
 vp:I8 vs
 sz:∀x∈vs,size x<1099511627776
 len:vs.length<1099511627776
 lo:0≤dp
 hi:dp≤65536
theorem SG.size {vs:List Tm}{dp:Int}(V:SG vs dp):∀x∈vs,(size x:Int)≤1099511627776:=fun x hx=>by have:=V.sz x hx;omega
theorem T8 {vs:List Tm}{dp i d:Int}(V:SG vs dp) (h1:0≤i) (h2:i<1099511627776) (h3:0≤d) (h4:d<2199023255552):LX vs dp i d=if dp+d≤i∧i - (dp+d)<(vs.length:Int) then i - (dp+d) else -1:=by
 have:=V.lo;have:=V.hi;have e1:wr (i - d)=i - d:=GA (by unfold I3;omega);have e2:wr (i - d - dp)=i - (dp+d):=by rw[GA (by unfold I3;omega)];omega
 unfold LX;rw[e1,e2];by_cases h:dp+d≤i∧i - (dp+d)<(vs.length:Int)
 ·rw[if_pos h,if_pos An]
 rw[if_neg h,if_neg An]
theorem Up {n m:Int}(h1:0≤n) (h2:n≤4096) (h3:0≤m) (h4:m≤1099511627776):Vx n m=if n+m > 4096 then .error 5 else .ok (n+m):=by
 unfold Vx;rw[show wr (n+m)=n+m from GA (by unfold I3;omega)]
def dq {α:Type}(x:Except Int (α×Int)) (m:Int):Prop:=(m > 4096→x= .error 5)∧(m≤4096→∃z,x= .ok (z,m))
def szs (vs:List Tm):List Int:=vs.map fun v=>(size v:Int)
theorem aN {vs:List Tm}{i:Nat}{v:Tm}(h:vs[i]?=some v):(szs vs)[i]?=some (size v:Int):=by simp[szs,h]
mutual
theorem UB {vs:List Tm}{dp:Int}(V:SG vs dp):∀(t:Tm) (d er nd:Int),Wt t→Vp t→0≤d→d+size t<2199023255552→0≤nd→nd≤4096→dq (C9 (Qr vs (szs vs) dp) t d nd) (CU vs (dp+d) er nd t).2.2
 | .mk k i n l ks,d,er,nd,h1,h2,h3,h4,h5,h6=>by
  have hone:∀m:Int,0≤m→m≤1099511627776→QM vs (szs vs) dp (.mk k i n l ks) d=m→k=0→dq (C9 (Qr vs (szs vs) dp) (.mk k i n l ks) d nd) (wr (nd+m)):=by
   intro m g1 g2 g3 hk;have ha:=Up h5 h6 g1 g2;rw[show wr (nd+m)=nd+m from GA (by unfold I3;omega)];refine⟨fun h=>?_,fun h=>?_⟩
   ·rw[if_pos h] at ha;exact GQ (SJ g3 ha)
   rw[if_neg An] at ha;refine⟨Bi,Dy ?_⟩;rw[Uh g3 ha,hk];rfl
  by_cases hk:k=0
  ·have hi:=h2.1 hk;have hd:d<2199023255552:=by have:=size_pos (Tm.mk k i n l ks);omega
   have hv:=T8 V hi.1 hi.2 h3 hd;by_cases hin:dp+d≤i∧i - (dp+d)<(vs.length:Int)
   ·rw[if_pos hin] at hv;obtain⟨v,hx⟩:=A9 (l:=vs) (i:=(i - (dp+d)).toNat) An;have hsv:=V.sz v (List.mem_of_getElem? hx);rw[Nc h6 hk hin.1 hin.2 hx,Nz An];exact hone _ An An (Xy ⟨hk,by omega⟩ (by rw[hv];exact aN hx)) hk
   rw[if_neg hin] at hv;have hc:=hone 1 An An (Tp An) hk;by_cases hge:i≥dp+d
   ·rw[PQ h6 hk hge An];exact hc
   rw[NX h6 hk hge];exact hc
  rw[MG h6 hk];have hs:d+Bb ks<2199023255551:=by simp only[size] at h4;omega
  have e1:wr (nd+1)=nd+1:=GA (by unfold I3;omega);have ha:=Up (m:=1) h5 h6 An An;have hn:QM vs (szs vs) dp (.mk k i n l ks) d=1:=Tp An;have hdec:decide (k=0)=false:=by simp[hk]
  simp only;rw[e1];by_cases hbig:nd+1 > 4096
  ·rw[Hp hbig];rw[if_pos hbig] at ha;exact⟨fun _=>GQ (SJ hn ha),fun h=>by simp only at h;omega⟩
  rw[if_neg hbig] at ha;have hc:=Uh (l:=l) hn ha;rw[hdec] at hc;obtain⟨g1,g2⟩:=SX V k ks d 0 er (nd+1) h1.2.2 h2.2 h3 hs An An;refine⟨fun h=>Hr hc (g1 h),fun h=>?_⟩;obtain⟨z,hz⟩:=g2 h;exact⟨_,Fa hc hz⟩
theorem SX {vs:List Tm}{dp:Int}(V:SG vs dp) (k:Int):∀(ts:List Tm) (d:Int) (j:Nat) (er nd:Int),SQ ts→I8 ts→0≤d→d+Bb ts<2199023255551→0≤nd→nd≤4096→dq (C2 (Qr vs (szs vs) dp) k j ts d nd) (Cx vs k (dp+d) j er nd ts).2.2
 | [],d,j,er,nd,h1,h2,h3,h4,h5,h6=>⟨fun h=>by simp only[Cx] at h;omega,fun _=>⟨_,rfl⟩⟩
 | t::ts,d,j,er,nd,h1,h2,h3,h4,h5,h6=>by
  have hbl:=Cd k j;simp only[Bb] at h4;obtain⟨g1,g2⟩:=UB V t (d+below k j) er nd h1.1 h2.1 An An h5 h6;have hm:=(JT 1099511627776 An An t vs (dp+d+below k j) er nd h1.1 V.wt V.size h5 An).1;rw[show dp+(d+below k j)=dp+d+below k j by omega] at g1 g2;unfold C2 Cx;simp only;by_cases hbig:(CU vs (dp+d+below k j) er nd t).2.2 > 4096
  ·rw[g1 hbig,Hp hbig];exact⟨fun _=>O,fun h=>by simp only at h;omega⟩
  obtain⟨z,hz⟩:=g2 An;rw[hz];obtain⟨f1,f2⟩:=SX V k ts d (j+1) (CU vs (dp+d+below k j) er nd t).2.1 (CU vs (dp+d+below k j) er nd t).2.2 h1.2 h2.2 h3 An An An;refine⟨fun h=>?_,fun h=>?_⟩
  ·simp only[DA];rw[f1 h]
  obtain⟨y,hy⟩:=f2 h;exact⟨z::y,by simp only[DA];rw[hy]⟩
end
mutual
theorem UL {vs:List Tm}{dp:Int}(V:SG vs dp):∀(t:Tm) (d nd:Int),Wt t→Vp t→0≤d→d+size t<2199023255552→0≤nd→(CU vs (dp+d) 0 nd t).2.2≤4096→C9 (G1 (Kn vs dp)) t d ()=Gt ((CU vs (dp+d) 0 nd t).1,(CU vs (dp+d) 0 nd t).2.1)
 | .mk k i n l ks,d,nd,h1,h2,h3,h4,h5,h6=>by
  have h7:nd≤4096:=by
   rcases Int.lt_or_le 4096 nd with h | h
   ·rw[OH h] at h6;simp only at h6;omega
   exact h
  have:=V.lo;have:=V.hi;have:=V.len;by_cases hk:k=0
  ·have hi:=h2.1 hk;have hks:=Tz h1 hk;have hd:d<2199023255552:=by have:=size_pos (Tm.mk k i n l ks);omega
   have hv:=T8 V hi.1 hi.2 h3 hd;by_cases hin:dp+d≤i∧i - (dp+d)<(vs.length:Int)
   ·rw[if_pos hin] at hv;obtain⟨v,hx⟩:=A9 (l:=vs) (i:=(i - (dp+d)).toNat) An;have hsv:=V.sz v (List.mem_of_getElem? hx);rw[Nc h7 hk hin.1 hin.2 hx];have hr:Kn vs dp (.mk k i n l ks) d=KS (wr (dp+d)) 0 v:=YQ An (by rw[hv];exact hx);rw[show wr (dp+d)=dp+d from GA (by unfold I3;omega),VF An An (Qo V.wt hx) (LF V.vp hx) hsv] at hr;unfold Gt;by_cases he:(CP (dp+d) 0 0 0 v).2=0
    ·rw[if_pos he] at hr;rw[if_pos he];exact Dy (Ho hk hr)
    rw[if_neg he] at hr;rw[if_neg he];exact GQ (K7 hk hr)
   rw[if_neg hin] at hv;have e1:wr (i - d)=i - d:=GA (by unfold I3;omega);by_cases hge:i≥dp+d
   ·rw[PQ h7 hk hge An];have hr:Kn vs dp (.mk k i n l ks) d=FA (wr (i - vs.length)):=Y0 An (by rw[e1];omega);unfold FA at hr;unfold Gt Lb H5;by_cases hbig:wr (i - vs.length) > 65535
    ·rw[if_pos hbig] at hr;simp only[hbig,if_true];exact GQ (K7 hk hr)
    rw[if_neg hbig] at hr;simp only[hbig,if_false,if_true];exact Dy (Ho hk hr)
   rw[NX h7 hk hge];have hr:Kn vs dp (.mk k i n l ks) d= .ok (.mk k i n l []):=WG An (by rw[e1];omega);subst hks;exact Dy (Ho hk hr)
  rw[MG h7 hk] at h6 ⊢;have hs:d+Bb ks<2199023255551:=by simp only[size] at h4;omega
  have e1:wr (nd+1)=nd+1:=GA (by unfold I3;omega);simp only at h6 ⊢;rw[e1] at h6 ⊢;have hL:=RJ V k ks d 0 (nd+1) h1.2.2 h2.2 h3 hs An h6;unfold Hj at hL;unfold Gt;by_cases he:(Cx vs k (dp+d) 0 0 (nd+1) ks).2.1=0
  ·rw[if_pos he] at hL;rw[if_pos he];exact Fa (Jr hk) hL
  rw[if_neg he] at hL;rw[if_neg he];exact Hr (Jr hk) hL
theorem RJ {vs:List Tm}{dp:Int}(V:SG vs dp) (k:Int):∀(ts:List Tm) (d:Int) (j:Nat) (nd:Int),SQ ts→I8 ts→0≤d→d+Bb ts<2199023255551→0≤nd→(Cx vs k (dp+d) j 0 nd ts).2.2≤4096→C2 (G1 (Kn vs dp)) k j ts d ()=Hj ((Cx vs k (dp+d) j 0 nd ts).1,(Cx vs k (dp+d) j 0 nd ts).2.1)
 | [],d,j,nd,h1,h2,h3,h4,h5,h6=>rfl
 | t::ts,d,j,nd,h1,h2,h3,h4,h5,h6=>by
  have hbl:=Cd k j;simp only[Bb] at h4;have h7:nd≤4096:=by
   rcases Int.lt_or_le 4096 nd with h | h
   ·rw[Hp h] at h6;simp only at h6;omega
   exact h
  have hm:=(JT 1099511627776 An An t vs (dp+d+below k j) 0 nd h1.1 V.wt V.size h5 An);unfold Cx at h6;simp only at h6;have hm2:=(IZ 1099511627776 An An ts vs k (dp+d) (j+1) (CU vs (dp+d+below k j) 0 nd t).2.1 (CU vs (dp+d+below k j) 0 nd t).2.2 h1.2 V.wt V.size An hm.2.1).1;have hT:=UL V t (d+below k j) nd h1.1 h2.1 An An h5 (by rw[show dp+(d+below k j)=dp+d+below k j by omega];omega);rw[show dp+(d+below k j)=dp+d+below k j by omega] at hT;unfold C2 Cx;rw[hT];simp only;unfold Gt Hj DA;by_cases he:(CU vs (dp+d+below k j) 0 nd t).2.1=0
  ·have hL:=RJ V k ts d (j+1) (CU vs (dp+d+below k j) 0 nd t).2.2 h1.2 h2.2 h3 An An (by rw[he] at h6;exact h6);simp only;rw[if_pos he];simp only;rw[hL,he];unfold Hj;by_cases hq:(Cx vs k (dp+d) (j+1) 0 (CU vs (dp+d+below k j) 0 nd t).2.2 ts).2.1=0
   ·simp only[hq,if_true]
   simp only[hq,if_false]
  simp only;rw[if_neg he];simp only;rw[KH vs k ts (dp+d) (j+1) _ _ he,if_neg he]
end
theorem VD {t:Tm}{vs:List Tm}{dp:Int}(V:SG vs dp) (h1:Wt t) (h2:Vp t) (h3:size t<1099511627776):Fy t vs dp=Gn t vs dp:=by
 have:=V.lo;have:=V.hi;have hmin:min dp 65536=dp:=by omega
 obtain⟨g1,g2⟩:=UB V t 0 0 0 h1 h2 An An An An;rw[Int.add_zero] at g1 g2;unfold Gn;rw[hmin];by_cases hbig:(CU vs dp 0 0 t).2.2 > 4096
 ·rw[if_pos hbig];exact K2 (SM (g1 hbig))
 rw[if_neg hbig];obtain⟨z,hz⟩:=g2 An;have hr:=UL V t 0 0 h1 h2 An An An (by rw[Int.add_zero];omega);rw[Int.add_zero] at hr;unfold Gt at hr;simp only at hr;by_cases he:(CU vs dp 0 0 t).2.1=0
 ·rw[if_pos he] at hr;rw[if_neg An];by_cases hd:Dq (CU vs dp 0 0 t).1 > 200
  ·rw[if_pos hd];exact SR (Px hz hr) hd
  rw[if_neg hd];exact Vq (Px hz hr) hd
 rw[if_neg he] at hr;rw[if_pos he];exact K2 (R7 hz hr)
structure G9 where
 dn:List (Int×Tm)
 op:List Int
 wk:Int
def e9 (i:Int):List (Int×Tm)→Option Tm
 | []=>none
 | (j,x)::r=>if j=i then some x else e9 i r
def gB (i:Int) (v:Tm):List (Int×Tm)→List (Int×Tm)
 | []=>[(i,v)]
 | (j,x)::r=>if j=i then (j,v)::r else (j,x)::gB i v r
def oV (l:List (Int×Tm)):List (Int×AV):=l.map fun p=>(p.1,TV p.2)
def gF (x:Tm) (e:Int):Except Int Tm:=if e≠0∨cW x=true then .error 11 else .ok x
def bW:Tm→List Tm→Except Int (Tm×List Tm)
 | v,[]=> .ok (v,[])
 | v,a::l=>if v.kind=5 then DA (gF (Fy (v.kids.getD 1 Bi) [a] 0).1 (Fy (v.kids.getD 1 Bi) [a] 0).2) fun x=>bW x l else .ok (v,a::l)
def Gu (F:G9→Tm→Except Int (Tm×G9)):G9→List Tm→Except Int (List Tm×G9)
 | st,[]=> .ok ([],st)
 | st,t::ts=>DA (F st t) fun r=>DA (Gu F r.2 ts) fun q=> .ok (r.1::q.1,q.2)
def dj (F:G9→Tm→Except Int (Tm×G9)) (ms:List Mv) (st:G9) (i:Int):Except Int (Tm×G9) :=
 match e9 i st.dn with
 | some v=> .ok (v,st)
 | none=>if i∈st.op then .error 22 else DA (F { st with op:=st.op++[i] } (valueOf ms i)) fun r=> .ok (r.1,{ r.2 with dn:=gB i r.1 r.2.dn })
def iQ (F:G9→Tm→Except Int (Tm×G9)) (ms:List Mv) (st:G9) (h:Tm):Except Int (Tm×G9) :=
 if known ms h=true then dj F ms st h.index else JB (fun q=>(JZ h q.1,q.2)) (Gu F st h.kids)
def YF (ms:List Mv):Nat→G9→Tm→Except Int (Tm×G9)
 | 0,st,t=> .error 11
 | n+1,st,t =>
  if st.wk+1 > 8192000 then .error 11
  else DA (iQ (YF ms n) ms { st with wk:=st.wk+1 } (BI t).1) fun r =>
   DA (Gu (YF ms n) r.2 (BI t).2) fun q =>
   DA (if known ms (BI t).1=true then bW r.1 q.1 else .ok (r.1,q.1)) fun y =>
   JB (fun z=>(z,q.2)) (gF (apply y.1 y.2) 0)
structure Ok (S:Nat) (t:Tm):Prop where
 nd:Nd t
 vp:Vp t
 wt:Wt t
 sz:size t≤S
structure lH (ms:List Mv) (st:G9):Prop where
 dn:∀p∈st.dn,Ok 4096 p.2
 w0:0≤st.wk
 w1:st.wk≤8192000
theorem Fv:∀{ts:List Tm},(∀t∈ts,Vp t)→I8 ts
 | [],_=>trivial
 | t::ts,h=>⟨h t Ao,Fv fun x hx=>h x (by simp[hx])⟩
abbrev oQ (l:List Tm):Prop:=∀x∈l,Ok 4096 x
def jR (st st':G9):Prop:=∀i,i∈st.op→i∈st'.op
def mD (ms:List Mv) (B:Nat) (F:G9→Tm→Except Int (Tm×G9)):Prop:=∀st t r,Ok B t→lH ms st→F st t= .ok r→Ok 4096 r.1∧lH ms r.2∧jR st r.2
section
variable {F:G9→Tm→Except Int (Tm×G9)}{ms:List Mv}{st st':G9}{i e:Int}{z:Tm}
end
def Qk (F:G9→Tm→Except Int (Tm×G9)) (ts:List Tm) (q0:G9) (i:Nat) (ys:List Tm) (q:G9):Prop :=
 ys.length=i∧Gu F q0 ts=DA (Gu F q (ts.drop i)) fun r=> .ok (ys++r.1,r.2)
section
variable {F:G9→Tm→Except Int (Tm×G9)}{ts ys:List Tm}{q0 q q':G9}{i:Nat}{x y:Tm}{e:Int}
theorem Qk.zero (F:G9→Tm→Except Int (Tm×G9)) (ts:List Tm) (q0:G9):Qk F ts q0 0 [] q0:=by
 refine⟨O,?_⟩;simp only[List.drop_zero,DA];cases Gu F q0 ts<;>simp
theorem Qk.err (h:Qk F ts q0 i ys q) (hx:ts[i]?=some x) (hb:F q x= .error e):Gu F q0 ts= .error e:=by
 rw[h.2,Cm hx,Gu,hb];rfl
theorem Qk.succ (h:Qk F ts q0 i ys q) (hx:ts[i]?=some x) (hb:F q x= .ok (y,q')):Qk F ts q0 (i+1) (ys++[y]) q':=by
 refine⟨by simp[h.1],?_⟩;rw[h.2,Cm hx,Gu,hb];simp only[DA];cases Gu F q' (ts.drop (i+1))<;>simp
theorem Qk.fin (h:Qk F ts q0 i ys q) (hi:ts.length≤i):Gu F q0 ts= .ok (ys,q):=by
 rw[h.2,List.drop_eq_nil_of_le hi,Gu];simp[DA]
end
section
variable {ms:List Mv}{n:Nat}{dn:List (Int×Tm)}{op:List Int}{wk e:Int}{t v vv z h:Tm}{us ls ks:List Tm}{st1 st2:G9}
end
end Go.Eu
namespace Go.Abs
def nH {β:Type}(mkv:β→AV) (mkH:β→List A8):DN→List A8→Prop
 | .val v,H'=>∃b,v=mkv b∧H'=mkH b
 | .panic _,_=>False
section
variable {P:Program}{ops:Array Oper}{n:Nat}{τ₀ τ:Nat→AV}{D:List DV}{Q:CV→Be→Prop}{opn:Nat→Bool}{k:Nat}{H:List A8}{dst:Option Tmp}{ty:TypeId}{pos:String}{aft:Array Edge}{c:Call}{f:Operand}{fid:FuncId}{first caps A:List AV}{β:Type}{mkv:β→AV}{mkH:β→List A8}
end
end Go.Abs
namespace Go.Eu
open Go.Abs
def TU (ms:List Mv) (n:Nat) (t:Tm):Tm×Int :=
 match YF ms n ⟨[],[],0⟩ t with
 | .ok r=>(r.1,0)
 | .error e=>(Bi,e)
def mX (ms:List Mv) (n:Nat) (t:Tm):List Int×Int:=if (TU ms n t).2≠0 then ([],(TU ms n t).2) else (S7 [] (TU ms n t).1,0)
mutual
def TP (p:Int→Int→ByteArray→List CN→Prop):Tm→Prop
 | .mk k i n l ks=>p k i n l∧Y3 p ks
def Y3 (p:Int→Int→ByteArray→List CN→Prop):List Tm→Prop
 | []=>True
 | t::ts=>TP p t∧Y3 p ts
end
section
variable {p q:Int→Int→ByteArray→List CN→Prop}
mutual
theorem TP.imp (h:∀k i n l,p k i n l→q k i n l):∀(t:Tm),TP p t→TP q t
 | .mk k i n l ks,ht=>⟨h _ _ _ _ ht.1,Y3.imp h ks ht.2⟩
theorem Y3.imp (h:∀k i n l,p k i n l→q k i n l):∀(ts:List Tm),Y3 p ts→Y3 q ts
 | [],_=>trivial
 | t::ts,ht=>⟨TP.imp h t ht.1,Y3.imp h ts ht.2⟩
end
end
def l4 (ms:List Mv) (D:List Int) (k i:Int) (n:ByteArray) (l:List CN):Prop:=known ms (.mk k i n l [])=true→i∈D
abbrev KM (ms:List Mv) (D:List Int):Tm→Prop:=TP (l4 ms D)
abbrev ec (ms:List Mv) (D:List Int):List Tm→Prop:=Y3 (l4 ms D)
theorem KM.mono {ms:List Mv}{D D':List Int}(h:∀i∈D,i∈D') {t:Tm}(ht:KM ms D t):KM ms D' t:=TP.imp (fun k i n l g e=>h _ (g e)) t ht
theorem ec.mono {ms:List Mv}{D D':List Int}(h:∀i∈D,i∈D') {t:List Tm}(ht:ec ms D t):ec ms D' t:=Y3.imp (fun k i n l g e=>h _ (g e)) t ht
theorem KM.head {ms:List Mv}{D:List Int}{h:Tm}(hk:known ms h=true) (ht:KM ms D h):h.index∈D:=by
 obtain⟨k,i,n,l,ks⟩:=h;exact ht.1 hk
theorem KM.kids {ms:List Mv}{D:List Int}{h:Tm}(ht:KM ms D h):ec ms D h.kids:=by
 obtain⟨k,i,n,l,ks⟩:=h;exact ht.2
inductive Ord (ms:List Mv):List Int→Prop
 | nil:Ord ms []
 | snoc {D:List Int} {i:Int}:Ord ms D→i ∉ D→KM ms D (valueOf ms i)→Ord ms (D++[i])
theorem Ord.pre {ms:List Mv}{D:List Int}(h:Ord ms D):∀i∈D,∃D',Ord ms D'∧(∀j∈D',j∈D)∧i ∉ D'∧KM ms D' (valueOf ms i):=by
 induction h with
 | nil=>intro i hi;simp at hi
 | @snoc D j h1 h2 h3 ih =>
  intro i hi;rcases List.mem_append.1 hi with hi | hi
  ·obtain⟨D',a,b,c,d⟩:=ih i hi;exact⟨D',a,fun j hj=>List.mem_append_left _ (b j hj),c,d⟩
  simp at hi;subst hi;exact⟨D,h1,fun j hj=>List.mem_append_left _ hj,h2,h3⟩
def ek:Tm→List Tm→Tm×List Tm
 | v,[]=>(v,[])
 | v,a::l=>if v.kind=5 then ek (Gn (v.kids.getD 1 Bi) [a] 0).1 l else (v,a::l)
section
variable {F F':IP→Tm→Tm×Int×IP}
end
def dx (st:G9):List Int:=st.dn.map Prod.fst
def lQ (ms:List Mv) (t v:Tm):Prop:=∃n ab c d,JY ms n ab c t=(v,0,d)∧d.over=false
structure kY (ms:List Mv) (ab:List Int) (st:G9):Prop where
 op:∀i,i∈st.op↔i∈dx st∨i∈ab
 ord:Ord ms (dx st)
 dis:∀i∈dx st,i ∉ ab
 val:∀p∈st.dn,lQ ms (valueOf ms p.1) p.2
 ok:∀p∈st.dn,Ok 4096 p.2
 w0:0≤st.wk
def pot (ms:List Mv) (B:Nat) (st:G9):Int:=st.wk+(B*free ms st.op:Nat)
structure Step (ms:List Mv) (B:Nat) (ab:List Int) (st st':G9) (s:Nat):Prop where
 inv:kY ms ab st'
 mono:∀i∈dx st,i∈dx st'
 pot:pot ms B st'≤pot ms B st+s
theorem Step.trans {ms:List Mv}{B:Nat}{ab:List Int}{a b c:G9}{s s':Nat}(h:Step ms B ab a b s) (h':Step ms B ab b c s'):Step ms B ab a c (s+s') :=
 ⟨h'.inv,fun i hi=>h'.mono i (h.mono i hi),by have:=h.pot;have:=h'.pot;omega⟩
theorem Step.le {ms:List Mv}{B:Nat}{ab:List Int}{a b:G9}{s s':Nat}(h:Step ms B ab a b s) (hs:s≤s'):Step ms B ab a b s':=⟨h.inv,h.mono,by have:=h.pot;omega⟩
def nO (ms:List Mv) (B:Nat) (ab:List Int) (t:Tm) (s:Nat) (st:G9) (F:Tm×Int×IP) (G:Except Int (Tm×G9)):Prop :=
 (F.2.1=0∧∃st',G= .ok (F.1,st')∧Step ms B ab st st' s∧KM ms (dx st') t)∨(F.2.1=22∧F.1=Bi∧G= .error 22)
def nV (ms:List Mv) (B:Nat) (ab:List Int) (ts:List Tm) (st:G9) (F:List Tm×Int×IP) (G:Except Int (List Tm×G9)):Prop :=
 (F.2.1=0∧∃st',G= .ok (F.1,st')∧Step ms B ab st st' (Bb ts)∧ec ms (dx st') ts)∨(F.2.1=22∧G= .error 22)
def m4 (m:Nat) (k i:Int) (n:ByteArray) (l:List CN):Prop:=k=12→0≤i∧i<(m:Int)
def jB (ms:List Mv) (k i:Int) (n:ByteArray) (l:List CN):Prop:=(k=12→0≤i∧i<(ms.length:Int)∧known ms (.mk k i n l [])=false)∧(k=4→i=0∧n=⟨#[]⟩∧l=[])
def oA (ms:List Mv) (B:Nat) (F:G9→Tm→Except Int (Tm×G9)):Prop:=∀st t r,Ok B t→lH ms st→TP (m4 ms.length) t→(∀p∈st.dn,TP (jB ms) p.2)→F st t= .ok r→TP (jB ms) r.1∧∀p∈r.2.dn,TP (jB ms) p.2
def mE (ms:List Mv) (F:G9→Tm→Except Int (Tm×G9)):Prop:=∀st t,TP (jB ms) t→F st t= .error 11∨∃st',F st t= .ok (t,st')
def nK (F:G9→Tm→Except Int (Tm×G9)):Prop:=∀st t e,F st t= .error e→e=11∨e=22
abbrev wide:Nat:=9223372036854775808
structure m9 (l:CN):Prop where
 vars:l.vars.length<wide
 c:I3 l.const
 v:∀v∈l.vars,I3 v.index∧I3 v.plus
mutual
def Wd:Tm→Prop
 | .mk k i n ls ks=>n.size<wide∧ls.length<wide∧(∀l∈ls,m9 l)∧ks.length<wide∧mC ks∧I3 k∧I3 i
def mC:List Tm→Prop
 | []=>True
 | t::ts=>Wd t∧mC ts
end
mutual
def Fw:Tm→Prop
 | .mk k i n ls ks=>n.size≤200∧ls.length≤20∧(∀l∈ls,l.vars.length≤20)∧iy ks
def iy:List Tm→Prop
 | []=>True
 | t::ts=>Fw t∧iy ts
end
def nu:Tm→Prop
 | .mk k i n ls ks=>n.size≤200∧ls.length≤20∧(∀l∈ls,l.vars.length≤20)∧Bb ks≤200∧D7 ks∧iy ks
structure nD (l:List Tm):Prop where
 sz:Bb l≤200
 nd:D7 l
 fw:iy l
structure iP (m:Nat) (x:Mv):Prop where
 n1:Nd x.type
 n2:Nd x.value
 sz:size x.type+size x.value≤40
 w1:wf 0 m 0 x.type
 w2:x.known=true→wf 0 m 0 x.value
 w3:x.known=false→x.value=Bi
structure mL (l:List Mv):Prop where
 len:l.length≤8
 all:∀m∈l,iP l.length m
structure kB (m:Nat) (ctx terms:List Tm):Prop where
 len:ctx.length≤6
 s1:Bb ctx≤60
 s2:Bb terms≤60
 n1:D7 ctx
 n2:D7 terms
 w2:∀t∈terms,wf ctx.length m 0 t
 w1:∀(i:Nat) (t:Tm),ctx[i]?=some t→wf i m 0 t
structure oq (x:Mv):Prop where
 w1:Wd x.type
 w2:Wd x.value
mutual
theorem bQ {vars m:Int}(hv:vars≤65536):∀(t:Tm) (d:Int),wf vars m d t→0≤d→d+size t≤1073741824→Vp t
 | .mk k i n l ks,d,h,h0,h1=>by
  simp only[wf,size] at h h1;exact⟨fun e=>by have:=h.2.2.2.1 e;omega,V6 hv ks k d 0 h.2.2.2.2.2 h0 An⟩
theorem V6 {vars m:Int}(hv:vars≤65536):∀(ts:List Tm) (k d:Int) (j:Nat),RG vars m k d j ts→0≤d→d+1+Bb ts≤1073741824→I8 ts
 | [],k,d,j,h,h0,h1=>trivial
 | t::ts,k,d,j,h,h0,h1=>by
  have:=Cd k j;simp only[RG,Bb] at h h1;exact⟨bQ hv t _ h.1 An An,V6 hv ts k d (j+1) h.2 h0 An⟩
end
theorem Ok.mono {B B':Nat}{t:Tm}(h:Ok B t) (hb:B≤B'):Ok B' t:=⟨h.nd,h.vp,h.wt,Nat.le_trans h.sz hb⟩
end Go.Eu
