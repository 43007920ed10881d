/- Part of the proofs: an abstract program logic, plain models and contracts of functions. -/
import Derived.Test.YtifphifongokcaaGreatPa
import Derived.MapKept
set_option linter.unusedVariables false
set_option linter.unusedSimpArgs false
namespace Go.Abs
section
variable {P:Program}{ops:Array Oper}{n:Nat}{τ₀:Nat→AV}{D:List Cu}{Q:B7→BJ→Prop}{opn:Nat→Bool}{k:Nat}{τ:Nat→AV}{H:List Ax}{rd:Qs}{ef:Qk}{effs:List Bool}{fx:List (Nat×Sp)}{dst:Option Tmp}{op:Op}{ty:TypeId}{pos:String}{aft:Array Edge}{v:AV}{H':List Ax}
theorem PU {cs:List AV}(fx':List (Nat×Sp)) (ho:ops[k]?=some ⟨dst,op,ty,pos,aft,none⟩) (hn:opn k=true) (h:CW P ⟨dst,op,ty,pos,aft,none⟩ (ev τ) H (FK cs H)) (haft:DR ops k (fx'.map (·.1))=true)
  (next:∀b,HA ops k H (.box b cs::H) rd∧Ew k (.eff (.ptr b 0) (.box b cs::H)) fx∧Dr P ops n τ₀ D Q opn (k+1) (put τ dst (.ptr b 0)) (.box b cs::H) rd ((k,H,.box b cs::H)::ef) (true::effs) (fx'++fx)):Dr P ops n τ₀ D Q opn k τ H rd ef effs fx :=
 JS fx' ho hn h haft ⟨_,_,0,rfl,rfl⟩ (fun _ _ h=>h.elim) (fun v H' ⟨b,h1,h2⟩=>by subst h1;subst h2;exact next b)
theorem KU {i sz:Nat}{rows:List (List PV)}(fx':List (Nat×Sp)) (ho:ops[k]?=some ⟨dst,op,ty,pos,aft,none⟩) (hn:opn k=true) (h:CW P ⟨dst,op,ty,pos,aft,none⟩ (ev τ) H (Jp i sz rows H)) (haft:DR ops k (fx'.map (·.1))=true)
  (next:∀o c,HA ops k H (H.set i (.vec o sz rows c)) rd∧Ew k (.eff (.vs o rows.length c) (H.set i (.vec o sz rows c))) fx∧Dr P ops n τ₀ D Q opn (k+1) (put τ dst (.vs o rows.length c)) (H.set i (.vec o sz rows c)) rd ((k,H,H.set i (.vec o sz rows c))::ef) (true::effs) (fx'++fx)):Dr P ops n τ₀ D Q opn k τ H rd ef effs fx :=
 JS fx' ho hn h haft ⟨_,_,none,0,rfl,rfl⟩ (fun _ _ h=>h.elim) (fun v H' ⟨o,c,h1,h2⟩=>by subst h1;subst h2;exact next o c)
def Dz (v:AV) (H':List Ax):Ct→List Ax→Prop
 | .val v',H''=>v'=v∧H''=H'
 | .panic _,_=>False
theorem XW {c:Call}{g:Option (Nat×Bool)}{f:Operand}{fid:FuncId}{first caps:List AV}{ρ:Operand→AV}{Hs Hf Hs':List Ax}{A:List AV}
  (hc:c.callee= .value f) (hf:(ρ f= .p (.fn fid)∧first=[]∧caps=[])∨ρ f= .fn (.func fid) first caps) (hp:H.Perm (Hs++Hf)) (h:Bb P fid A Hs (Dz v Hs')) (hA:first++c.args.toList.map ρ++caps=A∨(first++c.args.toList.map ρ++caps).map norm=A) :
  Co P ⟨dst,.call c,ty,pos,aft,g⟩ ρ H v (Hs'++Hf):=by
 refine(EX (H:=H) hc hf hp h hA).mono ?_;rintro r H' ⟨Hs',h1,rfl⟩;cases r with
 | val v'=>obtain⟨rfl,rfl⟩:=h1;exact⟨rfl,rfl⟩
 | panic v'=>exact h1
end
def hQ (k:Int):List (Int×AV)→Option AV
 | []=>none
 | (j,x)::r=>if j=k then some x else hQ k r
def fh (k:Int) (v:AV):List (Int×AV)→List (Int×AV)
 | []=>[(k,v)]
 | (j,x)::r=>if j=k then (j,v)::r else (j,x)::fh k v r
def iM (l:List (Int×AV)):List (PV×AV):=l.map fun p=>(.int .i64 p.1,p.2)
def mapOf (P:Program) (T:TypeId):Option TypeId :=
 match P.underlying T with
 | some (.map k e)=>match P.underlying k with
  | some (.int .i64)=>some e
  | _=>none
 | _=>none
section
variable {F:Nat→Prop}{w:World}
end
section
variable {P:Program}{dst:Option Tmp}{ty:TypeId}{pos:String}{aft:Array Edge}{g:Option (Nat×Bool)}{ρ:Operand→AV}{H:List Ax}{x y z:Operand}{v:AV}
def fe (H:List Ax):Ct→List Ax→Prop
 | .val v,H'=>∃b,v= .map b∧H'= .map b (iM [])::H
 | .panic _,_=>False
theorem Kb {T:TypeId}{d:TypeDesc}{a b:Value}{c:Bool}{w:World}(hu:P.underlying T=some d) (h:(match d,a,b with
  | .bool,.bool x,.bool y=>some (x==y)
  | .interface _,.nilIface,.nilIface=>some true
  | .interface _,.iface _ _,.nilIface=>some false
  | .slice _,.slice none _ _,.slice none _ _=>some true
  | .slice _,.slice (some _) _ _,.slice none _ _=>some false
  | _,_,_=>none)=some c):(Op.equal T a b).run P w= .ok c w:=by
 unfold Op.equal;rw[show Op.maxDepth=9999+1 from rfl];unfold Op.equalIn;simp only[Sem.run_bind,run_underlying hu,Result.andThen_ok];split at h<;>simp_all
theorem Hv {T U:TypeId}{ms:Array (String×TypeId)}{X:PV}{b:Bool}(hu:P.underlying T=some (.interface ms)) (hx:ρ x= .p X) (hy:ρ (.const .nilIface)= .p .nilIface) (hX:(match X with | .nilIface=>some false | .iface _ _=>some true | _=>none)=some b):Co P ⟨dst,.binOp .neq T x (.const .nilIface) U,ty,pos,aft,g⟩ ρ H (.p (.bool b)) H :=
 Bn fun F w E hH hE=>by
  have e2:=hE (.const .nilIface) AW;rw[hy] at e2;simp only[Bl,Bt] at e2;have e1:=hE x AW;rw[hx] at e1;have hg:∀a,(eqGuard .neq T x (.const .nilIface) a .nilIface).run P w= .ok () w:=by
   intro a;unfold eqGuard;cases a<;>simp<;>rfl
  refine⟨.bool b,?_,by simp[Bl,Bt]⟩;cases X with
  | nilIface =>
   simp at hX;subst hX;simp only[Bl,Bt] at e1;have hq:(Op.equal T .nilIface .nilIface).run P w= .ok true w:=Kb hu rfl;simp[execOp,Sem.run_bind,hg,e1,e2,binOp,hq]
  | iface t c =>
   simp at hX;subst hX;simp only[Bl,Bt] at e1;obtain⟨u,e1,_⟩:=e1;have hq:(Op.equal T (.iface t u) .nilIface).run P w= .ok false w:=Kb hu rfl;simp[execOp,Sem.run_bind,hg,e1,e2,binOp,hq]
  | _=>simp at hX
theorem NN {T e:TypeId}{len sz b o:Nat}{k:IntKind}{i:Int}{inf:TypeInfo}(hu:P.underlying T=some (.array len e)) (hj:P.info? e=some inf) (hs:inf.size=sz) (hx:ρ x= .ptr b o) (hy:ρ y= .p (.int k i)) (h0:0≤i) (hn:i<len) :
  Co P ⟨dst,.indexAddr T x y,ty,pos,aft,g⟩ ρ H (.ptr b (o+i.toNat*sz)) H :=
 Bn fun F w E hH hE=>by
  have h1:=hE x AW;have h2:=hE y AW;rw[hx] at h1;rw[hy] at h2;simp only[Bl,Bt] at h1 h2;refine⟨.pointer (some ⟨b,o+i.toNat*sz,none⟩),?_,by simp[Bl]⟩;simp[execOp,Instr.indexAt,Sem.run_bind,run_underlying hu,h1,h2,asIntOf,h0,hn,sizeOf,typeInfo,hj,hs,Addr.add_mid,Instr.sureAddr,asAddr]
theorem NP {T e:TypeId}{len:Nat}{parts:Array (Nat×Operand)}{z:Value}{cs:List AV}{inf:TypeInfo}(hu:P.underlying T=some (.array len e)) (hj:P.info? e=some inf) (hz:zeroOf P T=some z)
  (hc:ES (fun i=>some (i*inf.size,inf.size)) (z.cells.toList.map FU) (parts.toList.map fun p=>(p.1,ρ p.2))=some cs):Co P ⟨dst,.build T parts,ty,pos,aft,g⟩ ρ H (.agg cs) H :=
 Bn fun F w E hH hE=>by
  unfold zeroOf at hz;cases hi:P.info? T with
  | none=>simp[hi] at hz
  | some i =>
   have hz':i.zero=some z:=by simpa [hi] using hz
   have hzv:(zeroValue T).run P w= .ok z w:=by simp[zeroValue,typeInfo,hi,hz',Sem.run_bind]
   have hsz:(sizeOf e).run P w= .ok inf.size w:=by simp[sizeOf,typeInfo,hj]
   obtain⟨us,hf,hr⟩:=G4 (F:=F) (w:=w) (place:=(fun i=>some (i*inf.size,inf.size))) _ (parts.toList.map fun p=>(p.1,E p.2)) _ z.cells.toList _ Ai (by
    intro j p q h1 h2;simp only[List.getElem?_map] at h1 h2;cases hj:parts.toList[j]? with
    | none=>simp[hj] at h1
    | some t =>
     simp[hj] at h1 h2;subst h1;subst h2;exact⟨O,hE _ (by
      have:=List.mem_of_getElem? hj;simp only[Op.operands];exact List.mem_map.2 ⟨t,this,O⟩)⟩) (En _) hc
   refine⟨.agg ⟨us⟩,?_,by simp only[Bl];exact⟨us,rfl,hr⟩⟩;simp only[execOp,Instr.build,Sem.run_bind,hzv,Result.andThen_ok,run_underlying hu,hsz];have hf':Instr.fill (fun i=>some (i*inf.size,inf.size)) z.cells (parts.toList.map fun p=>(p.1,E p.2))=some ⟨us⟩:=hf;simp[hf']
end
def JT (P:Program) (T:TypeId):Bool :=
 match P.underlying T with
 | some (.struct fs)=>match fs.toList with
  | [f,g]=>f.name != "_" &&g.name != "_" &&Nat.beq f.offset 0&&Nat.beq g.offset 1&&(match P.underlying f.type,P.underlying g.type with | some (.int .i64),some (.int .i64)=>true | _,_=>false)&& !P.stoodInHeld T&& !P.eqGuardType P.depth T
  | _=>false
 | _=>false
theorem Q4 {P:Program}{T:TypeId}{a b c d:Int}{w:World}(h:JT P T=true):(Op.equal T (.agg #[.int .i64 a,.int .i64 b]) (.agg #[.int .i64 c,.int .i64 d])).run P w= .ok (a==c&&b==d) w:=by
 unfold JT at h;split at h
 ·rename_i fs hu;split at h
  ·rename_i f g hfs;obtain rfl:fs=#[f,g]:=by apply Array.ext';simpa using hfs
   simp only[Bool.and_eq_true,bne_iff_ne,ne_eq,Bool.not_eq_true'] at h;obtain⟨⟨⟨⟨⟨⟨h1,h2⟩,h3⟩,h4⟩,h5⟩,h6⟩,h7⟩:=h;split at h5
   ·rename_i hf hg;have e3:=Nat.eq_of_beq_eq_true h3;have e4:=Nat.eq_of_beq_eq_true h4;have hp:(program).run P w= .ok P w:=rfl;have af:(isAgg f.type).run P w= .ok false w:=IL hf false rfl w;have ag:(isAgg g.type).run P w= .ok false w:=IL hg false rfl w;have pf:∀x y,(part f.type #[.int .i64 x,.int .i64 y] f.offset).run P w= .ok (.int .i64 x) w:=by
     intro x y;unfold part;simp[Sem.run_bind,af,e3]
    have pg:∀x y,(part g.type #[.int .i64 x,.int .i64 y] g.offset).run P w= .ok (.int .i64 y) w:=by
     intro x y;unfold part;simp[Sem.run_bind,ag,e4]
    have qf:∀x y,(Op.equalIn 9999 f.type (.int .i64 x) (.int .i64 y)).run P w= .ok (x==y) w:=by
     intro x y;rw[show (9999:Nat)=9998+1 from rfl];unfold Op.equalIn;simp[Sem.run_bind,run_underlying hf]
    have qg:∀x y,(Op.equalIn 9999 g.type (.int .i64 x) (.int .i64 y)).run P w= .ok (x==y) w:=by
     intro x y;rw[show (9999:Nat)=9998+1 from rfl];unfold Op.equalIn;simp[Sem.run_bind,run_underlying hg]
    unfold Op.equal;rw[show Op.maxDepth=9999+1 from rfl];unfold Op.equalIn;simp only[Sem.run_bind,run_underlying hu,Result.andThen_ok,hp,h6];simp[Sem.run_bind,h1,h2,pf,pg,qf,qg];cases hac:(a==c)<;>cases hbd:(b==d)<;>simp_all [Sem.run_bind,h1,h2,pf,pg,qf,qg]
   cases h5
  cases h
 cases h
section
variable {P:Program}{dst:Option Tmp}{ty:TypeId}{pos:String}{aft:Array Edge}{g:Option (Nat×Bool)}{ρ:Operand→AV}{H:List Ax}{x y z:Operand}{v:AV}
theorem N0 {T U:TypeId}{a b c d:Int}(h:JT P T=true) (hx:ρ x= .agg [.p (.int .i64 a),.p (.int .i64 b)]) (hy:ρ y= .agg [.p (.int .i64 c),.p (.int .i64 d)]):Co P ⟨dst,.binOp .neq T x y U,ty,pos,aft,g⟩ ρ H (.p (.bool (!(a==c&&b==d)))) H :=
 Bn fun F w E hH hE=>by
  have e1:=hE x AW;have e2:=hE y AW;rw[hx] at e1;rw[hy] at e2;simp only[Bl,BY,Bt] at e1 e2;obtain⟨vs,e1,u1,us1,rfl,rfl,u2,us2,rfl,rfl,rfl⟩:=e1;obtain⟨vs',e2,v1,vs1,rfl,rfl,v2,vs2,rfl,rfl,rfl⟩:=e2;refine⟨.bool (!(a==c&&b==d)),?_,by simp[Bl,Bt]⟩;have hq:=Q4 (P:=P) (T:=T) (a:=a) (b:=b) (c:=c) (d:=d) (w:=w) h;have h':=h;have hg:(eqGuard .neq T x y (.agg #[.int .i64 a,.int .i64 b]) (.agg #[.int .i64 c,.int .i64 d])).run P w= .ok () w:=by
   unfold JT at h';split at h'
   ·split at h'
    ·simp only[Bool.and_eq_true,Bool.not_eq_true'] at h';have h7:=h'.2;have hp:(program).run P w= .ok P w:=rfl;unfold eqGuard;simp[Sem.run_bind,hp,h7]
    cases h'
   cases h'
  simp[execOp,Sem.run_bind,hg,e1,e2,binOp,hq]
end
theorem MU {P:Program}{r:Option Nat}{c:Code}{S:BJ}{Q:B7→BJ→Prop}(N:Nat) (C:Nat→Prop) (St:Nat→BJ) (i₀:Nat) (h₀:i₀≤N) (hC:C i₀) (l:Le S (St i₀))
  (round:∀i,i≤N→C i→FJ P r c (St i) (Mp (fun S'=>i<N∧C (i+1)∧Le S' (St (i+1))) Q)):FJ P r (.loop c) S Q:=by
 refine MZ (fun m S=>∃i,i≤N∧m=N - i∧C i∧S=St i) (m:=N - i₀) l ⟨i₀,h₀,O,hC,O⟩ ?_;rintro m S ⟨i,hi,rfl,hc,rfl⟩;refine(round i hi hc).mono ?_;intro e S' h;cases e with
 | normal =>
  obtain⟨h1,h2,h3⟩:=h;exact⟨N - (i+1),St (i+1),by omega,h3,i+1,by omega,rfl,h2,rfl⟩
 | exit id=>exact h
 | ret=>exact h
 | panic v=>exact h
theorem BZ {α:Type}{P:Program}{r:Option Nat}{c:Code}{S:BJ}{Q:B7→BJ→Prop}(St:α→BJ) (μ:α→Nat) (C:α→Prop) (a₀:α) (hC:C a₀) (l:Le S (St a₀))
  (round:∀a,C a→FJ P r c (St a) (Mp (fun S'=>∃a',μ a' < μ a∧C a'∧Le S' (St a')) Q)):FJ P r (.loop c) S Q:=by
 refine MZ (fun m S=>∃a,m=μ a∧C a∧S=St a) (m:=μ a₀) l ⟨a₀,O,hC,O⟩ ?_;rintro m S ⟨a,rfl,hc,rfl⟩;refine(round a hc).mono ?_;intro e S' h;cases e with
 | normal =>
  obtain⟨a',h1,h2,h3⟩:=h;exact⟨μ a',St a',h1,h3,a',O,h2,O⟩
 | exit id=>exact h
 | ret=>exact h
 | panic v=>exact h
abbrev wr (n:Int):Int:=IntKind.i64.wrap n
section
variable {P:Program}{dst:Option Tmp}{ty:TypeId}{pos:String}{aft:Array Edge}{g:Option (Nat×Bool)}{ρ:Operand→AV}{H:List Ax}{x y z:Operand}{v:AV}
theorem DJ {m n:Int}{T U:TypeId}(hx:ρ x= .p (.int .i64 m)) (hy:ρ y= .p (.int .i64 n)):Co P ⟨dst,.binOp .add T x y U,ty,pos,aft,g⟩ ρ H (.p (.int .i64 (wr (m+n)))) H :=
 Bn fun F w E hH hE=>by
  have e1:=hE x AW;have e2:=hE y AW;rw[hx] at e1;rw[hy] at e2;simp only[Bl,Bt] at e1 e2;exact⟨.int .i64 (wr (m+n)),by simp[execOp,Sem.run_bind,GP,e1,e2,binOp,Op.intArith],by simp[Bl,Bt]⟩
theorem FF {m n:Int}{T U:TypeId}(hx:ρ x= .p (.int .i64 m)) (hy:ρ y= .p (.int .i64 n)):Co P ⟨dst,.binOp .sub T x y U,ty,pos,aft,g⟩ ρ H (.p (.int .i64 (wr (m - n)))) H :=
 Bn fun F w E hH hE=>by
  have e1:=hE x AW;have e2:=hE y AW;rw[hx] at e1;rw[hy] at e2;simp only[Bl,Bt] at e1 e2;exact⟨.int .i64 (wr (m - n)),by simp[execOp,Sem.run_bind,GP,e1,e2,binOp,Op.intArith],by simp[Bl,Bt]⟩
end
def iP (R:AV→Prop):Ct→List Ax→Prop
 | .val v,H'=>R v∧H'=[]
 | .panic _,_=>False
abbrev IW (P:Program) (f:FuncId) (args:List AV) (R:AV→Prop):Prop:=Bb P f args [] (iP R)
theorem IW.of {P:Program}{f:FuncId}{args:List AV}{v:AV}{R:AV→Prop}(h:Df P f args v) (hR:R v):IW P f args R :=
 Bb.mono h fun r H hr=>by
  cases r with
  | val v'=>obtain⟨rfl,rfl⟩:=hr;exact⟨hR,rfl⟩
  | panic v'=>exact hr
def Nt (R:AV→Prop) (H:List Ax):Ct→List Ax→Prop
 | .val v,H'=>R v∧H'=H
 | .panic _,_=>False
section
variable {P:Program}{r:Option Nat}{ops:Array Oper}{Q:B7→BJ→Prop}{k:Nat}{n:Nat}{τ:Nat→AV}{H H':List Ax}{D:List Cu}{dst:Option Tmp}{op:Op}{ty:TypeId}{pos:String}{aft:Array Edge}{g:Option (Nat×Bool)}{v:AV}
theorem C4 {c:Call}{f:Operand}{fid:FuncId}{ρ:Operand→AV}{A:List AV}{R:AV→Prop}(hc:c.callee= .value f) (hf:ρ f= .p (.fn fid)) (h:IW P fid A R) (hA:c.args.toList.map ρ=A∨(c.args.toList.map ρ).map norm=A) :
  CW P ⟨dst,.call c,ty,pos,aft,g⟩ ρ H (Nt R H):=by
 refine(EX (H:=H) (Hs:=[]) (Hf:=H) (first:=[]) (caps:=[]) hc (.inl ⟨hf,O,O⟩) (A:=A) Ai h (by simpa using hA)).mono ?_;rintro r H' ⟨Hs',h1,rfl⟩;cases r with
 | val v'=>obtain⟨h1,rfl⟩:=h1;exact⟨h1,rfl⟩
 | panic v'=>exact h1
theorem Gb {R:AV→Prop}(ho:ops[k]?=some ⟨dst,op,ty,pos,aft,none⟩) (hd:Ei dst n=true) (h:CW P ⟨dst,op,ty,pos,aft,none⟩ (ev τ) H (Nt R H))
  (next:∀v,R v→AL P r ops (k+1) ⟨n,put τ dst v,H,D⟩ Q):AL P r ops k ⟨n,τ,H,D⟩ Q :=
 EA (S:=⟨n,τ,H,D⟩) ho Ab (Ft hd) h (fun v H' ⟨h1,h2⟩=>by subst h2;exact next v h1) (fun _ _ h=>h.elim)
theorem IE {R:AV→Prop}{j d:Nat}{want:Bool}(ho:ops[k]?=some ⟨dst,op,ty,pos,aft,some (j,want)⟩) (hd:Ei dst n=true) (hj:(ops[j]?).bind (·.dst)=some d) (hb:τ d= .p (.bool want)) (h:CW P ⟨dst,op,ty,pos,aft,some (j,want)⟩ (ev τ) H (Nt R H))
  (next:∀v,R v→AL P r ops (k+1) ⟨n,put τ dst v,H,D⟩ Q):AL P r ops k ⟨n,τ,H,D⟩ Q :=
 EA (S:=⟨n,τ,H,D⟩) ho (by simp only[CL];exact⟨d,hj,hb⟩) (Ft hd) h (fun v H' ⟨h1,h2⟩=>by subst h2;exact next v h1) (fun _ _ h=>h.elim)
end
section
variable {P:Program}{ops:Array Oper}{n:Nat}{τ₀:Nat→AV}{D:List Cu}{Q:B7→BJ→Prop}{opn:Nat→Bool}{k:Nat}{τ:Nat→AV}{H:List Ax}{rd:Qs}{ef:Qk}{effs:List Bool}{fx:List (Nat×Sp)}{dst:Option Tmp}{op:Op}{ty:TypeId}{pos:String}{aft:Array Edge}
theorem ZL {R:AV→Prop}(fx':List (Nat×Sp)) (ho:ops[k]?=some ⟨dst,op,ty,pos,aft,none⟩) (hn:opn k=true) (h:CW P ⟨dst,op,ty,pos,aft,none⟩ (ev τ) H (Nt R H)) (haft:DR ops k (fx'.map (·.1))=true) (hne:∃v,R v) (owe:HA ops k H H rd)
  (next:∀v,R v→Ew k (.eff v H) fx∧Dr P ops n τ₀ D Q opn (k+1) (put τ dst v) H rd ((k,H,H)::ef) (true::effs) (fx'++fx)):Dr P ops n τ₀ D Q opn k τ H rd ef effs fx :=
 JS fx' ho hn h haft (let ⟨v,hv⟩:=hne;⟨v,H,hv,rfl⟩) (fun _ _ h=>h.elim) (fun v H' ⟨h1,h2⟩=>by subst h2;exact⟨owe,next v h1⟩)
end
theorem BO {P:Program}{r:Option Nat}{c:Code}{Q:B7→BJ→Prop}{n:Nat}{τ:Nat→AV}{H:List Ax}{D:List Cu}(live:List Nat) (d:Nat) (R:AV→Prop) (h:FJ P r c ⟨n,τ,H,D⟩ (Mp (fun S'=>S'.n=n∧S'.D=D∧H.Sublist S'.H∧R (S'.τ d)∧aK S'.τ τ live) Q))
  (next:∀x,R x→Q .normal ⟨n,mk ((d,x)::live.map fun t=>(t,τ t)),H,D⟩):FJ P r c ⟨n,τ,H,D⟩ Q:=by
 intro F a w hs;refine wpIn_mono (h F a w hs) ?_;rintro e a' w' ⟨e',S',F',hq,he,hs',ht⟩;cases e' with
 | normal =>
  obtain⟨n',τ',H',D'⟩:=S';obtain⟨h1,h3,h2,h4,h5⟩:=hq;simp only at h1 h2 h3 h4 h5;subst h1;subst h3;have l:Le ⟨n',τ',H',D'⟩ ⟨n',mk ((d,τ' d)::live.map fun t=>(t,τ t)),H,D'⟩:=DL ⟨rfl,Ko h5⟩ h2;exact⟨.normal,_,F',next _ h4,he,hs'.le l,ht.sublist h2⟩
 | exit id=>exact⟨.exit id,S',F',hq,he,hs',ht⟩
 | ret=>exact⟨.ret,S',F',hq,he,hs',ht⟩
 | panic v=>exact⟨.panic v,S',F',hq,he,hs',ht⟩
def Lq (v:AV):Prop:=∃b:Bool,v= .p (.bool b)
def bX (v:AV):Prop:=∃e:Int,v= .p (.int .i64 e)
end Go.Abs
namespace Go.Eu
open Go.Abs
noncomputable def E9 {α:Type}(a b:α):Bool:= @decide (a=b) (Classical.propDecidable _)
theorem CR {α:Type}{a b:α}(h:a=b):E9 a b=true:=by simp[E9,h]
theorem CI {α:Type}{a b:α}(h:a≠b):E9 a b=false:=by simp[E9,h]
theorem EE {α:Type}{a b:α}:E9 a b=true↔a=b:=by simp[E9]
abbrev LV (l:CB):AV:= .agg ((Bz l).map .p)
abbrev K8 (ts:List Tm):AV:= .p (.lst (Ay ts))
abbrev e6 (ls:List CB):AV:= .p (.lst (ls.map Bz))
theorem D8 {ts:List B9}{i:Nat}{t:B9}(h:ts[i]?=some t):(ts.map I9)[i]?=some (I9 t):=by simp[h]
theorem F6 {ts:List CB}{i:Nat}{t:CB}(h:ts[i]?=some t):(ts.map Bz)[i]?=some (Bz t):=by simp[h]
def agree {α:Type}(a b:List α) (i:Nat):Prop:=a.take i=b.take i
theorem JE {α:Type}(a b:List α):agree a b 0:=by simp[agree]
theorem JG {α:Type}{a b:List α}{i:Nat}{x:α}(h:agree a b i) (ha:a[i]?=some x) (hb:b[i]?=some x):agree a b (i+1):=by
 unfold agree at *;rw[List.take_add_one,List.take_add_one,ha,hb,h]
theorem J7 {α:Type}{a b:List α}{n:Nat}(h:agree a b n) (ha:a.length=n) (hb:b.length=n):a=b:=by
 unfold agree at h
 rwa [List.take_of_length_le Ah,List.take_of_length_le Ah] at h
theorem A0 {α:Type}{l:List α}{i:Nat}(h:i<l.length):∃x,l[i]?=some x:=⟨_,List.getElem?_eq_getElem h⟩
abbrev Cr:Nat:=1099511627776
def Gy (n:Int):Prop:= -9223372036854775808≤n∧n≤9223372036854775807
structure X8 (l:CB):Prop where
 vars:l.vars.length<Cr
 c:Gy l.const
 v:∀v∈l.vars,Gy v.index∧Gy v.plus
mutual
def Nd:Tm→Prop
 | .mk k i n ls ks=>n.size<Cr∧ls.length<Cr∧(∀l∈ls,X8 l)∧ks.length<Cr∧Ej ks∧Gy k∧Gy i
def Ej:List Tm→Prop
 | []=>True
 | t::ts=>Nd t∧Ej ts
end
theorem CY:∀{ts:List Tm}{i:Nat}{t:Tm},Ej ts→ts[i]?=some t→Nd t
 | [],i,t,_,h=>by simp at h
 | a::ts,0,t,hn,h=>by simp at h;subst h;exact hn.1
 | a::ts,i+1,t,hn,h=>by simp at h;exact CY hn.2 h
mutual
def depth:Tm→Nat
 | .mk _ _ _ _ ks=>EH ks+1
def EH:List Tm→Nat
 | []=>0
 | t::ts=>max (depth t) (EH ts)
end
theorem QV {ts:List Tm}{i:Nat}{t:Tm}(h:ts[i]?=some t):EH (ts.take (i+1))=max (EH (ts.take i)) (depth t):=by
 induction ts generalizing i with
 | nil=>simp at h
 | cons a ts ih =>
  cases i with
  | zero=>simp at h;subst h;simp[EH]
  | succ i=>simp at h;simp only[List.take_succ_cons,EH,ih h];omega
mutual
theorem NL:∀t:Tm,depth t≤size t
 | .mk _ _ _ _ ks=>by simp only[depth,size];have:=FO ks;omega
theorem FO:∀ts:List Tm,EH ts≤BC ts
 | []=>by simp[EH]
 | t::ts=>by simp only[EH,BC];have:=NL t;have:=FO ts;omega
end
theorem Mf {ts:List Tm}(i:Nat):EH (ts.take i)≤EH ts:=by
 induction ts generalizing i with
 | nil=>simp[EH]
 | cons a ts ih =>
  cases i with
  | zero=>simp[EH]
  | succ i=>simp only[List.take_succ_cons,EH];have:=ih i;omega
end Go.Eu
namespace Go.Eu
theorem J3 (bs : ByteArray) : ∀ (d i : Nat) (r : List UInt8), bs.size - i = d → ByteArray.toList.loop bs i r = r.reverse ++ bs.data.toList.drop i := by
 intro d
 induction d with
 | zero =>
  intro i r h
  unfold ByteArray.toList.loop
  have : ¬ i < bs.size := by omega
  simp only [this, if_false]
  rw [List.drop_eq_nil_of_le (by have : bs.data.size = bs.size := rfl; simp; omega)]; simp
 | succ d ih =>
  intro i r h
  unfold ByteArray.toList.loop
  have hi : i < bs.size := by omega
  simp only [hi, if_true]
  rw [ih (i + 1) _ Ah]
  have hlt : i < bs.data.toList.length := by have : bs.data.size = bs.size := rfl; simp; omega
  rw [List.drop_eq_getElem_cons hlt]
  have : bs.get! i = bs.data.toList[i] := by
   have h2 : i < bs.data.size := by simpa using hlt
   show bs.data[i]! = _
   rw [getElem!_pos bs.data i h2]; simp
  simp [this]
theorem Jc (bs:ByteArray):bs.toList=bs.data.toList:=by
 unfold ByteArray.toList;rw[J3 bs _ 0 [] rfl];simp
theorem Gl {a b:ByteArray}(h:a.toList=b.toList):a=b:=by
 rw[Jc,Jc] at h;cases a;cases b;simp at h;congr
end Go.Eu
namespace Go.Eu
open Go.Abs
mutual
def C5:Tm→Int→Int
 | .mk _ _ _ _ ks,most=>DA ks most 0
def DA:List Tm→Int→Int→Int
 | [],_,n=>n
 | t::ts,most,n=>if n > most then n else DA ts most (wr (n+wr (1+C5 t (wr (most - n)))))
end
theorem OY {l:List Tm}{i:Nat}{t:Tm}{most n:Int}(h:l[i]?=some t):DA (l.drop i) most n=if n > most then n else DA (l.drop (i+1)) most (wr (n+wr (1+C5 t (wr (most - n))))):=by
 have hlt:i<l.length:=(List.getElem?_eq_some_iff.1 h).1;rw[List.drop_eq_getElem_cons hlt];have:l[i]=t:=by simpa [List.getElem?_eq_getElem hlt] using h
 rw[this,DA]
end Go.Eu
namespace Go.Eu
def arity (k:Int):Int:=if k=4∨k=5∨k=6∨k=7 then 2 else if k=8∨k=11 then 3 else if k=9∨k=10 then 1 else 0
def below (k i:Int):Int:=if ((i==1&&(k==5||k==6||k==7))||(i==2&&k==11))=true then 1 else 0
def RM:Tm→Prop
 | .mk kd _ _ _ ks=>0≤kd∧kd<13∧(ks.length:Int)=arity kd
mutual
def wf (vars metas:Int):Int→Tm→Prop
 | d,.mk kd ix _ _ ks=>0≤kd∧kd<13∧(ks.length:Int)=arity kd∧(kd=0→0≤ix∧ix - d<vars)∧(kd=12→0≤ix∧ix<metas)∧Wi vars metas kd d 0 ks
def Wi (vars metas:Int):Int→Int→Nat→List Tm→Prop
 | _,_,_,[]=>True
 | kd,d,i,t::ts=>wf vars metas (d+below kd i) t∧Wi vars metas kd d (i+1) ts
end
theorem G0 {vars metas kd d:Int}:∀{ks:List Tm}{i:Nat},(∀j t,ks[j]?=some t→wf vars metas (d+below kd ((i+j:Nat):Int)) t)→Wi vars metas kd d i ks
 | [],i,_=>by simp[Wi]
 | t::ts,i,h=>by
  simp only[Wi];exact⟨by have:=h 0 t rfl;simpa using this,G0 fun j t' ht=>by have:=h (j+1) t' (by simpa using ht);rw[show i+1+j=i+(j+1) by omega];exact this⟩
theorem CE (k i:Int):0≤below k i∧below k i≤1:=by unfold below;split<;>omega
theorem DQ {α:Type}{l:List α}{p:Nat→α→Prop}{i:Nat}{x:α}(h:∀j,j<i→∀t,l[j]?=some t→p j t) (hx:l[i]?=some x) (hp:p i x):∀j,j<i+1→∀t,l[j]?=some t→p j t:=by
 intro j hj t ht;rcases Nat.lt_or_ge j i with h' | h'
 ·exact h j h' t ht
 have e:j=i:=by omega
 subst e;rw[hx] at ht;injection ht with ht;subst ht;exact hp
end Go.Eu
namespace Go.Abs
section
variable {α:Type}
def Kk (is:List Nat):Nat→List α→List α
 | _,[]=>[]
 | k,a::l=>bif is.any (Nat.beq k ·) then a::Kk is (k+1) l else Kk is (k+1) l
theorem KZ (is:List Nat):∀(k:Nat) (l:List α),(Kk is k l).Sublist l
 | _,[]=>List.Sublist.refl _
 | k,a::l=>by
  simp only[Kk];cases is.any (Nat.beq k ·)
  ·exact(KZ is (k+1) l).cons _
  exact(KZ is (k+1) l).cons_cons _
theorem CM {is:List Nat}{l l':List α}(h:Kk is 0 l=l'):l'.Sublist l:=h▸KZ is 0 l
def Dg (H:List α):List Nat→List α→Prop
 | [],xs=>xs=[]
 | i::is,xs=>∃x xs',xs=x::xs'∧H[i]?=some x∧Dg H is xs'
def Ic (H:List α):List Nat→List α→List α
 | i::is,x::xs=>Ic (H.set i x) is xs
 | _,_=>H
def CG (is:List Nat):Nat→List α→List α
 | _,[]=>[]
 | k,a::l=>if k∈is then CG is (k+1) l else a::CG is (k+1) l
theorem Kn:∀(k:Nat) (l:List α),CG [] k l=l
 | _,[]=>rfl
 | k,a::l=>by simp[CG,Kn (k+1) l]
theorem Kz {is:List Nat}{j:Nat}:∀(k:Nat) (l:List α),j<k→CG (j::is) k l=CG is k l
 | _,[],_=>rfl
 | k,a::l,h=>by
  have:k≠j:=by omega
  have ih:=Kz (is:=is) (j:=j) (k+1) l Ah;simp[CG,this,ih]
theorem JN {is:List Nat}{x:α}:∀(l:List α) (k i:Nat),l[i]?=some x→(k+i) ∉ is→(CG is k l).Perm (x::CG ((k+i)::is) k l)
 | [],k,i,h,_=>by simp at h
 | a::l,k,0,h,hn=>by
  simp at h hn;subst h;simp[CG,hn,Kz (k+1) l (Nat.lt_succ_self k)]
 | a::l,k,i+1,h,hn=>by
  simp at h;have ih:=JN l (k+1) i h (by rw[show k+1+i=k+(i+1) by omega];exact hn);rw[show k+1+i=k+(i+1) by omega] at ih;have hk:k≠k+(i+1):=by omega
  simp only[CG,List.mem_cons,hk,false_or];split
  ·exact ih
  exact(ih.cons a).trans (.swap _ _ _)
theorem CK {H:List α}:∀{is:List Nat}{xs:List α},is.Nodup→Dg H is xs→H.Perm (xs++CG is 0 H)
 | [],xs,_,h=>by simp only[Dg] at h;subst h;simp[Kn]
 | i::is,xs,hn,h=>by
  obtain⟨x,xs',rfl,hx,hr⟩:=h;have hn':=List.nodup_cons.1 hn;have ih:=CK hn'.2 hr;have:=JN (is:=is) H 0 i hx (by simpa using hn'.1);simp only[Nat.zero_add] at this;exact ih.trans (((List.Perm.refl xs').append this).trans List.perm_middle)
theorem Kl {is:List Nat}{y:α}:∀(l:List α) (k i:Nat),(k+i)∈is→CG is k (l.set i y)=CG is k l
 | [],k,i,_=>by simp
 | a::l,k,0,h=>by simp at h;simp[CG,h]
 | a::l,k,i+1,h=>by
  have:=Kl (y:=y) l (k+1) i (by rw[show k+1+i=k+(i+1) by omega];exact h);simp only[List.set_cons_succ,CG,this]
theorem Mh {i:Nat}{y:α}:∀{is:List Nat}{xs H:List α},i ∉ is→Dg H is xs→Dg (H.set i y) is xs
 | [],xs,H,_,h=>h
 | j::is,xs,H,hn,h=>by
  obtain⟨x,xs',rfl,hx,hr⟩:=h;simp at hn;exact⟨x,xs',O,by rw[List.getElem?_set_ne hn.1];exact hx,Mh hn.2 hr⟩
theorem Nh:∀{is:List Nat}{xs xs' H:List α},is.Nodup→Dg H is xs→xs'.length=xs.length→Dg (Ic H is xs') is xs'∧(∀ks k,(∀i∈is,k+i∈ks)→CG ks k (Ic H is xs')=CG ks k H)∧∀j,j ∉ is→(Ic H is xs')[j]?=H[j]?
 | [],xs,xs',H,_,h,hl=>by
  simp only[Dg] at h;subst h;have:xs'=[]:=by simpa using hl
  subst this;exact⟨O,fun _ _ _=>O,fun _ _=>O⟩
 | i::is,xs,xs',H,hn,h,hl=>by
  obtain⟨x,xr,rfl,hx,hr⟩:=h;have hn':=List.nodup_cons.1 hn;cases xs' with
  | nil=>simp at hl
  | cons y ys =>
   have hlt:i<H.length:=(List.getElem?_eq_some_iff.1 hx).1;obtain⟨h1,h2,h3⟩:=Nh (H:=H.set i y) hn'.2 (Mh hn'.1 hr) (by simpa using hl);refine⟨⟨y,ys,O,by rw[Ic,h3 i hn'.1];simp[hlt],h1⟩,fun ks k hk=>?_,fun j hj=>?_⟩
   ·rw[Ic,h2 ks k (fun q hq=>hk q (by simp[hq])),Kl _ _ _ (hk i Ai)]
   simp at hj;rw[Ic,h3 j hj.2,List.getElem?_set_ne (fun e=>hj.1 e.symm)]
theorem Kf {is:List Nat}{xs xs' H:List α}(hn:is.Nodup) (h:Dg H is xs) (hl:xs'.length=xs.length):(Ic H is xs').Perm (xs'++CG is 0 H):=by
 obtain⟨h1,h2,_⟩:=Nh hn h hl;have:=CK hn h1
 rwa [h2 is 0 (fun i hi=>by simpa using hi)] at this
end
def YU (τ:Nat→AV) (x:AV):List Nat→Prop
 | []=>True
 | t::r=>τ t=x∧YU τ x r
theorem DV {τ:Nat→AV}{x:AV}:∀{ts:List Nat},YU τ x ts→∀t∈ts,τ t=x
 | [],_,t,h=>by simp at h
 | a::r,h,t,ht=>by
  rcases List.mem_cons.1 ht with rfl | ht
  ·exact h.1
  exact DV h.2 t ht
section
variable {P:Program}{S:BJ}{a T n b i:Nat}{cs:List AV}{v:AV}
theorem BD (hT:Cj P T=some (true,n)) (ha:S.τ a= .ptr b 0) (hi:S.H[i]?=some (.box b cs)) (hn:cs.length=n):Xe P S (.cell a T) (.agg cs):=by
 obtain⟨d,h1,h2,h3⟩:=DS hT;exact⟨b,cs,i,ha,hi,.inl ⟨d,h1,h2,by rw[h3,hn],rfl⟩⟩
theorem EU (hT:Cj P T=some (false,n)) (ha:S.τ a= .ptr b 0) (hi:S.H[i]?=some (.box b [v])):Xe P S (.cell a T) v:=by
 obtain⟨d,h1,h2,h3⟩:=DS hT;exact⟨b,[v],i,ha,hi,.inr ⟨d,h1,h2,O⟩⟩
end
section
variable {P:Program}{dst:Option Tmp}{ty:TypeId}{pos:String}{aft:Array Edge}{g:Option (Nat×Bool)}{ρ:Operand→AV}{H Hs Hs':List Ax}{x y z:Operand}{v:AV}{c:Call}{f:Operand}{fid:FuncId}{first caps A:List AV}
theorem CW.permD {o:Oper}{H H' H'':List Ax}(h:Co P o ρ H v H') (hp:H'.Perm H''):Co P o ρ H v H'':=by
 intro r F S a w hs hH hρ hd;have:=h r F S a w hs hH hρ hd;refine Ka this ?_ ?_
 ·rintro a' w' ⟨v',H1,F',⟨rfl,rfl⟩,hs',ht⟩;exact⟨v',H'',F',⟨O,O⟩,⟨hs'.size,hs'.tmp,hs'.heap.perm hp,hs'.defs⟩,{ ht with keys:=fun o ho=>ht.keys o (hp.mem_iff.2 ho) }⟩
 rintro e a' w' ⟨v',H1,F',u,h,_⟩;exact h.elim
theorem Bq (is:List Nat) (hc:c.callee= .value f) (hf:(ρ f= .p (.fn fid)∧first=[]∧caps=[])∨ρ f= .fn (.func fid) first caps) (h:Bb P fid A Hs (Dz v Hs')) (hg:Dg H is Hs) (hn:is.Nodup) (hl:Hs'.length=Hs.length) (hA:first++c.args.toList.map ρ++caps=A∨(first++c.args.toList.map ρ++caps).map norm=A) :
  Co P ⟨dst,.call c,ty,pos,aft,g⟩ ρ H v (Ic H is Hs') :=
 CW.permD (XW hc hf (CK hn hg) h hA) (Kf hn hg hl).symm
theorem Cb {T T2 e e2:TypeId}{sz bytes n2 n3 c i n:Nat}{o:Option Nat}{rows rows' rows2:List (List PV)}{zv:Value}(hT:DY P T=some (e,sz,bytes)) (hT2:DY P T2=some (e2,n2,n3)) (hz:zeroOf P e=some zv) (hzs:zv.cells.size=sz) (hb0:(Nat.blt 0 sz&&Nat.blt 0 bytes)=true)
  (hx:ρ x= .vs o n c) (hn:n=rows.length) (hi:H[i]?=some (.vec o sz rows c)) (hy:norm (ρ y)= .p (.lst rows')) (hsol:∀r∈rows',Cl sz r) (hroom:2*(rows.length+rows'.length)*bytes≤281474976710656) (h2:rows++rows'=rows2) :
  CW P ⟨dst,.call { callee:= .builtin .append,args:=#[x,y],argTypes:=#[T,T2] },ty,pos,aft,g⟩ ρ H (Jp i sz rows2 H):=by
 subst h2;exact Rm hT hT2 hz hzs hb0 hx hn hi hy hsol hroom
theorem Rx {F:Nat→Prop}{w:World}{u:Value}(h:Bl F w (.p .nils) u):Bl F w (.vs none 0 0) u:=by
 simp only[Bl,Bt] at *;exact⟨Aj,Aj,none,h⟩
theorem Rb {α : Type} : ∀ {us cs : List α}, us.length = cs.length → splice cs 0 us = us := by
 have key : ∀ (us : List α) (pre cs : List α), us.length = cs.length → splice (pre ++ cs) pre.length us = pre ++ us := by
  intro us
  induction us with
  | nil => intro pre cs h; have : cs = [] := by simpa using h.symm
           subst this; simp [splice]
  | cons u us ih =>
   intro pre cs h
   cases cs with
   | nil => simp at h
   | cons c cs =>
    simp only [splice]
    have := ih (pre ++ [u]) cs (by simpa using h)
    have e : (pre ++ c :: cs).set pre.length u = pre ++ [u] ++ cs := by simp
    rw [e]
    simpa using this
 intro us cs h
 exact key us [] cs h
theorem Bo {T:TypeId}{bl:Bool}{n b i:Nat}{cs us:List AV}(hT:Cj P T=some (bl,n+1)) (hx:ρ x= .ptr b 0) (hi:H[i]?=some (.box b cs)) (hy:DM (ρ y)=some us) (hn:us.length=n+1)
  (ho:cs.length=n+1) (h1:us.all one=true):Co P ⟨dst,.store T x y,ty,pos,aft,g⟩ ρ H (.p .any) (H.set i (.box b us)):=by
 have:=EB (P:=P) (dst:=dst) (ty:=ty) (pos:=pos) (aft:=aft) (g:=g) hT hx hi hy hn (by rw[ho];simp) h1
 rwa [Rb (by rw[hn,ho])] at this
theorem CA {T:TypeId}{bl:Bool}{b i j sz c:Nat}{rows rows2:List (List PV)}{us:List AV}{r:List PV}(hT:Cj P T=some (bl,sz)) (hpos:Nat.blt 0 sz=true) (hx:ρ x= .ptr b (j*sz)) (hi:H[i]?=some (.vec (some b) sz rows c)) (hj:j<rows.length) (hy:DM (ρ y)=some us) (hp:EO (us.map dn)=some r) (hrl:r.length=sz) (h1:us.all one=true) (h2:rows.set j r=rows2) :
  Co P ⟨dst,.store T x y,ty,pos,aft,g⟩ ρ H (.p .any) (H.set i (.vec (some b) sz rows2 c)):=by
 subst h2;exact NI hT hpos hx hi hj hy hp hrl h1
theorem Cf {T e:TypeId}{sz bytes:Nat}{m:Int}{zs:List Value}{zv:Value}{zr:List PV}{rows2:List (List PV)}(hT:DY P T=some (e,sz,bytes)) (hz:zeroOf P e=some zv) (hzs:zv.cells=⟨zs⟩) (hsz:zs.length=sz) (hpos:0<sz) (hp:EO ((zs.map FU).map dn)=some zr)
  (hx:ρ x= .p (.int .i64 m)) (hy:ρ y= .p (.int .i64 m)) (h0:0≤m) (hm:bytes*m≤281474976710656) (hm2:m≤9223372036854775807) (h2:List.replicate m.toNat zr=rows2) :
  CW P ⟨dst,.makeSlice T x y,ty,pos,aft,g⟩ ρ H (Ga sz rows2 H):=by
 subst h2;exact NF hT hz hzs hsz hpos hp hx hy h0 hm hm2
theorem EK {T e:TypeId}{sz bytes lo hi:Nat}{rows rows2:List (List PV)}{l h:Option Operand}(hT:DY P T=some (e,sz,bytes)) (hx:ρ x= .p (.lst rows)) (hr:∀r∈rows,r.length=sz)
  (hl:match l with | none=>lo=0 | some y=>∃k,ρ y= .p (.int k lo)) (hh:match h with | none=>hi=rows.length | some y=>∃k,ρ y= .p (.int k hi)) (h1:lo≤hi) (h2:hi≤rows.length) (h3:(rows.take hi).drop lo=rows2) :
  Co P ⟨dst,.slice T x l h none,ty,pos,aft,g⟩ ρ H (.p (.lst rows2)) H:=by
 subst h3;exact TF hT hx hr hl hh h1 h2
end
section
variable {P:Program}{r:Option Nat}{ops:Array Oper}{Q:B7→BJ→Prop}{k:Nat}{n:Nat}{τ:Nat→AV}{H H':List Ax}{D:List Cu}{dst:Option Tmp}{op:Op}{ty:TypeId}{pos:String}{aft:Array Edge}{v:AV}
end
theorem leH {is:List Nat}{H H1 H':List Ax}(h:Kk is 0 H=H1) (w:Dc H1 H'):YE H H':=⟨H1,CM h,w⟩
theorem Fl {x y:AV}(h:norm x=y):Lr x y:=fun _ _ _ hr=>h▸hr.norm
theorem C8:Dc [] []:=rfl
theorem wl {o o':Ax}{l l':List Ax}(h:H7 o o') (r:Dc l l'):Dc (o::l) (o'::l'):=⟨o',l',rfl,h,r⟩
theorem on {b:Nat}{cs cs':List AV}(h:cs.map dn=cs'):H7 (.box b cs) (.box b cs'):=⟨rfl,fun F w hr=>by
 obtain⟨vs,T,h1,h2⟩:=hr;exact⟨vs,T,h1,h▸Gx h2⟩⟩
theorem Bm {n:Nat}{τ:Nat→AV}{H:List Ax}{D:List Cu}{i b:Nat}{cs:List AV}(hi:H[i]?=some (.box b cs)):FB ⟨n,τ,H,D⟩ ⟨n,τ,H.set i (.box b (cs.map dn)),D⟩:=by
 intro F a w hs;refine⟨F,⟨hs.size,hs.tmp,?_,hs.defs⟩,?_⟩
 ·have hk:=Dj (x':= .box b (cs.map dn)) hi rfl;refine⟨fun o ho c hc=>?_,by show List.Nodup _;rw[hk];exact hs.heap.nodup,fun o ho=>?_,hs.heap.bd⟩
  ·rcases CU ho with rfl | ⟨j,_,hj⟩
   ·exact hs.heap.sub _ (List.mem_of_getElem? hi) c hc
   exact hs.heap.sub _ (List.mem_of_getElem? hj) c hc
  rcases CU ho with rfl | ⟨j,_,hj⟩
  ·exact(on O).2 F w (hs.heap.obj _ (List.mem_of_getElem? hi))
  exact hs.heap.obj _ (List.mem_of_getElem? hj)
 refine { Trans.refl (F:=F) (H:=H) (w:=w) with keys:=fun o ho c hc=>?_ };rcases CU ho with rfl | ⟨j,_,hj⟩
 ·exact .inl ⟨_,List.mem_of_getElem? hi,hc⟩
 exact .inl ⟨_,List.mem_of_getElem? hj,hc⟩
theorem GQ {n:Nat}{τ:Nat→AV}{H:List Ax}{D:List Cu}(t:Nat):FB ⟨n,τ,H,D⟩ ⟨n,put τ (some t) (norm (τ t)),H,D⟩:=MX fun _ _ _ h=>h.norm
theorem ob {b:Nat}{cs cs':List AV}(h:cs=cs'):H7 (.box b cs) (.box b cs'):=oe (by rw[h])
def kB (mkv:AV→AV) (sz:Nat) (rows:List (List PV)):Ct→List Ax→Prop
 | .val v,H'=>∃o c,v=mkv (.vs o rows.length c)∧H'=[.vec o sz rows c]
 | .panic _,_=>False
section
variable {P:Program}{r:Option Nat}{ops:Array Oper}{Q:B7→BJ→Prop}{k:Nat}{n:Nat}{τ:Nat→AV}{H H':List Ax}{D:List Cu}{dst:Option Tmp}{op:Op}{ty:TypeId}{pos:String}{aft:Array Edge}{v:AV}
end
def Ed:List AV→List AV→Prop
 | [],ys=>ys=[]
 | x::xs,ys=>∃y ys',ys=y::ys'∧Lr x y∧Ed xs ys'
theorem HX:Ed [] []:=rfl
theorem aw {x y:AV}{xs ys:List AV}(h:Lr x y) (r:Ed xs ys):Ed (x::xs) (y::ys):=⟨y,ys,rfl,h,r⟩
theorem KP {F:Nat→Prop}{w:World}:∀{xs ys:List AV}{vs:List Value},Ed xs ys→BY F w xs vs→BY F w ys vs
 | [],ys,vs,h,hr=>by simp only[Ed] at h;subst h;exact hr
 | x::xs,ys,vs,h,hr=>by
  obtain⟨y,ys',rfl,h1,h2⟩:=h;simp only[BY] at hr ⊢;obtain⟨u,us,rfl,r1,r2⟩:=hr;exact⟨u,us,O,h1 F w u r1,KP h2 r2⟩
theorem KR:Lr (.p .nils) (.vs none 0 0):=fun _ _ _ h=>Rx h
theorem Bb.args {P:Program}{f:FuncId}{args A:List AV}{H:List Ax}{R:Ct→List Ax→Prop}(h:Bb P f A H R) (hA:Ed args A):Bb P f args H R :=
 ⟨h.1,fun F w vs hH ha=>h.2 F w vs hH (KP hA ha)⟩
section
variable {P:Program}{r:Option Nat}{ops:Array Oper}{Q:B7→BJ→Prop}{k:Nat}{n:Nat}{τ:Nat→AV}{H Hs:List Ax}{D:List Cu}{dst:Option Tmp}{op:Op}{ty:TypeId}{pos:String}{aft:Array Edge}{v:AV}{c:Call}{f:Operand}{fid:FuncId}{first caps A:List AV}{R:Ct→List Ax→Prop}
theorem OX {S:BJ}{H':List Ax}(hp:S.H.Perm H'):FB S ⟨S.n,S.τ,H',S.D⟩:=fun F a w hs =>
 ⟨F,⟨hs.size,hs.tmp,hs.heap.perm hp,hs.defs⟩,{ Trans.refl (F:=F) (H:=S.H) (w:=w) with keys:=fun o ho b hb=> .inl ⟨o,hp.mem_iff.2 ho,hb⟩ }⟩
theorem JY (is:List Nat) (ho:ops[k]?=some ⟨dst,.call c,ty,pos,aft,none⟩) (hd:Ei dst n=true)
  (hc:c.callee= .value f) (hf:(ev τ f= .p (.fn fid)∧first=[]∧caps=[])∨ev τ f= .fn (.func fid) first caps) (h:Bb P fid A Hs R) (hg:Dg H is Hs) (hn:is.Nodup) (hA:Ed (first++c.args.toList.map (ev τ)++caps) A)
  (next:∀v Hs',R (.val v) Hs'→Hs'.length=Hs.length∧AL P r ops (k+1) ⟨n,put τ dst v,Ic H is Hs',D⟩ Q) (pan:∀v Hs',R (.panic v) Hs'→Q (.panic v) ⟨n,τ,Hs'++CG is 0 H,D⟩):AL P r ops k ⟨n,τ,H,D⟩ Q :=
 Jh ho hd hc hf (CK hn hg) (h.args hA) (.inl rfl) (fun v H' hR=>by
  obtain⟨hl,hn'⟩:=next v H' hR;exact CJ (OX (S:=⟨n,put τ dst v,H'++CG is 0 H,D⟩) (Kf hn hg hl).symm) hn') pan
theorem Hj (is:List Nat) (ho:ops[k]?=some ⟨dst,.call c,ty,pos,aft,none⟩) (hd:Ei dst n=true)
  (hc:c.callee= .value f) (hf:(ev τ f= .p (.fn fid)∧first=[]∧caps=[])∨ev τ f= .fn (.func fid) first caps) (h:Bb P fid A Hs R) (hg:Dg H is Hs) (hn:is.Nodup) (hA:Ed (first++c.args.toList.map (ev τ)++caps) A)
  (next:∀v Hs',R (.val v) Hs'→AL P r ops (k+1) ⟨n,put τ dst v,Hs'++CG is 0 H,D⟩ Q) (pan:∀v Hs',R (.panic v) Hs'→Q (.panic v) ⟨n,τ,Hs'++CG is 0 H,D⟩):AL P r ops k ⟨n,τ,H,D⟩ Q :=
 Jh ho hd hc hf (CK hn hg) (h.args hA) (.inl rfl) next pan
theorem I0 {sz:Nat}:FB ⟨n,τ,H,D⟩ ⟨n,τ,.vec none sz [] 0::H,D⟩:=by
 intro F a w hs;have hH:HRel F (.vec none sz [] 0::H) w:=⟨fun o ho b hb=>by
   rcases List.mem_cons.1 ho with rfl | ho
   ·cases hb
   ·exact hs.heap.sub o ho b hb,by simpa [List.filterMap_cons,Ax.key] using hs.heap.nodup,fun o ho=>by
   rcases List.mem_cons.1 ho with rfl | ho
   ·exact⟨O,O⟩
   exact hs.heap.obj o ho,hs.heap.bd⟩
 exact⟨F,⟨hs.size,hs.tmp,hH,hs.defs⟩,⟨Nat.le_refl _,fun _ _ _=>O,fun _ h _=>h,fun _ h=> .inl h,fun o ho b hb=>by
   rcases List.mem_cons.1 ho with rfl | ho
   ·cases hb
   exact .inl ⟨o,ho,hb⟩,O,O,O⟩⟩
end
section
variable {P:Program}{r:Option Nat}{ops:Array Oper}{Q:B7→BJ→Prop}{k:Nat}{n:Nat}{τ:Nat→AV}{H:List Ax}{D:List Cu}{o:Option Nat}{sz cp i:Nat}{rows:List (List PV)}
theorem Qg {F:Nat→Prop}{w:World}{a:Act}(hs:Ck F ⟨n,τ,H,D⟩ a w) (hi:H[i]?=some (.vec o sz rows cp)) (hne:0<rows.length):∃b,o=some b:=by
 have:=hs.heap.obj _ (List.mem_of_getElem? hi);cases o with
 | none=>obtain⟨h,_⟩:=this;simp[h] at hne
 | some b=>exact⟨b,rfl⟩
theorem GO (hi:H[i]?=some (.vec o sz rows cp)) (hne:0<rows.length) (next:∀b,o=some b→AL P r ops k ⟨n,τ,H,D⟩ Q):AL P r ops k ⟨n,τ,H,D⟩ Q:=fun F a w hs=>by
 obtain⟨b,hb⟩:=Qg hs hi hne;exact next b hb F a w hs
theorem H4 {c:Code}(hi:H[i]?=some (.vec o sz rows cp)) (hne:0<rows.length) (next:∀b,o=some b→FJ P r c ⟨n,τ,H,D⟩ Q):FJ P r c ⟨n,τ,H,D⟩ Q:=fun F a w hs=>by
 obtain⟨b,hb⟩:=Qg hs hi hne;exact next b hb F a w hs
end
section
variable {P:Program}{dst:Option Tmp}{ty:TypeId}{pos:String}{aft:Array Edge}{g:Option (Nat×Bool)}{ρ:Operand→AV}{H:List Ax}
theorem BB {a:Operand}{T e:TypeId}{n n1 n2:Nat}{rows:List (List PV)}(hT:DY P T=some (e,n1,n2)) (hx:ρ a= .p (.lst rows)) (hn:rows.length=n) :
  Co P ⟨dst,.call { callee:= .builtin .len,args:=#[a],argTypes:=#[T] },ty,pos,aft,g⟩ ρ H (.p (.int .i64 n)) H:=JJ hT (.inl ⟨rows,hx,hn⟩)
theorem DP {a:Operand}{T e:TypeId}{m n n1 n2 c:Nat}{o:Option Nat}(hT:DY P T=some (e,n1,n2)) (hx:ρ a= .vs o m c) (hn:m=n) :
  Co P ⟨dst,.call { callee:= .builtin .len,args:=#[a],argTypes:=#[T] },ty,pos,aft,g⟩ ρ H (.p (.int .i64 n)) H:=JJ hT (.inr (.inl ⟨o,c,by rw[hx,hn]⟩))
end
section
variable {P:Program}{dst:Option Tmp}{ty:TypeId}{pos:String}{aft:Array Edge}{g:Option (Nat×Bool)}{ρ:Operand→AV}{H:List Ax}{x y:Operand}
end
section
variable {P:Program}{ops:Array Oper}{n:Nat}{τ₀:Nat→AV}{D:List Cu}{Q:B7→BJ→Prop}{opn:Nat→Bool}{k:Nat}{τ:Nat→AV}{H:List Ax}{rd:Qs}{ef:Qk}{effs:List Bool}{fx:List (Nat×Sp)}{dst:Option Tmp}{ty:TypeId}{pos:String}{aft:Array Edge}{c:Call}{f:Operand}{fid:FuncId}{first caps A:List AV}{mkv:AV→AV}{sz:Nat}{rows:List (List PV)}
end
section
variable {P:Program}{dst:Option Tmp}{ty:TypeId}{pos:String}{aft:Array Edge}{g:Option (Nat×Bool)}{ρ:Operand→AV}{H Hs Hs':List Ax}{v:AV}{c:Call}{f:Operand}{fid:FuncId}{first caps A:List AV}
theorem Jy (hc:c.callee= .value f) (hf:ρ f= .p (.fn fid)) (h:Df P fid A v) (hA:Ed (c.args.toList.map ρ) A):Co P ⟨dst,.call c,ty,pos,aft,g⟩ ρ H v H:=BA hc hf (h.args hA) rfl
end
end Go.Abs
namespace Go.Eu
open Go.Abs
structure Mv where
 type:Tm
 known:Bool
 value:Tm
 cls:Bool
 deriving Inhabited
def Ix (n:Int):List PV:=[I n]
def dz (s:ByteArray):List PV:=[.str s]
def Bp (b:Bool):List PV:=[.bool b]
def bz (m:Mv):List PV:=BQ m.type++(.bool m.known::(BQ m.value++[.bool m.cls]))
theorem Qj {ts:List Int}{i:Nat}{t:Int}(h:ts[i]?=some t):(ts.map Ix)[i]?=some (Ix t):=by simp[h]
theorem Gh {ts:List Bool}{i:Nat}{t:Bool}(h:ts[i]?=some t):(ts.map Bp)[i]?=some (Bp t):=by simp[h]
abbrev MV (m:Mv):AV:= .agg ((bz m).map .p)
abbrev kc (l:List Mv):AV:= .p (.lst (l.map bz))
abbrev ku (l:List Int):AV:= .p (.lst (l.map Ix))
def fJ (sz:Nat) {α:Type}(f:α→List PV):Prop:=∀a,Cl sz (f a)
theorem Ep {α:Type}{sz:Nat}{f:α→List PV}(h:∀a,Cl sz (f a)) (l:List α):∀r∈l.map f,Cl sz r:=by
 intro r hr;obtain⟨a,_,rfl⟩:=List.mem_map.1 hr;exact h a
theorem FN (t:Tm):Cl 5 (BQ t):=by
 obtain⟨k,i,n,l,s⟩:=t;refine⟨O,?_⟩;intro c hc;simp[BQ] at hc;rcases hc with rfl | rfl | rfl | rfl | rfl<;>simp
theorem CD (l:List Tm):∀r∈Ay l,Cl 5 r:=by rw[DE];exact Ep FN l
theorem RE (l:List B9):∀r∈l.map I9,Cl 2 r:=Ep (f:=I9) (fun a=>⟨rfl,by simp[I9]⟩) l
theorem Nz (l:List CB):∀r∈l.map Bz,Cl 2 r:=Ep (f:=Bz) (fun a=>⟨rfl,by simp[Bz]⟩) l
theorem CP {sz:Nat}{rows:List (List PV)}(h:∀r∈rows,Cl sz r):∀r∈rows,r.length=sz:=fun r hr=>(h r hr).1
theorem Nn (a b:List Tm):Ay a++Ay b=Ay (a++b):=by simp[DE]
theorem I2 {α:Type}{f:α→List PV}(a b:List α):a.map f++b.map f=(a++b).map f:=by simp
theorem Iv (l:List Tm) (j:Nat) (x:Tm):(Ay l).set j (BQ x)=Ay (l.set j x):=by simp[DE,List.map_set]
theorem Q8 {α:Type}{f:α→List PV}(l:List α) (j:Nat) (x:α):(l.map f).set j (f x)=(l.set j x).map f:=by simp[List.map_set]
theorem OP (n:Nat) (x:Tm):List.replicate n (BQ x)=Ay (List.replicate n x):=by simp[DE]
theorem RA {α:Type}{f:α→List PV}(n:Nat) (x:α):List.replicate n (f x)=(List.replicate n x).map f:=by simp
theorem Vz (l:List Tm) (hi:Nat):((Ay l).take hi).drop 0=Ay (l.take hi):=by simp[DE,List.map_take]
theorem SN (l:List Tm) (lo:Nat):((Ay l).take (Ay l).length).drop lo=Ay (l.drop lo):=by rw[List.take_length];simp[DE,List.map_drop]
theorem DH {sz:Nat}{r:List PV}(h:Cl sz r):(r.map AV.p).all one=true:=by
 simp only[List.all_eq_true];intro x hx;obtain⟨c,hc,rfl⟩:=List.mem_map.1 hx;have:=h.2 c hc;cases c<;>simp_all [one]
theorem Gf (t:Tm):((BQ t).map AV.p).all one=true:=DH (FN t)
theorem F5 (t:Tm):EO (((BQ t).map AV.p).map dn)=some (BQ t):=by obtain⟨k,i,n,l,s⟩:=t;rfl
end Go.Eu
namespace Go.Eu
def Pb (f a:Tm):Tm:= .mk 4 0 ⟨#[]⟩ [] [f,a]
def apply (f:Tm) (xs:List Tm):Tm:=xs.foldl Pb f
theorem M9 {f:Tm}{xs:List Tm}{i:Nat}{x:Tm}(h:xs[i]?=some x):apply f (xs.take (i+1))=Pb (apply f (xs.take i)) x:=by
 simp[apply,List.take_add_one,h]
def A4:Tm→Tm×List Tm
 | .mk k i n l [f,a]=>if k=4 then ((A4 f).1,(A4 f).2++[a]) else (.mk k i n l [f,a],[])
 | t=>(t,[])
theorem Rr {k i:Int}{n:ByteArray}{l:List CB}{ts:List Tm}(h:k≠4∨((ts.length:Nat):Int)≠2):A4 (.mk k i n l ts)=(.mk k i n l ts,[]):=by
 unfold A4;split
 ·rename_i k' i' n' l' f a e;injection e with e1 e2 e3 e4 e5;subst e1 e2 e3 e4 e5;simp at h;rw[if_neg h]
 rfl
theorem To {k i:Int}{n:ByteArray}{l:List CB}{ts:List Tm}{x y:Tm}(h:k=4∧((ts.length:Nat):Int)=2) (hx:ts[0]?=some x) (hy:ts[1]?=some y):A4 (.mk k i n l ts)=((A4 x).1,(A4 x).2++[y]):=by
 obtain⟨rfl,h2⟩:=h
 match ts,h2,hx,hy with
 | [a,b],_,hx,hy =>
  simp at hx hy;subst hx hy;simp[A4]
theorem Vo {ts:List Tm}{x y:Tm}(h:((ts.length:Nat):Int)=2) (hx:ts[0]?=some x) (hy:ts[1]?=some y):ts=[x,y]:=by
 match ts,h,hx,hy with
 | [a,b],_,hx,hy =>
  simp at hx hy;subst hx hy;rfl
theorem FM:∀(t:Tm),size (A4 t).1+BC (A4 t).2+(A4 t).2.length=size t
 | .mk k i n l [f,a]=>by
  unfold A4;split
  ·have:=FM f;simp[size,BC] at this ⊢;have e:∀(xs:List Tm) (y:Tm),BC (xs++[y])=BC xs+size y:=by
    intro xs y
    induction xs with
    | nil=>simp[BC]
    | cons z zs ih=>simp[BC,ih];omega
   rw[e];omega
  ·simp[BC]
 | .mk k i n l []=>by simp[A4,BC]
 | .mk k i n l [_]=>by simp[A4,BC]
 | .mk k i n l (_::_::_::_)=>by simp[A4,BC]
theorem Tt (t:Tm):(A4 t).2.length<size t:=by
 have:=FM t;have:=size_pos (A4 t).1;omega
def RW (k:Int) (xs:List Tm) (t:Tm):Tm:=xs.foldr (fun a t=> .mk k 0 ⟨#[]⟩ [] [a,t]) t
theorem sd:(∀(p:Prop) [Decidable p],(decide p=true)=p)∧(∀{p:Prop} [Decidable p],decide p=false↔¬p)∧(∀{α:Type} [BEq α] [LawfulBEq α] {a b:α},(a==b)=true↔a=b)∧(∀{α:Type} [BEq α] [LawfulBEq α] {a b:α},(a !=b)=true↔a≠b)∧(∀{α:Type} [BEq α] [LawfulBEq α] {a b:α},(a==b)=false↔a≠b)∧(∀{α:Type} [BEq α] [LawfulBEq α] {a b:α},(a !=b)=false↔a=b)∧(∀{α:Type}(a b:α),(a≠b)=¬(a=b))∧(∀{α:Type} [LT α] {x y:α},x > y↔y<x)∧(∀{α:Type} [LE α] {x y:α},x≥y↔y≤x)∧(∀(b:Bool),(¬(b=true))=(b=false))∧(∀(b:Bool),(¬(b=false))=(b=true))∧(∀(b:Bool),((!b)=true)=(b=false))∧(∀(b:Bool),((!b)=false)=(b=true))∧(∀{a b:Int},¬a<b↔b≤a)∧(∀{a b:Int},¬a≤b↔b<a) :=
 ⟨fun _=>decide_eq_true_eq,decide_eq_false_iff_not,beq_iff_eq,bne_iff_ne,beq_eq_false_iff_ne,bne_eq_false_iff_eq,ne_eq,gt_iff_lt,ge_iff_le,Bool.not_eq_true,Bool.not_eq_false,fun b=>by cases b<;>simp,fun b=>by cases b<;>simp,Int.not_lt,Int.not_le⟩
theorem se:(∀(ts:List Tm),(Ay ts).length=ts.length)∧(∀{α β:Type}{ays:List α}{f:α→β},(ays.map f).length=ays.length)∧(∀{α:Type}{n:Nat}{a:α},(List.replicate n a).length=n)∧(∀(a b:Bool),((a||b)=true)=(a=true∨b=true))∧(∀(a b:Bool),((a&&b)=true)=(a=true∧b=true))∧(∀{x y:Bool},(x||y)=false↔x=false∧y=false)∧(∀{x y:Bool},(x&&y)=false↔x=true→y=false) :=
 ⟨A8,List.length_map _,List.length_replicate,Bool.or_eq_true,Bool.and_eq_true,Bool.or_eq_false_iff,Bool.and_eq_false_imp⟩
end Go.Eu
namespace Go.Eu
open Go.Abs
def Cn (i:Int):Tm:= .mk 0 i ⟨#[]⟩ [] []
def BH:Tm:= .mk 0 0 ⟨#[]⟩ [] []
def Gw (er e:Int):Int:=if er=0 then e else er
def KW (er i:Int):Int:=if i > 65535 then Gw er 24 else er
mutual
def FX:Tm→Int
 | .mk _ _ _ _ ks=>G2 1 ks
def G2:Int→List Tm→Int
 | n,[]=>n
 | n,t::ts=>G2 (wr (n+FX t)) ts
end
mutual
def De:Tm→Int
 | .mk _ _ _ _ ks=>wr (GH 0 ks+1)
def GH:Int→List Tm→Int
 | n,[]=>n
 | n,t::ts=>GH (max n (De t)) ts
end
mutual
def B4 (b fr:Int):Int→Int→Tm→Tm×Int
 | d,er,.mk k i n l ks =>
  if k=0 then
   (if i<wr (fr+d) then (.mk k i n l ks,er)
    else if wr (i+b)<wr (fr+d) then (.mk k i n l ks,Gw er 24)
    else (Cn (wr (i+b)),KW er (wr (i+b))))
  else ((.mk k i n l (Ce b fr k d 0 er ks).1),(Ce b fr k d 0 er ks).2)
def Ce (b fr k:Int):Int→Nat→Int→List Tm→List Tm×Int
 | d,j,er,[]=>([],er)
 | d,j,er,t::ts=>((B4 b fr (d+below k j) er t).1::(Ce b fr k d (j+1) (B4 b fr (d+below k j) er t).2 ts).1,(Ce b fr k d (j+1) (B4 b fr (d+below k j) er t).2 ts).2)
end
mutual
def Bh (vs:List Tm):Int→Int→Int→Tm→Tm×Int×Int
 | d,er,nd,.mk k i n l ks =>
  if nd > 4096 then (.mk k i n l ks,er,nd)
  else if k=0∧i≥d∧i - d<(vs.length:Int) then
   ((B4 d 0 0 er (vs.getD (i - d).toNat BH)).1,(B4 d 0 0 er (vs.getD (i - d).toNat BH)).2,wr (nd+FX (vs.getD (i - d).toNat BH)))
  else if k=0 then
   (if i≥d then (Cn (wr (i - vs.length)),KW er (wr (i - vs.length)),wr (nd+1)) else (.mk k i n l ks,er,wr (nd+1)))
  else ((.mk k i n l (B6 vs k d 0 er (wr (nd+1)) ks).1),(B6 vs k d 0 er (wr (nd+1)) ks).2)
def B6 (vs:List Tm) (k:Int):Int→Nat→Int→Int→List Tm→List Tm×Int×Int
 | d,j,er,nd,[]=>([],er,nd)
 | d,j,er,nd,t::ts=>((Bh vs (d+below k j) er nd t).1::(B6 vs k d (j+1) (Bh vs (d+below k j) er nd t).2.1 (Bh vs (d+below k j) er nd t).2.2 ts).1,
   (B6 vs k d (j+1) (Bh vs (d+below k j) er nd t).2.1 (Bh vs (d+below k j) er nd t).2.2 ts).2)
end
def Cz (t:Tm) (vs:List Tm) (d:Int):Tm×Int :=
 if (Bh vs (min d 65536) 0 0 t).2.2 > 4096 then (BH,5)
 else if (Bh vs (min d 65536) 0 0 t).2.1≠0 then (BH,(Bh vs (min d 65536) 0 0 t).2.1)
 else if De (Bh vs (min d 65536) 0 0 t).1 > 200 then (BH,7)
 else ((Bh vs (min d 65536) 0 0 t).1,0)
structure Gz where
 steps:Int
 nodes:Int
 forms:Int
 limit:Int
 over:Bool
 deriving Inhabited
def kI (c:Gz):List PV:=[I c.steps,I c.nodes,I c.forms,I c.limit,.bool c.over]
def Gz.form (c:Gz) (t:Tm) (e:Int):Gz :=
 { c with forms:=wr (c.forms+FX t),over:=c.over||(e !=0||decide (c.steps > c.limit)||decide (c.nodes > wr (2*c.limit))||decide (wr (c.forms+FX t) > wr (40*c.limit))||decide (FX t > 2000)||decide (De t > 95)) }
def Gz.sized (c:Gz) (t:Tm):Gz:={ c with over:=c.over||(decide (FX t > 2000)||decide (De t > 95)) }
def ig:Gz:=⟨0,0,0,1000,false⟩
end Go.Eu
namespace Go.Eu
theorem CH {α:Type}{l:List α}{i:Nat}{x:α}(h:l[i]?=some x):l.drop i=x::l.drop (i+1):=by
 have hlt:=(List.getElem?_eq_some_iff.1 h).1;have e:l[i]=x:=(List.getElem?_eq_some_iff.1 h).2;rw[List.drop_eq_getElem_cons hlt,e]
theorem LJ {α:Type}{l:List α}{i:Nat}{x d:α}(h:l[i]?=some x):l.getD i d=x:=by simp[List.getD,h]
end Go.Eu
namespace Go.Eu
open Go.Abs
theorem RX (n:Int):Gy (wr n):=by
 unfold Gy wr IntKind.wrap;have:IntKind.i64.min= -9223372036854775808:=rfl;have:IntKind.i64.max=9223372036854775807:=rfl;simp[IntKind.signed,IntKind.bits];omega
theorem Uu (i:Int):Nd (Cn (wr i)):=by
 have:=RX i;exact⟨by decide,by decide,by simp,by decide,trivial,⟨by decide,by decide⟩,this⟩
theorem GU:Nd BH:=⟨by decide,by decide,by simp,by decide,trivial,⟨by decide,by decide⟩,⟨by decide,by decide⟩⟩
mutual
theorem OE (b fr:Int):∀(t:Tm) (d er:Int),Nd t→Nd (B4 b fr d er t).1
 | .mk k i n l ks,d,er,h=>by
  unfold B4;split
  ·split
   ·exact h
   split
   ·exact h
   exact Uu _
  simp only[Nd] at h ⊢;obtain⟨h1,h2,h3,h4,h5,h6⟩:=h;obtain⟨e1,e2⟩:=M3 b fr k ks d 0 er h5;exact⟨h1,h2,h3,by rw[e1];exact h4,e2,h6⟩
theorem M3 (b fr k:Int):∀(ts:List Tm) (d:Int) (j:Nat) (er:Int),Ej ts→(Ce b fr k d j er ts).1.length=ts.length∧Ej (Ce b fr k d j er ts).1
 | [],d,j,er,h=>by simp[Ce,Ej]
 | t::ts,d,j,er,h=>by
  simp only[Ce,Ej,List.length_cons] at *;have:=OE b fr t (d+below k j) er h.1;obtain⟨e1,e2⟩:=M3 b fr k ts d (j+1) (B4 b fr (d+below k j) er t).2 h.2;exact⟨by rw[e1],this,e2⟩
end
theorem Ve {vs:List Tm}(h:Ej vs) (i:Nat):Nd (vs.getD i BH):=by
 cases e:vs[i]? with
 | none=>simp[List.getD,e];exact GU
 | some x=>rw[LJ e];exact CY h e
mutual
theorem KQ:∀(t:Tm) (vs:List Tm) (d er nd:Int),Nd t→Ej vs→Nd (Bh vs d er nd t).1
 | .mk k i n l ks,vs,d,er,nd,h,hv=>by
  unfold Bh;split
  ·exact h
  split
  ·exact OE _ _ _ _ _ (Ve hv _)
  split
  ·split
   ·exact Uu _
   exact h
  simp only[Nd] at h ⊢;obtain⟨h1,h2,h3,h4,h5,h6⟩:=h;obtain⟨e1,e2⟩:=Me ks vs k d 0 er (wr (nd+1)) h5 hv;exact⟨h1,h2,h3,by rw[e1];exact h4,e2,h6⟩
theorem Me:∀(ts:List Tm) (vs:List Tm) (k d:Int) (j:Nat) (er nd:Int),Ej ts→Ej vs→(B6 vs k d j er nd ts).1.length=ts.length∧Ej (B6 vs k d j er nd ts).1
 | [],vs,k,d,j,er,nd,h,hv=>by simp[B6,Ej]
 | t::ts,vs,k,d,j,er,nd,h,hv=>by
  simp only[B6,Ej,List.length_cons] at *;have:=KQ t vs (d+below k j) er nd h.1 hv;obtain⟨e1,e2⟩:=Me ts vs k d (j+1) (Bh vs (d+below k j) er nd t).2.1 (Bh vs (d+below k j) er nd t).2.2 h.2 hv;exact⟨by rw[e1],this,e2⟩
end
theorem TB (t:Tm) (vs:List Tm) (d:Int) (h:Nd t) (hv:Ej vs):Nd (Cz t vs d).1:=by
 unfold Cz;split
 ·exact GU
 split
 ·exact GU
 split
 ·exact GU
 exact KQ t vs _ _ _ h hv
theorem H6 {o:Option Nat}{c:Nat}(l:List Tm) {l':List Tm}(h:l=l'):AV.vs o (Ay l).length c= .vs o (Ay l').length c:=by rw[h]
theorem HC {α:Type}{f:α→List PV}{o:Option Nat}{c:Nat}(l:List α) {l':List α}(h:l=l'):AV.vs o (l.map f).length c= .vs o (l'.map f).length c:=by rw[h]
theorem EI {o:Option Nat}{sz c:Nat}(l:List Tm) {l':List Tm}(h:l=l'):H7 (.vec o sz (Ay l) c) (.vec o sz (Ay l') c):=oe (by rw[h])
theorem GR {α:Type}{f:α→List PV}{o:Option Nat}{sz c:Nat}(l:List α) {l':List α}(h:l=l'):H7 (.vec o sz (l.map f) c) (.vec o sz (l'.map f) c):=oe (by rw[h])
theorem DU {o:Option Nat}{c:Nat}(l:List Tm) {l':List Tm}(h:l.length=l'.length):AV.vs o (Ay l).length c= .vs o (Ay l').length c:=by rw[A8,A8,h]
theorem KI {α:Type}{f:α→List PV}{o:Option Nat}{c:Nat}(l:List α) {l':List α}(h:l.length=l'.length):AV.vs o (l.map f).length c= .vs o (l'.map f).length c:=by rw[List.length_map,List.length_map,h]
mutual
def Rp:List Int→Tm→List Int
 | l,.mk k i _ _ ks=>if k=12 then (if i∈l then l else Od (l++[i]) ks) else Od l ks
def Od:List Int→List Tm→List Int
 | l,[]=>l
 | l,t::ts=>Od (Rp l t) ts
end
def kZ (l:List Int) (n:Int):Bool:=decide (n∈l)
def Vg (fr:Int):Nat→Nat→List Tm
 | _,0=>[]
 | m,k+1=>Cn (fr+(m+k:Nat))::Vg fr m k
def dJ (n fr:Int):List Tm:=if n<1∨n > 4096∨fr<0 then [] else Vg fr 0 n.toNat
def dX:List Int→List Tm→Option (List Int)
 | l,[]=>some l
 | l,.mk k i _ _ _::ts=>if k≠0∨i∈l then none else dX (l++[i]) ts
def jW (t:Tm):Int×List Int×Bool :=
 if (A4 t).1.kind≠12 then (0,[],false)
 else match dX [] (A4 t).2 with
  | none=>(0,[],false)
  | some l=>((A4 t).1.index,l,true)
def kJ (ms:List Mv) (ctx:List Tm) (t:Tm) (cls:Bool):List Mv×Tm×Int :=
 if ms.length≥2000 then ([],BH,6)
 else if FX (RW 6 ctx t) > 4096 then ([],BH,5)
 else if De (RW 6 ctx t) > 200 then ([],BH,7)
 else (ms++[⟨RW 6 ctx t,false,BH,cls⟩],apply (.mk 12 ms.length ⟨#[]⟩ [] []) (dJ ctx.length 0),0)
end Go.Eu
namespace Go.Eu
end Go.Eu
namespace Go.Eu
open Go.Abs
theorem DX {n:Int}(h:Gy n):wr n=n:=Oz (k:= .i64) h.1 h.2
mutual
theorem Nw (B:Int) (hB:B≤4611686018427387904):∀(t:Tm),(size t:Int)<B→FX t=size t
 | .mk k i n l ks,h=>by
  have h':(1:Int)+BC ks<B:=by rw[size] at h;omega
  show G2 1 ks=_;rw[Mi B hB ks 1 Ah h',size];omega
theorem Mi (B:Int) (hB:B≤4611686018427387904):∀(ts:List Tm) (n:Int),0≤n→n+BC ts<B→G2 n ts=n+BC ts
 | [],n,_,_=>by simp[G2,BC]
 | t::ts,n,h0,h=>by
  simp only[BC,G2] at *;rw[Nw B hB t (by have:=size_pos t;omega),DX ⟨by omega,by omega⟩,Mi B hB ts (n+size t) Ah Ah];omega
end
theorem QJ {t:Tm}(h:(size t:Int)<4611686018427387904):FX t=size t:=Nw _ (Int.le_refl _) t h
mutual
def Wt:Tm→Prop
 | .mk k i _ _ ks=>(ks.length:Int)=arity k∧(k=12→0≤i)∧Pm ks
def Pm:List Tm→Prop
 | []=>True
 | t::ts=>Wt t∧Pm ts
end
theorem O2:∀{ts:List Tm}{i:Nat}{t:Tm},Pm ts→ts[i]?=some t→Wt t
 | [],i,t,_,h=>by simp at h
 | a::ts,0,t,hn,h=>by simp at h;subst h;exact hn.1
 | a::ts,i+1,t,hn,h=>by simp at h;exact O2 hn.2 h
theorem Mt:∀{a b:List Tm},Ej (a++b)↔Ej a∧Ej b
 | [],b=>by simp[Ej]
 | x::a,b=>by simp only[List.cons_append,Ej,Mt (a:=a),and_assoc]
theorem JL (a b:List Tm):BC (a++b)=BC a+BC b:=by
 induction a with
 | nil=>simp[BC]
 | cons x a ih=>simp[BC,ih];omega
mutual
theorem Vl {vars metas:Int}:∀(t:Tm) (d:Int),wf vars metas d t→Wt t
 | .mk k i n l ks,d,h=>by
  simp only[wf,Wt] at *;exact⟨h.2.2.1,fun e=>(h.2.2.2.2.1 e).1,VD ks k d 0 h.2.2.2.2.2⟩
theorem VD {vars metas:Int}:∀(ts:List Tm) (k d:Int) (j:Nat),Wi vars metas k d j ts→Pm ts
 | [],k,d,j,h=>trivial
 | t::ts,k,d,j,h=>by
  simp only[Wi,Pm] at *;exact⟨Vl t _ h.1,VD ts k d (j+1) h.2⟩
end
theorem Pr:∀(t:Tm),Nd t→Nd (A4 t).1∧Ej (A4 t).2
 | .mk k i n l [f,a],h=>by
  unfold A4;split
  ·have h':=h;simp only[Nd,Ej] at h';obtain⟨e1,e2⟩:=Pr f h'.2.2.2.2.1.1;exact⟨e1,Mt.2 ⟨e2,h'.2.2.2.2.1.2.1,Aj⟩⟩
  ·exact⟨h,Aj⟩
 | .mk k i n l [],h=>by simp only[A4];exact⟨h,trivial⟩
 | .mk k i n l [_],h=>by simp only[A4];exact⟨h,trivial⟩
 | .mk k i n l (_::_::_::_),h=>by simp only[A4];exact⟨h,trivial⟩
mutual
theorem K3 (b fr:Int):∀(t:Tm) (d er:Int),t.kind=0∧t.kids=[]∨Wt t→size (B4 b fr d er t).1=size t
 | .mk k i n l ks,d,er,h=>by
  unfold B4;split
  ·rename_i hk;split
   ·rfl
   split
   ·rfl
   have:ks=[]:=by
    rcases h with h | h
    ·exact h.2
    have:=h.1;subst hk;simp[arity] at this;exact this
   subst this;simp[Cn,size,BC]
  rename_i hk;have hw:Pm ks:=by
   rcases h with h | h
   ·exact absurd h.1 hk
   exact h.2.2
  simp only[size];rw[Jq b fr k ks d 0 er hw]
theorem Jq (b fr k:Int):∀(ts:List Tm) (d:Int) (j:Nat) (er:Int),Pm ts→BC (Ce b fr k d j er ts).1=BC ts
 | [],d,j,er,h=>by simp[Ce]
 | t::ts,d,j,er,h=>by
  simp only[Ce,BC];rw[K3 b fr t _ _ (.inr h.1),Jq b fr k ts _ _ _ h.2]
end
mutual
theorem Ha (V:Int) (hV:1≤V) (hV2:V≤2305843009213693952):∀(t:Tm) (vs:List Tm) (d er nd:Int),Wt t→Pm vs→(∀x∈vs,(size x:Int)≤V)→0≤nd→nd≤4096+V →
  nd≤(Bh vs d er nd t).2.2∧(Bh vs d er nd t).2.2≤4096+V∧((Bh vs d er nd t).2.2≤4096→(size (Bh vs d er nd t).1:Int)=(Bh vs d er nd t).2.2 - nd)
 | .mk k i n l ks,vs,d,er,nd,h,hv,hs,h0,h1=>by
  have hk0:k=0→ks=[]:=by
   intro e;have:=h.1;subst e;simp[arity] at this;exact this
  unfold Bh;split
  ·exact⟨by simp,h1,by simp;omega⟩
  split
  ·rename_i hc;have hlt:(i - d).toNat<vs.length:=by omega
   obtain⟨x,hx⟩:=A0 hlt;have hxs:=hs x (List.mem_of_getElem? hx);rw[LJ hx,K3 _ _ _ _ _ (.inr (O2 hv hx)),QJ Ah,DX ⟨by omega,by omega⟩];simp only;exact⟨by omega,by omega,by omega⟩
  split
  ·rename_i hk;have hk:=hk0 hk;subst hk;split
   ·simp only[Cn,size,BC];rw[DX ⟨by omega,by omega⟩];exact⟨by omega,by omega,by omega⟩
   simp only[size,BC];rw[DX ⟨by omega,by omega⟩];exact⟨by omega,by omega,by omega⟩
  rw[DX (n:=nd+1) ⟨by omega,by omega⟩];obtain⟨e1,e2,e3⟩:=G8 V hV hV2 ks vs k d 0 er (nd+1) h.2.2 hv hs Ah Ah;simp only[size];exact⟨by omega,e2,fun q=>by have:=e3 q;omega⟩
theorem G8 (V:Int) (hV:1≤V) (hV2:V≤2305843009213693952):∀(ts:List Tm) (vs:List Tm) (k d:Int) (j:Nat) (er nd:Int),Pm ts→Pm vs→(∀x∈vs,(size x:Int)≤V)→0≤nd→nd≤4096+V →
  nd≤(B6 vs k d j er nd ts).2.2∧(B6 vs k d j er nd ts).2.2≤4096+V∧((B6 vs k d j er nd ts).2.2≤4096→(BC (B6 vs k d j er nd ts).1:Int)=(B6 vs k d j er nd ts).2.2 - nd)
 | [],vs,k,d,j,er,nd,h,hv,hs,h0,h1=>by simp only[B6,BC];exact⟨by omega,h1,by omega⟩
 | t::ts,vs,k,d,j,er,nd,h,hv,hs,h0,h1=>by
  obtain⟨e1,e2,e3⟩:=Ha V hV hV2 t vs (d+below k j) er nd h.1 hv hs h0 h1;obtain⟨f1,f2,f3⟩:=G8 V hV hV2 ts vs k d (j+1) (Bh vs (d+below k j) er nd t).2.1 (Bh vs (d+below k j) er nd t).2.2 h.2 hv hs Ah e2;simp only[B6,BC];exact⟨by omega,f2,fun q=>by have:=f3 q;have:=e3 Ah;omega⟩
end
def known (ms:List Mv) (t:Tm):Bool :=
 match t with
 | .mk k i _ _ _=>k==12&&(decide (i<ms.length)&&(match ms[i.toNat]? with | some m=>m.known | none=>false))
def valueOf (ms:List Mv) (i:Int):Tm:=match ms[i.toNat]? with | some m=>m.value | none=>BH
def Kj (F:Gz→Tm→Tm×Int×Gz):Gz→List Tm→List Tm×Int×Gz
 | c,[]=>([],0,c)
 | c,t::ts=>if (F c t).2.1≠0 then ([],(F c t).2.1,(F c t).2.2)
  else if (Kj F (F c t).2.2 ts).2.1≠0 then ([],(Kj F (F c t).2.2 ts).2.1,(Kj F (F c t).2.2 ts).2.2)
  else ((F c t).1::(Kj F (F c t).2.2 ts).1,0,(Kj F (F c t).2.2 ts).2.2)
def ic (l:List Tm) (q:List Tm×Int×Gz):List Tm×Int×Gz:=if q.2.1≠0 then ([],q.2.1,q.2.2) else (l++q.1,0,q.2.2)
def Yp:Gz→Tm→List Tm→Gz×Tm×List Tm
 | c,v,[]=>(c,v,[])
 | c,v,a::l=>if v.kind=5∧c.over=false then Yp (c.form (Cz (v.kids.getD 1 BH) [a] 0).1 (Cz (v.kids.getD 1 BH) [a] 0).2) (Cz (v.kids.getD 1 BH) [a] 0).1 l else (c,v,a::l)
def Hg:Tm→List Tm→Tm
 | .mk k i n l _,ks=> .mk k i n l ks
def H5 (ms:List Mv):Nat→List Int→Gz→Tm→Tm×Int×Gz
 | 0,ab,c,t=>(BH,11,c)
 | n+1,ab,c,t =>
  if c.over=true then (BH,11,c)
  else if known ms (A4 t).1=false then
   (let q:=Kj (H5 ms n ab) c (A4 t).1.kids
    if q.2.1≠0 then (BH,q.2.1,q.2.2)
    else
     (let r:=Kj (H5 ms n ab) q.2.2 (A4 t).2
      if r.2.1≠0 then (BH,r.2.1,r.2.2)
      else (apply (Hg (A4 t).1 q.1) r.1,0,r.2.2.sized (apply (Hg (A4 t).1 q.1) r.1))))
  else if (A4 t).1.index∈ab then (BH,22,c)
  else
   (let v:=H5 ms n (ab++[(A4 t).1.index]) c (valueOf ms (A4 t).1.index)
    if v.2.1≠0 then (BH,v.2.1,v.2.2)
    else
     (let r:=Kj (H5 ms n ab) (v.2.2.form v.1 0) (A4 t).2
      if r.2.1≠0 then (BH,r.2.1,r.2.2)
      else
       (let b:=Yp r.2.2 v.1 r.1
        (apply b.2.1 b.2.2,0,b.1.form (apply b.2.1 b.2.2) 0))))
def free (ms:List Mv) (ab:List Int):Nat:=((List.range ms.length).filter fun i:Nat=> !decide ((i:Int)∈ab)).length
def Mb (S:Nat):Nat→Nat
 | 0=>0
 | k+1=>S*(Mb S k+2)+4096+Mb S k
def kQ (S:Nat) (ms:List Mv):Prop:=∀m∈ms,Nd m.value∧Wt m.value∧size m.value≤S
structure jF (M:Nat) (s:Nat) (r:Tm):Prop where
 nd:Nd r
 wt:Wt r
 size:size r≤s*M
theorem Q6 (l:List Tm) (k:Nat):BC (l.drop k)≤BC l:=by
 induction l generalizing k with
 | nil=>simp
 | cons a l ih =>
  cases k with
  | zero=>simp
  | succ k=>simp only[List.drop_succ_cons,BC];have:=ih k;omega
theorem Vm {l:List Tm}(h:Ej l) (k:Nat):Ej (l.drop k):=by
 induction l generalizing k with
 | nil=>simp[Ej]
 | cons a l ih =>
  cases k with
  | zero=>exact h
  | succ k=>exact ih h.2 k
theorem Fx {α:Type}{l:List α}{x:α}(h:x∈l):∃i:Nat,l[i]?=some x:=by
 obtain⟨i,hi,he⟩:=List.mem_iff_getElem.1 h;exact⟨i,by rw[List.getElem?_eq_getElem hi,he]⟩
section
variable {ms:List Mv}{n:Nat}{ab:List Int}{c:Gz}{t:Tm}{zk zi:Int}{zn:ByteArray}{zl:List CB}{zs:List Tm}
end
end Go.Eu
namespace Go.Eu
theorem L8 {l:List Tm}(h:Ej l) (k:Nat):Ej (l.take k):=by
 induction l generalizing k with
 | nil=>simp[Ej]
 | cons a l ih =>
  cases k with
  | zero=>trivial
  | succ k=>exact⟨h.1,ih h.2 k⟩
theorem TL {l:List Tm}{x:Tm}(h:x∈l):size x≤BC l:=by
 obtain⟨i,hi⟩:=Fx h;exact Bw hi
def Ut (ms:List Mv) (n:Nat) (c:Gz) (t:Tm):Tm×Int×Gz :=
 ((H5 ms n [] c t).1,(H5 ms n [] c t).2.1,if (H5 ms n [] c t).2.1=0 then (H5 ms n [] c t).2.2.form (H5 ms n [] c t).1 0 else (H5 ms n [] c t).2.2)
def kV (ms:List Mv) (n:Nat) (c:Gz) (t:Tm):List Int×Int :=
 if (Ut ms n c t).2.1=0 then (Rp [] (Ut ms n c t).1,0) else ([],(Ut ms n c t).2.1)
end Go.Eu
namespace Go.Abs
section
variable {P:Program}{r:Option Nat}{ops:Array Oper}{Q:B7→BJ→Prop}{k:Nat}{n:Nat}{τ:Nat→AV}{T:List Ax}{D:List Cu}{dst:Option Tmp}{op:Op}{ty:TypeId}{pos:String}{aft:Array Edge}{v:AV}{c:Call}{f:Operand}{fid:FuncId}{first caps A:List AV}{R:Ct→List Ax→Prop}
theorem Je {H H':List Ax}(hp:H.Perm H') (h:AL P r ops k ⟨n,τ,H',D⟩ Q):AL P r ops k ⟨n,τ,H,D⟩ Q:=CJ (OX (S:=⟨n,τ,H,D⟩) hp) h
theorem Es (fr:List Ax) {l:Nat}(ho:ops[k]?=some ⟨dst,.call c,ty,pos,aft,none⟩) (hd:Ei dst n=true)
  (hc:c.callee= .value f) (hf:ev τ f= .fn (.yield l) [] []) (h:Em P l A T R) (hA:c.args.toList.map (ev τ)=A)
  (next:∀v T',R (.val v) T'→AL P r ops (k+1) ⟨n,put τ dst v,fr++T',D⟩ Q) (pan:∀v T',R (.panic v) T'→Q (.panic v) ⟨n,τ,T'++fr,D⟩):AL P r ops k ⟨n,τ,fr++T,D⟩ Q :=
 EA (S:=⟨n,τ,fr++T,D⟩) ho Ab (Ft hd) (Tw hc hf List.perm_append_comm h hA) (fun v H' ⟨Hs',h1,h2⟩=>by subst h2;exact Je List.perm_append_comm (next v Hs' h1)) (fun v H' ⟨Hs',h1,h2⟩=>by subst h2;exact pan v Hs' h1)
theorem Fs (fr:List Ax) (ho:ops[k]?=some ⟨dst,.call c,ty,pos,aft,none⟩) (hd:Ei dst n=true)
  (hc:c.callee= .value f) (hf:(ev τ f= .p (.fn fid)∧first=[]∧caps=[])∨ev τ f= .fn (.func fid) first caps) (h:Bb P fid A T R) (hA:Ed (first++c.args.toList.map (ev τ)++caps) A)
  (next:∀v T',R (.val v) T'→AL P r ops (k+1) ⟨n,put τ dst v,fr++T',D⟩ Q) (pan:∀v T',R (.panic v) T'→Q (.panic v) ⟨n,τ,T'++fr,D⟩):AL P r ops k ⟨n,τ,fr++T,D⟩ Q :=
 Jh ho hd hc hf List.perm_append_comm (h.args hA) (.inl rfl) (fun v H' h1=>Je List.perm_append_comm (next v H' h1)) pan
end
theorem Dc.append:∀{l l':List Ax}{T:List Ax},Dc l l'→Dc (l++T) (l'++T)
 | [],l',T,h=>by simp only[Dc] at h;subst h;exact Dc.refl T
 | o::l,l',T,h=>by
  obtain⟨o',r',rfl,h1,h2⟩:=h;exact⟨o',r'++T,O,h1,Dc.append h2⟩
theorem Qr (is:List Nat) (l:List Ax) {l1 l' T:List Ax}(h:Kk is 0 l=l1) (w:Dc l1 l'):YE (l++T) (l'++T):=⟨l1++T,(CM h).append_right T,w.append⟩
theorem D4 (is:List Nat) (l:List Ax) {l1 T:List Ax}(h:Kk is 0 l=l1):(l1++T).Sublist (l++T):=(CM h).append_right T
def jf (b:Bool) (H':List Ax):Ct→List Ax→Prop
 | .val v,H''=>v= .p (.bool b)∧H''=H'
 | .panic _,_=>False
theorem FE {n:Nat}{τ:Nat→AV}{H:List Ax}{D:List Cu}{t:Nat}{x:AV}(h:τ t=x):FB ⟨n,τ,H,D⟩ ⟨n,put τ (some t) x,H,D⟩:=MX fun _ _ _ hr=>h▸hr
section
variable {P:Program}{dst:Option Tmp}{ty:TypeId}{pos:String}{aft:Array Edge}{g:Option (Nat×Bool)}{ρ:Operand→AV}{H:List Ax}{x y:Operand}
theorem PC {e:TypeId}{bl:Bool}{sz:Nat}(ht:Cj P e=some (bl,sz)):∃inf,P.info? e=some inf∧inf.size=sz:=by
 obtain⟨d,_,_,h⟩:=DS ht;cases hi:P.info? e with
 | none=>simp[hi] at h
 | some inf=>simp[hi] at h;exact⟨inf,rfl,h⟩
theorem Mw {T e:TypeId}{bl:Bool}{len sz b o:Nat}{k:IntKind}{i:Int}(hu:P.underlying T=some (.array len e)) (ht:Cj P e=some (bl,sz)) (hx:ρ x= .ptr b o) (hy:ρ y= .p (.int k i)) (h0:0≤i) (hn:i<len) :
  Co P ⟨dst,.indexAddr T x y,ty,pos,aft,g⟩ ρ H (.ptr b (o+i.toNat*sz)) H:=by
 obtain⟨inf,h1,h2⟩:=PC ht;exact NN hu h1 h2 hx hy h0 hn
theorem Hh {T e:TypeId}{bl:Bool}{len sz:Nat}{parts:Array (Nat×Operand)}{z:Value}{cs:List AV}(hu:P.underlying T=some (.array len e)) (ht:Cj P e=some (bl,sz)) (hz:zeroOf P T=some z)
  (hc:ES (fun i=>some (i*sz,sz)) (z.cells.toList.map FU) (parts.toList.map fun p=>(p.1,ρ p.2))=some cs):Co P ⟨dst,.build T parts,ty,pos,aft,g⟩ ρ H (.agg cs) H:=by
 obtain⟨inf,h1,h2⟩:=PC ht;subst h2;exact NP hu h1 hz hc
end
theorem Fu {P:Program}{g:Operand}{ps:Array Tmp}{assign body:Code}{S:BJ}{Q:B7→BJ→Prop}{fid:FuncId}{first caps:List AV}
  (hg:(ev S.τ g= .p (.fn fid)∧first=[]∧caps=[])∨ev S.τ g= .fn (.func fid) first caps)
  (h:∀d l (L:Jo),L=⟨.ready,none,S.n,S.τ,ps,assign,body⟩→∃Hs Hf,(Ax.loop l L:: .dfr d::S.H).Perm (Hs++Hf) ∧
   Bb P fid (first++[.fn (.yield l) [] []]++caps) Hs (fun r H'=>O7 P l d S Q r (H'++Hf))) :
  FJ P none (.rangeFunc g ps assign body) S Q:=T8 hg fun d l=>h d l _ rfl
def jo (H':List Ax):Ct→List Ax→Prop
 | .val v,H''=>v= .tup []∧H''=H'
 | .panic _,_=>False
def Jw (v:AV) (C:List Ax→Prop):Ct→List Ax→Prop
 | .val v',H'=>v'=v∧C H'
 | .panic _,_=>False
section
variable {P:Program}{n:Nat}{τ:Nat→AV}{H:List Ax}{D:List Cu}
theorem X2 {b:Nat}{cs cs':List AV}(h:Ed cs cs'):H7 (.box b cs) (.box b cs'):=⟨rfl,fun F w hr=>by
 obtain⟨vs,T,h1,h2⟩:=hr;exact⟨vs,T,h1,KP h h2⟩⟩
theorem IT {i:Nat}{o o':Ax}(hi:H[i]?=some o) (hw:H7 o o'):FB ⟨n,τ,H,D⟩ ⟨n,τ,H.set i o',D⟩:=by
 intro F a w hs;refine⟨F,⟨hs.size,hs.tmp,?_,hs.defs⟩,?_⟩
 ·have hk:=Dj (x':=o') hi hw.1;refine⟨fun x hx c hc=>?_,by show List.Nodup _;rw[hk];exact hs.heap.nodup,fun x hx=>?_,hs.heap.bd⟩
  ·rcases CU hx with rfl | ⟨j,_,hj⟩
   ·exact hs.heap.sub _ (List.mem_of_getElem? hi) c (by rw[←hw.1];exact hc)
   exact hs.heap.sub _ (List.mem_of_getElem? hj) c hc
  rcases CU hx with rfl | ⟨j,_,hj⟩
  ·exact hw.2 F w (hs.heap.obj _ (List.mem_of_getElem? hi))
  exact hs.heap.obj _ (List.mem_of_getElem? hj)
 refine { Trans.refl (F:=F) (H:=H) (w:=w) with keys:=fun x hx c hc=>?_ };rcases CU hx with rfl | ⟨j,_,hj⟩
 ·exact .inl ⟨_,List.mem_of_getElem? hi,by rw[←hw.1];exact hc⟩
 exact .inl ⟨_,List.mem_of_getElem? hj,hc⟩
end
section
variable {P:Program}{dst:Option Tmp}{ty:TypeId}{pos:String}{aft:Array Edge}{g:Option (Nat×Bool)}{ρ:Operand→AV}{H:List Ax}{x y:Operand}
end
section
variable {P:Program}{dst:Option Tmp}{ty:TypeId}{pos:String}{aft:Array Edge}{g:Option (Nat×Bool)}{ρ:Operand→AV}{H:List Ax}{x y:Operand}
end
section
variable {P:Program}{dst:Option Tmp}{ty:TypeId}{pos:String}{aft:Array Edge}{g:Option (Nat×Bool)}{ρ:Operand→AV}{H:List Ax}{x y:Operand}
end
section
variable {P:Program}{r:Option Nat}{ops:Array Oper}{Q:B7→BJ→Prop}{k:Nat}{n:Nat}{τ:Nat→AV}{H:List Ax}{D:List Cu}{dst:Option Tmp}{ty:TypeId}{pos:String}{aft:Array Edge}{v:AV}{c:Call}{f:Operand}{fid:FuncId}{first caps A:List AV}
theorem ML (ho:ops[k]?=some ⟨dst,.call c,ty,pos,aft,none⟩) (hd:Ei dst n=true) (hc:c.callee= .value f) (hf:(ev τ f= .p (.fn fid)∧first=[]∧caps=[])∨ev τ f= .fn (.func fid) first caps) (h:Bb P fid A [] (Of v [])) (hA:Ed (first++c.args.toList.map (ev τ)++caps) A) (pan:Q (.panic v) ⟨n,τ,H,D⟩):AL P r ops k ⟨n,τ,H,D⟩ Q :=
 Jh ho hd hc hf (Hs:=[]) (Hf:=H) Ai (h.args hA) (.inl rfl) (fun _ _ h=>h.elim) (fun v' H' ⟨h1,h2⟩=>by subst h1;subst h2;exact pan)
end
end Go.Abs
namespace Go.Eu
open Go.Abs
def GJ (k:Int):Int:=if k=5∨k=6∨k=7 then 1 else if k=11 then 2 else -1
theorem Qb {k:Int}{i:Int}(h:i=GJ k) (hi:0≤i):below k i=1:=by
 unfold GJ at h;unfold below;split at h
 ·rename_i hk;subst h;rcases hk with rfl | rfl | rfl<;>simp
 split at h
 ·rename_i hk;subst h;subst hk;simp
 omega
theorem OI {k:Int}{i:Int}(h:i≠GJ k):below k i=0:=by
 unfold GJ at h;unfold below;rw[if_neg];simp only[Bool.or_eq_true,Bool.and_eq_true,beq_iff_eq];intro hc;apply h;rcases hc with ⟨h1,h2⟩ | ⟨h1,h2⟩
 ·rw[if_pos (by rcases h2 with (h | h) | h<;>simp[h]),h1]
 rw[if_neg Ah,if_pos h2,h1]
theorem Px {k:Int}(h:¬(0≤k∧k<13)):GJ k= -1:=by
 unfold GJ;rw[if_neg Ah,if_neg Ah]
section
variable {σ:Type}
mutual
def Cy (st:σ→Int→Tm→σ×Bool):Tm→Int→σ→σ×Bool
 | .mk k i n l ks,d,s=>if (st s d (.mk k i n l ks)).2=false then ((st s d (.mk k i n l ks)).1,false) else C7 st k d 0 (st s d (.mk k i n l ks)).1 ks
def C7 (st:σ→Int→Tm→σ×Bool) (k d:Int):Nat→σ→List Tm→σ×Bool
 | _,s,[]=>(s,true)
 | j,s,t::ts=>if (Cy st t (d+below k j) s).2=false then ((Cy st t (d+below k j) s).1,false) else C7 st k d (j+1) (Cy st t (d+below k j) s).1 ts
end
end
def KK (ix nm:Bool) (lv ks bl:Int):List AV:=[.p (.bool ix),.p (.bool nm),.p (I lv),.p (I ks),.p (I bl)]
def KT:List AV:=[KK true false 0 0 (-1),KK false false 0 0 (-1),KK false false 1 0 (-1),KK false true (-1) 0 (-1),KK false false 0 2 (-1),KK false false 0 2 1,KK false false 0 2 1,KK false false 0 2 1,KK false false 0 3 (-1),KK false false 0 1 (-1),KK false false 0 1 (-1),KK false false 0 3 2,KK true false 0 0 (-1)].flatten
theorem Ug {k:Int}(h:0≤k∧k<13):KT[0+k.toNat*5+4]?=some (.p (I (GJ k))):=by
 have:k=0∨k=1∨k=2∨k=3∨k=4∨k=5∨k=6∨k=7∨k=8∨k=9∨k=10∨k=11∨k=12:=by omega
 rcases this with rfl | rfl | rfl | rfl | rfl | rfl | rfl | rfl | rfl | rfl | rfl | rfl | rfl<;>rfl
section
variable {σ:Type}{st:σ→Int→Tm→σ×Bool}{Inv:Nat→σ→Prop}
theorem Kw {t:Tm}{d:Int}{s:σ}(h:(st s d t).2=false):Cy st t d s=((st s d t).1,false):=by
 obtain⟨k,i,n,l,ks⟩:=t;rw[Cy,if_pos h]
theorem Et {k i:Int}{n:ByteArray}{l:List CB}{ks:List Tm}{d:Int}{s:σ}(h:(st s d (.mk k i n l ks)).2=true):Cy st (.mk k i n l ks) d s=C7 st k d 0 (st s d (.mk k i n l ks)).1 ks:=by
 rw[Cy,if_neg (by simp[h])]
theorem Fb {k d:Int}{ts:List Tm}{i:Nat}{x:Tm}{s:σ}(hx:ts[i]?=some x) (h:(Cy st x (d+below k i) s).2=false):C7 st k d i s (ts.drop i)=((Cy st x (d+below k i) s).1,false):=by
 rw[CH hx,C7,if_pos h]
theorem G7 {k d:Int}{ts:List Tm}{i:Nat}{x:Tm}{s:σ}(hx:ts[i]?=some x) (h:(Cy st x (d+below k i) s).2=true):C7 st k d i s (ts.drop i)=C7 st k d (i+1) (Cy st x (d+below k i) s).1 (ts.drop (i+1)):=by
 rw[CH hx,C7,if_neg (by simp[h])]
mutual
theorem F7 (hI:∀m s d t,Inv (m+1) s→Inv m (st s d t).1):∀(t:Tm) (d:Int) (s:σ) (m:Nat),Inv (m+size t) s→(Cy st t d s).2=true→Inv m (Cy st t d s).1
 | .mk k i n l ks,d,s,m,h,hv=>by
  rw[size,show m+(1+BC ks)=(m+BC ks)+1 by omega] at h;have h1:=hI _ _ d (.mk k i n l ks) h;rw[Cy] at hv ⊢;split at hv
  ·cases hv
  rename_i hc;rw[if_neg hc];exact Kr hI ks k d 0 _ m h1 hv
theorem Kr (hI:∀m s d t,Inv (m+1) s→Inv m (st s d t).1):∀(ts:List Tm) (k d:Int) (j:Nat) (s:σ) (m:Nat),Inv (m+BC ts) s→(C7 st k d j s ts).2=true→Inv m (C7 st k d j s ts).1
 | [],k,d,j,s,m,h,hv=>by simpa [C7,BC] using h
 | t::ts,k,d,j,s,m,h,hv=>by
  rw[BC,show m+(size t+BC ts)=(m+BC ts)+size t by omega] at h;rw[C7] at hv ⊢;split at hv
  ·cases hv
  rename_i hc;rw[if_neg hc];have:=F7 hI t (d+below k j) s _ h (by simpa using hc);exact Kr hI ts k d (j+1) _ m this hv
end
end
def RU (s:Int) (d:Int) (t:Tm):Int×Bool:=(wr (s+1),true)
mutual
theorem Qi (B:Int) (hB:B≤4611686018427387904):∀(t:Tm) (d s:Int),0≤s→s+size t<B→Cy RU t d s=(s+size t,true)
 | .mk k i n l ks,d,s,h0,h=>by
  rw[size] at h ⊢;rw[Et rfl];simp only[RU];rw[DX ⟨by omega,by omega⟩,OR B hB ks k d 0 (s+1) Ah Ah];congr 1;omega
theorem OR (B:Int) (hB:B≤4611686018427387904):∀(ts:List Tm) (k d:Int) (j:Nat) (s:Int),0≤s→s+BC ts<B→C7 RU k d j s ts=(s+BC ts,true)
 | [],k,d,j,s,h0,h=>by simp[C7,BC]
 | t::ts,k,d,j,s,h0,h=>by
  rw[BC] at h ⊢;rw[C7,Qi B hB t _ s h0 Ah];simp only;rw[if_neg Ai,OR B hB ts k d (j+1) (s+size t) Ah Ah];congr 1;omega
end
def kN (s:List Int) (d:Int):Tm→List Int×Bool
 | .mk k i _ _ _=>(if k=12∧i ∉ s then s++[i] else s,true)
def kv (s:List Int):List (Int×AV):=s.map fun i=>(i,.p (.bool true))
def QZ (xs ys:List Tm) (i:Nat):Prop:=ys.length=xs.length∧∀k,k<xs.length→ys[k]?=if k<i∨xs.length - 1 - k<i then xs[xs.length - 1 - k]? else xs[k]?
theorem RG (xs:List Tm):QZ xs xs 0:=⟨rfl,fun k hk=>by rw[if_neg Ah]⟩
theorem Re {xs ys:List Tm}{i:Nat}{a b:Tm}(h:QZ xs ys i) (hi:i<xs.length - 1 - i) (ha:ys[i]?=some a) (hb:ys[xs.length - 1 - i]?=some b):QZ xs ((ys.set i b).set (xs.length - 1 - i) a) (i+1):=by
 obtain⟨hl,h⟩:=h;refine⟨by simp[hl],fun k hk=>?_⟩;have e1:=h i Ah;rw[if_neg Ah,ha] at e1;have e2:=h (xs.length - 1 - i) Ah;rw[if_neg Ah,hb] at e2;by_cases k1:k=xs.length - 1 - i
 ·subst k1;rw[if_pos Ah,List.getElem?_set_self Ac,e1];congr 1;omega
 rw[List.getElem?_set_ne (fun e=>k1 e.symm)];by_cases k2:k=i
 ·subst k2;rw[if_pos Ah,List.getElem?_set_self Ah,e2]
 rw[List.getElem?_set_ne (fun e=>k2 e.symm),h k hk];by_cases k3:k<i∨xs.length - 1 - k<i
 ·rw[if_pos k3,if_pos Ah]
 rw[if_neg k3,if_neg Ah]
theorem RI {xs ys:List Tm}{i:Nat}(h:QZ xs ys i) (hi:xs.length - 1 - i≤i):ys=xs.reverse:=by
 obtain⟨hl,h⟩:=h;apply List.ext_getElem?;intro k;by_cases hk:k<xs.length
 ·rw[h k hk,List.getElem?_reverse hk];by_cases k3:k<i∨xs.length - 1 - k<i
  ·rw[if_pos k3]
  rw[if_neg k3];congr 1;omega
 rw[List.getElem?_eq_none Ah,List.getElem?_eq_none Ac]
def jH (f:Int) (n i:Nat):List Tm:=(Vg f 0 n).take i++List.replicate (n - i) BH
def Y2 (t:Tm):Bool:=decide ((size t:Int) > 4096)||decide (De t > 200)
def ju {σ:Type}(st:σ→Int→Tm→σ) (xs:List Tm):Nat→σ→σ
 | 0,s=>s
 | m+1,s=>ju st xs m (st s m (xs.getD m BH))
def gV (k:Int) (t:Tm) (i:Int) (a:Tm):Tm:= .mk k 0 ⟨#[]⟩ [] [a,t]
end Go.Eu
namespace Go.Abs
def bC (mkv:Nat→AV) (cs:List AV):Ct→List Ax→Prop
 | .val v,H'=>∃b,v=mkv b∧H'=[.box b cs]
 | .panic _,_=>False
section
variable {P:Program}{ops:Array Oper}{n:Nat}{τ₀ τ:Nat→AV}{D:List Cu}{Q:B7→BJ→Prop}{opn:Nat→Bool}{k:Nat}{H:List Ax}{dst:Option Tmp}{ty:TypeId}{pos:String}{aft:Array Edge}{c:Call}{f:Operand}{fid:FuncId}{first caps A:List AV}{mkv:Nat→AV}{cs:List AV}
theorem R0 {rd ef effs fx}(fx':List (Nat×Sp)) (ho:ops[k]?=some ⟨dst,.call c,ty,pos,aft,none⟩) (hn:opn k=true)
  (hc:c.callee= .value f) (hf:(ev τ f= .p (.fn fid)∧first=[]∧caps=[])∨ev τ f= .fn (.func fid) first caps) (h:Bb P fid A [] (bC mkv cs)) (hA:first++c.args.toList.map (ev τ)++caps=A∨(first++c.args.toList.map (ev τ)++caps).map norm=A) (haft:DR ops k (fx'.map (·.1))=true)
  (next:∀b,HA ops k H (.box b cs::H) rd∧Ew k (.eff (mkv b) (.box b cs::H)) fx∧Dr P ops n τ₀ D Q opn (k+1) (put τ dst (mkv b)) (.box b cs::H) rd ((k,H,.box b cs::H)::ef) (true::effs) (fx'++fx)):Dr P ops n τ₀ D Q opn k τ H rd ef effs fx :=
 JS fx' ho hn (EX (H:=H) (Hs:=[]) (Hf:=H) hc hf Ai h hA) haft ⟨_,_,_,⟨0,rfl,rfl⟩,rfl⟩ (fun v H' ⟨_,h,_⟩=>h.elim) (fun v H' ⟨Hs',⟨b,h1,h2⟩,h3⟩=>by subst h1;subst h2;subst h3;exact next b)
end
def Qp {α:Type}(mkv:α→AV) (mkp:Int→AV) (C:α→List Ax→Prop) (x:Except Int α):Ct→List Ax→Prop
 | .val v,H'=>∃a,x= .ok a∧v=mkv a∧C a H'
 | .panic v,_=>∃e,x= .error e∧v=mkp e
theorem CW.permR {P:Program}{ρ:Operand→AV}{o:Oper}{H:List Ax}{R R':Ct→List Ax→Prop}(h:CW P o ρ H R) (hp:∀r H1,R r H1→∃H2,H1.Perm H2∧R' r H2):CW P o ρ H R':=by
 intro r F S a w hs hH hρ hd;have:=h r F S a w hs hH hρ hd;refine Ka this ?_ ?_
 ·rintro a' w' ⟨v',H1,F',hR,hs',ht⟩;obtain⟨H2,hp,hR'⟩:=hp _ _ hR;exact⟨v',H2,F',hR',⟨hs'.size,hs'.tmp,hs'.heap.perm hp,hs'.defs⟩,{ ht with keys:=fun o ho=>ht.keys o (hp.mem_iff.2 ho) }⟩
 rintro e a' w' ⟨v',H1,F',u,hR,h1,h2,hs',ht⟩;obtain⟨H2,hp,hR'⟩:=hp _ _ hR;exact⟨v',H2,F',u,hR',h1,h2,⟨hs'.size,hs'.tmp,hs'.heap.perm hp,hs'.defs⟩,{ ht with keys:=fun o ho=>ht.keys o (hp.mem_iff.2 ho) }⟩
section
variable {P:Program}{ops:Array Oper}{n:Nat}{τ₀ τ:Nat→AV}{D:List Cu}{Q:B7→BJ→Prop}{opn:Nat→Bool}{k:Nat}{T:List Ax}{dst:Option Tmp}{ty:TypeId}{pos:String}{aft:Array Edge}{c:Call}{f:Operand}{fid:FuncId}{first caps A:List AV}
 {α:Type} {mkv:α→AV} {mkp:Int→AV} {C:α→List Ax→Prop} {x:Except Int α}
theorem YV {r:Option Nat}(fr:List Ax) (ho:ops[k]?=some ⟨dst,.call c,ty,pos,aft,none⟩) (hd:Ei dst n=true)
  (hc:c.callee= .value f) (hf:(ev τ f= .p (.fn fid)∧first=[]∧caps=[])∨ev τ f= .fn (.func fid) first caps) (h:Bb P fid A T (Qp mkv mkp C x)) (hA:Ed (first++c.args.toList.map (ev τ)++caps) A)
  (next:∀a T',x= .ok a→C a T'→AL P r ops (k+1) ⟨n,put τ dst (mkv a),fr++T',D⟩ Q) (pan:∀e T',x= .error e→Q (.panic (mkp e)) ⟨n,τ,T'++fr,D⟩):AL P r ops k ⟨n,τ,fr++T,D⟩ Q :=
 Fs fr ho hd hc hf h hA (fun v T' ⟨a,h1,h2,h3⟩=>by subst h2;exact next a T' h1 h3) (fun v T' ⟨e,h1,h2⟩=>by subst h2;exact pan e T' h1)
theorem dj {rd ef effs fx}(fr:List Ax) (ho:ops[k]?=some ⟨dst,.call c,ty,pos,aft,none⟩) (hn:opn k=true)
  (hc:c.callee= .value f) (hf:(ev τ f= .p (.fn fid)∧first=[]∧caps=[])∨ev τ f= .fn (.func fid) first caps) (h:Bb P fid A T (Qp mkv mkp C x)) (hA:Ed (first++c.args.toList.map (ev τ)++caps) A) (haft:DR ops k []=true) (chk:Jt ops n (true::effs).reverse=true) (hfx:JI k fx=true) (owe:HA ops k (fr++T) (fr++T) rd)
  (next:∀a T',x= .ok a→C a T'→HA ops k (fr++T) (fr++T') rd∧Ew k (.eff (mkv a) (fr++T')) fx∧Dr P ops n τ₀ D Q opn (k+1) (put τ dst (mkv a)) (fr++T') rd ((k,fr++T,fr++T')::ef) (true::effs) fx)
  (pan:∀e,x= .error e→∀τ' T',(∀t,(∀(k:Nat) o,ops[k]?=some o→o.dst≠some t)→τ' t=τ₀ t)→Q (.panic (mkp e)) ⟨n,τ',T'++fr,D⟩):Dr P ops n τ₀ D Q opn k τ (fr++T) rd ef effs fx:=by
 have hop:CW P ⟨dst,.call c,ty,pos,aft,none⟩ (ev τ) (fr++T) (fun r H'=>∃T',Qp mkv mkp C x r T'∧(match r with | .val _=>H'=fr++T' | .panic _=>H'=T'++fr)):=by
  refine CW.permR (EX (H:=fr++T) (Hs:=T) (Hf:=fr) hc hf List.perm_append_comm (h.args hA) (.inl O)) ?_;rintro r H1 ⟨T',hR,rfl⟩;cases r with
  | val v=>exact⟨fr++T',List.perm_append_comm,T',hR,rfl⟩
  | panic v=>exact⟨T'++fr,List.Perm.refl _,T',hR,rfl⟩
 by_cases hx:∃a T',x= .ok a∧C a T'
 ·obtain⟨a,T',hx,hC⟩:=hx;refine Dr.opn _ [] ho hn Aj hop haft ⟨mkv a,_,T',⟨a,hx,O,hC⟩,O⟩ ?_ ?_ ?_ ?_
  ·rintro v H' ⟨T',⟨a',h1,h2,h3⟩,rfl⟩;exact(next a' T' h1 h3).1
  ·rintro v H' ⟨T',⟨a',h1,h2,h3⟩,rfl⟩;subst h2;exact(next a' T' h1 h3).2.1
  ·rintro v H' ⟨T',⟨a',h1,h2,h3⟩,rfl⟩;subst h2;exact(next a' T' h1 h3).2.2
  rintro v H' ⟨T',⟨e,h1,h2⟩,rfl⟩ τ' hτ;subst h2;exact pan e h1 τ' T' hτ
 refine Dr.pan _ ho hn Aj hop haft chk hfx ?_ owe ?_
 ·rintro v H' ⟨T',⟨a',h1,h2,h3⟩,rfl⟩;exact hx ⟨a',T',h1,h3⟩
 rintro v H' ⟨T',⟨e,h1,h2⟩,rfl⟩ τ' hτ;subst h2;exact pan e h1 τ' T' hτ
end
section
variable {P:Program}{ops:Array Oper}{n:Nat}{τ₀ τ:Nat→AV}{D:List Cu}{Q:B7→BJ→Prop}{opn:Nat→Bool}{k:Nat}{H Hs:List Ax}{dst:Option Tmp}{ty:TypeId}{pos:String}{aft:Array Edge}{c:Call}{f:Operand}{fid:FuncId}{first caps A:List AV}
 {α:Type} {mkv:α→AV} {mkp:Int→AV} {C:α→List Ax→Prop} {x:Except Int α}
theorem PO {r:Option Nat}(is:List Nat) (ho:ops[k]?=some ⟨dst,.call c,ty,pos,aft,none⟩) (hd:Ei dst n=true)
  (hc:c.callee= .value f) (hf:(ev τ f= .p (.fn fid)∧first=[]∧caps=[])∨ev τ f= .fn (.func fid) first caps) (h:Bb P fid A Hs (Qp mkv mkp C x)) (hg:Dg H is Hs) (hn:is.Nodup) (hA:Ed (first++c.args.toList.map (ev τ)++caps) A)
  (hl:∀a T',C a T'→T'.length=Hs.length)
  (next:∀a T',x= .ok a→C a T'→AL P r ops (k+1) ⟨n,put τ dst (mkv a),Ic H is T',D⟩ Q) (pan:∀e H',x= .error e→Q (.panic (mkp e)) ⟨n,τ,H'++CG is 0 H,D⟩):AL P r ops k ⟨n,τ,H,D⟩ Q :=
 JY is ho hd hc hf h hg hn hA (fun v T' ⟨a,h1,h2,h3⟩=>by subst h2;exact⟨hl a T' h3,next a T' h1 h3⟩) (fun v T' ⟨e,h1,h2⟩=>by subst h2;exact pan e T' h1)
theorem O8 {rd ef effs fx}(is:List Nat) (ho:ops[k]?=some ⟨dst,.call c,ty,pos,aft,none⟩) (hn:opn k=true)
  (hc:c.callee= .value f) (hf:(ev τ f= .p (.fn fid)∧first=[]∧caps=[])∨ev τ f= .fn (.func fid) first caps) (h:Bb P fid A Hs (Qp mkv mkp C x)) (hg:Dg H is Hs) (hnd:is.Nodup) (hA:Ed (first++c.args.toList.map (ev τ)++caps) A)
  (hl:∀a T',C a T'→T'.length=Hs.length) (haft:DR ops k []=true) (chk:Jt ops n (true::effs).reverse=true) (hfx:JI k fx=true) (owe:HA ops k H H rd)
  (next:∀a T',x= .ok a→C a T'→HA ops k H (Ic H is T') rd∧Ew k (.eff (mkv a) (Ic H is T')) fx∧Dr P ops n τ₀ D Q opn (k+1) (put τ dst (mkv a)) (Ic H is T') rd ((k,H,Ic H is T')::ef) (true::effs) fx)
  (pan:∀e,x= .error e→∀τ' H',(∀t,(∀(k:Nat) o,ops[k]?=some o→o.dst≠some t)→τ' t=τ₀ t)→Q (.panic (mkp e)) ⟨n,τ',H'++CG is 0 H,D⟩):Dr P ops n τ₀ D Q opn k τ H rd ef effs fx:=by
 have hop:CW P ⟨dst,.call c,ty,pos,aft,none⟩ (ev τ) H (fun r H'=>∃T',Qp mkv mkp C x r T'∧(match r with | .val _=>H'=Ic H is T' | .panic _=>H'=T'++CG is 0 H)):=by
  refine CW.permR (EX hc hf (CK hnd hg) (h.args hA) (.inl O)) ?_;rintro r H1 ⟨T',hR,rfl⟩;cases r with
  | val v=>obtain⟨a,h1,h2,h3⟩:=hR;exact⟨_,(Kf hnd hg (hl a T' h3)).symm,T',⟨a,h1,h2,h3⟩,rfl⟩
  | panic v=>exact⟨_,List.Perm.refl _,T',hR,rfl⟩
 by_cases hx:∃a T',x= .ok a∧C a T'
 ·obtain⟨a,T',hx,hC⟩:=hx;refine Dr.opn _ [] ho hn Aj hop haft ⟨mkv a,_,T',⟨a,hx,O,hC⟩,O⟩ ?_ ?_ ?_ ?_
  ·rintro v H' ⟨T',⟨a',h1,h2,h3⟩,rfl⟩;exact(next a' T' h1 h3).1
  ·rintro v H' ⟨T',⟨a',h1,h2,h3⟩,rfl⟩;subst h2;exact(next a' T' h1 h3).2.1
  ·rintro v H' ⟨T',⟨a',h1,h2,h3⟩,rfl⟩;subst h2;exact(next a' T' h1 h3).2.2
  rintro v H' ⟨T',⟨e,h1,h2⟩,rfl⟩ τ' hτ;subst h2;exact pan e h1 τ' T' hτ
 refine Dr.pan _ ho hn Aj hop haft chk hfx ?_ owe ?_
 ·rintro v H' ⟨T',⟨a',h1,h2,h3⟩,rfl⟩;exact hx ⟨a',T',h1,h3⟩
 rintro v H' ⟨T',⟨e,h1,h2⟩,rfl⟩ τ' hτ;subst h2;exact pan e h1 τ' T' hτ
end
theorem Dx:∀xs:List AV,Ed xs xs
 | []=>HX
 | x::xs=>aw (we rfl) (Dx xs)
def bV (ops:Array Oper) (t:Nat):Bool:=ops.toList.all fun o=>match o.dst with | some u=> !(Nat.beq u t) | none=>true
theorem M8 {ops:Array Oper}{t:Nat}(h:bV ops t=true) (k:Nat) (o:Oper) (ho:ops[k]?=some o):o.dst≠some t:=by
 intro e;have hm:o∈ops.toList:=by
  rw[←Array.getElem?_toList] at ho;exact List.mem_of_getElem? ho
 have:=List.all_eq_true.1 h o hm;simp[e] at this
theorem OG {L Hs:List Ax}{is:List Nat}(X:List Ax) (hn:is.Nodup) (hg:Dg L is Hs):(X++L).Perm (Hs++(X++CG is 0 L)):=by
 have h:=(CK hn hg).append_left X;refine h.trans ?_;rw[←List.append_assoc,←List.append_assoc];exact List.perm_append_comm.append_right _
theorem D1.eq {P:Program}{f:FuncId}{caps:List AV}{m:Io}{H X:List Ax}{R:List Ax→Prop}(h:D1 P f caps m H (fun H'=>H'=X)) (hq:R X):D1 P f caps m H R:=by
 refine⟨h.1,fun F w vs u hH hr hm=>?_⟩;refine(h.2 F w vs u hH hr hm).mono ?_;rintro e u' w' ⟨v,H',F',h1,h2,rfl,h3,h4⟩;exact⟨v,_,F',h1,h2,hq,h3,h4⟩
end Go.Abs
namespace Go.Eu
open Go.Abs
mutual
def Vp:Tm→Prop
 | .mk k i _ _ ks=>(k=0→0≤i∧i<1099511627776)∧Pf ks
def Pf:List Tm→Prop
 | []=>True
 | t::ts=>Vp t∧Pf ts
end
theorem JO:∀{ts:List Tm}{i:Nat}{t:Tm},Pf ts→ts[i]?=some t→Vp t
 | [],i,t,_,h=>by simp at h
 | a::ts,0,t,hn,h=>by simp at h;subst h;exact hn.1
 | a::ts,i+1,t,hn,h=>by simp at h;exact JO hn.2 h
def J8:Tm→Tm
 | .mk k i n l _=> .mk k i n l []
def FR (i:Int):Except Int Tm:=if i > 65535 then .error 24 else .ok (Cn i)
def Qh (n m:Int):Except Int Int:=if wr (n+m) > 4096 then .error 5 else .ok (wr (n+m))
def SQ (b fr:Int) (t:Tm) (d:Int):Except Int Tm :=
 if t.index - d<fr then .ok (J8 t) else if b<0∧t.index - d<fr - b then .error 24 else FR (t.index+b)
def Ig {α β:Type}(f:α→β):Except Int α→Except Int β
 | .error e=> .error e
 | .ok x=> .ok (f x)
def Cg {α β:Type}(x:Except Int α) (f:α→Except Int β):Except Int β :=
 match x with
 | .error e=> .error e
 | .ok x=>f x
def Gv (rep:Tm→Int→Except Int Tm) (s:Unit) (t:Tm) (d:Int):Except Int ((Tm×Bool)×Unit) :=
 if t.kind=0 then Ig (fun x=>((x,true),())) (rep t d) else .ok ((J8 t,false),())
mutual
def Cp {σ:Type}(vis:σ→Tm→Int→Except Int ((Tm×Bool)×σ)):Tm→Int→σ→Except Int (Tm×σ)
 | .mk k i n l ks,d,s=>Cg (vis s (.mk k i n l ks) d) fun r =>
   if r.1.2=true then .ok (r.1.1,r.2) else Cg (Cm vis k 0 ks d r.2) fun q=> .ok (Hg r.1.1 q.1,q.2)
def Cm {σ:Type}(vis:σ→Tm→Int→Except Int ((Tm×Bool)×σ)) (k:Int):Nat→List Tm→Int→σ→Except Int (List Tm×σ)
 | _,[],_,s=> .ok ([],s)
 | j,t::ts,d,s=>Cg (Cp vis t (d+below k j) s) fun r=>Cg (Cm vis k (j+1) ts d r.2) fun q=> .ok (r.1::q.1,q.2)
end
section
variable {σ:Type}{vis:σ→Tm→Int→Except Int ((Tm×Bool)×σ)}
theorem Dq {t:Tm}{d:Int}{s q:σ}{o:Tm}(h:vis s t d= .ok ((o,true),q)):Cp vis t d s= .ok (o,q):=by
 obtain⟨k,i,n,l,ks⟩:=t;simp[Cp,h,Cg]
theorem E0 {t:Tm}{d e:Int}{s:σ}(h:vis s t d= .error e):Cp vis t d s= .error e:=by
 obtain⟨k,i,n,l,ks⟩:=t;simp[Cp,h,Cg]
theorem E6 {k i d:Int}{n:ByteArray}{l:List CB}{ks:List Tm}{s q q':σ}{o:Tm}{ys:List Tm}(h:vis s (.mk k i n l ks) d= .ok ((o,false),q)) (hk:Cm vis k 0 ks d q= .ok (ys,q')):Cp vis (.mk k i n l ks) d s= .ok (Hg o ys,q'):=by
 simp[Cp,h,Cg,hk]
theorem GL {k i d e:Int}{n:ByteArray}{l:List CB}{ks:List Tm}{s q:σ}{o:Tm}(h:vis s (.mk k i n l ks) d= .ok ((o,false),q)) (hk:Cm vis k 0 ks d q= .error e):Cp vis (.mk k i n l ks) d s= .error e:=by
 simp[Cp,h,Cg,hk]
def Ls (vis:σ→Tm→Int→Except Int ((Tm×Bool)×σ)) (k:Int) (ts:List Tm) (d:Int) (q0:σ) (i:Nat) (ys:List Tm) (q:σ):Prop :=
 ys.length=i∧Cm vis k 0 ts d q0=Cg (Cm vis k i (ts.drop i) d q) fun r=> .ok (ys++r.1,r.2)
theorem Ls.zero (k:Int) (ts:List Tm) (d:Int) (q0:σ):Ls vis k ts d q0 0 [] q0:=by
 refine⟨O,?_⟩;simp only[List.drop_zero,List.nil_append];cases Cm vis k 0 ts d q0<;>rfl
theorem Ls.err {k d e:Int}{ts ys:List Tm}{q0 q:σ}{i:Nat}{x:Tm}(h:Ls vis k ts d q0 i ys q) (hx:ts[i]?=some x) (hb:Cp vis x (d+below k i) q= .error e):Cm vis k 0 ts d q0= .error e:=by
 rw[h.2,CH hx,Cm,hb];rfl
theorem Ls.succ {k d:Int}{ts ys:List Tm}{q0 q q':σ}{i:Nat}{x y:Tm}(h:Ls vis k ts d q0 i ys q) (hx:ts[i]?=some x) (hb:Cp vis x (d+below k i) q= .ok (y,q')):Ls vis k ts d q0 (i+1) (ys++[y]) q':=by
 refine⟨by simp[h.1],?_⟩;rw[h.2,CH hx,Cm,hb];simp only[Cg];cases Cm vis k (i+1) (ts.drop (i+1)) d q'<;>simp
theorem Ls.fin {k d:Int}{ts ys:List Tm}{q0 q:σ}{i:Nat}(h:Ls vis k ts d q0 i ys q) (hi:ts.length≤i):Cm vis k 0 ts d q0= .ok (ys,q):=by
 rw[h.2,List.drop_eq_nil_of_le hi,Cm];simp[Cg]
end
theorem M7 {ys:List Tm}{i m:Nat}{x:Tm}(h:ys.length=i) (hm:0<m):(ys++List.replicate m BH).set i x=(ys++[x])++List.replicate (m - 1) BH:=by
 subst h;cases m with
 | zero=>omega
 | succ m=>simp[List.replicate_succ]
section
variable {b fr d k i:Int}{n:ByteArray}{l:List CB}{ks:List Tm}
theorem SU (h:i - d<fr):SQ b fr (.mk k i n l ks) d= .ok (.mk k i n l []):=by simp[SQ,Tm.index,J8,h]
theorem XV (h:¬i - d<fr) (h2:b<0) (h3:i - d<fr - b):SQ b fr (.mk k i n l ks) d= .error 24:=by unfold SQ;exact(if_neg h).trans (if_pos ⟨h2,h3⟩)
theorem RP (h:¬i - d<fr) (h2:¬(b<0∧i - d<fr - b)):SQ b fr (.mk k i n l ks) d=FR (i+b):=by unfold SQ;exact(if_neg h).trans (if_neg h2)
variable {rep:Tm→Int→Except Int Tm}{s:Unit}
theorem Jr {e:Int}(h:k=0) (hr:rep (.mk k i n l ks) d= .error e):Gv rep s (.mk k i n l ks) d= .error e:=by unfold Gv;exact(if_pos h).trans (by rw[hr];rfl)
theorem IU {x:Tm}(h:k=0) (hr:rep (.mk k i n l ks) d= .ok x):Gv rep s (.mk k i n l ks) d= .ok ((x,true),()):=by unfold Gv;exact(if_pos h).trans (by rw[hr];rfl)
theorem Jv (h:k≠0):Gv rep s (.mk k i n l ks) d= .ok ((.mk k i n l [],false),()):=by unfold Gv;exact(if_neg h).trans rfl
end
def Ge (b fr:Int) (t:Tm):Except Int Tm:=Ig Prod.fst (Cp (Gv (SQ b fr)) t 0 ())
theorem Mu {α β:Type}{f:α→β}{x:Except Int α}{a:α}(h:x= .ok a):Ig f x= .ok (f a):=by rw[h];rfl
theorem KA {α β:Type}{f:α→β}{x:Except Int α}{e:Int}(h:x= .error e):Ig f x= .error e:=by rw[h];rfl
def GA (vs:List Tm) (dp ti d:Int):Int:=if 0≤wr (wr (ti - d) - dp)∧wr (wr (ti - d) - dp)<(vs.length:Int) then wr (wr (ti - d) - dp) else -1
theorem VR {vs:List Tm}{dp ti d:Int}(h1:0≤wr (wr (ti - d) - dp)) (h2:wr (wr (ti - d) - dp)<(vs.length:Int)):GA vs dp ti d=wr (wr (ti - d) - dp):=if_pos ⟨h1,h2⟩
theorem WG {vs:List Tm}{dp ti d:Int}(h:¬(0≤wr (wr (ti - d) - dp)∧wr (wr (ti - d) - dp)<(vs.length:Int))):GA vs dp ti d= -1:=if_neg h
theorem Ow {vs:List Tm}{dp ti d:Int}(h:0≤GA vs dp ti d):GA vs dp ti d<(vs.length:Int):=by
 unfold GA at *;split<;>omega
def O9 (vs:List Tm) (sz:List Int) (dp:Int) (t:Tm) (d:Int):Int :=
 if t.kind=0∧0≤GA vs dp t.index d then sz.getD (GA vs dp t.index d).toNat 0 else 1
def MP (vs:List Tm) (sz:List Int) (dp:Int) (n:Int) (t:Tm) (d:Int):Except Int ((Tm×Bool)×Int) :=
 Ig (fun m=>((BH,decide (t.kind=0)),m)) (Qh n (O9 vs sz dp t d))
def HI (vs:List Tm) (dp:Int) (t:Tm) (d:Int):Except Int Tm :=
 if 0≤GA vs dp t.index d then Ge (wr (dp+d)) 0 (vs.getD (GA vs dp t.index d).toNat BH)
 else if wr (t.index - d)<dp then .ok (J8 t) else FR (wr (t.index - vs.length))
def GY (vs:List Tm) (dp:Int) (t:Tm):Except Int Tm :=
 Cg (Cp (MP vs (vs.map fun v=>(size v:Int)) dp) t 0 0) fun _=>Ig Prod.fst (Cp (Gv (HI vs dp)) t 0 ())
def CZ (t:Tm) (vs:List Tm) (dp:Int):Tm×Int :=
 match GY vs dp t with
 | .error e=>(BH,e)
 | .ok x=>if De x > 200 then (BH,7) else (x,0)
section
variable {vs:List Tm}{sz:List Int}{dp n d k i r m e:Int}{nm:ByteArray}{l:List CB}{ks:List Tm}
theorem LP (hm:O9 vs sz dp (.mk k i nm l ks) d=m) (hz:Qh n m= .ok r):MP vs sz dp n (.mk k i nm l ks) d= .ok ((BH,decide (k=0)),r):=by
 subst hm;exact Mu hz
theorem Jf (hm:O9 vs sz dp (.mk k i nm l ks) d=m) (hz:Qh n m= .error e):MP vs sz dp n (.mk k i nm l ks) d= .error e:=by
 subst hm;exact KA hz
theorem Ll (h:k=0∧0≤GA vs dp i d) (hx:sz[(GA vs dp i d).toNat]?=some m):O9 vs sz dp (.mk k i nm l ks) d=m:=by
 unfold O9;refine(if_pos h).trans ?_;rw[List.getD_eq_getElem?_getD];exact(congrArg (fun o=>Option.getD o 0) hx)
theorem LU (h:¬(k=0∧0≤GA vs dp i d)):O9 vs sz dp (.mk k i nm l ks) d=1:=by
 unfold O9;exact if_neg h
theorem Lh {v:Tm}(h:0≤GA vs dp i d) (hx:vs[(GA vs dp i d).toNat]?=some v):HI vs dp (.mk k i nm l ks) d=Ge (wr (dp+d)) 0 v:=by
 unfold HI;refine(if_pos h).trans ?_;rw[List.getD_eq_getElem?_getD];exact(congrArg (fun o=>Ge (wr (dp+d)) 0 (Option.getD o BH)) hx)
theorem Qa (h:¬0≤GA vs dp i d) (h2:wr (i - d)<dp):HI vs dp (.mk k i nm l ks) d= .ok (.mk k i nm l []):=by
 unfold HI;exact(if_neg h).trans ((if_pos h2).trans rfl)
theorem Oy (h:¬0≤GA vs dp i d) (h2:¬wr (i - d)<dp):HI vs dp (.mk k i nm l ks) d=FR (wr (i - vs.length)):=by
 unfold HI;exact(if_neg h).trans (if_neg h2)
end
theorem FZ {t:Tm}{vs:List Tm}{dp e:Int}(h:GY vs dp t= .error e):CZ t vs dp=(BH,e):=by unfold CZ;rw[h]
theorem K0 {t x:Tm}{vs:List Tm}{dp:Int}(h:GY vs dp t= .ok x) (hd:De x > 200):CZ t vs dp=(BH,7):=by unfold CZ;rw[h];exact if_pos hd
theorem OC {t x:Tm}{vs:List Tm}{dp:Int}(h:GY vs dp t= .ok x) (hd:¬De x > 200):CZ t vs dp=(x,0):=by unfold CZ;rw[h];exact if_neg hd
theorem IC {t x:Tm}{vs:List Tm}{dp:Int}{a:Tm×Int}{b:Unit}(h1:Cp (MP vs (vs.map fun v=>(size v:Int)) dp) t 0 0= .ok a) (h2:Cp (Gv (HI vs dp)) t 0 ()= .ok (x,b)):GY vs dp t= .ok x:=by
 unfold GY;rw[h1];exact Mu h2
theorem Ku {t:Tm}{vs:List Tm}{dp e:Int}(h1:Cp (MP vs (vs.map fun v=>(size v:Int)) dp) t 0 0= .error e):GY vs dp t= .error e:=by
 unfold GY;rw[h1];rfl
theorem Kh {t:Tm}{vs:List Tm}{dp e:Int}{a:Tm×Int}(h1:Cp (MP vs (vs.map fun v=>(size v:Int)) dp) t 0 0= .ok a) (h2:Cp (Gv (HI vs dp)) t 0 ()= .error e):GY vs dp t= .error e:=by
 unfold GY;rw[h1];exact KA h2
theorem RS:∀{ts:List Tm},(∀t∈ts,Nd t)→Ej ts
 | [],_=>trivial
 | t::ts,h=>⟨h t Ai,RS fun x hx=>h x (by simp[hx])⟩
section
variable {σ:Type}{vis:σ→Tm→Int→Except Int ((Tm×Bool)×σ)}
mutual
theorem KX (hv:∀s t d r,Nd t→Vp t→vis s t d= .ok r→Nd r.1.1):∀(t:Tm) (d:Int) (s:σ) (r:Tm×σ),Nd t→Vp t→Cp vis t d s= .ok r→Nd r.1
 | .mk k i n l ks,d,s,r,h1,h2,h=>by
  unfold Cp Cg at h;split at h
  ·cases h
  rename_i r1 hr;have hn:=hv _ _ _ _ h1 h2 hr;simp only at h;split at h
  ·injection h with h;subst h;exact hn
  split at h
  ·cases h
  rename_i q hq;injection h with h;subst h;obtain⟨g1,g2⟩:=MB hv ks k 0 d r1.2 q h1.2.2.2.2.1 h2.2 hq;obtain⟨⟨o,dn⟩,q1⟩:=r1;obtain⟨ok,oi,on,ol,os⟩:=o;exact⟨hn.1,hn.2.1,hn.2.2.1,by rw[g2];exact h1.2.2.2.1,g1,hn.2.2.2.2.2⟩
theorem MB (hv:∀s t d r,Nd t→Vp t→vis s t d= .ok r→Nd r.1.1):∀(ts:List Tm) (k:Int) (j:Nat) (d:Int) (s:σ) (r:List Tm×σ),Ej ts→Pf ts→Cm vis k j ts d s= .ok r→Ej r.1∧r.1.length=ts.length
 | [],k,j,d,s,r,h1,h2,h=>by
  unfold Cm at h;injection h with h;subst h;exact⟨trivial,rfl⟩
 | t::ts,k,j,d,s,r,h1,h2,h=>by
  unfold Cm Cg at h;split at h
  ·cases h
  rename_i r1 hr;simp only at h;split at h
  ·cases h
  rename_i q hq;injection h with h;subst h;obtain⟨g1,g2⟩:=MB hv ts k (j+1) d r1.2 q h1.2 h2.2 hq;exact⟨⟨KX hv t _ _ _ h1.1 h2.1 hr,g1⟩,by simp[g2]⟩
end
end
theorem M1 {t:Tm}(h:Nd t):Nd (J8 t):=by
 obtain⟨k,i,n,l,ks⟩:=t;exact⟨h.1,h.2.1,h.2.2.1,by decide,trivial,h.2.2.2.2.2⟩
theorem QC {i:Int}{x:Tm}(hi: -9223372036854775808≤i) (h:FR i= .ok x):Nd x:=by
 unfold FR at h;split at h
 ·cases h
 injection h with h;subst h;exact⟨by decide,by decide,by simp,by decide,trivial,⟨by decide,by decide⟩,⟨hi,by omega⟩⟩
theorem Sd {rep:Tm→Int→Except Int Tm}(hr:∀t d x,Nd t→Vp t→t.kind=0→rep t d= .ok x→Nd x):∀(s:Unit) (t:Tm) (d:Int) (r:(Tm×Bool)×Unit),Nd t→Vp t→Gv rep s t d= .ok r→Nd r.1.1:=by
 intro s t d r h1 h2 h;unfold Gv at h;split at h
 ·rename_i hk;unfold Ig at h;split at h
  ·cases h
  rename_i x hx;injection h with h;subst h;exact hr t d x h1 h2 hk hx
 injection h with h;subst h;exact M1 h1
theorem Ti {b fr:Int}{t x:Tm}(hb:Gy b) (h1:Nd t) (h2:Vp t) (h:Ge b fr t= .ok x):Nd x:=by
 unfold Ge Ig at h;split at h
 ·cases h
 rename_i r hr;injection h with h;subst h;refine KX (Sd ?_) t 0 () r h1 h2 hr;intro t d x g1 g2 g3 g;obtain⟨k,i,n,l,ks⟩:=t;have hi:=g2.1 g3;unfold SQ at g;split at g
 ·injection g with g;subst g;exact M1 g1
 split at g
 ·cases g
 exact QC (by have:=hb.1;simp only[Tm.index];omega) g
theorem Wq {vs:List Tm}{dp:Int}{t x:Tm}{u:Unit}(hv:Ej vs) (hp:Pf vs) (h1:Nd t) (h2:Vp t) (h:Cp (Gv (HI vs dp)) t 0 ()= .ok (x,u)):Nd x:=by
 refine KX (Sd ?_) t 0 () (x,u) h1 h2 h;intro t d x g1 g2 g3 g;unfold HI at g;split at g
 ·rename_i h0;have hl:=Ow h0;obtain⟨v,hx⟩:=A0 (l:=vs) (i:=(GA vs dp t.index d).toNat) Ah;rw[List.getD_eq_getElem?_getD,hx] at g;exact Ti (RX _) (CY hv hx) (JO hp hx) g
 split at g
 ·injection g with g;subst g;exact M1 g1
 exact QC (RX _).1 g
theorem aB {vs:List Tm}{i:Nat}{x:Tm}(hx:vs[i]?=some x):(((vs.take i).map fun v=>(size v:Int))++List.replicate (vs.length - i) 0).set i (size x:Int)=((vs.take (i+1)).map fun v=>(size v:Int))++List.replicate (vs.length - (i+1)) 0:=by
 have hi:i<vs.length:=by
  rcases Nat.lt_or_ge i vs.length with h | h
  ·exact h
  rw[List.getElem?_eq_none h] at hx;cases hx
 obtain⟨m,hm⟩:∃m,vs.length - i=m+1:=⟨vs.length - i - 1,by omega⟩;have hl:((vs.take i).map fun v=>(size v:Int)).length=i:=by simp;omega
 rw[List.take_add_one,hx,hm,show vs.length - (i+1)=m by omega,List.replicate_succ,List.set_append_right _ _ Ah,hl];simp
theorem cG {vs:List Tm}{i:Nat}(h:vs.length≤i):((vs.take i).map fun v=>(size v:Int))++List.replicate (vs.length - i) 0=vs.map fun v=>(size v:Int):=by
 rw[List.take_of_length_le h,show vs.length - i=0 by omega];simp
theorem R8 {k i:Int}{n:ByteArray}{l:List CB}{ks:List Tm}(h:Wt (.mk k i n l ks)) (hk:k=0):ks=[]:=by
 have:=h.1;subst hk;cases ks with
 | nil=>rfl
 | cons a b=>simp[arity] at this;omega
def FT (x:Tm×Int):Except Int (Tm×Unit):=if x.2=0 then .ok (x.1,()) else .error x.2
def GX (x:List Tm×Int):Except Int (List Tm×Unit):=if x.2=0 then .ok (x.1,()) else .error x.2
theorem Pn {er e:Int}(h:er≠0):Gw er e=er:=by unfold Gw;rw[if_neg h]
theorem Sy {er i:Int}(h:er≠0):KW er i=er:=by unfold KW;split<;>simp[Pn h]
mutual
theorem Nf (b fr:Int):∀(t:Tm) (d er:Int),er≠0→(B4 b fr d er t).2=er
 | .mk k i n l ks,d,er,h=>by
  unfold B4;split
  ·split
   ·rfl
   split
   ·exact Pn h
   exact Sy h
  exact Iz b fr k ks d 0 er h
theorem Iz (b fr k:Int):∀(ts:List Tm) (d:Int) (j:Nat) (er:Int),er≠0→(Ce b fr k d j er ts).2=er
 | [],d,j,er,h=>rfl
 | t::ts,d,j,er,h=>by
  unfold Ce;simp only;rw[Nf b fr t _ er h];exact Iz b fr k ts d (j+1) er h
end
mutual
theorem N1 (b:Int) (hb:0≤b) (hb2:b<4398046511104):∀(t:Tm) (d:Int),Wt t→Vp t→0≤d→d+size t<2199023255552→Cp (Gv (SQ b 0)) t d ()=FT (B4 b 0 d 0 t)
 | .mk k i n l ks,d,h1,h2,h3,h4=>by
  by_cases hk:k=0
  ·have hks:=R8 h1 hk;have hi:=h2.1 hk;have e1:wr (0+d)=d:=by rw[Int.zero_add];exact DX (by unfold Gy;omega)
   have e2:wr (i+b)=i+b:=DX (by unfold Gy;omega);by_cases hlo:i - d<0
   ·rw[Dq (IU hk (SU hlo))];unfold B4;rw[if_pos hk,e1,if_pos Ah];subst hks;rfl
   have hsh:SQ b 0 (.mk k i n l ks) d=FR (i+b):=RP hlo Ah;unfold B4;rw[if_pos hk,e1,if_neg Ah,e2,if_neg Ah];by_cases hbig:i+b > 65535
   ·rw[E0 (Jr hk (hsh.trans (if_pos hbig)))];unfold FT KW Gw;simp[hbig]
   rw[Dq (IU hk (hsh.trans (if_neg hbig)))];unfold FT KW;simp[hbig]
  have hs:d+BC ks<2199023255551:=by simp only[size] at h4;omega
  have hL:=Lu b hb hb2 k ks d 0 h1.2.2 h2.2 h3 hs;unfold B4;rw[if_neg hk];unfold GX at hL;unfold FT;by_cases he:(Ce b 0 k d 0 0 ks).2=0
  ·rw[if_pos he] at hL;rw[if_pos he];exact E6 (Jv hk) hL
  rw[if_neg he] at hL;rw[if_neg he];exact GL (Jv hk) hL
theorem Lu (b:Int) (hb:0≤b) (hb2:b<4398046511104) (k:Int):∀(ts:List Tm) (d:Int) (j:Nat),Pm ts→Pf ts→0≤d→d+BC ts<2199023255551→Cm (Gv (SQ b 0)) k j ts d ()=GX (Ce b 0 k d j 0 ts)
 | [],d,j,h1,h2,h3,h4=>rfl
 | t::ts,d,j,h1,h2,h3,h4=>by
  have hbl:=CE k j;simp only[BC] at h4;have hT:=N1 b hb hb2 t (d+below k j) h1.1 h2.1 Ah Ah;have hL:=Lu b hb hb2 k ts d (j+1) h1.2 h2.2 h3 Ah;unfold Cm Ce;rw[hT];unfold FT GX Cg;by_cases he:(B4 b 0 (d+below k j) 0 t).2=0
  ·rw[if_pos he];simp only;rw[hL,he];unfold GX;by_cases hq:(Ce b 0 k d (j+1) 0 ts).2=0
   ·rw[if_pos hq,if_pos hq]
   rw[if_neg hq,if_neg hq]
  rw[if_neg he];simp only;rw[Iz b 0 k ts d (j+1) _ he,if_neg he]
end
theorem TE {b:Int}{v:Tm}(hb:0≤b) (hb2:b<4398046511104) (h1:Wt v) (h2:Vp v) (h3:size v<1099511627776):Ge b 0 v=if (B4 b 0 0 0 v).2=0 then .ok (B4 b 0 0 0 v).1 else .error (B4 b 0 0 0 v).2:=by
 unfold Ge;rw[N1 b hb hb2 v 0 h1 h2 Ah Ah];unfold FT;split<;>rfl
section
variable {vs:List Tm}{d er nd k i:Int}{n:ByteArray}{l:List CB}{ks:List Tm}
theorem MM {t:Tm}(h:nd > 4096):Bh vs d er nd t=(t,er,nd):=by
 obtain⟨k,i,n,l,ks⟩:=t;unfold Bh;rw[if_pos h]
theorem GV (h:nd > 4096):∀(ts:List Tm) (d:Int) (j:Nat),B6 vs k d j er nd ts=(ts,er,nd)
 | [],d,j=>rfl
 | t::ts,d,j=>by unfold B6;rw[MM h];simp only;rw[GV h ts d (j+1)]
theorem L2 {v:Tm}(h:nd≤4096) (hk:k=0) (h1:i≥d) (h2:i - d<(vs.length:Int)) (hv:vs[(i - d).toNat]?=some v):Bh vs d er nd (.mk k i n l ks)=((B4 d 0 0 er v).1,(B4 d 0 0 er v).2,wr (nd+FX v)):=by
 unfold Bh;rw[if_neg Ah,if_pos ⟨hk,h1,h2⟩,List.getD_eq_getElem?_getD,hv];rfl
theorem N3 (h:nd≤4096) (hk:k=0) (h1:i≥d) (h2:¬i - d<(vs.length:Int)):Bh vs d er nd (.mk k i n l ks)=(Cn (wr (i - vs.length)),KW er (wr (i - vs.length)),wr (nd+1)):=by
 unfold Bh;rw[if_neg Ah,if_neg Ah,if_pos hk,if_pos h1]
theorem Lm (h:nd≤4096) (hk:k=0) (h1:¬i≥d):Bh vs d er nd (.mk k i n l ks)=(.mk k i n l ks,er,wr (nd+1)):=by
 unfold Bh;rw[if_neg Ah,if_neg Ah,if_pos hk,if_neg h1]
theorem K1 (h:nd≤4096) (hk:k≠0):Bh vs d er nd (.mk k i n l ks)=((.mk k i n l (B6 vs k d 0 er (wr (nd+1)) ks).1),(B6 vs k d 0 er (wr (nd+1)) ks).2):=by
 unfold Bh;rw[if_neg Ah,if_neg Ah,if_neg hk]
end
mutual
theorem T6 (vs:List Tm):∀(t:Tm) (d er nd:Int),er≠0→(Bh vs d er nd t).2.1=er
 | .mk k i n l ks,d,er,nd,h=>by
  unfold Bh;split
  ·rfl
  split
  ·exact Nf _ _ _ _ _ h
  split
  ·split
   ·exact Sy h
   rfl
  exact JH vs k ks d 0 er _ h
theorem JH (vs:List Tm) (k:Int):∀(ts:List Tm) (d:Int) (j:Nat) (er nd:Int),er≠0→(B6 vs k d j er nd ts).2.1=er
 | [],d,j,er,nd,h=>rfl
 | t::ts,d,j,er,nd,h=>by
  unfold B6;simp only;rw[T6 vs t _ er nd h];exact JH vs k ts d (j+1) er _ h
end
structure QH (vs:List Tm) (dp:Int):Prop where
 wt:Pm vs
 vp:Pf vs
 sz:∀x∈vs,size x<1099511627776
 len:vs.length<1099511627776
 lo:0≤dp
 hi:dp≤65536
theorem QH.size {vs:List Tm}{dp:Int}(V:QH vs dp):∀x∈vs,(size x:Int)≤1099511627776:=fun x hx=>by have:=V.sz x hx;omega
theorem Sa {vs:List Tm}{dp i d:Int}(V:QH vs dp) (h1:0≤i) (h2:i<1099511627776) (h3:0≤d) (h4:d<2199023255552):GA vs dp i d=if dp+d≤i∧i - (dp+d)<(vs.length:Int) then i - (dp+d) else -1:=by
 have:=V.lo;have:=V.hi;have e1:wr (i - d)=i - d:=DX (by unfold Gy;omega);have e2:wr (i - d - dp)=i - (dp+d):=by rw[DX (by unfold Gy;omega)];omega
 unfold GA;rw[e1,e2];by_cases h:dp+d≤i∧i - (dp+d)<(vs.length:Int)
 ·rw[if_pos h,if_pos Ah]
 rw[if_neg h,if_neg Ah]
theorem SI {n m:Int}(h1:0≤n) (h2:n≤4096) (h3:0≤m) (h4:m≤1099511627776):Qh n m=if n+m > 4096 then .error 5 else .ok (n+m):=by
 unfold Qh;rw[show wr (n+m)=n+m from DX (by unfold Gy;omega)]
def Y4 {α:Type}(x:Except Int (α×Int)) (m:Int):Prop:=(m > 4096→x= .error 5)∧(m≤4096→∃z,x= .ok (z,m))
def szs (vs:List Tm):List Int:=vs.map fun v=>(size v:Int)
theorem W7 {vs:List Tm}{i:Nat}{v:Tm}(h:vs[i]?=some v):(szs vs)[i]?=some (size v:Int):=by simp[szs,h]
mutual
theorem R7 {vs:List Tm}{dp:Int}(V:QH vs dp):∀(t:Tm) (d er nd:Int),Wt t→Vp t→0≤d→d+size t<2199023255552→0≤nd→nd≤4096→Y4 (Cp (MP vs (szs vs) dp) t d nd) (Bh vs (dp+d) er nd t).2.2
 | .mk k i n l ks,d,er,nd,h1,h2,h3,h4,h5,h6=>by
  have hone:∀m:Int,0≤m→m≤1099511627776→O9 vs (szs vs) dp (.mk k i n l ks) d=m→k=0→Y4 (Cp (MP vs (szs vs) dp) (.mk k i n l ks) d nd) (wr (nd+m)):=by
   intro m g1 g2 g3 hk;have ha:=SI h5 h6 g1 g2;rw[show wr (nd+m)=nd+m from DX (by unfold Gy;omega)];refine⟨fun h=>?_,fun h=>?_⟩
   ·rw[if_pos h] at ha;exact E0 (Jf g3 ha)
   rw[if_neg Ah] at ha;refine⟨BH,Dq ?_⟩;rw[LP g3 ha,hk];rfl
  by_cases hk:k=0
  ·have hi:=h2.1 hk;have hd:d<2199023255552:=by have:=size_pos (Tm.mk k i n l ks);omega
   have hv:=Sa V hi.1 hi.2 h3 hd;by_cases hin:dp+d≤i∧i - (dp+d)<(vs.length:Int)
   ·rw[if_pos hin] at hv;obtain⟨v,hx⟩:=A0 (l:=vs) (i:=(i - (dp+d)).toNat) Ah;have hsv:=V.sz v (List.mem_of_getElem? hx);rw[L2 h6 hk hin.1 hin.2 hx,QJ Ah];exact hone _ Ah Ah (Ll ⟨hk,by omega⟩ (by rw[hv];exact W7 hx)) hk
   rw[if_neg hin] at hv;have hc:=hone 1 Ah Ah (LU Ah) hk;by_cases hge:i≥dp+d
   ·rw[N3 h6 hk hge Ah];exact hc
   rw[Lm h6 hk hge];exact hc
  rw[K1 h6 hk];have hs:d+BC ks<2199023255551:=by simp only[size] at h4;omega
  have e1:wr (nd+1)=nd+1:=DX (by unfold Gy;omega);have ha:=SI (m:=1) h5 h6 Ah Ah;have hn:O9 vs (szs vs) dp (.mk k i n l ks) d=1:=LU Ah;have hdec:decide (k=0)=false:=by simp[hk]
  simp only;rw[e1];by_cases hbig:nd+1 > 4096
  ·rw[GV hbig];rw[if_pos hbig] at ha;exact⟨fun _=>E0 (Jf hn ha),fun h=>by simp only at h;omega⟩
  rw[if_neg hbig] at ha;have hc:=LP (l:=l) hn ha;rw[hdec] at hc;obtain⟨g1,g2⟩:=Pg V k ks d 0 er (nd+1) h1.2.2 h2.2 h3 hs Ah Ah;refine⟨fun h=>GL hc (g1 h),fun h=>?_⟩;obtain⟨z,hz⟩:=g2 h;exact⟨_,E6 hc hz⟩
theorem Pg {vs:List Tm}{dp:Int}(V:QH vs dp) (k:Int):∀(ts:List Tm) (d:Int) (j:Nat) (er nd:Int),Pm ts→Pf ts→0≤d→d+BC ts<2199023255551→0≤nd→nd≤4096→Y4 (Cm (MP vs (szs vs) dp) k j ts d nd) (B6 vs k (dp+d) j er nd ts).2.2
 | [],d,j,er,nd,h1,h2,h3,h4,h5,h6=>⟨fun h=>by simp only[B6] at h;omega,fun _=>⟨_,rfl⟩⟩
 | t::ts,d,j,er,nd,h1,h2,h3,h4,h5,h6=>by
  have hbl:=CE k j;simp only[BC] at h4;obtain⟨g1,g2⟩:=R7 V t (d+below k j) er nd h1.1 h2.1 Ah Ah h5 h6;have hm:=(Ha 1099511627776 Ah Ah t vs (dp+d+below k j) er nd h1.1 V.wt V.size h5 Ah).1;rw[show dp+(d+below k j)=dp+d+below k j by omega] at g1 g2;unfold Cm B6;simp only;by_cases hbig:(Bh vs (dp+d+below k j) er nd t).2.2 > 4096
  ·rw[g1 hbig,GV hbig];exact⟨fun _=>O,fun h=>by simp only at h;omega⟩
  obtain⟨z,hz⟩:=g2 Ah;rw[hz];obtain⟨f1,f2⟩:=Pg V k ts d (j+1) (Bh vs (dp+d+below k j) er nd t).2.1 (Bh vs (dp+d+below k j) er nd t).2.2 h1.2 h2.2 h3 Ah Ah Ah;refine⟨fun h=>?_,fun h=>?_⟩
  ·simp only[Cg];rw[f1 h]
  obtain⟨y,hy⟩:=f2 h;exact⟨z::y,by simp only[Cg];rw[hy]⟩
end
mutual
theorem SY {vs:List Tm}{dp:Int}(V:QH vs dp):∀(t:Tm) (d nd:Int),Wt t→Vp t→0≤d→d+size t<2199023255552→0≤nd→(Bh vs (dp+d) 0 nd t).2.2≤4096→Cp (Gv (HI vs dp)) t d ()=FT ((Bh vs (dp+d) 0 nd t).1,(Bh vs (dp+d) 0 nd t).2.1)
 | .mk k i n l ks,d,nd,h1,h2,h3,h4,h5,h6=>by
  have h7:nd≤4096:=by
   rcases Int.lt_or_le 4096 nd with h | h
   ·rw[MM h] at h6;simp only at h6;omega
   exact h
  have:=V.lo;have:=V.hi;have:=V.len;by_cases hk:k=0
  ·have hi:=h2.1 hk;have hks:=R8 h1 hk;have hd:d<2199023255552:=by have:=size_pos (Tm.mk k i n l ks);omega
   have hv:=Sa V hi.1 hi.2 h3 hd;by_cases hin:dp+d≤i∧i - (dp+d)<(vs.length:Int)
   ·rw[if_pos hin] at hv;obtain⟨v,hx⟩:=A0 (l:=vs) (i:=(i - (dp+d)).toNat) Ah;have hsv:=V.sz v (List.mem_of_getElem? hx);rw[L2 h7 hk hin.1 hin.2 hx];have hr:HI vs dp (.mk k i n l ks) d=Ge (wr (dp+d)) 0 v:=Lh Ah (by rw[hv];exact hx);rw[show wr (dp+d)=dp+d from DX (by unfold Gy;omega),TE Ah Ah (O2 V.wt hx) (JO V.vp hx) hsv] at hr;unfold FT;by_cases he:(B4 (dp+d) 0 0 0 v).2=0
    ·rw[if_pos he] at hr;rw[if_pos he];exact Dq (IU hk hr)
    rw[if_neg he] at hr;rw[if_neg he];exact E0 (Jr hk hr)
   rw[if_neg hin] at hv;have e1:wr (i - d)=i - d:=DX (by unfold Gy;omega);by_cases hge:i≥dp+d
   ·rw[N3 h7 hk hge Ah];have hr:HI vs dp (.mk k i n l ks) d=FR (wr (i - vs.length)):=Oy Ah (by rw[e1];omega);unfold FR at hr;unfold FT KW Gw;by_cases hbig:wr (i - vs.length) > 65535
    ·rw[if_pos hbig] at hr;simp only[hbig,if_true];exact E0 (Jr hk hr)
    rw[if_neg hbig] at hr;simp only[hbig,if_false,if_true];exact Dq (IU hk hr)
   rw[Lm h7 hk hge];have hr:HI vs dp (.mk k i n l ks) d= .ok (.mk k i n l []):=Qa Ah (by rw[e1];omega);subst hks;exact Dq (IU hk hr)
  rw[K1 h7 hk] at h6 ⊢;have hs:d+BC ks<2199023255551:=by simp only[size] at h4;omega
  have e1:wr (nd+1)=nd+1:=DX (by unfold Gy;omega);simp only at h6 ⊢;rw[e1] at h6 ⊢;have hL:=Pk V k ks d 0 (nd+1) h1.2.2 h2.2 h3 hs Ah h6;unfold GX at hL;unfold FT;by_cases he:(B6 vs k (dp+d) 0 0 (nd+1) ks).2.1=0
  ·rw[if_pos he] at hL;rw[if_pos he];exact E6 (Jv hk) hL
  rw[if_neg he] at hL;rw[if_neg he];exact GL (Jv hk) hL
theorem Pk {vs:List Tm}{dp:Int}(V:QH vs dp) (k:Int):∀(ts:List Tm) (d:Int) (j:Nat) (nd:Int),Pm ts→Pf ts→0≤d→d+BC ts<2199023255551→0≤nd→(B6 vs k (dp+d) j 0 nd ts).2.2≤4096→Cm (Gv (HI vs dp)) k j ts d ()=GX ((B6 vs k (dp+d) j 0 nd ts).1,(B6 vs k (dp+d) j 0 nd ts).2.1)
 | [],d,j,nd,h1,h2,h3,h4,h5,h6=>rfl
 | t::ts,d,j,nd,h1,h2,h3,h4,h5,h6=>by
  have hbl:=CE k j;simp only[BC] at h4;have h7:nd≤4096:=by
   rcases Int.lt_or_le 4096 nd with h | h
   ·rw[GV h] at h6;simp only at h6;omega
   exact h
  have hm:=(Ha 1099511627776 Ah Ah t vs (dp+d+below k j) 0 nd h1.1 V.wt V.size h5 Ah);unfold B6 at h6;simp only at h6;have hm2:=(G8 1099511627776 Ah Ah ts vs k (dp+d) (j+1) (Bh vs (dp+d+below k j) 0 nd t).2.1 (Bh vs (dp+d+below k j) 0 nd t).2.2 h1.2 V.wt V.size Ah hm.2.1).1;have hT:=SY V t (d+below k j) nd h1.1 h2.1 Ah Ah h5 (by rw[show dp+(d+below k j)=dp+d+below k j by omega];omega);rw[show dp+(d+below k j)=dp+d+below k j by omega] at hT;unfold Cm B6;rw[hT];simp only;unfold FT GX Cg;by_cases he:(Bh vs (dp+d+below k j) 0 nd t).2.1=0
  ·have hL:=Pk V k ts d (j+1) (Bh vs (dp+d+below k j) 0 nd t).2.2 h1.2 h2.2 h3 Ah Ah (by rw[he] at h6;exact h6);simp only;rw[if_pos he];simp only;rw[hL,he];unfold GX;by_cases hq:(B6 vs k (dp+d) (j+1) 0 (Bh vs (dp+d+below k j) 0 nd t).2.2 ts).2.1=0
   ·simp only[hq,if_true]
   simp only[hq,if_false]
  simp only;rw[if_neg he];simp only;rw[JH vs k ts (dp+d) (j+1) _ _ he,if_neg he]
end
theorem Tg {t:Tm}{vs:List Tm}{dp:Int}(V:QH vs dp) (h1:Wt t) (h2:Vp t) (h3:size t<1099511627776):CZ t vs dp=Cz t vs dp:=by
 have:=V.lo;have:=V.hi;have hmin:min dp 65536=dp:=by omega
 obtain⟨g1,g2⟩:=R7 V t 0 0 0 h1 h2 Ah Ah Ah Ah;rw[Int.add_zero] at g1 g2;unfold Cz;rw[hmin];by_cases hbig:(Bh vs dp 0 0 t).2.2 > 4096
 ·rw[if_pos hbig];exact FZ (Ku (g1 hbig))
 rw[if_neg hbig];obtain⟨z,hz⟩:=g2 Ah;have hr:=SY V t 0 0 h1 h2 Ah Ah Ah (by rw[Int.add_zero];omega);rw[Int.add_zero] at hr;unfold FT at hr;simp only at hr;by_cases he:(Bh vs dp 0 0 t).2.1=0
 ·rw[if_pos he] at hr;rw[if_neg Ah];by_cases hd:De (Bh vs dp 0 0 t).1 > 200
  ·rw[if_pos hd];exact K0 (IC hz hr) hd
  rw[if_neg hd];exact OC (IC hz hr) hd
 rw[if_neg he] at hr;rw[if_pos he];exact FZ (Kh hz hr)
structure Fi where
 dn:List (Int×Tm)
 op:List Int
 wk:Int
def de (i:Int):List (Int×Tm)→Option Tm
 | []=>none
 | (j,x)::r=>if j=i then some x else de i r
def dU (i:Int) (v:Tm):List (Int×Tm)→List (Int×Tm)
 | []=>[(i,v)]
 | (j,x)::r=>if j=i then (j,v)::r else (j,x)::dU i v r
def kl (l:List (Int×Tm)):List (Int×AV):=l.map fun p=>(p.1,TV p.2)
def dZ (x:Tm) (e:Int):Except Int Tm:=if e≠0∨Y2 x=true then .error 11 else .ok x
def Yn:Tm→List Tm→Except Int (Tm×List Tm)
 | v,[]=> .ok (v,[])
 | v,a::l=>if v.kind=5 then Cg (dZ (CZ (v.kids.getD 1 BH) [a] 0).1 (CZ (v.kids.getD 1 BH) [a] 0).2) fun x=>Yn x l else .ok (v,a::l)
def FL (F:Fi→Tm→Except Int (Tm×Fi)):Fi→List Tm→Except Int (List Tm×Fi)
 | st,[]=> .ok ([],st)
 | st,t::ts=>Cg (F st t) fun r=>Cg (FL F r.2 ts) fun q=> .ok (r.1::q.1,q.2)
def aN (F:Fi→Tm→Except Int (Tm×Fi)) (ms:List Mv) (st:Fi) (i:Int):Except Int (Tm×Fi) :=
 match de i st.dn with
 | some v=> .ok (v,st)
 | none=>if i∈st.op then .error 22 else Cg (F { st with op:=st.op++[i] } (valueOf ms i)) fun r=> .ok (r.1,{ r.2 with dn:=dU i r.1 r.2.dn })
def bh (F:Fi→Tm→Except Int (Tm×Fi)) (ms:List Mv) (st:Fi) (h:Tm):Except Int (Tm×Fi) :=
 if known ms h=true then aN F ms st h.index else Ig (fun q=>(Hg h q.1,q.2)) (FL F st h.kids)
def U1 (ms:List Mv):Nat→Fi→Tm→Except Int (Tm×Fi)
 | 0,st,t=> .error 11
 | n+1,st,t =>
  if st.wk+1 > 8192000 then .error 11
  else Cg (bh (U1 ms n) ms { st with wk:=st.wk+1 } (A4 t).1) fun r =>
   Cg (FL (U1 ms n) r.2 (A4 t).2) fun q =>
   Cg (if known ms (A4 t).1=true then Yn r.1 q.1 else .ok (r.1,q.1)) fun y =>
   Ig (fun z=>(z,q.2)) (dZ (apply y.1 y.2) 0)
structure Ok (S:Nat) (t:Tm):Prop where
 nd:Nd t
 vp:Vp t
 wt:Wt t
 sz:size t≤S
structure ff (ms:List Mv) (st:Fi):Prop where
 dn:∀p∈st.dn,Ok 4096 p.2
 w0:0≤st.wk
 w1:st.wk≤8192000
theorem WY {ts:List Tm}{t:Tm}(h:Ej ts) (hm:t∈ts):Nd t:=by
 obtain⟨i,hi⟩:=List.mem_iff_getElem?.1 hm;exact CY h hi
theorem Tp {ts:List Tm}{t:Tm}(hm:t∈ts):size t≤BC ts:=by
 obtain⟨i,hi⟩:=List.mem_iff_getElem?.1 hm;exact Bw hi
abbrev kk (l:List Tm):Prop:=∀x∈l,Ok 4096 x
def fY (st st':Fi):Prop:=∀i,i∈st.op→i∈st'.op
def jD (ms:List Mv) (B:Nat) (F:Fi→Tm→Except Int (Tm×Fi)):Prop:=∀st t r,Ok B t→ff ms st→F st t= .ok r→Ok 4096 r.1∧ff ms r.2∧fY st r.2
section
variable {F:Fi→Tm→Except Int (Tm×Fi)}{ms:List Mv}{st st':Fi}{i e:Int}{z:Tm}
end
def PR (F:Fi→Tm→Except Int (Tm×Fi)) (ts:List Tm) (q0:Fi) (i:Nat) (ys:List Tm) (q:Fi):Prop :=
 ys.length=i∧FL F q0 ts=Cg (FL F q (ts.drop i)) fun r=> .ok (ys++r.1,r.2)
section
variable {F:Fi→Tm→Except Int (Tm×Fi)}{ts ys:List Tm}{q0 q q':Fi}{i:Nat}{x y:Tm}{e:Int}
theorem PR.zero (F:Fi→Tm→Except Int (Tm×Fi)) (ts:List Tm) (q0:Fi):PR F ts q0 0 [] q0:=by
 refine⟨O,?_⟩;simp only[List.drop_zero,Cg];cases FL F q0 ts<;>simp
theorem PR.err (h:PR F ts q0 i ys q) (hx:ts[i]?=some x) (hb:F q x= .error e):FL F q0 ts= .error e:=by
 rw[h.2,CH hx,FL,hb];rfl
theorem PR.succ (h:PR F ts q0 i ys q) (hx:ts[i]?=some x) (hb:F q x= .ok (y,q')):PR F ts q0 (i+1) (ys++[y]) q':=by
 refine⟨by simp[h.1],?_⟩;rw[h.2,CH hx,FL,hb];simp only[Cg];cases FL F q' (ts.drop (i+1))<;>simp
theorem PR.fin (h:PR F ts q0 i ys q) (hi:ts.length≤i):FL F q0 ts= .ok (ys,q):=by
 rw[h.2,List.drop_eq_nil_of_le hi,FL];simp[Cg]
end
section
variable {ms:List Mv}{n:Nat}{dn:List (Int×Tm)}{op:List Int}{wk e:Int}{t v vv z h:Tm}{us ls ks:List Tm}{st1 st2:Fi}
end
end Go.Eu
namespace Go.Abs
def jY {β:Type}(mkv:β→AV) (mkH:β→List Ax):Ct→List Ax→Prop
 | .val v,H'=>∃b,v=mkv b∧H'=mkH b
 | .panic _,_=>False
section
variable {P:Program}{ops:Array Oper}{n:Nat}{τ₀ τ:Nat→AV}{D:List Cu}{Q:B7→BJ→Prop}{opn:Nat→Bool}{k:Nat}{H:List Ax}{dst:Option Tmp}{ty:TypeId}{pos:String}{aft:Array Edge}{c:Call}{f:Operand}{fid:FuncId}{first caps A:List AV}{β:Type}{mkv:β→AV}{mkH:β→List Ax}
end
end Go.Abs
namespace Go.Eu
open Go.Abs
def Q2 (ms:List Mv) (n:Nat) (t:Tm):Tm×Int :=
 match U1 ms n ⟨[],[],0⟩ t with
 | .ok r=>(r.1,0)
 | .error e=>(BH,e)
def iZ (ms:List Mv) (n:Nat) (t:Tm):List Int×Int:=if (Q2 ms n t).2≠0 then ([],(Q2 ms n t).2) else (Rp [] (Q2 ms n t).1,0)
mutual
def TP (p:Int→Int→ByteArray→List CB→Prop):Tm→Prop
 | .mk k i n l ks=>p k i n l∧Xh p ks
def Xh (p:Int→Int→ByteArray→List CB→Prop):List Tm→Prop
 | []=>True
 | t::ts=>TP p t∧Xh p ts
end
section
variable {p q:Int→Int→ByteArray→List CB→Prop}
mutual
theorem TP.imp (h:∀k i n l,p k i n l→q k i n l):∀(t:Tm),TP p t→TP q t
 | .mk k i n l ks,ht=>⟨h _ _ _ _ ht.1,Xh.imp h ks ht.2⟩
theorem Xh.imp (h:∀k i n l,p k i n l→q k i n l):∀(ts:List Tm),Xh p ts→Xh q ts
 | [],_=>trivial
 | t::ts,ht=>⟨TP.imp h t ht.1,Xh.imp h ts ht.2⟩
end
end
def iu (ms:List Mv) (D:List Int) (k i:Int) (n:ByteArray) (l:List CB):Prop:=known ms (.mk k i n l [])=true→i∈D
abbrev KM (ms:List Mv) (D:List Int):Tm→Prop:=TP (iu ms D)
abbrev bB (ms:List Mv) (D:List Int):List Tm→Prop:=Xh (iu ms D)
theorem KM.mono {ms:List Mv}{D D':List Int}(h:∀i∈D,i∈D') {t:Tm}(ht:KM ms D t):KM ms D' t:=TP.imp (fun k i n l g e=>h _ (g e)) t ht
theorem bB.mono {ms:List Mv}{D D':List Int}(h:∀i∈D,i∈D') {t:List Tm}(ht:bB ms D t):bB ms D' t:=Xh.imp (fun k i n l g e=>h _ (g e)) t ht
theorem KM.head {ms:List Mv}{D:List Int}{h:Tm}(hk:known ms h=true) (ht:KM ms D h):h.index∈D:=by
 obtain⟨k,i,n,l,ks⟩:=h;exact ht.1 hk
theorem KM.kids {ms:List Mv}{D:List Int}{h:Tm}(ht:KM ms D h):bB ms D h.kids:=by
 obtain⟨k,i,n,l,ks⟩:=h;exact ht.2
inductive Ord (ms:List Mv):List Int→Prop
 | nil:Ord ms []
 | snoc {D:List Int} {i:Int}:Ord ms D→i ∉ D→KM ms D (valueOf ms i)→Ord ms (D++[i])
theorem Ord.pre {ms:List Mv}{D:List Int}(h:Ord ms D):∀i∈D,∃D',Ord ms D'∧(∀j∈D',j∈D)∧i ∉ D'∧KM ms D' (valueOf ms i):=by
 induction h with
 | nil=>intro i hi;simp at hi
 | @snoc D j h1 h2 h3 ih =>
  intro i hi;rcases List.mem_append.1 hi with hi | hi
  ·obtain⟨D',a,b,c,d⟩:=ih i hi;exact⟨D',a,fun j hj=>List.mem_append_left _ (b j hj),c,d⟩
  simp at hi;subst hi;exact⟨D,h1,fun j hj=>List.mem_append_left _ hj,h2,h3⟩
def cE:Tm→List Tm→Tm×List Tm
 | v,[]=>(v,[])
 | v,a::l=>if v.kind=5 then cE (Cz (v.kids.getD 1 BH) [a] 0).1 l else (v,a::l)
section
variable {F F':Gz→Tm→Tm×Int×Gz}
end
def ZN (st:Fi):List Int:=st.dn.map Prod.fst
def iA (ms:List Mv) (t v:Tm):Prop:=∃n ab c d,H5 ms n ab c t=(v,0,d)∧d.over=false
structure iL (ms:List Mv) (ab:List Int) (st:Fi):Prop where
 op:∀i,i∈st.op↔i∈ZN st∨i∈ab
 ord:Ord ms (ZN st)
 dis:∀i∈ZN st,i ∉ ab
 val:∀p∈st.dn,iA ms (valueOf ms p.1) p.2
 ok:∀p∈st.dn,Ok 4096 p.2
 w0:0≤st.wk
def pot (ms:List Mv) (B:Nat) (st:Fi):Int:=st.wk+(B*free ms st.op:Nat)
structure Step (ms:List Mv) (B:Nat) (ab:List Int) (st st':Fi) (s:Nat):Prop where
 inv:iL ms ab st'
 mono:∀i∈ZN st,i∈ZN st'
 pot:pot ms B st'≤pot ms B st+s
theorem Step.trans {ms:List Mv}{B:Nat}{ab:List Int}{a b c:Fi}{s s':Nat}(h:Step ms B ab a b s) (h':Step ms B ab b c s'):Step ms B ab a c (s+s') :=
 ⟨h'.inv,fun i hi=>h'.mono i (h.mono i hi),by have:=h.pot;have:=h'.pot;omega⟩
theorem Step.le {ms:List Mv}{B:Nat}{ab:List Int}{a b:Fi}{s s':Nat}(h:Step ms B ab a b s) (hs:s≤s'):Step ms B ab a b s':=⟨h.inv,h.mono,by have:=h.pot;omega⟩
def j9 (ms:List Mv) (B:Nat) (ab:List Int) (t:Tm) (s:Nat) (st:Fi) (F:Tm×Int×Gz) (G:Except Int (Tm×Fi)):Prop :=
 (F.2.1=0∧∃st',G= .ok (F.1,st')∧Step ms B ab st st' s∧KM ms (ZN st') t)∨(F.2.1=22∧F.1=BH∧G= .error 22)
def jb (ms:List Mv) (B:Nat) (ab:List Int) (ts:List Tm) (st:Fi) (F:List Tm×Int×Gz) (G:Except Int (List Tm×Fi)):Prop :=
 (F.2.1=0∧∃st',G= .ok (F.1,st')∧Step ms B ab st st' (BC ts)∧bB ms (ZN st') ts)∨(F.2.1=22∧G= .error 22)
def jk (m:Nat) (k i:Int) (n:ByteArray) (l:List CB):Prop:=k=12→0≤i∧i<(m:Int)
def ek (ms:List Mv) (k i:Int) (n:ByteArray) (l:List CB):Prop:=(k=12→0≤i∧i<(ms.length:Int)∧known ms (.mk k i n l [])=false)∧(k=4→i=0∧n=⟨#[]⟩∧l=[])
def kU (ms:List Mv) (B:Nat) (F:Fi→Tm→Except Int (Tm×Fi)):Prop:=∀st t r,Ok B t→ff ms st→TP (jk ms.length) t→(∀p∈st.dn,TP (ek ms) p.2)→F st t= .ok r→TP (ek ms) r.1∧∀p∈r.2.dn,TP (ek ms) p.2
def jO (ms:List Mv) (F:Fi→Tm→Except Int (Tm×Fi)):Prop:=∀st t,TP (ek ms) t→F st t= .error 11∨∃st',F st t= .ok (t,st')
def kD (F:Fi→Tm→Except Int (Tm×Fi)):Prop:=∀st t e,F st t= .error e→e=11∨e=22
abbrev wide:Nat:=9223372036854775808
structure aW (l:CB):Prop where
 vars:l.vars.length<wide
 c:Gy l.const
 v:∀v∈l.vars,Gy v.index∧Gy v.plus
mutual
def Wd:Tm→Prop
 | .mk k i n ls ks=>n.size<wide∧ls.length<wide∧(∀l∈ls,aW l)∧ks.length<wide∧WB ks∧Gy k∧Gy i
def WB:List Tm→Prop
 | []=>True
 | t::ts=>Wd t∧WB ts
end
theorem Lf:∀{ts:List Tm}{i:Nat}{t:Tm},WB ts→ts[i]?=some t→Wd t
 | [],i,t,_,h=>by simp at h
 | a::ts,0,t,hn,h=>by simp at h;subst h;exact hn.1
 | a::ts,i+1,t,hn,h=>by simp at h;exact Lf hn.2 h
mutual
def Fw:Tm→Prop
 | .mk k i n ls ks=>n.size≤200∧ls.length≤20∧(∀l∈ls,l.vars.length≤20)∧ea ks
def ea:List Tm→Prop
 | []=>True
 | t::ts=>Fw t∧ea ts
end
theorem UD:∀{ts:List Tm},(∀t∈ts,Fw t)→ea ts
 | [],_=>trivial
 | t::ts,h=>⟨h t Ai,UD fun x hx=>h x (by simp[hx])⟩
def Tk:Tm→Prop
 | .mk k i n ls ks=>n.size≤200∧ls.length≤20∧(∀l∈ls,l.vars.length≤20)∧BC ks≤200∧Ej ks∧ea ks
theorem Zy {t:Tm}(h:Wd t) (hf:Tk t):Nd t:=by
 obtain⟨k,i,n,ls,ks⟩:=t;obtain⟨h1,h2,h3,h4,h5⟩:=hf;have:=DK ks;exact⟨by simp only[Cr];omega,by simp only[Cr];omega,fun l hl=>⟨by have:=h3 l hl;simp only[Cr];omega,(h.2.2.1 l hl).c,(h.2.2.1 l hl).v⟩,by simp only[Cr];omega,h5.1,h.2.2.2.2.2⟩
mutual
theorem KJ:∀(t:Tm) (most:Int),-1152921504606846976≤most→most≤1152921504606846976→(size t:Int)≤1152921504606846976→0≤C5 t most∧C5 t most<size t∧(C5 t most≤most→C5 t most+1=size t)
 | .mk k i n l ks,most,h1,h2,h3=>by
  simp only[size] at h3 ⊢;unfold C5;have:=OW ks most 0 h1 h2 Ah Ah;exact⟨this.1,by omega,fun h=>by have:=this.2.2 h;omega⟩
theorem OW:∀(ts:List Tm) (most n:Int),-1152921504606846976≤most→most≤1152921504606846976→0≤n→n+BC ts≤1152921504606846976→n≤DA ts most n∧DA ts most n≤n+BC ts∧(DA ts most n≤most→DA ts most n=n+BC ts)
 | [],most,n,h1,h2,h3,h4=>by simp[DA,BC]
 | t::ts,most,n,h1,h2,h3,h4=>by
  simp only[BC] at h4 ⊢;have hp:=size_pos t;unfold DA;by_cases hm:n > most
  ·rw[if_pos hm];exact⟨by omega,by omega,by omega⟩
  rw[if_neg hm];have e1:wr (most - n)=most - n:=DX ⟨by omega,by omega⟩;have hT:=KJ t (most - n) Ah Ah Ah;rw[e1];have e2:wr (1+C5 t (most - n))=1+C5 t (most - n):=DX ⟨by omega,by omega⟩;rw[e2];have e3:wr (n+(1+C5 t (most - n)))=n+(1+C5 t (most - n)):=DX ⟨by omega,by omega⟩;rw[e3];have hL:=OW ts most (n+(1+C5 t (most - n))) h1 h2 Ah Ah;refine⟨by omega,by omega,fun h=>?_⟩;have:=hL.2.2 h;have:=hT.2.2 Ah;omega
end
theorem VS {t:Tm}(h:Tk t):size t≤201:=by
 obtain⟨k,i,n,ls,ks⟩:=t;have:=h.2.2.2.1;simp only[size];omega
theorem OZ:∀(ts:List Tm) (most n:Int),0≤most→most≤1000→0≤n→n≤3000→(∀t∈ts,size t≤201)→n≤DA ts most n
 | [],most,n,h1,h2,h3,h4,hs=>by simp[DA]
 | t::ts,most,n,h1,h2,h3,h4,hs=>by
  have ht:=hs t Ai;unfold DA;by_cases hm:n > most
  ·rw[if_pos hm];omega
  rw[if_neg hm];have e1:wr (most - n)=most - n:=DX ⟨by omega,by omega⟩;have hT:=KJ t (most - n) Ah Ah Ah;rw[e1];have e2:wr (1+C5 t (most - n))=1+C5 t (most - n):=DX ⟨by omega,by omega⟩;rw[e2];have e3:wr (n+(1+C5 t (most - n)))=n+(1+C5 t (most - n)):=DX ⟨by omega,by omega⟩;rw[e3];have hge:=OZ ts most (n+(1+C5 t (most - n))) h1 h2 Ah Ah (fun x hx=>hs x (by simp[hx]));omega
theorem OM:∀(ts:List Tm) (most n:Int),0≤most→most≤1000→0≤n→n≤3000→(∀t∈ts,size t≤201)→DA ts most n≤most→DA ts most n=n+BC ts
 | [],most,n,h1,h2,h3,h4,hs,h=>by simp[DA,BC]
 | t::ts,most,n,h1,h2,h3,h4,hs,h=>by
  have ht:=hs t Ai;simp only[BC];unfold DA at h ⊢;by_cases hm:n > most
  ·rw[if_pos hm] at h;omega
  rw[if_neg hm] at h ⊢;have e1:wr (most - n)=most - n:=DX ⟨by omega,by omega⟩;have hT:=KJ t (most - n) Ah Ah Ah;rw[e1] at h ⊢;have e2:wr (1+C5 t (most - n))=1+C5 t (most - n):=DX ⟨by omega,by omega⟩;rw[e2] at h ⊢;have e3:wr (n+(1+C5 t (most - n)))=n+(1+C5 t (most - n)):=DX ⟨by omega,by omega⟩;rw[e3] at h ⊢;have hL:=OM ts most (n+(1+C5 t (most - n))) h1 h2 Ah Ah (fun x hx=>hs x (by simp[hx])) h;have hge:=OZ ts most (n+(1+C5 t (most - n))) h1 h2 Ah Ah (fun x hx=>hs x (by simp[hx]));have:=hT.2.2 Ah;omega
structure PL (l:List Tm):Prop where
 sz:BC l≤200
 nd:Ej l
 fw:ea l
theorem Xx {l:List Tm}{m:Nat}(hm:l.length≤m) (hw:WB l) (hl:l.length<wide) (h:DA l 200 0≤200) (hc:∀j,j<m→∀t,l[j]?=some t→Tk t):PL l:=by
 have hf:∀t∈l,Tk t:=fun t ht=>by
  obtain⟨i,hi⟩:=Fx ht;exact hc i (by have:=(List.getElem?_eq_some_iff.1 hi).1;omega) t hi
 have:=OM l 200 0 Ah Ah Ah Ah (fun t ht=>VS (hf t ht)) h;exact⟨by omega,RS fun t ht=>by
  obtain⟨i,hi⟩:=Fx ht;exact Zy (Lf hw hi) (hf t ht),UD fun t ht=>by
  obtain⟨k,i,n,ls,ks⟩:=t;have h5:=hf _ ht;exact⟨h5.1,h5.2.1,h5.2.2.1,h5.2.2.2.2.2⟩⟩
theorem Gn {l:List Tm}(hf:PL l) {t:Tm}(ht:t∈l):Nd t∧size t≤200:=⟨WY hf.nd ht,by have:=Tp ht;have:=hf.sz;omega⟩
structure ad (m:Nat) (x:Mv):Prop where
 n1:Nd x.type
 n2:Nd x.value
 sz:size x.type+size x.value≤40
 w1:wf 0 m 0 x.type
 w2:x.known=true→wf 0 m 0 x.value
 w3:x.known=false→x.value=BH
structure ij (l:List Mv):Prop where
 len:l.length≤8
 all:∀m∈l,ad l.length m
structure gj (m:Nat) (ctx terms:List Tm):Prop where
 len:ctx.length≤6
 s1:BC ctx≤60
 s2:BC terms≤60
 n1:Ej ctx
 n2:Ej terms
 w2:∀t∈terms,wf ctx.length m 0 t
 w1:∀(i:Nat) (t:Tm),ctx[i]?=some t→wf i m 0 t
structure ki (x:Mv):Prop where
 w1:Wd x.type
 w2:Wd x.value
mutual
theorem U8 {vars m:Int}(hv:vars≤65536):∀(t:Tm) (d:Int),wf vars m d t→0≤d→d+size t≤1073741824→Vp t
 | .mk k i n l ks,d,h,h0,h1=>by
  simp only[wf,size] at h h1;exact⟨fun e=>by have:=h.2.2.2.1 e;omega,VC hv ks k d 0 h.2.2.2.2.2 h0 Ah⟩
theorem VC {vars m:Int}(hv:vars≤65536):∀(ts:List Tm) (k d:Int) (j:Nat),Wi vars m k d j ts→0≤d→d+1+BC ts≤1073741824→Pf ts
 | [],k,d,j,h,h0,h1=>trivial
 | t::ts,k,d,j,h,h0,h1=>by
  have:=CE k j;simp only[Wi,BC] at h h1;exact⟨U8 hv t _ h.1 Ah Ah,VC hv ts k d (j+1) h.2 h0 Ah⟩
end
theorem Ok.mono {B B':Nat}{t:Tm}(h:Ok B t) (hb:B≤B'):Ok B' t:=⟨h.nd,h.vp,h.wt,Nat.le_trans h.sz hb⟩
end Go.Eu
