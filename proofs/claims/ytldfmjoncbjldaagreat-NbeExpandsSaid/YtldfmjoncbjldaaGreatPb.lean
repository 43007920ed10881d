/- Part of the proofs: an abstract program logic, plain models and contracts of functions. -/
import Derived.Test.YtldfmjoncbjldaaGreatPa
import Derived.MapKept
set_option linter.unusedVariables false
set_option linter.unusedSimpArgs false
namespace Go.Abs
section
variable {P:Program}{ops:Array Oper}{n:Nat}{τ₀:Nat→AV}{D:List CI}{Q:Bl→A4→Prop}{opn:Nat→Bool}{k:Nat}{τ:Nat→AV}{H:List Ap}{rd:On}{ef:OY}{effs:List Bool}{fx:List (Nat×Sp)}{dst:Option Tmp}{op:Op}{ty:TypeId}{pos:String}{aft:Array Edge}{v:AV}{H':List Ap}
theorem Kr {cs:List AV}(fx':List (Nat×Sp)) (ho:ops[k]?=some ⟨dst,op,ty,pos,aft,none⟩) (hn:opn k=true) (h:Bz P ⟨dst,op,ty,pos,aft,none⟩ (ev τ) H (FC cs H)) (haft:Cg ops k (fx'.map (·.1))=true)
  (next:∀b,FJ ops k H (.box b cs::H) rd∧Dx k (.eff (.ptr b 0) (.box b cs::H)) fx∧Dr P ops n τ₀ D Q opn (k+1) (put τ dst (.ptr b 0)) (.box b cs::H) rd ((k,H,.box b cs::H)::ef) (true::effs) (fx'++fx)):Dr P ops n τ₀ D Q opn k τ H rd ef effs fx :=
 Gb fx' ho hn h haft ⟨_,_,0,rfl,rfl⟩ (fun _ _ h=>h.elim) (fun v H' ⟨b,h1,h2⟩=>by subst h1;subst h2;exact next b)
theorem Pp {i sz:Nat}{rows:List (List PV)}(fx':List (Nat×Sp)) (ho:ops[k]?=some ⟨dst,op,ty,pos,aft,none⟩) (hn:opn k=true) (h:Bz P ⟨dst,op,ty,pos,aft,none⟩ (ev τ) H (Hd i sz rows H)) (haft:Cg ops k (fx'.map (·.1))=true)
  (next:∀o c,FJ ops k H (H.set i (.vec o sz rows c)) rd∧Dx k (.eff (.vs o rows.length c) (H.set i (.vec o sz rows c))) fx∧Dr P ops n τ₀ D Q opn (k+1) (put τ dst (.vs o rows.length c)) (H.set i (.vec o sz rows c)) rd ((k,H,H.set i (.vec o sz rows c))::ef) (true::effs) (fx'++fx)):Dr P ops n τ₀ D Q opn k τ H rd ef effs fx :=
 Gb fx' ho hn h haft ⟨_,_,none,0,rfl,rfl⟩ (fun _ _ h=>h.elim) (fun v H' ⟨o,c,h1,h2⟩=>by subst h1;subst h2;exact next o c)
def GB (v:AV) (H':List Ap):CA→List Ap→Prop
 | .val v',H''=>v'=v∧H''=H'
 | .panic _,_=>False
theorem Vg {c:Call}{g:Option (Nat×Bool)}{f:Operand}{fid:FuncId}{first caps:List AV}{ρ:Operand→AV}{Hs Hf Hs':List Ap}{A:List AV}
  (hc:c.callee= .value f) (hf:(ρ f= .p (.fn fid)∧first=[]∧caps=[])∨ρ f= .fn (.func fid) first caps) (hp:H.Perm (Hs++Hf)) (h:BD P fid A Hs (GB v Hs')) (hA:first++c.args.toList.map ρ++caps=A∨(first++c.args.toList.map ρ++caps).map norm=A) :
  CG P ⟨dst,.call c,ty,pos,aft,g⟩ ρ H v (Hs'++Hf):=by
 refine(Du (H:=H) hc hf hp h hA).mono ?_;rintro r H' ⟨Hs',h1,rfl⟩;cases r with
 | val v'=>obtain⟨rfl,rfl⟩:=h1;exact⟨rfl,rfl⟩
 | panic v'=>exact h1
end
def cW (k:Int):List (Int×AV)→Option AV
 | []=>none
 | (j,x)::r=>if j=k then some x else cW k r
def dD (k:Int) (v:AV):List (Int×AV)→List (Int×AV)
 | []=>[(k,v)]
 | (j,x)::r=>if j=k then (j,v)::r else (j,x)::dD k v r
def dY (l:List (Int×AV)):List (PV×AV):=l.map fun p=>(.int .i64 p.1,p.2)
def mapOf (P:Program) (T:TypeId):Option TypeId :=
 match P.underlying T with
 | some (.map k e)=>match P.underlying k with
  | some (.int .i64)=>some e
  | _=>none
 | _=>none
section
variable {F:Nat→Prop}{w:World}
end
section
variable {P:Program}{dst:Option Tmp}{ty:TypeId}{pos:String}{aft:Array Edge}{g:Option (Nat×Bool)}{ρ:Operand→AV}{H:List Ap}{x y z:Operand}{v:AV}
def bI (H:List Ap):CA→List Ap→Prop
 | .val v,H'=>∃b,v= .map b∧H'= .map b (dY [])::H
 | .panic _,_=>False
theorem Gh {T:TypeId}{d:TypeDesc}{a b:Value}{c:Bool}{w:World}(hu:P.underlying T=some d) (h:(match d,a,b with
  | .bool,.bool x,.bool y=>some (x==y)
  | .interface _,.nilIface,.nilIface=>some true
  | .interface _,.iface _ _,.nilIface=>some false
  | .slice _,.slice none _ _,.slice none _ _=>some true
  | .slice _,.slice (some _) _ _,.slice none _ _=>some false
  | _,_,_=>none)=some c):(Op.equal T a b).run P w= .ok c w:=by
 unfold Op.equal;rw[show Op.maxDepth=9999+1 from rfl];unfold Op.equalIn;simp only[Sem.run_bind,run_underlying hu,Result.andThen_ok];split at h<;>simp_all
theorem Di {T U:TypeId}{ms:Array (String×TypeId)}{X:PV}{b:Bool}(hu:P.underlying T=some (.interface ms)) (hx:ρ x= .p X) (hy:ρ (.const .nilIface)= .p .nilIface) (hX:(match X with | .nilIface=>some false | .iface _ _=>some true | _=>none)=some b):CG P ⟨dst,.binOp .neq T x (.const .nilIface) U,ty,pos,aft,g⟩ ρ H (.p (.bool b)) H :=
 BK fun F w E hH hE=>by
  have e2:=hE (.const .nilIface) AQ;rw[hy] at e2;simp only[BM,BN] at e2;have e1:=hE x AQ;rw[hx] at e1;have hg:∀a,(eqGuard .neq T x (.const .nilIface) a .nilIface).run P w= .ok () w:=by
   intro a;unfold eqGuard;cases a<;>simp<;>rfl
  refine⟨.bool b,?_,by simp[BM,BN]⟩;cases X with
  | nilIface =>
   simp at hX;subst hX;simp only[BM,BN] at e1;have hq:(Op.equal T .nilIface .nilIface).run P w= .ok true w:=Gh hu rfl;simp[execOp,Sem.run_bind,hg,e1,e2,binOp,hq]
  | iface t c =>
   simp at hX;subst hX;simp only[BM,BN] at e1;obtain⟨u,e1,_⟩:=e1;have hq:(Op.equal T (.iface t u) .nilIface).run P w= .ok false w:=Gh hu rfl;simp[execOp,Sem.run_bind,hg,e1,e2,binOp,hq]
  | _=>simp at hX
theorem LO {T e:TypeId}{len sz b o:Nat}{k:IntKind}{i:Int}{inf:TypeInfo}(hu:P.underlying T=some (.array len e)) (hj:P.info? e=some inf) (hs:inf.size=sz) (hx:ρ x= .ptr b o) (hy:ρ y= .p (.int k i)) (h0:0≤i) (hn:i<len) :
  CG P ⟨dst,.indexAddr T x y,ty,pos,aft,g⟩ ρ H (.ptr b (o+i.toNat*sz)) H :=
 BK fun F w E hH hE=>by
  have h1:=hE x AQ;have h2:=hE y AQ;rw[hx] at h1;rw[hy] at h2;simp only[BM,BN] at h1 h2;refine⟨.pointer (some ⟨b,o+i.toNat*sz,none⟩),?_,by simp[BM]⟩;simp[execOp,Instr.indexAt,Sem.run_bind,run_underlying hu,h1,h2,asIntOf,h0,hn,sizeOf,typeInfo,hj,hs,Addr.add_mid,Instr.sureAddr,asAddr]
theorem LY {T e:TypeId}{len:Nat}{parts:Array (Nat×Operand)}{z:Value}{cs:List AV}{inf:TypeInfo}(hu:P.underlying T=some (.array len e)) (hj:P.info? e=some inf) (hz:zeroOf P T=some z)
  (hc:Et (fun i=>some (i*inf.size,inf.size)) (z.cells.toList.map EN) (parts.toList.map fun p=>(p.1,ρ p.2))=some cs):CG P ⟨dst,.build T parts,ty,pos,aft,g⟩ ρ H (.agg cs) H :=
 BK fun F w E hH hE=>by
  unfold zeroOf at hz;cases hi:P.info? T with
  | none=>simp[hi] at hz
  | some i =>
   have hz':i.zero=some z:=by simpa [hi] using hz
   have hzv:(zeroValue T).run P w= .ok z w:=by simp[zeroValue,typeInfo,hi,hz',Sem.run_bind]
   have hsz:(sizeOf e).run P w= .ok inf.size w:=by simp[sizeOf,typeInfo,hj]
   obtain⟨us,hf,hr⟩:=Fk (F:=F) (w:=w) (place:=(fun i=>some (i*inf.size,inf.size))) _ (parts.toList.map fun p=>(p.1,E p.2)) _ z.cells.toList _ Ab (by
    intro j p q h1 h2;simp only[List.getElem?_map] at h1 h2;cases hj:parts.toList[j]? with
    | none=>simp[hj] at h1
    | some t =>
     simp[hj] at h1 h2;subst h1;subst h2;exact⟨O,hE _ (by
      have:=List.mem_of_getElem? hj;simp only[Op.operands];exact List.mem_map.2 ⟨t,this,O⟩)⟩) (D3 _) hc
   refine⟨.agg ⟨us⟩,?_,by simp only[BM];exact⟨us,rfl,hr⟩⟩;simp only[execOp,Instr.build,Sem.run_bind,hzv,Result.andThen_ok,run_underlying hu,hsz];have hf':Instr.fill (fun i=>some (i*inf.size,inf.size)) z.cells (parts.toList.map fun p=>(p.1,E p.2))=some ⟨us⟩:=hf;simp[hf']
end
def Hu (P:Program) (T:TypeId):Bool :=
 match P.underlying T with
 | some (.struct fs)=>match fs.toList with
  | [f,g]=>f.name != "_" &&g.name != "_" &&Nat.beq f.offset 0&&Nat.beq g.offset 1&&(match P.underlying f.type,P.underlying g.type with | some (.int .i64),some (.int .i64)=>true | _,_=>false)&& !P.stoodInHeld T&& !P.eqGuardType P.depth T
  | _=>false
 | _=>false
theorem Pm {P:Program}{T:TypeId}{a b c d:Int}{w:World}(h:Hu P T=true):(Op.equal T (.agg #[.int .i64 a,.int .i64 b]) (.agg #[.int .i64 c,.int .i64 d])).run P w= .ok (a==c&&b==d) w:=by
 unfold Hu at h;split at h
 ·rename_i fs hu;split at h
  ·rename_i f g hfs;obtain rfl:fs=#[f,g]:=by apply Array.ext';simpa using hfs
   simp only[Bool.and_eq_true,bne_iff_ne,ne_eq,Bool.not_eq_true'] at h;obtain⟨⟨⟨⟨⟨⟨h1,h2⟩,h3⟩,h4⟩,h5⟩,h6⟩,h7⟩:=h;split at h5
   ·rename_i hf hg;have e3:=Nat.eq_of_beq_eq_true h3;have e4:=Nat.eq_of_beq_eq_true h4;have hp:(program).run P w= .ok P w:=rfl;have af:(isAgg f.type).run P w= .ok false w:=Ig hf false rfl w;have ag:(isAgg g.type).run P w= .ok false w:=Ig hg false rfl w;have pf:∀x y,(part f.type #[.int .i64 x,.int .i64 y] f.offset).run P w= .ok (.int .i64 x) w:=by
     intro x y;unfold part;simp[Sem.run_bind,af,e3]
    have pg:∀x y,(part g.type #[.int .i64 x,.int .i64 y] g.offset).run P w= .ok (.int .i64 y) w:=by
     intro x y;unfold part;simp[Sem.run_bind,ag,e4]
    have qf:∀x y,(Op.equalIn 9999 f.type (.int .i64 x) (.int .i64 y)).run P w= .ok (x==y) w:=by
     intro x y;rw[show (9999:Nat)=9998+1 from rfl];unfold Op.equalIn;simp[Sem.run_bind,run_underlying hf]
    have qg:∀x y,(Op.equalIn 9999 g.type (.int .i64 x) (.int .i64 y)).run P w= .ok (x==y) w:=by
     intro x y;rw[show (9999:Nat)=9998+1 from rfl];unfold Op.equalIn;simp[Sem.run_bind,run_underlying hg]
    unfold Op.equal;rw[show Op.maxDepth=9999+1 from rfl];unfold Op.equalIn;simp only[Sem.run_bind,run_underlying hu,Result.andThen_ok,hp,h6];simp[Sem.run_bind,h1,h2,pf,pg,qf,qg];cases hac:(a==c)<;>cases hbd:(b==d)<;>simp_all [Sem.run_bind,h1,h2,pf,pg,qf,qg]
   cases h5
  cases h
 cases h
section
variable {P:Program}{dst:Option Tmp}{ty:TypeId}{pos:String}{aft:Array Edge}{g:Option (Nat×Bool)}{ρ:Operand→AV}{H:List Ap}{x y z:Operand}{v:AV}
theorem Lm {T U:TypeId}{a b c d:Int}(h:Hu P T=true) (hx:ρ x= .agg [.p (.int .i64 a),.p (.int .i64 b)]) (hy:ρ y= .agg [.p (.int .i64 c),.p (.int .i64 d)]):CG P ⟨dst,.binOp .neq T x y U,ty,pos,aft,g⟩ ρ H (.p (.bool (!(a==c&&b==d)))) H :=
 BK fun F w E hH hE=>by
  have e1:=hE x AQ;have e2:=hE y AQ;rw[hx] at e1;rw[hy] at e2;simp only[BM,A8,BN] at e1 e2;obtain⟨vs,e1,u1,us1,rfl,rfl,u2,us2,rfl,rfl,rfl⟩:=e1;obtain⟨vs',e2,v1,vs1,rfl,rfl,v2,vs2,rfl,rfl,rfl⟩:=e2;refine⟨.bool (!(a==c&&b==d)),?_,by simp[BM,BN]⟩;have hq:=Pm (P:=P) (T:=T) (a:=a) (b:=b) (c:=c) (d:=d) (w:=w) h;have h':=h;have hg:(eqGuard .neq T x y (.agg #[.int .i64 a,.int .i64 b]) (.agg #[.int .i64 c,.int .i64 d])).run P w= .ok () w:=by
   unfold Hu at h';split at h'
   ·split at h'
    ·simp only[Bool.and_eq_true,Bool.not_eq_true'] at h';have h7:=h'.2;have hp:(program).run P w= .ok P w:=rfl;unfold eqGuard;simp[Sem.run_bind,hp,h7]
    cases h'
   cases h'
  simp[execOp,Sem.run_bind,hg,e1,e2,binOp,hq]
end
theorem Jz {P:Program}{r:Option Nat}{c:Code}{S:A4}{Q:Bl→A4→Prop}(N:Nat) (C:Nat→Prop) (St:Nat→A4) (i₀:Nat) (h₀:i₀≤N) (hC:C i₀) (l:Le S (St i₀))
  (round:∀i,i≤N→C i→EX P r c (St i) (J7 (fun S'=>i<N∧C (i+1)∧Le S' (St (i+1))) Q)):EX P r (.loop c) S Q:=by
 refine KO (fun m S=>∃i,i≤N∧m=N - i∧C i∧S=St i) (m:=N - i₀) l ⟨i₀,h₀,O,hC,O⟩ ?_;rintro m S ⟨i,hi,rfl,hc,rfl⟩;refine(round i hi hc).mono ?_;intro e S' h;cases e with
 | normal =>
  obtain⟨h1,h2,h3⟩:=h;exact⟨N - (i+1),St (i+1),by omega,h3,i+1,by omega,rfl,h2,rfl⟩
 | exit id=>exact h
 | ret=>exact h
 | panic v=>exact h
theorem BZ {α:Type}{P:Program}{r:Option Nat}{c:Code}{S:A4}{Q:Bl→A4→Prop}(St:α→A4) (μ:α→Nat) (C:α→Prop) (a₀:α) (hC:C a₀) (l:Le S (St a₀))
  (round:∀a,C a→EX P r c (St a) (J7 (fun S'=>∃a',μ a' < μ a∧C a'∧Le S' (St a')) Q)):EX P r (.loop c) S Q:=by
 refine KO (fun m S=>∃a,m=μ a∧C a∧S=St a) (m:=μ a₀) l ⟨a₀,O,hC,O⟩ ?_;rintro m S ⟨a,rfl,hc,rfl⟩;refine(round a hc).mono ?_;intro e S' h;cases e with
 | normal =>
  obtain⟨a',h1,h2,h3⟩:=h;exact⟨μ a',St a',h1,h3,a',O,h2,O⟩
 | exit id=>exact h
 | ret=>exact h
 | panic v=>exact h
abbrev wr (n:Int):Int:=IntKind.i64.wrap n
section
variable {P:Program}{dst:Option Tmp}{ty:TypeId}{pos:String}{aft:Array Edge}{g:Option (Nat×Bool)}{ρ:Operand→AV}{H:List Ap}{x y z:Operand}{v:AV}
theorem DR {m n:Int}{T U:TypeId}(hx:ρ x= .p (.int .i64 m)) (hy:ρ y= .p (.int .i64 n)):CG P ⟨dst,.binOp .add T x y U,ty,pos,aft,g⟩ ρ H (.p (.int .i64 (wr (m+n)))) H :=
 BK fun F w E hH hE=>by
  have e1:=hE x AQ;have e2:=hE y AQ;rw[hx] at e1;rw[hy] at e2;simp only[BM,BN] at e1 e2;exact⟨.int .i64 (wr (m+n)),by simp[execOp,Sem.run_bind,E0,e1,e2,binOp,Op.intArith],by simp[BM,BN]⟩
theorem FQ {m n:Int}{T U:TypeId}(hx:ρ x= .p (.int .i64 m)) (hy:ρ y= .p (.int .i64 n)):CG P ⟨dst,.binOp .sub T x y U,ty,pos,aft,g⟩ ρ H (.p (.int .i64 (wr (m - n)))) H :=
 BK fun F w E hH hE=>by
  have e1:=hE x AQ;have e2:=hE y AQ;rw[hx] at e1;rw[hy] at e2;simp only[BM,BN] at e1 e2;exact⟨.int .i64 (wr (m - n)),by simp[execOp,Sem.run_bind,E0,e1,e2,binOp,Op.intArith],by simp[BM,BN]⟩
end
def cJ (R:AV→Prop):CA→List Ap→Prop
 | .val v,H'=>R v∧H'=[]
 | .panic _,_=>False
abbrev F4 (P:Program) (f:FuncId) (args:List AV) (R:AV→Prop):Prop:=BD P f args [] (cJ R)
theorem F4.of {P:Program}{f:FuncId}{args:List AV}{v:AV}{R:AV→Prop}(h:Dl P f args v) (hR:R v):F4 P f args R :=
 BD.mono h fun r H hr=>by
  cases r with
  | val v'=>obtain⟨rfl,rfl⟩:=hr;exact⟨hR,rfl⟩
  | panic v'=>exact hr
def Ob (R:AV→Prop) (H:List Ap):CA→List Ap→Prop
 | .val v,H'=>R v∧H'=H
 | .panic _,_=>False
section
variable {P:Program}{r:Option Nat}{ops:Array Oper}{Q:Bl→A4→Prop}{k:Nat}{n:Nat}{τ:Nat→AV}{H H':List Ap}{D:List CI}{dst:Option Tmp}{op:Op}{ty:TypeId}{pos:String}{aft:Array Edge}{g:Option (Nat×Bool)}{v:AV}
theorem CC {c:Call}{f:Operand}{fid:FuncId}{ρ:Operand→AV}{A:List AV}{R:AV→Prop}(hc:c.callee= .value f) (hf:ρ f= .p (.fn fid)) (h:F4 P fid A R) (hA:c.args.toList.map ρ=A∨(c.args.toList.map ρ).map norm=A) :
  Bz P ⟨dst,.call c,ty,pos,aft,g⟩ ρ H (Ob R H):=by
 refine(Du (H:=H) (Hs:=[]) (Hf:=H) (first:=[]) (caps:=[]) hc (.inl ⟨hf,O,O⟩) (A:=A) Ab h (by simpa using hA)).mono ?_;rintro r H' ⟨Hs',h1,rfl⟩;cases r with
 | val v'=>obtain⟨h1,rfl⟩:=h1;exact⟨h1,rfl⟩
 | panic v'=>exact h1
theorem EM {R:AV→Prop}(ho:ops[k]?=some ⟨dst,op,ty,pos,aft,none⟩) (hd:Db dst n=true) (h:Bz P ⟨dst,op,ty,pos,aft,none⟩ (ev τ) H (Ob R H))
  (next:∀v,R v→AL P r ops (k+1) ⟨n,put τ dst v,H,D⟩ Q):AL P r ops k ⟨n,τ,H,D⟩ Q :=
 C0 (S:=⟨n,τ,H,D⟩) ho AT (D8 hd) h (fun v H' ⟨h1,h2⟩=>by subst h2;exact next v h1) (fun _ _ h=>h.elim)
theorem Hj {R:AV→Prop}{j d:Nat}{want:Bool}(ho:ops[k]?=some ⟨dst,op,ty,pos,aft,some (j,want)⟩) (hd:Db dst n=true) (hj:(ops[j]?).bind (·.dst)=some d) (hb:τ d= .p (.bool want)) (h:Bz P ⟨dst,op,ty,pos,aft,some (j,want)⟩ (ev τ) H (Ob R H))
  (next:∀v,R v→AL P r ops (k+1) ⟨n,put τ dst v,H,D⟩ Q):AL P r ops k ⟨n,τ,H,D⟩ Q :=
 C0 (S:=⟨n,τ,H,D⟩) ho (by simp only[B8];exact⟨d,hj,hb⟩) (D8 hd) h (fun v H' ⟨h1,h2⟩=>by subst h2;exact next v h1) (fun _ _ h=>h.elim)
end
section
variable {P:Program}{ops:Array Oper}{n:Nat}{τ₀:Nat→AV}{D:List CI}{Q:Bl→A4→Prop}{opn:Nat→Bool}{k:Nat}{τ:Nat→AV}{H:List Ap}{rd:On}{ef:OY}{effs:List Bool}{fx:List (Nat×Sp)}{dst:Option Tmp}{op:Op}{ty:TypeId}{pos:String}{aft:Array Edge}
theorem YA {R:AV→Prop}(fx':List (Nat×Sp)) (ho:ops[k]?=some ⟨dst,op,ty,pos,aft,none⟩) (hn:opn k=true) (h:Bz P ⟨dst,op,ty,pos,aft,none⟩ (ev τ) H (Ob R H)) (haft:Cg ops k (fx'.map (·.1))=true) (hne:∃v,R v) (owe:FJ ops k H H rd)
  (next:∀v,R v→Dx k (.eff v H) fx∧Dr P ops n τ₀ D Q opn (k+1) (put τ dst v) H rd ((k,H,H)::ef) (true::effs) (fx'++fx)):Dr P ops n τ₀ D Q opn k τ H rd ef effs fx :=
 Gb fx' ho hn h haft (let ⟨v,hv⟩:=hne;⟨v,H,hv,rfl⟩) (fun _ _ h=>h.elim) (fun v H' ⟨h1,h2⟩=>by subst h2;exact⟨owe,next v h1⟩)
end
theorem BL {P:Program}{r:Option Nat}{c:Code}{Q:Bl→A4→Prop}{n:Nat}{τ:Nat→AV}{H:List Ap}{D:List CI}(live:List Nat) (d:Nat) (R:AV→Prop) (h:EX P r c ⟨n,τ,H,D⟩ (J7 (fun S'=>S'.n=n∧S'.D=D∧H.Sublist S'.H∧R (S'.τ d)∧Wp S'.τ τ live) Q))
  (next:∀x,R x→Q .normal ⟨n,mk ((d,x)::live.map fun t=>(t,τ t)),H,D⟩):EX P r c ⟨n,τ,H,D⟩ Q:=by
 intro F a w hs;refine wpIn_mono (h F a w hs) ?_;rintro e a' w' ⟨e',S',F',hq,he,hs',ht⟩;cases e' with
 | normal =>
  obtain⟨n',τ',H',D'⟩:=S';obtain⟨h1,h3,h2,h4,h5⟩:=hq;simp only at h1 h2 h3 h4 h5;subst h1;subst h3;have l:Le ⟨n',τ',H',D'⟩ ⟨n',mk ((d,τ' d)::live.map fun t=>(t,τ t)),H,D'⟩:=DE ⟨rfl,I0 h5⟩ h2;exact⟨.normal,_,F',next _ h4,he,hs'.le l,ht.sublist h2⟩
 | exit id=>exact⟨.exit id,S',F',hq,he,hs',ht⟩
 | ret=>exact⟨.ret,S',F',hq,he,hs',ht⟩
 | panic v=>exact⟨.panic v,S',F',hq,he,hs',ht⟩
def KU (v:AV):Prop:=∃b:Bool,v= .p (.bool b)
def Zq (v:AV):Prop:=∃e:Int,v= .p (.int .i64 e)
end Go.Abs
namespace Go.Eu
open Go.Abs
noncomputable def JW {α:Type}(a b:α):Bool:= @decide (a=b) (Classical.propDecidable _)
theorem CN {α:Type}{a b:α}(h:a=b):JW a b=true:=by simp[JW,h]
theorem Cf {α:Type}{a b:α}(h:a≠b):JW a b=false:=by simp[JW,h]
theorem EA {α:Type}{a b:α}:JW a b=true↔a=b:=by simp[JW]
abbrev LV (l:B6):AV:= .agg ((By l).map .p)
abbrev eM (ts:List Tm):AV:= .p (.lst (Ax ts))
abbrev ao (ls:List B6):AV:= .p (.lst (ls.map By))
theorem DV {ts:List Bm}{i:Nat}{t:Bm}(h:ts[i]?=some t):(ts.map HN)[i]?=some (HN t):=by simp[h]
theorem Ef {ts:List B6}{i:Nat}{t:B6}(h:ts[i]?=some t):(ts.map By)[i]?=some (By t):=by simp[h]
def G2 {α:Type}(a b:List α) (i:Nat):Prop:=a.take i=b.take i
theorem G8 {α:Type}(a b:List α):G2 a b 0:=by simp[G2]
theorem HL {α:Type}{a b:List α}{i:Nat}{x:α}(h:G2 a b i) (ha:a[i]?=some x) (hb:b[i]?=some x):G2 a b (i+1):=by
 unfold G2 at *;rw[List.take_add_one,List.take_add_one,ha,hb,h]
theorem IQ {α:Type}{a b:List α}{n:Nat}(h:G2 a b n) (ha:a.length=n) (hb:b.length=n):a=b:=by
 unfold G2 at h
 rwa [List.take_of_length_le Aa,List.take_of_length_le Aa] at h
theorem Ar {α:Type}{l:List α}{i:Nat}(h:i<l.length):∃x,l[i]?=some x:=⟨_,List.getElem?_eq_getElem h⟩
abbrev Cu:Nat:=1099511627776
def FR (n:Int):Prop:= -9223372036854775808≤n∧n≤9223372036854775807
structure We (l:B6):Prop where
 vars:l.vars.length<Cu
 c:FR l.const
 v:∀v∈l.vars,FR v.index∧FR v.plus
mutual
def Nd:Tm→Prop
 | .mk k i n ls ks=>n.size<Cu∧ls.length<Cu∧(∀l∈ls,We l)∧ks.length<Cu∧JP ks∧FR k∧FR i
def JP:List Tm→Prop
 | []=>True
 | t::ts=>Nd t∧JP ts
end
theorem CK:∀{ts:List Tm}{i:Nat}{t:Tm},JP ts→ts[i]?=some t→Nd t
 | [],i,t,_,h=>by simp at h
 | a::ts,0,t,hn,h=>by simp at h;subst h;exact hn.1
 | a::ts,i+1,t,hn,h=>by simp at h;exact CK hn.2 h
mutual
def depth:Tm→Nat
 | .mk _ _ _ _ ks=>Dc ks+1
def Dc:List Tm→Nat
 | []=>0
 | t::ts=>max (depth t) (Dc ts)
end
theorem OH {ts:List Tm}{i:Nat}{t:Tm}(h:ts[i]?=some t):Dc (ts.take (i+1))=max (Dc (ts.take i)) (depth t):=by
 induction ts generalizing i with
 | nil=>simp at h
 | cons a ts ih =>
  cases i with
  | zero=>simp at h;subst h;simp[Dc]
  | succ i=>simp at h;simp only[List.take_succ_cons,Dc,ih h];omega
mutual
theorem LN:∀t:Tm,depth t≤size t
 | .mk _ _ _ _ ks=>by simp only[depth,size];have:=EI ks;omega
theorem EI:∀ts:List Tm,Dc ts≤A0 ts
 | []=>by simp[Dc]
 | t::ts=>by simp only[Dc,A0];have:=LN t;have:=EI ts;omega
end
theorem J8 {ts:List Tm}(i:Nat):Dc (ts.take i)≤Dc ts:=by
 induction ts generalizing i with
 | nil=>simp[Dc]
 | cons a ts ih =>
  cases i with
  | zero=>simp[Dc]
  | succ i=>simp only[List.take_succ_cons,Dc];have:=ih i;omega
end Go.Eu
namespace Go.Eu
theorem Hl (bs : ByteArray) : ∀ (d i : Nat) (r : List UInt8), bs.size - i = d → ByteArray.toList.loop bs i r = r.reverse ++ bs.data.toList.drop i := by
 intro d
 induction d with
 | zero =>
  intro i r h
  unfold ByteArray.toList.loop
  have : ¬ i < bs.size := by omega
  simp only [this, if_false]
  rw [List.drop_eq_nil_of_le (by have : bs.data.size = bs.size := rfl; simp; omega)]; simp
 | succ d ih =>
  intro i r h
  unfold ByteArray.toList.loop
  have hi : i < bs.size := by omega
  simp only [hi, if_true]
  rw [ih (i + 1) _ Aa]
  have hlt : i < bs.data.toList.length := by have : bs.data.size = bs.size := rfl; simp; omega
  rw [List.drop_eq_getElem_cons hlt]
  have : bs.get! i = bs.data.toList[i] := by
   have h2 : i < bs.data.size := by simpa using hlt
   show bs.data[i]! = _
   rw [getElem!_pos bs.data i h2]; simp
  simp [this]
theorem HU (bs:ByteArray):bs.toList=bs.data.toList:=by
 unfold ByteArray.toList;rw[Hl bs _ 0 [] rfl];simp
theorem Hp {a b:ByteArray}(h:a.toList=b.toList):a=b:=by
 rw[HU,HU] at h;cases a;cases b;simp at h;congr
end Go.Eu
namespace Go.Eu
open Go.Abs
mutual
def CU:Tm→Int→Int
 | .mk _ _ _ _ ks,most=>CM ks most 0
def CM:List Tm→Int→Int→Int
 | [],_,n=>n
 | t::ts,most,n=>if n > most then n else CM ts most (wr (n+wr (1+CU t (wr (most - n)))))
end
theorem L5 {l:List Tm}{i:Nat}{t:Tm}{most n:Int}(h:l[i]?=some t):CM (l.drop i) most n=if n > most then n else CM (l.drop (i+1)) most (wr (n+wr (1+CU t (wr (most - n))))):=by
 have hlt:i<l.length:=(List.getElem?_eq_some_iff.1 h).1;rw[List.drop_eq_getElem_cons hlt];have:l[i]=t:=by simpa [List.getElem?_eq_getElem hlt] using h
 rw[this,CM]
end Go.Eu
namespace Go.Eu
def arity (k:Int):Int:=if k=4∨k=5∨k=6∨k=7 then 2 else if k=8∨k=11 then 3 else if k=9∨k=10 then 1 else 0
def below (k i:Int):Int:=if ((i==1&&(k==5||k==6||k==7))||(i==2&&k==11))=true then 1 else 0
def O9:Tm→Prop
 | .mk kd _ _ _ ks=>0≤kd∧kd<13∧(ks.length:Int)=arity kd
mutual
def wf (vars metas:Int):Int→Tm→Prop
 | d,.mk kd ix _ _ ks=>0≤kd∧kd<13∧(ks.length:Int)=arity kd∧(kd=0→0≤ix∧ix - d<vars)∧(kd=12→0≤ix∧ix<metas)∧WV vars metas kd d 0 ks
def WV (vars metas:Int):Int→Int→Nat→List Tm→Prop
 | _,_,_,[]=>True
 | kd,d,i,t::ts=>wf vars metas (d+below kd i) t∧WV vars metas kd d (i+1) ts
end
theorem Fc {vars metas kd d:Int}:∀{ks:List Tm}{i:Nat},(∀j t,ks[j]?=some t→wf vars metas (d+below kd ((i+j:Nat):Int)) t)→WV vars metas kd d i ks
 | [],i,_=>by simp[WV]
 | t::ts,i,h=>by
  simp only[WV];exact⟨by have:=h 0 t rfl;simpa using this,Fc fun j t' ht=>by have:=h (j+1) t' (by simpa using ht);rw[show i+1+j=i+(j+1) by omega];exact this⟩
theorem Bn (k i:Int):0≤below k i∧below k i≤1:=by unfold below;split<;>omega
theorem Dk {α:Type}{l:List α}{p:Nat→α→Prop}{i:Nat}{x:α}(h:∀j,j<i→∀t,l[j]?=some t→p j t) (hx:l[i]?=some x) (hp:p i x):∀j,j<i+1→∀t,l[j]?=some t→p j t:=by
 intro j hj t ht;rcases Nat.lt_or_ge j i with h' | h'
 ·exact h j h' t ht
 have e:j=i:=by omega
 subst e;rw[hx] at ht;injection ht with ht;subst ht;exact hp
end Go.Eu
namespace Go.Abs
section
variable {α:Type}
def JF (is:List Nat):Nat→List α→List α
 | _,[]=>[]
 | k,a::l=>bif is.any (Nat.beq k ·) then a::JF is (k+1) l else JF is (k+1) l
theorem Iz (is:List Nat):∀(k:Nat) (l:List α),(JF is k l).Sublist l
 | _,[]=>List.Sublist.refl _
 | k,a::l=>by
  simp only[JF];cases is.any (Nat.beq k ·)
  ·exact(Iz is (k+1) l).cons _
  exact(Iz is (k+1) l).cons_cons _
theorem CX {is:List Nat}{l l':List α}(h:JF is 0 l=l'):l'.Sublist l:=h▸Iz is 0 l
def DZ (H:List α):List Nat→List α→Prop
 | [],xs=>xs=[]
 | i::is,xs=>∃x xs',xs=x::xs'∧H[i]?=some x∧DZ H is xs'
def Gm (H:List α):List Nat→List α→List α
 | i::is,x::xs=>Gm (H.set i x) is xs
 | _,_=>H
def Bw (is:List Nat):Nat→List α→List α
 | _,[]=>[]
 | k,a::l=>if k∈is then Bw is (k+1) l else a::Bw is (k+1) l
theorem I6:∀(k:Nat) (l:List α),Bw [] k l=l
 | _,[]=>rfl
 | k,a::l=>by simp[Bw,I6 (k+1) l]
theorem JJ {is:List Nat}{j:Nat}:∀(k:Nat) (l:List α),j<k→Bw (j::is) k l=Bw is k l
 | _,[],_=>rfl
 | k,a::l,h=>by
  have:k≠j:=by omega
  have ih:=JJ (is:=is) (j:=j) (k+1) l Aa;simp[Bw,this,ih]
theorem IB {is:List Nat}{x:α}:∀(l:List α) (k i:Nat),l[i]?=some x→(k+i) ∉ is→(Bw is k l).Perm (x::Bw ((k+i)::is) k l)
 | [],k,i,h,_=>by simp at h
 | a::l,k,0,h,hn=>by
  simp at h hn;subst h;simp[Bw,hn,JJ (k+1) l (Nat.lt_succ_self k)]
 | a::l,k,i+1,h,hn=>by
  simp at h;have ih:=IB l (k+1) i h (by rw[show k+1+i=k+(i+1) by omega];exact hn);rw[show k+1+i=k+(i+1) by omega] at ih;have hk:k≠k+(i+1):=by omega
  simp only[Bw,List.mem_cons,hk,false_or];split
  ·exact ih
  exact(ih.cons a).trans (.swap _ _ _)
theorem B9 {H:List α}:∀{is:List Nat}{xs:List α},is.Nodup→DZ H is xs→H.Perm (xs++Bw is 0 H)
 | [],xs,_,h=>by simp only[DZ] at h;subst h;simp[I6]
 | i::is,xs,hn,h=>by
  obtain⟨x,xs',rfl,hx,hr⟩:=h;have hn':=List.nodup_cons.1 hn;have ih:=B9 hn'.2 hr;have:=IB (is:=is) H 0 i hx (by simpa using hn'.1);simp only[Nat.zero_add] at this;exact ih.trans (((List.Perm.refl xs').append this).trans List.perm_middle)
theorem JA {is:List Nat}{y:α}:∀(l:List α) (k i:Nat),(k+i)∈is→Bw is k (l.set i y)=Bw is k l
 | [],k,i,_=>by simp
 | a::l,k,0,h=>by simp at h;simp[Bw,h]
 | a::l,k,i+1,h=>by
  have:=JA (y:=y) l (k+1) i (by rw[show k+1+i=k+(i+1) by omega];exact h);simp only[List.set_cons_succ,Bw,this]
theorem K5 {i:Nat}{y:α}:∀{is:List Nat}{xs H:List α},i ∉ is→DZ H is xs→DZ (H.set i y) is xs
 | [],xs,H,_,h=>h
 | j::is,xs,H,hn,h=>by
  obtain⟨x,xs',rfl,hx,hr⟩:=h;simp at hn;exact⟨x,xs',O,by rw[List.getElem?_set_ne hn.1];exact hx,K5 hn.2 hr⟩
theorem MQ:∀{is:List Nat}{xs xs' H:List α},is.Nodup→DZ H is xs→xs'.length=xs.length→DZ (Gm H is xs') is xs'∧(∀ks k,(∀i∈is,k+i∈ks)→Bw ks k (Gm H is xs')=Bw ks k H)∧∀j,j ∉ is→(Gm H is xs')[j]?=H[j]?
 | [],xs,xs',H,_,h,hl=>by
  simp only[DZ] at h;subst h;have:xs'=[]:=by simpa using hl
  subst this;exact⟨O,fun _ _ _=>O,fun _ _=>O⟩
 | i::is,xs,xs',H,hn,h,hl=>by
  obtain⟨x,xr,rfl,hx,hr⟩:=h;have hn':=List.nodup_cons.1 hn;cases xs' with
  | nil=>simp at hl
  | cons y ys =>
   have hlt:i<H.length:=(List.getElem?_eq_some_iff.1 hx).1;obtain⟨h1,h2,h3⟩:=MQ (H:=H.set i y) hn'.2 (K5 hn'.1 hr) (by simpa using hl);refine⟨⟨y,ys,O,by rw[Gm,h3 i hn'.1];simp[hlt],h1⟩,fun ks k hk=>?_,fun j hj=>?_⟩
   ·rw[Gm,h2 ks k (fun q hq=>hk q (by simp[hq])),JA _ _ _ (hk i Ab)]
   simp at hj;rw[Gm,h3 j hj.2,List.getElem?_set_ne (fun e=>hj.1 e.symm)]
theorem IN {is:List Nat}{xs xs' H:List α}(hn:is.Nodup) (h:DZ H is xs) (hl:xs'.length=xs.length):(Gm H is xs').Perm (xs'++Bw is 0 H):=by
 obtain⟨h1,h2,_⟩:=MQ hn h hl;have:=B9 hn h1
 rwa [h2 is 0 (fun i hi=>by simpa using hi)] at this
end
def WL (τ:Nat→AV) (x:AV):List Nat→Prop
 | []=>True
 | t::r=>τ t=x∧WL τ x r
theorem Da {τ:Nat→AV}{x:AV}:∀{ts:List Nat},WL τ x ts→∀t∈ts,τ t=x
 | [],_,t,h=>by simp at h
 | a::r,h,t,ht=>by
  rcases List.mem_cons.1 ht with rfl | ht
  ·exact h.1
  exact Da h.2 t ht
section
variable {P:Program}{S:A4}{a T n b i:Nat}{cs:List AV}{v:AV}
theorem BA (hT:Ck P T=some (true,n)) (ha:S.τ a= .ptr b 0) (hi:S.H[i]?=some (.box b cs)) (hn:cs.length=n):UX P S (.cell a T) (.agg cs):=by
 obtain⟨d,h1,h2,h3⟩:=DK hT;exact⟨b,cs,i,ha,hi,.inl ⟨d,h1,h2,by rw[h3,hn],rfl⟩⟩
theorem Dt (hT:Ck P T=some (false,n)) (ha:S.τ a= .ptr b 0) (hi:S.H[i]?=some (.box b [v])):UX P S (.cell a T) v:=by
 obtain⟨d,h1,h2,h3⟩:=DK hT;exact⟨b,[v],i,ha,hi,.inr ⟨d,h1,h2,O⟩⟩
end
section
variable {P:Program}{dst:Option Tmp}{ty:TypeId}{pos:String}{aft:Array Edge}{g:Option (Nat×Bool)}{ρ:Operand→AV}{H Hs Hs':List Ap}{x y z:Operand}{v:AV}{c:Call}{f:Operand}{fid:FuncId}{first caps A:List AV}
theorem Bz.permD {o:Oper}{H H' H'':List Ap}(h:CG P o ρ H v H') (hp:H'.Perm H''):CG P o ρ H v H'':=by
 intro r F S a w hs hH hρ hd;have:=h r F S a w hs hH hρ hd;refine IT this ?_ ?_
 ·rintro a' w' ⟨v',H1,F',⟨rfl,rfl⟩,hs',ht⟩;exact⟨v',H'',F',⟨O,O⟩,⟨hs'.size,hs'.tmp,hs'.heap.perm hp,hs'.defs⟩,{ ht with keys:=fun o ho=>ht.keys o (hp.mem_iff.2 ho) }⟩
 rintro e a' w' ⟨v',H1,F',u,h,_⟩;exact h.elim
theorem CD (is:List Nat) (hc:c.callee= .value f) (hf:(ρ f= .p (.fn fid)∧first=[]∧caps=[])∨ρ f= .fn (.func fid) first caps) (h:BD P fid A Hs (GB v Hs')) (hg:DZ H is Hs) (hn:is.Nodup) (hl:Hs'.length=Hs.length) (hA:first++c.args.toList.map ρ++caps=A∨(first++c.args.toList.map ρ++caps).map norm=A) :
  CG P ⟨dst,.call c,ty,pos,aft,g⟩ ρ H v (Gm H is Hs') :=
 Bz.permD (Vg hc hf (B9 hn hg) h hA) (IN hn hg hl).symm
theorem EF {T T2 e e2:TypeId}{sz bytes n2 n3 c i n:Nat}{o:Option Nat}{rows rows' rows2:List (List PV)}{zv:Value}(hT:Cy P T=some (e,sz,bytes)) (hT2:Cy P T2=some (e2,n2,n3)) (hz:zeroOf P e=some zv) (hzs:zv.cells.size=sz) (hb0:(Nat.blt 0 sz&&Nat.blt 0 bytes)=true)
  (hx:ρ x= .vs o n c) (hn:n=rows.length) (hi:H[i]?=some (.vec o sz rows c)) (hy:norm (ρ y)= .p (.lst rows')) (hsol:∀r∈rows',Cd sz r) (hroom:2*(rows.length+rows'.length)*bytes≤281474976710656) (h2:rows++rows'=rows2) :
  Bz P ⟨dst,.call { callee:= .builtin .append,args:=#[x,y],argTypes:=#[T,T2] },ty,pos,aft,g⟩ ρ H (Hd i sz rows2 H):=by
 subst h2;exact PW hT hT2 hz hzs hb0 hx hn hi hy hsol hroom
theorem P2 {F:Nat→Prop}{w:World}{u:Value}(h:BM F w (.p .nils) u):BM F w (.vs none 0 0) u:=by
 simp only[BM,BN] at *;exact⟨Ac,Ac,none,h⟩
theorem PF {α : Type} : ∀ {us cs : List α}, us.length = cs.length → splice cs 0 us = us := by
 have key : ∀ (us : List α) (pre cs : List α), us.length = cs.length → splice (pre ++ cs) pre.length us = pre ++ us := by
  intro us
  induction us with
  | nil => intro pre cs h; have : cs = [] := by simpa using h.symm
           subst this; simp [splice]
  | cons u us ih =>
   intro pre cs h
   cases cs with
   | nil => simp at h
   | cons c cs =>
    simp only [splice]
    have := ih (pre ++ [u]) cs (by simpa using h)
    have e : (pre ++ c :: cs).set pre.length u = pre ++ [u] ++ cs := by simp
    rw [e]
    simpa using this
 intro us cs h
 exact key us [] cs h
theorem EL {T:TypeId}{bl:Bool}{n b i:Nat}{cs us:List AV}(hT:Ck P T=some (bl,n+1)) (hx:ρ x= .ptr b 0) (hi:H[i]?=some (.box b cs)) (hy:DC (ρ y)=some us) (hn:us.length=n+1)
  (ho:cs.length=n+1) (h1:us.all one=true):CG P ⟨dst,.store T x y,ty,pos,aft,g⟩ ρ H (.p .any) (H.set i (.box b us)):=by
 have:=EB (P:=P) (dst:=dst) (ty:=ty) (pos:=pos) (aft:=aft) (g:=g) hT hx hi hy hn (by rw[ho];simp) h1
 rwa [PF (by rw[hn,ho])] at this
theorem CY {T:TypeId}{bl:Bool}{b i j sz c:Nat}{rows rows2:List (List PV)}{us:List AV}{r:List PV}(hT:Ck P T=some (bl,sz)) (hpos:Nat.blt 0 sz=true) (hx:ρ x= .ptr b (j*sz)) (hi:H[i]?=some (.vec (some b) sz rows c)) (hj:j<rows.length) (hy:DC (ρ y)=some us) (hp:Dh (us.map dn)=some r) (hrl:r.length=sz) (h1:us.all one=true) (h2:rows.set j r=rows2) :
  CG P ⟨dst,.store T x y,ty,pos,aft,g⟩ ρ H (.p .any) (H.set i (.vec (some b) sz rows2 c)):=by
 subst h2;exact LM hT hpos hx hi hj hy hp hrl h1
theorem Ee {T e:TypeId}{sz bytes:Nat}{m:Int}{zs:List Value}{zv:Value}{zr:List PV}{rows2:List (List PV)}(hT:Cy P T=some (e,sz,bytes)) (hz:zeroOf P e=some zv) (hzs:zv.cells=⟨zs⟩) (hsz:zs.length=sz) (hpos:0<sz) (hp:Dh ((zs.map EN).map dn)=some zr)
  (hx:ρ x= .p (.int .i64 m)) (hy:ρ y= .p (.int .i64 m)) (h0:0≤m) (hm:bytes*m≤281474976710656) (hm2:m≤9223372036854775807) (h2:List.replicate m.toNat zr=rows2) :
  Bz P ⟨dst,.makeSlice T x y,ty,pos,aft,g⟩ ρ H (GK sz rows2 H):=by
 subst h2;exact LK hT hz hzs hsz hpos hp hx hy h0 hm hm2
theorem Pk {T e:TypeId}{sz bytes lo hi:Nat}{rows rows2:List (List PV)}{l h:Option Operand}(hT:Cy P T=some (e,sz,bytes)) (hx:ρ x= .p (.lst rows)) (hr:∀r∈rows,r.length=sz)
  (hl:match l with | none=>lo=0 | some y=>∃k,ρ y= .p (.int k lo)) (hh:match h with | none=>hi=rows.length | some y=>∃k,ρ y= .p (.int k hi)) (h1:lo≤hi) (h2:hi≤rows.length) (h3:(rows.take hi).drop lo=rows2) :
  CG P ⟨dst,.slice T x l h none,ty,pos,aft,g⟩ ρ H (.p (.lst rows2)) H:=by
 subst h3;exact RD hT hx hr hl hh h1 h2
end
section
variable {P:Program}{r:Option Nat}{ops:Array Oper}{Q:Bl→A4→Prop}{k:Nat}{n:Nat}{τ:Nat→AV}{H H':List Ap}{D:List CI}{dst:Option Tmp}{op:Op}{ty:TypeId}{pos:String}{aft:Array Edge}{v:AV}
end
theorem leH {is:List Nat}{H H1 H':List Ap}(h:JF is 0 H=H1) (w:Cz H1 H'):WE H H':=⟨H1,CX h,w⟩
theorem D5 {x y:AV}(h:norm x=y):Fv x y:=fun _ _ _ hr=>h▸hr.norm
theorem DM:Cz [] []:=rfl
theorem wl {o o':Ap}{l l':List Ap}(h:Gs o o') (r:Cz l l'):Cz (o::l) (o'::l'):=⟨o',l',rfl,h,r⟩
theorem on {b:Nat}{cs cs':List AV}(h:cs.map dn=cs'):Gs (.box b cs) (.box b cs'):=⟨rfl,fun F w hr=>by
 obtain⟨vs,T,h1,h2⟩:=hr;exact⟨vs,T,h1,h▸FN h2⟩⟩
theorem Bv {n:Nat}{τ:Nat→AV}{H:List Ap}{D:List CI}{i b:Nat}{cs:List AV}(hi:H[i]?=some (.box b cs)):Dy ⟨n,τ,H,D⟩ ⟨n,τ,H.set i (.box b (cs.map dn)),D⟩:=by
 intro F a w hs;refine⟨F,⟨hs.size,hs.tmp,?_,hs.defs⟩,?_⟩
 ·have hk:=C8 (x':= .box b (cs.map dn)) hi rfl;refine⟨fun o ho c hc=>?_,by show List.Nodup _;rw[hk];exact hs.heap.nodup,fun o ho=>?_,hs.heap.bd⟩
  ·rcases B2 ho with rfl | ⟨j,_,hj⟩
   ·exact hs.heap.sub _ (List.mem_of_getElem? hi) c hc
   exact hs.heap.sub _ (List.mem_of_getElem? hj) c hc
  rcases B2 ho with rfl | ⟨j,_,hj⟩
  ·exact(on O).2 F w (hs.heap.obj _ (List.mem_of_getElem? hi))
  exact hs.heap.obj _ (List.mem_of_getElem? hj)
 refine { Trans.refl (F:=F) (H:=H) (w:=w) with keys:=fun o ho c hc=>?_ };rcases B2 ho with rfl | ⟨j,_,hj⟩
 ·exact .inl ⟨_,List.mem_of_getElem? hi,hc⟩
 exact .inl ⟨_,List.mem_of_getElem? hj,hc⟩
theorem ob {b:Nat}{cs cs':List AV}(h:cs=cs'):Gs (.box b cs) (.box b cs'):=oe (by rw[h])
def Ws (mkv:AV→AV) (sz:Nat) (rows:List (List PV)):CA→List Ap→Prop
 | .val v,H'=>∃o c,v=mkv (.vs o rows.length c)∧H'=[.vec o sz rows c]
 | .panic _,_=>False
section
variable {P:Program}{r:Option Nat}{ops:Array Oper}{Q:Bl→A4→Prop}{k:Nat}{n:Nat}{τ:Nat→AV}{H H':List Ap}{D:List CI}{dst:Option Tmp}{op:Op}{ty:TypeId}{pos:String}{aft:Array Edge}{v:AV}
theorem SG {c:Call}{f:Operand}{fid:FuncId}{first caps:List AV}{A:List AV}{mkv:AV→AV}{sz:Nat}{rows:List (List PV)}
  (ho:ops[k]?=some ⟨dst,.call c,ty,pos,aft,none⟩) (hd:Db dst n=true)
  (hc:c.callee= .value f) (hf:(ev τ f= .p (.fn fid)∧first=[]∧caps=[])∨ev τ f= .fn (.func fid) first caps) (h:BD P fid A [] (Ws mkv sz rows)) (hA:first++c.args.toList.map (ev τ)++caps=A∨(first++c.args.toList.map (ev τ)++caps).map norm=A)
  (next:∀o cp,AL P r ops (k+1) ⟨n,put τ dst (mkv (.vs o rows.length cp)),.vec o sz rows cp::H,D⟩ Q):AL P r ops k ⟨n,τ,H,D⟩ Q :=
 Gg ho hd hc hf (Hs:=[]) (Hf:=H) Ab h hA (fun v H' ⟨o,cp,h1,h2⟩=>by subst h1;subst h2;exact next o cp) (fun _ _ h=>h.elim)
end
def C2:List AV→List AV→Prop
 | [],ys=>ys=[]
 | x::xs,ys=>∃y ys',ys=y::ys'∧Fv x y∧C2 xs ys'
theorem G7:C2 [] []:=rfl
theorem aw {x y:AV}{xs ys:List AV}(h:Fv x y) (r:C2 xs ys):C2 (x::xs) (y::ys):=⟨y,ys,rfl,h,r⟩
theorem Gf {F:Nat→Prop}{w:World}:∀{xs ys:List AV}{vs:List Value},C2 xs ys→A8 F w xs vs→A8 F w ys vs
 | [],ys,vs,h,hr=>by simp only[C2] at h;subst h;exact hr
 | x::xs,ys,vs,h,hr=>by
  obtain⟨y,ys',rfl,h1,h2⟩:=h;simp only[A8] at hr ⊢;obtain⟨u,us,rfl,r1,r2⟩:=hr;exact⟨u,us,O,h1 F w u r1,Gf h2 r2⟩
theorem Lo:Fv (.p .nils) (.vs none 0 0):=fun _ _ _ h=>P2 h
theorem BD.args {P:Program}{f:FuncId}{args A:List AV}{H:List Ap}{R:CA→List Ap→Prop}(h:BD P f A H R) (hA:C2 args A):BD P f args H R :=
 ⟨h.1,fun F w vs hH ha=>h.2 F w vs hH (Gf hA ha)⟩
section
variable {P:Program}{r:Option Nat}{ops:Array Oper}{Q:Bl→A4→Prop}{k:Nat}{n:Nat}{τ:Nat→AV}{H Hs:List Ap}{D:List CI}{dst:Option Tmp}{op:Op}{ty:TypeId}{pos:String}{aft:Array Edge}{v:AV}{c:Call}{f:Operand}{fid:FuncId}{first caps A:List AV}{R:CA→List Ap→Prop}
theorem IM {S:A4}{H':List Ap}(hp:S.H.Perm H'):Dy S ⟨S.n,S.τ,H',S.D⟩:=fun F a w hs =>
 ⟨F,⟨hs.size,hs.tmp,hs.heap.perm hp,hs.defs⟩,{ Trans.refl (F:=F) (H:=S.H) (w:=w) with keys:=fun o ho b hb=> .inl ⟨o,hp.mem_iff.2 ho,hb⟩ }⟩
theorem Tw (is:List Nat) (ho:ops[k]?=some ⟨dst,.call c,ty,pos,aft,none⟩) (hd:Db dst n=true)
  (hc:c.callee= .value f) (hf:(ev τ f= .p (.fn fid)∧first=[]∧caps=[])∨ev τ f= .fn (.func fid) first caps) (h:BD P fid A Hs R) (hg:DZ H is Hs) (hn:is.Nodup) (hA:C2 (first++c.args.toList.map (ev τ)++caps) A)
  (next:∀v Hs',R (.val v) Hs'→Hs'.length=Hs.length∧AL P r ops (k+1) ⟨n,put τ dst v,Gm H is Hs',D⟩ Q) (pan:∀v Hs',R (.panic v) Hs'→Q (.panic v) ⟨n,τ,Hs'++Bw is 0 H,D⟩):AL P r ops k ⟨n,τ,H,D⟩ Q :=
 Gg ho hd hc hf (B9 hn hg) (h.args hA) (.inl rfl) (fun v H' hR=>by
  obtain⟨hl,hn'⟩:=next v H' hR;exact Br (IM (S:=⟨n,put τ dst v,H'++Bw is 0 H,D⟩) (IN hn hg hl).symm) hn') pan
theorem SF (is:List Nat) (ho:ops[k]?=some ⟨dst,.call c,ty,pos,aft,none⟩) (hd:Db dst n=true)
  (hc:c.callee= .value f) (hf:(ev τ f= .p (.fn fid)∧first=[]∧caps=[])∨ev τ f= .fn (.func fid) first caps) (h:BD P fid A Hs R) (hg:DZ H is Hs) (hn:is.Nodup) (hA:C2 (first++c.args.toList.map (ev τ)++caps) A)
  (next:∀v Hs',R (.val v) Hs'→AL P r ops (k+1) ⟨n,put τ dst v,Hs'++Bw is 0 H,D⟩ Q) (pan:∀v Hs',R (.panic v) Hs'→Q (.panic v) ⟨n,τ,Hs'++Bw is 0 H,D⟩):AL P r ops k ⟨n,τ,H,D⟩ Q :=
 Gg ho hd hc hf (B9 hn hg) (h.args hA) (.inl rfl) next pan
theorem Kk {sz:Nat}:Dy ⟨n,τ,H,D⟩ ⟨n,τ,.vec none sz [] 0::H,D⟩:=by
 intro F a w hs;have hH:HRel F (.vec none sz [] 0::H) w:=⟨fun o ho b hb=>by
   rcases List.mem_cons.1 ho with rfl | ho
   ·cases hb
   ·exact hs.heap.sub o ho b hb,by simpa [List.filterMap_cons,Ap.key] using hs.heap.nodup,fun o ho=>by
   rcases List.mem_cons.1 ho with rfl | ho
   ·exact⟨O,O⟩
   exact hs.heap.obj o ho,hs.heap.bd⟩
 exact⟨F,⟨hs.size,hs.tmp,hH,hs.defs⟩,⟨Nat.le_refl _,fun _ _ _=>O,fun _ h _=>h,fun _ h=> .inl h,fun o ho b hb=>by
   rcases List.mem_cons.1 ho with rfl | ho
   ·cases hb
   exact .inl ⟨o,ho,hb⟩,O,O,O⟩⟩
end
section
variable {P:Program}{r:Option Nat}{ops:Array Oper}{Q:Bl→A4→Prop}{k:Nat}{n:Nat}{τ:Nat→AV}{H:List Ap}{D:List CI}{o:Option Nat}{sz cp i:Nat}{rows:List (List PV)}
theorem ON {F:Nat→Prop}{w:World}{a:Act}(hs:CL F ⟨n,τ,H,D⟩ a w) (hi:H[i]?=some (.vec o sz rows cp)) (hne:0<rows.length):∃b,o=some b:=by
 have:=hs.heap.obj _ (List.mem_of_getElem? hi);cases o with
 | none=>obtain⟨h,_⟩:=this;simp[h] at hne
 | some b=>exact⟨b,rfl⟩
theorem NI (hi:H[i]?=some (.vec o sz rows cp)) (hne:0<rows.length) (next:∀b,o=some b→AL P r ops k ⟨n,τ,H,D⟩ Q):AL P r ops k ⟨n,τ,H,D⟩ Q:=fun F a w hs=>by
 obtain⟨b,hb⟩:=ON hs hi hne;exact next b hb F a w hs
theorem Kn {c:Code}(hi:H[i]?=some (.vec o sz rows cp)) (hne:0<rows.length) (next:∀b,o=some b→EX P r c ⟨n,τ,H,D⟩ Q):EX P r c ⟨n,τ,H,D⟩ Q:=fun F a w hs=>by
 obtain⟨b,hb⟩:=ON hs hi hne;exact next b hb F a w hs
end
section
variable {P:Program}{dst:Option Tmp}{ty:TypeId}{pos:String}{aft:Array Edge}{g:Option (Nat×Bool)}{ρ:Operand→AV}{H:List Ap}
theorem A7 {a:Operand}{T e:TypeId}{n n1 n2:Nat}{rows:List (List PV)}(hT:Cy P T=some (e,n1,n2)) (hx:ρ a= .p (.lst rows)) (hn:rows.length=n) :
  CG P ⟨dst,.call { callee:= .builtin .len,args:=#[a],argTypes:=#[T] },ty,pos,aft,g⟩ ρ H (.p (.int .i64 n)) H:=Fl hT (.inl ⟨rows,hx,hn⟩)
theorem K7 {a:Operand}{T e:TypeId}{m n n1 n2 c:Nat}{o:Option Nat}(hT:Cy P T=some (e,n1,n2)) (hx:ρ a= .vs o m c) (hn:m=n) :
  CG P ⟨dst,.call { callee:= .builtin .len,args:=#[a],argTypes:=#[T] },ty,pos,aft,g⟩ ρ H (.p (.int .i64 n)) H:=Fl hT (.inr (.inl ⟨o,c,by rw[hx,hn]⟩))
end
section
variable {P:Program}{dst:Option Tmp}{ty:TypeId}{pos:String}{aft:Array Edge}{g:Option (Nat×Bool)}{ρ:Operand→AV}{H:List Ap}{x y:Operand}
end
section
variable {P:Program}{ops:Array Oper}{n:Nat}{τ₀:Nat→AV}{D:List CI}{Q:Bl→A4→Prop}{opn:Nat→Bool}{k:Nat}{τ:Nat→AV}{H:List Ap}{rd:On}{ef:OY}{effs:List Bool}{fx:List (Nat×Sp)}{dst:Option Tmp}{ty:TypeId}{pos:String}{aft:Array Edge}{c:Call}{f:Operand}{fid:FuncId}{first caps A:List AV}{mkv:AV→AV}{sz:Nat}{rows:List (List PV)}
end
section
variable {P:Program}{dst:Option Tmp}{ty:TypeId}{pos:String}{aft:Array Edge}{g:Option (Nat×Bool)}{ρ:Operand→AV}{H Hs Hs':List Ap}{v:AV}{c:Call}{f:Operand}{fid:FuncId}{first caps A:List AV}
theorem GQ (hc:c.callee= .value f) (hf:ρ f= .p (.fn fid)) (h:Dl P fid A v) (hA:C2 (c.args.toList.map ρ) A):CG P ⟨dst,.call c,ty,pos,aft,g⟩ ρ H v H:=Av hc hf (h.args hA) rfl
end
end Go.Abs
namespace Go.Eu
open Go.Abs
structure Mv where
 type:Tm
 known:Bool
 value:Tm
 cls:Bool
 deriving Inhabited
def H8 (n:Int):List PV:=[I n]
def Zi (s:ByteArray):List PV:=[.str s]
def fY (b:Bool):List PV:=[.bool b]
def ZM (m:Mv):List PV:=A3 m.type++(.bool m.known::(A3 m.value++[.bool m.cls]))
theorem Sr {ts:List Int}{i:Nat}{t:Int}(h:ts[i]?=some t):(ts.map H8)[i]?=some (H8 t):=by simp[h]
abbrev MV (m:Mv):AV:= .agg ((ZM m).map .p)
abbrev fm (l:List Mv):AV:= .p (.lst (l.map ZM))
abbrev gB (l:List Int):AV:= .p (.lst (l.map H8))
def bh (sz:Nat) {α:Type}(f:α→List PV):Prop:=∀a,Cd sz (f a)
theorem IH {α:Type}{sz:Nat}{f:α→List PV}(h:∀a,Cd sz (f a)) (l:List α):∀r∈l.map f,Cd sz r:=by
 intro r hr;obtain⟨a,_,rfl⟩:=List.mem_map.1 hr;exact h a
theorem Fj (t:Tm):Cd 5 (A3 t):=by
 obtain⟨k,i,n,l,s⟩:=t;refine⟨O,?_⟩;intro c hc;simp[A3] at hc;rcases hc with rfl | rfl | rfl | rfl | rfl<;>simp
theorem Bj (l:List Tm):∀r∈Ax l,Cd 5 r:=by rw[C5];exact IH Fj l
theorem O0 (l:List Bm):∀r∈l.map HN,Cd 2 r:=IH (f:=HN) (fun a=>⟨rfl,by simp[HN]⟩) l
theorem R0 (l:List B6):∀r∈l.map By,Cd 2 r:=IH (f:=By) (fun a=>⟨rfl,by simp[By]⟩) l
theorem B3 {sz:Nat}{rows:List (List PV)}(h:∀r∈rows,Cd sz r):∀r∈rows,r.length=sz:=fun r hr=>(h r hr).1
theorem Q2 (a b:List Tm):Ax a++Ax b=Ax (a++b):=by simp[C5]
theorem YD {α:Type}{f:α→List PV}(a b:List α):a.map f++b.map f=(a++b).map f:=by simp
theorem L0 (l:List Tm) (j:Nat) (x:Tm):(Ax l).set j (A3 x)=Ax (l.set j x):=by simp[C5,List.map_set]
theorem YR {α:Type}{f:α→List PV}(l:List α) (j:Nat) (x:α):(l.map f).set j (f x)=(l.set j x).map f:=by simp[List.map_set]
theorem WW (n:Nat) (x:Tm):List.replicate n (A3 x)=Ax (List.replicate n x):=by simp[C5]
theorem Wv {α:Type}{f:α→List PV}(n:Nat) (x:α):List.replicate n (f x)=(List.replicate n x).map f:=by simp
theorem Z4 (l:List Tm) (lo:Nat):((Ax l).take (Ax l).length).drop lo=Ax (l.drop lo):=by rw[List.take_length];simp[C5,List.map_drop]
theorem Dj {sz:Nat}{r:List PV}(h:Cd sz r):(r.map AV.p).all one=true:=by
 simp only[List.all_eq_true];intro x hx;obtain⟨c,hc,rfl⟩:=List.mem_map.1 hx;have:=h.2 c hc;cases c<;>simp_all [one]
theorem HF (t:Tm):((A3 t).map AV.p).all one=true:=Dj (Fj t)
theorem H6 (t:Tm):Dh (((A3 t).map AV.p).map dn)=some (A3 t):=by obtain⟨k,i,n,l,s⟩:=t;rfl
end Go.Eu
namespace Go.Eu
def DQ (f a:Tm):Tm:= .mk 4 0 ⟨#[]⟩ [] [f,a]
def apply (f:Tm) (xs:List Tm):Tm:=xs.foldl DQ f
theorem Ps {f:Tm}{xs:List Tm}{i:Nat}{x:Tm}(h:xs[i]?=some x):apply f (xs.take (i+1))=DQ (apply f (xs.take i)) x:=by
 simp[apply,List.take_add_one,h]
def Ay:Tm→Tm×List Tm
 | .mk k i n l [f,a]=>if k=4 then ((Ay f).1,(Ay f).2++[a]) else (.mk k i n l [f,a],[])
 | t=>(t,[])
theorem PX {k i:Int}{n:ByteArray}{l:List B6}{ts:List Tm}(h:k≠4∨((ts.length:Nat):Int)≠2):Ay (.mk k i n l ts)=(.mk k i n l ts,[]):=by
 unfold Ay;split
 ·rename_i k' i' n' l' f a e;injection e with e1 e2 e3 e4 e5;subst e1 e2 e3 e4 e5;simp at h;rw[if_neg h]
 rfl
theorem Rf {k i:Int}{n:ByteArray}{l:List B6}{ts:List Tm}{x y:Tm}(h:k=4∧((ts.length:Nat):Int)=2) (hx:ts[0]?=some x) (hy:ts[1]?=some y):Ay (.mk k i n l ts)=((Ay x).1,(Ay x).2++[y]):=by
 obtain⟨rfl,h2⟩:=h
 match ts,h2,hx,hy with
 | [a,b],_,hx,hy =>
  simp at hx hy;subst hx hy;simp[Ay]
theorem Fs:∀(t:Tm),size (Ay t).1+A0 (Ay t).2+(Ay t).2.length=size t
 | .mk k i n l [f,a]=>by
  unfold Ay;split
  ·have:=Fs f;simp[size,A0] at this ⊢;have e:∀(xs:List Tm) (y:Tm),A0 (xs++[y])=A0 xs+size y:=by
    intro xs y
    induction xs with
    | nil=>simp[A0]
    | cons z zs ih=>simp[A0,ih];omega
   rw[e];omega
  ·simp[A0]
 | .mk k i n l []=>by simp[Ay,A0]
 | .mk k i n l [_]=>by simp[Ay,A0]
 | .mk k i n l (_::_::_::_)=>by simp[Ay,A0]
def O7 (k:Int) (xs:List Tm) (t:Tm):Tm:=xs.foldr (fun a t=> .mk k 0 ⟨#[]⟩ [] [a,t]) t
theorem sd:(∀(p:Prop) [Decidable p],(decide p=true)=p)∧(∀{p:Prop} [Decidable p],decide p=false↔¬p)∧(∀{α:Type} [BEq α] [LawfulBEq α] {a b:α},(a==b)=true↔a=b)∧(∀{α:Type} [BEq α] [LawfulBEq α] {a b:α},(a !=b)=true↔a≠b)∧(∀{α:Type} [BEq α] [LawfulBEq α] {a b:α},(a==b)=false↔a≠b)∧(∀{α:Type} [BEq α] [LawfulBEq α] {a b:α},(a !=b)=false↔a=b)∧(∀{α:Type}(a b:α),(a≠b)=¬(a=b))∧(∀{α:Type} [LT α] {x y:α},x > y↔y<x)∧(∀{α:Type} [LE α] {x y:α},x≥y↔y≤x)∧(∀(b:Bool),(¬(b=true))=(b=false))∧(∀(b:Bool),(¬(b=false))=(b=true))∧(∀(b:Bool),((!b)=true)=(b=false))∧(∀(b:Bool),((!b)=false)=(b=true))∧(∀{a b:Int},¬a<b↔b≤a)∧(∀{a b:Int},¬a≤b↔b<a) :=
 ⟨fun _=>decide_eq_true_eq,decide_eq_false_iff_not,beq_iff_eq,bne_iff_ne,beq_eq_false_iff_ne,bne_eq_false_iff_eq,ne_eq,gt_iff_lt,ge_iff_le,Bool.not_eq_true,Bool.not_eq_false,fun b=>by cases b<;>simp,fun b=>by cases b<;>simp,Int.not_lt,Int.not_le⟩
theorem se:(∀(ts:List Tm),(Ax ts).length=ts.length)∧(∀{α β:Type}{ays:List α}{f:α→β},(ays.map f).length=ays.length)∧(∀{α:Type}{n:Nat}{a:α},(List.replicate n a).length=n)∧(∀(a b:Bool),((a||b)=true)=(a=true∨b=true))∧(∀(a b:Bool),((a&&b)=true)=(a=true∧b=true))∧(∀{x y:Bool},(x||y)=false↔x=false∧y=false)∧(∀{x y:Bool},(x&&y)=false↔x=true→y=false) :=
 ⟨A1,List.length_map _,List.length_replicate,Bool.or_eq_true,Bool.and_eq_true,Bool.or_eq_false_iff,Bool.and_eq_false_imp⟩
end Go.Eu
namespace Go.Eu
open Go.Abs
def Bc (i:Int):Tm:= .mk 0 i ⟨#[]⟩ [] []
def BF:Tm:= .mk 0 0 ⟨#[]⟩ [] []
def E1 (er e:Int):Int:=if er=0 then e else er
def Jt (er i:Int):Int:=if i > 65535 then E1 er 24 else er
mutual
def JI:Tm→Int
 | .mk _ _ _ _ ks=>SO 1 ks
def SO:Int→List Tm→Int
 | n,[]=>n
 | n,t::ts=>SO (wr (n+JI t)) ts
end
mutual
def Dg:Tm→Int
 | .mk _ _ _ _ ks=>wr (Ho 0 ks+1)
def Ho:Int→List Tm→Int
 | n,[]=>n
 | n,t::ts=>Ho (max n (Dg t)) ts
end
mutual
def Be (b fr:Int):Int→Int→Tm→Tm×Int
 | d,er,.mk k i n l ks =>
  if k=0 then
   (if i<wr (fr+d) then (.mk k i n l ks,er)
    else if wr (i+b)<wr (fr+d) then (.mk k i n l ks,E1 er 24)
    else (Bc (wr (i+b)),Jt er (wr (i+b))))
  else ((.mk k i n l (Bk b fr k d 0 er ks).1),(Bk b fr k d 0 er ks).2)
def Bk (b fr k:Int):Int→Nat→Int→List Tm→List Tm×Int
 | d,j,er,[]=>([],er)
 | d,j,er,t::ts=>((Be b fr (d+below k j) er t).1::(Bk b fr k d (j+1) (Be b fr (d+below k j) er t).2 ts).1,(Bk b fr k d (j+1) (Be b fr (d+below k j) er t).2 ts).2)
end
mutual
def FH (vs:List Tm):Int→Int→Int→Tm→Tm×Int×Int
 | d,er,nd,.mk k i n l ks =>
  if nd > 4096 then (.mk k i n l ks,er,nd)
  else if k=0∧i≥d∧i - d<(vs.length:Int) then
   ((Be d 0 0 er (vs.getD (i - d).toNat BF)).1,(Be d 0 0 er (vs.getD (i - d).toNat BF)).2,wr (nd+JI (vs.getD (i - d).toNat BF)))
  else if k=0 then
   (if i≥d then (Bc (wr (i - vs.length)),Jt er (wr (i - vs.length)),wr (nd+1)) else (.mk k i n l ks,er,wr (nd+1)))
  else ((.mk k i n l (Jl vs k d 0 er (wr (nd+1)) ks).1),(Jl vs k d 0 er (wr (nd+1)) ks).2)
def Jl (vs:List Tm) (k:Int):Int→Nat→Int→Int→List Tm→List Tm×Int×Int
 | d,j,er,nd,[]=>([],er,nd)
 | d,j,er,nd,t::ts=>((FH vs (d+below k j) er nd t).1::(Jl vs k d (j+1) (FH vs (d+below k j) er nd t).2.1 (FH vs (d+below k j) er nd t).2.2 ts).1,
   (Jl vs k d (j+1) (FH vs (d+below k j) er nd t).2.1 (FH vs (d+below k j) er nd t).2.2 ts).2)
end
def GH (t:Tm) (vs:List Tm) (d:Int):Tm×Int :=
 if (FH vs (min d 65536) 0 0 t).2.2 > 4096 then (BF,5)
 else if (FH vs (min d 65536) 0 0 t).2.1≠0 then (BF,(FH vs (min d 65536) 0 0 t).2.1)
 else if Dg (FH vs (min d 65536) 0 0 t).1 > 200 then (BF,7)
 else ((FH vs (min d 65536) 0 0 t).1,0)
structure Gr where
 steps:Int
 nodes:Int
 forms:Int
 limit:Int
 over:Bool
 deriving Inhabited
def fD (c:Gr):List PV:=[I c.steps,I c.nodes,I c.forms,I c.limit,.bool c.over]
def Gr.form (c:Gr) (t:Tm) (e:Int):Gr :=
 { c with forms:=wr (c.forms+JI t),over:=c.over||(e !=0||decide (c.steps > c.limit)||decide (c.nodes > wr (2*c.limit))||decide (wr (c.forms+JI t) > wr (40*c.limit))||decide (JI t > 2000)||decide (Dg t > 95)) }
def Gr.sized (c:Gr) (t:Tm):Gr:={ c with over:=c.over||(decide (JI t > 2000)||decide (Dg t > 95)) }
def eT:Gr:=⟨0,0,0,1000,false⟩
end Go.Eu
namespace Go.Eu
theorem Bx {α:Type}{l:List α}{i:Nat}{x:α}(h:l[i]?=some x):l.drop i=x::l.drop (i+1):=by
 have hlt:=(List.getElem?_eq_some_iff.1 h).1;have e:l[i]=x:=(List.getElem?_eq_some_iff.1 h).2;rw[List.drop_eq_getElem_cons hlt,e]
end Go.Eu
namespace Go.Eu
open Go.Abs
theorem Pr (n:Int):FR (wr n):=by
 unfold FR wr IntKind.wrap;have:IntKind.i64.min= -9223372036854775808:=rfl;have:IntKind.i64.max=9223372036854775807:=rfl;simp[IntKind.signed,IntKind.bits];omega
theorem YJ (i:Int):Nd (Bc (wr i)):=by
 have:=Pr i;exact⟨by decide,by decide,by simp,by decide,trivial,⟨by decide,by decide⟩,this⟩
theorem Qs:Nd BF:=⟨by decide,by decide,by simp,by decide,trivial,⟨by decide,by decide⟩,⟨by decide,by decide⟩⟩
mutual
theorem Ic (b fr:Int):∀(t:Tm) (d er:Int),Nd t→Nd (Be b fr d er t).1
 | .mk k i n l ks,d,er,h=>by
  unfold Be;split
  ·split
   ·exact h
   split
   ·exact h
   exact YJ _
  simp only[Nd] at h ⊢;obtain⟨h1,h2,h3,h4,h5,h6⟩:=h;obtain⟨e1,e2⟩:=Jw b fr k ks d 0 er h5;exact⟨h1,h2,h3,by rw[e1];exact h4,e2,h6⟩
theorem Jw (b fr k:Int):∀(ts:List Tm) (d:Int) (j:Nat) (er:Int),JP ts→(Bk b fr k d j er ts).1.length=ts.length∧JP (Bk b fr k d j er ts).1
 | [],d,j,er,h=>by simp[Bk,JP]
 | t::ts,d,j,er,h=>by
  simp only[Bk,JP,List.length_cons] at *;have:=Ic b fr t (d+below k j) er h.1;obtain⟨e1,e2⟩:=Jw b fr k ts d (j+1) (Be b fr (d+below k j) er t).2 h.2;exact⟨by rw[e1],this,e2⟩
end
theorem O5 {o:Option Nat}{c:Nat}(l:List Tm) {l':List Tm}(h:l=l'):AV.vs o (Ax l).length c= .vs o (Ax l').length c:=by rw[h]
theorem Px {α:Type}{f:α→List PV}{o:Option Nat}{c:Nat}(l:List α) {l':List α}(h:l=l'):AV.vs o (l.map f).length c= .vs o (l'.map f).length c:=by rw[h]
theorem Ip {o:Option Nat}{sz c:Nat}(l:List Tm) {l':List Tm}(h:l=l'):Gs (.vec o sz (Ax l) c) (.vec o sz (Ax l') c):=oe (by rw[h])
theorem MX {α:Type}{f:α→List PV}{o:Option Nat}{sz c:Nat}(l:List α) {l':List α}(h:l=l'):Gs (.vec o sz (l.map f) c) (.vec o sz (l'.map f) c):=oe (by rw[h])
theorem Ep {o:Option Nat}{c:Nat}(l:List Tm) {l':List Tm}(h:l.length=l'.length):AV.vs o (Ax l).length c= .vs o (Ax l').length c:=by rw[A1,A1,h]
theorem Rd {α:Type}{f:α→List PV}{o:Option Nat}{c:Nat}(l:List α) {l':List α}(h:l.length=l'.length):AV.vs o (l.map f).length c= .vs o (l'.map f).length c:=by rw[List.length_map,List.length_map,h]
mutual
def PL:List Int→Tm→List Int
 | l,.mk k i _ _ ks=>if k=12 then (if i∈l then l else Ma (l++[i]) ks) else Ma l ks
def Ma:List Int→List Tm→List Int
 | l,[]=>l
 | l,t::ts=>Ma (PL l t) ts
end
def ft (l:List Int) (n:Int):Bool:=decide (n∈l)
def Si (fr:Int):Nat→Nat→List Tm
 | _,0=>[]
 | m,k+1=>Bc (fr+(m+k:Nat))::Si fr m k
def Zx (n fr:Int):List Tm:=if n<1∨n > 4096∨fr<0 then [] else Si fr 0 n.toNat
def YY:List Int→List Tm→Option (List Int)
 | l,[]=>some l
 | l,.mk k i _ _ _::ts=>if k≠0∨i∈l then none else YY (l++[i]) ts
def e7 (t:Tm):Int×List Int×Bool :=
 if (Ay t).1.kind≠12 then (0,[],false)
 else match YY [] (Ay t).2 with
  | none=>(0,[],false)
  | some l=>((Ay t).1.index,l,true)
def et (ms:List Mv) (ctx:List Tm) (t:Tm) (cls:Bool):List Mv×Tm×Int :=
 if ms.length≥2000 then ([],BF,6)
 else if JI (O7 6 ctx t) > 4096 then ([],BF,5)
 else if Dg (O7 6 ctx t) > 200 then ([],BF,7)
 else (ms++[⟨O7 6 ctx t,false,BF,cls⟩],apply (.mk 12 ms.length ⟨#[]⟩ [] []) (Zx ctx.length 0),0)
end Go.Eu
namespace Go.Eu
end Go.Eu
namespace Go.Eu
open Go.Abs
theorem DT {n:Int}(h:FR n):wr n=n:=Jk (k:= .i64) h.1 h.2
mutual
def Wt:Tm→Prop
 | .mk k i _ _ ks=>(ks.length:Int)=arity k∧(k=12→0≤i)∧KQ ks
def KQ:List Tm→Prop
 | []=>True
 | t::ts=>Wt t∧KQ ts
end
theorem QZ:∀{ts:List Tm}{i:Nat}{t:Tm},KQ ts→ts[i]?=some t→Wt t
 | [],i,t,_,h=>by simp at h
 | a::ts,0,t,hn,h=>by simp at h;subst h;exact hn.1
 | a::ts,i+1,t,hn,h=>by simp at h;exact QZ hn.2 h
theorem Hg (a b:List Tm):A0 (a++b)=A0 a+A0 b:=by
 induction a with
 | nil=>simp[A0]
 | cons x a ih=>simp[A0,ih];omega
mutual
theorem WC {vars metas:Int}:∀(t:Tm) (d:Int),wf vars metas d t→Wt t
 | .mk k i n l ks,d,h=>by
  simp only[wf,Wt] at *;exact⟨h.2.2.1,fun e=>(h.2.2.2.2.1 e).1,Tr ks k d 0 h.2.2.2.2.2⟩
theorem Tr {vars metas:Int}:∀(ts:List Tm) (k d:Int) (j:Nat),WV vars metas k d j ts→KQ ts
 | [],k,d,j,h=>trivial
 | t::ts,k,d,j,h=>by
  simp only[WV,KQ] at *;exact⟨WC t _ h.1,Tr ts k d (j+1) h.2⟩
end
theorem W0 (i:Int):Wt (Bc i):=⟨by simp[arity],by simp,trivial⟩
mutual
theorem IS (b fr:Int):∀(t:Tm) (d er:Int),Wt t→Wt (Be b fr d er t).1
 | .mk k i n l ks,d,er,h=>by
  unfold Be;split
  ·split
   ·exact h
   split
   ·exact h
   exact W0 _
  simp only[Wt] at h ⊢;obtain⟨e1,e2⟩:=LG b fr k ks d 0 er h.2.2;exact⟨by rw[e1];exact h.1,h.2.1,e2⟩
theorem LG (b fr k:Int):∀(ts:List Tm) (d:Int) (j:Nat) (er:Int),KQ ts→(Bk b fr k d j er ts).1.length=ts.length∧KQ (Bk b fr k d j er ts).1
 | [],d,j,er,h=>by simp[Bk,KQ]
 | t::ts,d,j,er,h=>by
  simp only[Bk,KQ,List.length_cons] at *;have:=IS b fr t (d+below k j) er h.1;obtain⟨e1,e2⟩:=LG b fr k ts d (j+1) (Be b fr (d+below k j) er t).2 h.2;exact⟨by rw[e1],this,e2⟩
end
mutual
theorem GD (b fr:Int):∀(t:Tm) (d er:Int),t.kind=0∧t.kids=[]∨Wt t→size (Be b fr d er t).1=size t
 | .mk k i n l ks,d,er,h=>by
  unfold Be;split
  ·rename_i hk;split
   ·rfl
   split
   ·rfl
   have:ks=[]:=by
    rcases h with h | h
    ·exact h.2
    have:=h.1;subst hk;simp[arity] at this;exact this
   subst this;simp[Bc,size,A0]
  rename_i hk;have hw:KQ ks:=by
   rcases h with h | h
   ·exact absurd h.1 hk
   exact h.2.2
  simp only[size];rw[Hy b fr k ks d 0 er hw]
theorem Hy (b fr k:Int):∀(ts:List Tm) (d:Int) (j:Nat) (er:Int),KQ ts→A0 (Bk b fr k d j er ts).1=A0 ts
 | [],d,j,er,h=>by simp[Bk]
 | t::ts,d,j,er,h=>by
  simp only[Bk,A0];rw[GD b fr t _ _ (.inr h.1),Hy b fr k ts _ _ _ h.2]
end
def known (ms:List Mv) (t:Tm):Bool :=
 match t with
 | .mk k i _ _ _=>k==12&&(decide (i<ms.length)&&(match ms[i.toNat]? with | some m=>m.known | none=>false))
def valueOf (ms:List Mv) (i:Int):Tm:=match ms[i.toNat]? with | some m=>m.value | none=>BF
def I5 (F:Gr→Tm→Tm×Int×Gr):Gr→List Tm→List Tm×Int×Gr
 | c,[]=>([],0,c)
 | c,t::ts=>if (F c t).2.1≠0 then ([],(F c t).2.1,(F c t).2.2)
  else if (I5 F (F c t).2.2 ts).2.1≠0 then ([],(I5 F (F c t).2.2 ts).2.1,(I5 F (F c t).2.2 ts).2.2)
  else ((F c t).1::(I5 F (F c t).2.2 ts).1,0,(I5 F (F c t).2.2 ts).2.2)
def eP (l:List Tm) (q:List Tm×Int×Gr):List Tm×Int×Gr:=if q.2.1≠0 then ([],q.2.1,q.2.2) else (l++q.1,0,q.2.2)
def WH:Gr→Tm→List Tm→Gr×Tm×List Tm
 | c,v,[]=>(c,v,[])
 | c,v,a::l=>if v.kind=5∧c.over=false then WH (c.form (GH (v.kids.getD 1 BF) [a] 0).1 (GH (v.kids.getD 1 BF) [a] 0).2) (GH (v.kids.getD 1 BF) [a] 0).1 l else (c,v,a::l)
def F9:Tm→List Tm→Tm
 | .mk k i n l _,ks=> .mk k i n l ks
def F8 (ms:List Mv):Nat→List Int→Gr→Tm→Tm×Int×Gr
 | 0,ab,c,t=>(BF,11,c)
 | n+1,ab,c,t =>
  if c.over=true then (BF,11,c)
  else if known ms (Ay t).1=false then
   (let q:=I5 (F8 ms n ab) c (Ay t).1.kids
    if q.2.1≠0 then (BF,q.2.1,q.2.2)
    else
     (let r:=I5 (F8 ms n ab) q.2.2 (Ay t).2
      if r.2.1≠0 then (BF,r.2.1,r.2.2)
      else (apply (F9 (Ay t).1 q.1) r.1,0,r.2.2.sized (apply (F9 (Ay t).1 q.1) r.1))))
  else if (Ay t).1.index∈ab then (BF,22,c)
  else
   (let v:=F8 ms n (ab++[(Ay t).1.index]) c (valueOf ms (Ay t).1.index)
    if v.2.1≠0 then (BF,v.2.1,v.2.2)
    else
     (let r:=I5 (F8 ms n ab) (v.2.2.form v.1 0) (Ay t).2
      if r.2.1≠0 then (BF,r.2.1,r.2.2)
      else
       (let b:=WH r.2.2 v.1 r.1
        (apply b.2.1 b.2.2,0,b.1.form (apply b.2.1 b.2.2) 0))))
def free (ms:List Mv) (ab:List Int):Nat:=((List.range ms.length).filter fun i:Nat=> !decide ((i:Int)∈ab)).length
def Mb (S:Nat):Nat→Nat
 | 0=>0
 | k+1=>S*(Mb S k+2)+4096+Mb S k
def eb (S:Nat) (ms:List Mv):Prop:=∀m∈ms,Nd m.value∧Wt m.value∧size m.value≤S
structure dw (M:Nat) (s:Nat) (r:Tm):Prop where
 nd:Nd r
 wt:Wt r
 size:size r≤s*M
theorem D0 {α:Type}{l:List α}{x:α}(h:x∈l):∃i:Nat,l[i]?=some x:=by
 obtain⟨i,hi,he⟩:=List.mem_iff_getElem.1 h;exact⟨i,by rw[List.getElem?_eq_getElem hi,he]⟩
section
variable {ms:List Mv}{n:Nat}{ab:List Int}{c:Gr}{t:Tm}{zk zi:Int}{zn:ByteArray}{zl:List B6}{zs:List Tm}
end
end Go.Eu
namespace Go.Eu
theorem Rx {l:List Tm}{x:Tm}(h:x∈l):size x≤A0 l:=by
 obtain⟨i,hi⟩:=D0 h;exact Bp hi
def S3 (ms:List Mv) (n:Nat) (c:Gr) (t:Tm):Tm×Int×Gr :=
 ((F8 ms n [] c t).1,(F8 ms n [] c t).2.1,if (F8 ms n [] c t).2.1=0 then (F8 ms n [] c t).2.2.form (F8 ms n [] c t).1 0 else (F8 ms n [] c t).2.2)
def fg (ms:List Mv) (n:Nat) (c:Gr) (t:Tm):List Int×Int :=
 if (S3 ms n c t).2.1=0 then (PL [] (S3 ms n c t).1,0) else ([],(S3 ms n c t).2.1)
end Go.Eu
namespace Go.Abs
section
variable {P:Program}{r:Option Nat}{ops:Array Oper}{Q:Bl→A4→Prop}{k:Nat}{n:Nat}{τ:Nat→AV}{T:List Ap}{D:List CI}{dst:Option Tmp}{op:Op}{ty:TypeId}{pos:String}{aft:Array Edge}{v:AV}{c:Call}{f:Operand}{fid:FuncId}{first caps A:List AV}{R:CA→List Ap→Prop}
theorem FT {H H':List Ap}(hp:H.Perm H') (h:AL P r ops k ⟨n,τ,H',D⟩ Q):AL P r ops k ⟨n,τ,H,D⟩ Q:=Br (IM (S:=⟨n,τ,H,D⟩) hp) h
theorem Gd {c:Code}{H H':List Ap}(hp:H.Perm H') (h:EX P r c ⟨n,τ,H',D⟩ Q):EX P r c ⟨n,τ,H,D⟩ Q:=BP (IM (S:=⟨n,τ,H,D⟩) hp) h
theorem RF (fr:List Ap) {l:Nat}(ho:ops[k]?=some ⟨dst,.call c,ty,pos,aft,none⟩) (hd:Db dst n=true)
  (hc:c.callee= .value f) (hf:ev τ f= .fn (.yield l) [] []) (h:Iq P l A T R) (hA:c.args.toList.map (ev τ)=A)
  (next:∀v T',R (.val v) T'→AL P r ops (k+1) ⟨n,put τ dst v,fr++T',D⟩ Q) (pan:∀v T',R (.panic v) T'→Q (.panic v) ⟨n,τ,T'++fr,D⟩):AL P r ops k ⟨n,τ,fr++T,D⟩ Q :=
 C0 (S:=⟨n,τ,fr++T,D⟩) ho AT (D8 hd) (Rs hc hf List.perm_append_comm h hA) (fun v H' ⟨Hs',h1,h2⟩=>by subst h2;exact FT List.perm_append_comm (next v Hs' h1)) (fun v H' ⟨Hs',h1,h2⟩=>by subst h2;exact pan v Hs' h1)
theorem Eg (fr:List Ap) (ho:ops[k]?=some ⟨dst,.call c,ty,pos,aft,none⟩) (hd:Db dst n=true)
  (hc:c.callee= .value f) (hf:(ev τ f= .p (.fn fid)∧first=[]∧caps=[])∨ev τ f= .fn (.func fid) first caps) (h:BD P fid A T R) (hA:C2 (first++c.args.toList.map (ev τ)++caps) A)
  (next:∀v T',R (.val v) T'→AL P r ops (k+1) ⟨n,put τ dst v,fr++T',D⟩ Q) (pan:∀v T',R (.panic v) T'→Q (.panic v) ⟨n,τ,T'++fr,D⟩):AL P r ops k ⟨n,τ,fr++T,D⟩ Q :=
 Gg ho hd hc hf List.perm_append_comm (h.args hA) (.inl rfl) (fun v H' h1=>FT List.perm_append_comm (next v H' h1)) pan
end
theorem Cz.append:∀{l l':List Ap}{T:List Ap},Cz l l'→Cz (l++T) (l'++T)
 | [],l',T,h=>by simp only[Cz] at h;subst h;exact Cz.refl T
 | o::l,l',T,h=>by
  obtain⟨o',r',rfl,h1,h2⟩:=h;exact⟨o',r'++T,O,h1,Cz.append h2⟩
theorem Ou (is:List Nat) (l:List Ap) {l1 l' T:List Ap}(h:JF is 0 l=l1) (w:Cz l1 l'):WE (l++T) (l'++T):=⟨l1++T,(CX h).append_right T,w.append⟩
theorem Co (is:List Nat) (l:List Ap) {l1 T:List Ap}(h:JF is 0 l=l1):(l1++T).Sublist (l++T):=(CX h).append_right T
def ej (b:Bool) (H':List Ap):CA→List Ap→Prop
 | .val v,H''=>v= .p (.bool b)∧H''=H'
 | .panic _,_=>False
theorem Dp {n:Nat}{τ:Nat→AV}{H:List Ap}{D:List CI}{t:Nat}{x:AV}(h:τ t=x):Dy ⟨n,τ,H,D⟩ ⟨n,put τ (some t) x,H,D⟩:=KH fun _ _ _ hr=>h▸hr
section
variable {P:Program}{dst:Option Tmp}{ty:TypeId}{pos:String}{aft:Array Edge}{g:Option (Nat×Bool)}{ρ:Operand→AV}{H:List Ap}{x y:Operand}
theorem QU {e:TypeId}{bl:Bool}{sz:Nat}(ht:Ck P e=some (bl,sz)):∃inf,P.info? e=some inf∧inf.size=sz:=by
 obtain⟨d,_,_,h⟩:=DK ht;cases hi:P.info? e with
 | none=>simp[hi] at h
 | some inf=>simp[hi] at h;exact⟨inf,rfl,h⟩
theorem LB {T e:TypeId}{bl:Bool}{len sz b o:Nat}{k:IntKind}{i:Int}(hu:P.underlying T=some (.array len e)) (ht:Ck P e=some (bl,sz)) (hx:ρ x= .ptr b o) (hy:ρ y= .p (.int k i)) (h0:0≤i) (hn:i<len) :
  CG P ⟨dst,.indexAddr T x y,ty,pos,aft,g⟩ ρ H (.ptr b (o+i.toNat*sz)) H:=by
 obtain⟨inf,h1,h2⟩:=QU ht;exact LO hu h1 h2 hx hy h0 hn
theorem Ka {T e:TypeId}{bl:Bool}{len sz:Nat}{parts:Array (Nat×Operand)}{z:Value}{cs:List AV}(hu:P.underlying T=some (.array len e)) (ht:Ck P e=some (bl,sz)) (hz:zeroOf P T=some z)
  (hc:Et (fun i=>some (i*sz,sz)) (z.cells.toList.map EN) (parts.toList.map fun p=>(p.1,ρ p.2))=some cs):CG P ⟨dst,.build T parts,ty,pos,aft,g⟩ ρ H (.agg cs) H:=by
 obtain⟨inf,h1,h2⟩:=QU ht;subst h2;exact LY hu h1 hz hc
end
theorem PJ {P:Program}{g:Operand}{ps:Array Tmp}{assign body:Code}{S:A4}{Q:Bl→A4→Prop}{fid:FuncId}{first caps:List AV}
  (hg:(ev S.τ g= .p (.fn fid)∧first=[]∧caps=[])∨ev S.τ g= .fn (.func fid) first caps)
  (h:∀d l (L:Jv),L=⟨.ready,none,S.n,S.τ,ps,assign,body⟩→∃Hs Hf,(Ap.loop l L:: .dfr d::S.H).Perm (Hs++Hf) ∧
   BD P fid (first++[.fn (.yield l) [] []]++caps) Hs (fun r H'=>Sh P l d S Q r (H'++Hf))) :
  EX P none (.rangeFunc g ps assign body) S Q:=Rn hg fun d l=>h d l _ rfl
def fU (H':List Ap):CA→List Ap→Prop
 | .val v,H''=>v= .tup []∧H''=H'
 | .panic _,_=>False
def Sj (v:AV) (C:List Ap→Prop):CA→List Ap→Prop
 | .val v',H'=>v'=v∧C H'
 | .panic _,_=>False
section
variable {P:Program}{n:Nat}{τ:Nat→AV}{H:List Ap}{D:List CI}
theorem Sw {b:Nat}{cs cs':List AV}(h:C2 cs cs'):Gs (.box b cs) (.box b cs'):=⟨rfl,fun F w hr=>by
 obtain⟨vs,T,h1,h2⟩:=hr;exact⟨vs,T,h1,Gf h h2⟩⟩
theorem C4 {i:Nat}{o o':Ap}(hi:H[i]?=some o) (hw:Gs o o'):Dy ⟨n,τ,H,D⟩ ⟨n,τ,H.set i o',D⟩:=by
 intro F a w hs;refine⟨F,⟨hs.size,hs.tmp,?_,hs.defs⟩,?_⟩
 ·have hk:=C8 (x':=o') hi hw.1;refine⟨fun x hx c hc=>?_,by show List.Nodup _;rw[hk];exact hs.heap.nodup,fun x hx=>?_,hs.heap.bd⟩
  ·rcases B2 hx with rfl | ⟨j,_,hj⟩
   ·exact hs.heap.sub _ (List.mem_of_getElem? hi) c (by rw[←hw.1];exact hc)
   exact hs.heap.sub _ (List.mem_of_getElem? hj) c hc
  rcases B2 hx with rfl | ⟨j,_,hj⟩
  ·exact hw.2 F w (hs.heap.obj _ (List.mem_of_getElem? hi))
  exact hs.heap.obj _ (List.mem_of_getElem? hj)
 refine { Trans.refl (F:=F) (H:=H) (w:=w) with keys:=fun x hx c hc=>?_ };rcases B2 hx with rfl | ⟨j,_,hj⟩
 ·exact .inl ⟨_,List.mem_of_getElem? hi,by rw[←hw.1];exact hc⟩
 exact .inl ⟨_,List.mem_of_getElem? hj,hc⟩
end
section
variable {P:Program}{dst:Option Tmp}{ty:TypeId}{pos:String}{aft:Array Edge}{g:Option (Nat×Bool)}{ρ:Operand→AV}{H:List Ap}{x y:Operand}
end
section
variable {P:Program}{dst:Option Tmp}{ty:TypeId}{pos:String}{aft:Array Edge}{g:Option (Nat×Bool)}{ρ:Operand→AV}{H:List Ap}{x y:Operand}
end
section
variable {P:Program}{dst:Option Tmp}{ty:TypeId}{pos:String}{aft:Array Edge}{g:Option (Nat×Bool)}{ρ:Operand→AV}{H:List Ap}{x y:Operand}
end
section
variable {P:Program}{r:Option Nat}{ops:Array Oper}{Q:Bl→A4→Prop}{k:Nat}{n:Nat}{τ:Nat→AV}{H:List Ap}{D:List CI}{dst:Option Tmp}{ty:TypeId}{pos:String}{aft:Array Edge}{v:AV}{c:Call}{f:Operand}{fid:FuncId}{first caps A:List AV}
theorem KS (ho:ops[k]?=some ⟨dst,.call c,ty,pos,aft,none⟩) (hd:Db dst n=true) (hc:c.callee= .value f) (hf:(ev τ f= .p (.fn fid)∧first=[]∧caps=[])∨ev τ f= .fn (.func fid) first caps) (h:BD P fid A [] (MY v [])) (hA:C2 (first++c.args.toList.map (ev τ)++caps) A) (pan:Q (.panic v) ⟨n,τ,H,D⟩):AL P r ops k ⟨n,τ,H,D⟩ Q :=
 Gg ho hd hc hf (Hs:=[]) (Hf:=H) Ab (h.args hA) (.inl rfl) (fun _ _ h=>h.elim) (fun v' H' ⟨h1,h2⟩=>by subst h1;subst h2;exact pan)
end
end Go.Abs
namespace Go.Eu
open Go.Abs
def E8 (k:Int):Int:=if k=5∨k=6∨k=7 then 1 else if k=11 then 2 else -1
theorem OA {k:Int}{i:Int}(h:i=E8 k) (hi:0≤i):below k i=1:=by
 unfold E8 at h;unfold below;split at h
 ·rename_i hk;subst h;rcases hk with rfl | rfl | rfl<;>simp
 split at h
 ·rename_i hk;subst h;subst hk;simp
 omega
theorem Lh {k:Int}{i:Int}(h:i≠E8 k):below k i=0:=by
 unfold E8 at h;unfold below;rw[if_neg];simp only[Bool.or_eq_true,Bool.and_eq_true,beq_iff_eq];intro hc;apply h;rcases hc with ⟨h1,h2⟩ | ⟨h1,h2⟩
 ·rw[if_pos (by rcases h2 with (h | h) | h<;>simp[h]),h1]
 rw[if_neg Aa,if_pos h2,h1]
theorem Ng {k:Int}(h:¬(0≤k∧k<13)):E8 k= -1:=by
 unfold E8;rw[if_neg Aa,if_neg Aa]
section
variable {σ:Type}
mutual
def CO (st:σ→Int→Tm→σ×Bool):Tm→Int→σ→σ×Bool
 | .mk k i n l ks,d,s=>if (st s d (.mk k i n l ks)).2=false then ((st s d (.mk k i n l ks)).1,false) else CQ st k d 0 (st s d (.mk k i n l ks)).1 ks
def CQ (st:σ→Int→Tm→σ×Bool) (k d:Int):Nat→σ→List Tm→σ×Bool
 | _,s,[]=>(s,true)
 | j,s,t::ts=>if (CO st t (d+below k j) s).2=false then ((CO st t (d+below k j) s).1,false) else CQ st k d (j+1) (CO st t (d+below k j) s).1 ts
end
end
def IE (ix nm:Bool) (lv ks bl:Int):List AV:=[.p (.bool ix),.p (.bool nm),.p (I lv),.p (I ks),.p (I bl)]
def It:List AV:=[IE true false 0 0 (-1),IE false false 0 0 (-1),IE false false 1 0 (-1),IE false true (-1) 0 (-1),IE false false 0 2 (-1),IE false false 0 2 1,IE false false 0 2 1,IE false false 0 2 1,IE false false 0 3 (-1),IE false false 0 1 (-1),IE false false 0 1 (-1),IE false false 0 3 2,IE true false 0 0 (-1)].flatten
theorem S0 {k:Int}(h:0≤k∧k<13):It[0+k.toNat*5+4]?=some (.p (I (E8 k))):=by
 have:k=0∨k=1∨k=2∨k=3∨k=4∨k=5∨k=6∨k=7∨k=8∨k=9∨k=10∨k=11∨k=12:=by omega
 rcases this with rfl | rfl | rfl | rfl | rfl | rfl | rfl | rfl | rfl | rfl | rfl | rfl | rfl<;>rfl
section
variable {σ:Type}{st:σ→Int→Tm→σ×Bool}{Inv:Nat→σ→Prop}
theorem N4 {t:Tm}{d:Int}{s:σ}(h:(st s d t).2=false):CO st t d s=((st s d t).1,false):=by
 obtain⟨k,i,n,l,ks⟩:=t;rw[CO,if_pos h]
theorem D1 {k i:Int}{n:ByteArray}{l:List B6}{ks:List Tm}{d:Int}{s:σ}(h:(st s d (.mk k i n l ks)).2=true):CO st (.mk k i n l ks) d s=CQ st k d 0 (st s d (.mk k i n l ks)).1 ks:=by
 rw[CO,if_neg (by simp[h])]
theorem EP {k d:Int}{ts:List Tm}{i:Nat}{x:Tm}{s:σ}(hx:ts[i]?=some x) (h:(CO st x (d+below k i) s).2=false):CQ st k d i s (ts.drop i)=((CO st x (d+below k i) s).1,false):=by
 rw[Bx hx,CQ,if_pos h]
theorem Fo {k d:Int}{ts:List Tm}{i:Nat}{x:Tm}{s:σ}(hx:ts[i]?=some x) (h:(CO st x (d+below k i) s).2=true):CQ st k d i s (ts.drop i)=CQ st k d (i+1) (CO st x (d+below k i) s).1 (ts.drop (i+1)):=by
 rw[Bx hx,CQ,if_neg (by simp[h])]
mutual
theorem Eo (hI:∀m s d t,Inv (m+1) s→Inv m (st s d t).1):∀(t:Tm) (d:Int) (s:σ) (m:Nat),Inv (m+size t) s→(CO st t d s).2=true→Inv m (CO st t d s).1
 | .mk k i n l ks,d,s,m,h,hv=>by
  rw[size,show m+(1+A0 ks)=(m+A0 ks)+1 by omega] at h;have h1:=hI _ _ d (.mk k i n l ks) h;rw[CO] at hv ⊢;split at hv
  ·cases hv
  rename_i hc;rw[if_neg hc];exact JG hI ks k d 0 _ m h1 hv
theorem JG (hI:∀m s d t,Inv (m+1) s→Inv m (st s d t).1):∀(ts:List Tm) (k d:Int) (j:Nat) (s:σ) (m:Nat),Inv (m+A0 ts) s→(CQ st k d j s ts).2=true→Inv m (CQ st k d j s ts).1
 | [],k,d,j,s,m,h,hv=>by simpa [CQ,A0] using h
 | t::ts,k,d,j,s,m,h,hv=>by
  rw[A0,show m+(size t+A0 ts)=(m+A0 ts)+size t by omega] at h;rw[CQ] at hv ⊢;split at hv
  ·cases hv
  rename_i hc;rw[if_neg hc];have:=Eo hI t (d+below k j) s _ h (by simpa using hc);exact JG hI ts k d (j+1) _ m this hv
end
end
def PK (s:Int) (d:Int) (t:Tm):Int×Bool:=(wr (s+1),true)
mutual
theorem OC (B:Int) (hB:B≤4611686018427387904):∀(t:Tm) (d s:Int),0≤s→s+size t<B→CO PK t d s=(s+size t,true)
 | .mk k i n l ks,d,s,h0,h=>by
  rw[size] at h ⊢;rw[D1 rfl];simp only[PK];rw[DT ⟨by omega,by omega⟩,Lj B hB ks k d 0 (s+1) Aa Aa];congr 1;omega
theorem Lj (B:Int) (hB:B≤4611686018427387904):∀(ts:List Tm) (k d:Int) (j:Nat) (s:Int),0≤s→s+A0 ts<B→CQ PK k d j s ts=(s+A0 ts,true)
 | [],k,d,j,s,h0,h=>by simp[CQ,A0]
 | t::ts,k,d,j,s,h0,h=>by
  rw[A0] at h ⊢;rw[CQ,OC B hB t _ s h0 Aa];simp only;rw[if_neg Ab,Lj B hB ts k d (j+1) (s+size t) Aa Aa];congr 1;omega
end
def ep (s:List Int) (d:Int):Tm→List Int×Bool
 | .mk k i _ _ _=>(if k=12∧i ∉ s then s++[i] else s,true)
def fv (s:List Int):List (Int×AV):=s.map fun i=>(i,.p (.bool true))
def Nh (xs ys:List Tm) (i:Nat):Prop:=ys.length=xs.length∧∀k,k<xs.length→ys[k]?=if k<i∨xs.length - 1 - k<i then xs[xs.length - 1 - k]? else xs[k]?
theorem PT (xs:List Tm):Nh xs xs 0:=⟨rfl,fun k hk=>by rw[if_neg Aa]⟩
theorem O2 {xs ys:List Tm}{i:Nat}{a b:Tm}(h:Nh xs ys i) (hi:i<xs.length - 1 - i) (ha:ys[i]?=some a) (hb:ys[xs.length - 1 - i]?=some b):Nh xs ((ys.set i b).set (xs.length - 1 - i) a) (i+1):=by
 obtain⟨hl,h⟩:=h;refine⟨by simp[hl],fun k hk=>?_⟩;have e1:=h i Aa;rw[if_neg Aa,ha] at e1;have e2:=h (xs.length - 1 - i) Aa;rw[if_neg Aa,hb] at e2;by_cases k1:k=xs.length - 1 - i
 ·subst k1;rw[if_pos Aa,List.getElem?_set_self AU,e1];congr 1;omega
 rw[List.getElem?_set_ne (fun e=>k1 e.symm)];by_cases k2:k=i
 ·subst k2;rw[if_pos Aa,List.getElem?_set_self Aa,e2]
 rw[List.getElem?_set_ne (fun e=>k2 e.symm),h k hk];by_cases k3:k<i∨xs.length - 1 - k<i
 ·rw[if_pos k3,if_pos Aa]
 rw[if_neg k3,if_neg Aa]
theorem PR {xs ys:List Tm}{i:Nat}(h:Nh xs ys i) (hi:xs.length - 1 - i≤i):ys=xs.reverse:=by
 obtain⟨hl,h⟩:=h;apply List.ext_getElem?;intro k;by_cases hk:k<xs.length
 ·rw[h k hk,List.getElem?_reverse hk];by_cases k3:k<i∨xs.length - 1 - k<i
  ·rw[if_pos k3]
  rw[if_neg k3];congr 1;omega
 rw[List.getElem?_eq_none Aa,List.getElem?_eq_none AU]
def eU (f:Int) (n i:Nat):List Tm:=(Si f 0 n).take i++List.replicate (n - i) BF
def YL (t:Tm):Bool:=decide ((size t:Int) > 4096)||decide (Dg t > 200)
def fO {σ:Type}(st:σ→Int→Tm→σ) (xs:List Tm):Nat→σ→σ
 | 0,s=>s
 | m+1,s=>fO st xs m (st s m (xs.getD m BF))
def dX (k:Int) (t:Tm) (i:Int) (a:Tm):Tm:= .mk k 0 ⟨#[]⟩ [] [a,t]
end Go.Eu
namespace Go.Abs
def Pu (mkv:Nat→AV) (cs:List AV):CA→List Ap→Prop
 | .val v,H'=>∃b,v=mkv b∧H'=[.box b cs]
 | .panic _,_=>False
section
variable {P:Program}{ops:Array Oper}{n:Nat}{τ₀ τ:Nat→AV}{D:List CI}{Q:Bl→A4→Prop}{opn:Nat→Bool}{k:Nat}{H:List Ap}{dst:Option Tmp}{ty:TypeId}{pos:String}{aft:Array Edge}{c:Call}{f:Operand}{fid:FuncId}{first caps A:List AV}{mkv:Nat→AV}{cs:List AV}
theorem Hi {rd ef effs fx}(fx':List (Nat×Sp)) (ho:ops[k]?=some ⟨dst,.call c,ty,pos,aft,none⟩) (hn:opn k=true)
  (hc:c.callee= .value f) (hf:(ev τ f= .p (.fn fid)∧first=[]∧caps=[])∨ev τ f= .fn (.func fid) first caps) (h:BD P fid A [] (Pu mkv cs)) (hA:first++c.args.toList.map (ev τ)++caps=A∨(first++c.args.toList.map (ev τ)++caps).map norm=A) (haft:Cg ops k (fx'.map (·.1))=true)
  (next:∀b,FJ ops k H (.box b cs::H) rd∧Dx k (.eff (mkv b) (.box b cs::H)) fx∧Dr P ops n τ₀ D Q opn (k+1) (put τ dst (mkv b)) (.box b cs::H) rd ((k,H,.box b cs::H)::ef) (true::effs) (fx'++fx)):Dr P ops n τ₀ D Q opn k τ H rd ef effs fx :=
 Gb fx' ho hn (Du (H:=H) (Hs:=[]) (Hf:=H) hc hf Ab h hA) haft ⟨_,_,_,⟨0,rfl,rfl⟩,rfl⟩ (fun v H' ⟨_,h,_⟩=>h.elim) (fun v H' ⟨Hs',⟨b,h1,h2⟩,h3⟩=>by subst h1;subst h2;subst h3;exact next b)
theorem P1 {r:Option Nat}(ho:ops[k]?=some ⟨dst,.call c,ty,pos,aft,none⟩) (hd:Db dst n=true)
  (hc:c.callee= .value f) (hf:(ev τ f= .p (.fn fid)∧first=[]∧caps=[])∨ev τ f= .fn (.func fid) first caps) (h:BD P fid A [] (Pu mkv cs)) (hA:C2 (first++c.args.toList.map (ev τ)++caps) A)
  (next:∀b,AL P r ops (k+1) ⟨n,put τ dst (mkv b),.box b cs::H,D⟩ Q):AL P r ops k ⟨n,τ,H,D⟩ Q :=
 Gg ho hd hc hf (Hs:=[]) (Hf:=H) Ab (h.args hA) (.inl rfl) (fun v Hs' ⟨b,h1,h2⟩=>by subst h1;subst h2;exact next b) (fun _ _ h=>h.elim)
end
def Ov {α:Type}(mkv:α→AV) (mkp:Int→AV) (C:α→List Ap→Prop) (x:Except Int α):CA→List Ap→Prop
 | .val v,H'=>∃a,x= .ok a∧v=mkv a∧C a H'
 | .panic v,_=>∃e,x= .error e∧v=mkp e
theorem Bz.permR {P:Program}{ρ:Operand→AV}{o:Oper}{H:List Ap}{R R':CA→List Ap→Prop}(h:Bz P o ρ H R) (hp:∀r H1,R r H1→∃H2,H1.Perm H2∧R' r H2):Bz P o ρ H R':=by
 intro r F S a w hs hH hρ hd;have:=h r F S a w hs hH hρ hd;refine IT this ?_ ?_
 ·rintro a' w' ⟨v',H1,F',hR,hs',ht⟩;obtain⟨H2,hp,hR'⟩:=hp _ _ hR;exact⟨v',H2,F',hR',⟨hs'.size,hs'.tmp,hs'.heap.perm hp,hs'.defs⟩,{ ht with keys:=fun o ho=>ht.keys o (hp.mem_iff.2 ho) }⟩
 rintro e a' w' ⟨v',H1,F',u,hR,h1,h2,hs',ht⟩;obtain⟨H2,hp,hR'⟩:=hp _ _ hR;exact⟨v',H2,F',u,hR',h1,h2,⟨hs'.size,hs'.tmp,hs'.heap.perm hp,hs'.defs⟩,{ ht with keys:=fun o ho=>ht.keys o (hp.mem_iff.2 ho) }⟩
section
variable {P:Program}{ops:Array Oper}{n:Nat}{τ₀ τ:Nat→AV}{D:List CI}{Q:Bl→A4→Prop}{opn:Nat→Bool}{k:Nat}{T:List Ap}{dst:Option Tmp}{ty:TypeId}{pos:String}{aft:Array Edge}{c:Call}{f:Operand}{fid:FuncId}{first caps A:List AV}
 {α:Type} {mkv:α→AV} {mkp:Int→AV} {C:α→List Ap→Prop} {x:Except Int α}
theorem Wn {r:Option Nat}(fr:List Ap) (ho:ops[k]?=some ⟨dst,.call c,ty,pos,aft,none⟩) (hd:Db dst n=true)
  (hc:c.callee= .value f) (hf:(ev τ f= .p (.fn fid)∧first=[]∧caps=[])∨ev τ f= .fn (.func fid) first caps) (h:BD P fid A T (Ov mkv mkp C x)) (hA:C2 (first++c.args.toList.map (ev τ)++caps) A)
  (next:∀a T',x= .ok a→C a T'→AL P r ops (k+1) ⟨n,put τ dst (mkv a),fr++T',D⟩ Q) (pan:∀e T',x= .error e→Q (.panic (mkp e)) ⟨n,τ,T'++fr,D⟩):AL P r ops k ⟨n,τ,fr++T,D⟩ Q :=
 Eg fr ho hd hc hf h hA (fun v T' ⟨a,h1,h2,h3⟩=>by subst h2;exact next a T' h1 h3) (fun v T' ⟨e,h1,h2⟩=>by subst h2;exact pan e T' h1)
theorem Zy {rd ef effs fx}(fr:List Ap) (ho:ops[k]?=some ⟨dst,.call c,ty,pos,aft,none⟩) (hn:opn k=true)
  (hc:c.callee= .value f) (hf:(ev τ f= .p (.fn fid)∧first=[]∧caps=[])∨ev τ f= .fn (.func fid) first caps) (h:BD P fid A T (Ov mkv mkp C x)) (hA:C2 (first++c.args.toList.map (ev τ)++caps) A) (haft:Cg ops k []=true) (chk:Ir ops n (true::effs).reverse=true) (hfx:HM k fx=true) (owe:FJ ops k (fr++T) (fr++T) rd)
  (next:∀a T',x= .ok a→C a T'→FJ ops k (fr++T) (fr++T') rd∧Dx k (.eff (mkv a) (fr++T')) fx∧Dr P ops n τ₀ D Q opn (k+1) (put τ dst (mkv a)) (fr++T') rd ((k,fr++T,fr++T')::ef) (true::effs) fx)
  (pan:∀e,x= .error e→∀τ' T',(∀t,(∀(k:Nat) o,ops[k]?=some o→o.dst≠some t)→τ' t=τ₀ t)→Q (.panic (mkp e)) ⟨n,τ',T'++fr,D⟩):Dr P ops n τ₀ D Q opn k τ (fr++T) rd ef effs fx:=by
 have hop:Bz P ⟨dst,.call c,ty,pos,aft,none⟩ (ev τ) (fr++T) (fun r H'=>∃T',Ov mkv mkp C x r T'∧(match r with | .val _=>H'=fr++T' | .panic _=>H'=T'++fr)):=by
  refine Bz.permR (Du (H:=fr++T) (Hs:=T) (Hf:=fr) hc hf List.perm_append_comm (h.args hA) (.inl O)) ?_;rintro r H1 ⟨T',hR,rfl⟩;cases r with
  | val v=>exact⟨fr++T',List.perm_append_comm,T',hR,rfl⟩
  | panic v=>exact⟨T'++fr,List.Perm.refl _,T',hR,rfl⟩
 by_cases hx:∃a T',x= .ok a∧C a T'
 ·obtain⟨a,T',hx,hC⟩:=hx;refine Dr.opn _ [] ho hn Ac hop haft ⟨mkv a,_,T',⟨a,hx,O,hC⟩,O⟩ ?_ ?_ ?_ ?_
  ·rintro v H' ⟨T',⟨a',h1,h2,h3⟩,rfl⟩;exact(next a' T' h1 h3).1
  ·rintro v H' ⟨T',⟨a',h1,h2,h3⟩,rfl⟩;subst h2;exact(next a' T' h1 h3).2.1
  ·rintro v H' ⟨T',⟨a',h1,h2,h3⟩,rfl⟩;subst h2;exact(next a' T' h1 h3).2.2
  rintro v H' ⟨T',⟨e,h1,h2⟩,rfl⟩ τ' hτ;subst h2;exact pan e h1 τ' T' hτ
 refine Dr.pan _ ho hn Ac hop haft chk hfx ?_ owe ?_
 ·rintro v H' ⟨T',⟨a',h1,h2,h3⟩,rfl⟩;exact hx ⟨a',T',h1,h3⟩
 rintro v H' ⟨T',⟨e,h1,h2⟩,rfl⟩ τ' hτ;subst h2;exact pan e h1 τ' T' hτ
end
section
variable {P:Program}{ops:Array Oper}{n:Nat}{τ₀ τ:Nat→AV}{D:List CI}{Q:Bl→A4→Prop}{opn:Nat→Bool}{k:Nat}{H Hs:List Ap}{dst:Option Tmp}{ty:TypeId}{pos:String}{aft:Array Edge}{c:Call}{f:Operand}{fid:FuncId}{first caps A:List AV}
 {α:Type} {mkv:α→AV} {mkp:Int→AV} {C:α→List Ap→Prop} {x:Except Int α}
theorem K9 {r:Option Nat}(is:List Nat) (ho:ops[k]?=some ⟨dst,.call c,ty,pos,aft,none⟩) (hd:Db dst n=true)
  (hc:c.callee= .value f) (hf:(ev τ f= .p (.fn fid)∧first=[]∧caps=[])∨ev τ f= .fn (.func fid) first caps) (h:BD P fid A Hs (Ov mkv mkp C x)) (hg:DZ H is Hs) (hn:is.Nodup) (hA:C2 (first++c.args.toList.map (ev τ)++caps) A)
  (hl:∀a T',C a T'→T'.length=Hs.length)
  (next:∀a T',x= .ok a→C a T'→AL P r ops (k+1) ⟨n,put τ dst (mkv a),Gm H is T',D⟩ Q) (pan:∀e H',x= .error e→Q (.panic (mkp e)) ⟨n,τ,H'++Bw is 0 H,D⟩):AL P r ops k ⟨n,τ,H,D⟩ Q :=
 Tw is ho hd hc hf h hg hn hA (fun v T' ⟨a,h1,h2,h3⟩=>by subst h2;exact⟨hl a T' h3,next a T' h1 h3⟩) (fun v T' ⟨e,h1,h2⟩=>by subst h2;exact pan e T' h1)
theorem Mj {rd ef effs fx}(is:List Nat) (ho:ops[k]?=some ⟨dst,.call c,ty,pos,aft,none⟩) (hn:opn k=true)
  (hc:c.callee= .value f) (hf:(ev τ f= .p (.fn fid)∧first=[]∧caps=[])∨ev τ f= .fn (.func fid) first caps) (h:BD P fid A Hs (Ov mkv mkp C x)) (hg:DZ H is Hs) (hnd:is.Nodup) (hA:C2 (first++c.args.toList.map (ev τ)++caps) A)
  (hl:∀a T',C a T'→T'.length=Hs.length) (haft:Cg ops k []=true) (chk:Ir ops n (true::effs).reverse=true) (hfx:HM k fx=true) (owe:FJ ops k H H rd)
  (next:∀a T',x= .ok a→C a T'→FJ ops k H (Gm H is T') rd∧Dx k (.eff (mkv a) (Gm H is T')) fx∧Dr P ops n τ₀ D Q opn (k+1) (put τ dst (mkv a)) (Gm H is T') rd ((k,H,Gm H is T')::ef) (true::effs) fx)
  (pan:∀e,x= .error e→∀τ' H',(∀t,(∀(k:Nat) o,ops[k]?=some o→o.dst≠some t)→τ' t=τ₀ t)→Q (.panic (mkp e)) ⟨n,τ',H'++Bw is 0 H,D⟩):Dr P ops n τ₀ D Q opn k τ H rd ef effs fx:=by
 have hop:Bz P ⟨dst,.call c,ty,pos,aft,none⟩ (ev τ) H (fun r H'=>∃T',Ov mkv mkp C x r T'∧(match r with | .val _=>H'=Gm H is T' | .panic _=>H'=T'++Bw is 0 H)):=by
  refine Bz.permR (Du hc hf (B9 hnd hg) (h.args hA) (.inl O)) ?_;rintro r H1 ⟨T',hR,rfl⟩;cases r with
  | val v=>obtain⟨a,h1,h2,h3⟩:=hR;exact⟨_,(IN hnd hg (hl a T' h3)).symm,T',⟨a,h1,h2,h3⟩,rfl⟩
  | panic v=>exact⟨_,List.Perm.refl _,T',hR,rfl⟩
 by_cases hx:∃a T',x= .ok a∧C a T'
 ·obtain⟨a,T',hx,hC⟩:=hx;refine Dr.opn _ [] ho hn Ac hop haft ⟨mkv a,_,T',⟨a,hx,O,hC⟩,O⟩ ?_ ?_ ?_ ?_
  ·rintro v H' ⟨T',⟨a',h1,h2,h3⟩,rfl⟩;exact(next a' T' h1 h3).1
  ·rintro v H' ⟨T',⟨a',h1,h2,h3⟩,rfl⟩;subst h2;exact(next a' T' h1 h3).2.1
  ·rintro v H' ⟨T',⟨a',h1,h2,h3⟩,rfl⟩;subst h2;exact(next a' T' h1 h3).2.2
  rintro v H' ⟨T',⟨e,h1,h2⟩,rfl⟩ τ' hτ;subst h2;exact pan e h1 τ' T' hτ
 refine Dr.pan _ ho hn Ac hop haft chk hfx ?_ owe ?_
 ·rintro v H' ⟨T',⟨a',h1,h2,h3⟩,rfl⟩;exact hx ⟨a',T',h1,h3⟩
 rintro v H' ⟨T',⟨e,h1,h2⟩,rfl⟩ τ' hτ;subst h2;exact pan e h1 τ' T' hτ
end
theorem DA:∀xs:List AV,C2 xs xs
 | []=>G7
 | x::xs=>aw (we rfl) (DA xs)
def Yg (ops:Array Oper) (t:Nat):Bool:=ops.toList.all fun o=>match o.dst with | some u=> !(Nat.beq u t) | none=>true
theorem KX {ops:Array Oper}{t:Nat}(h:Yg ops t=true) (k:Nat) (o:Oper) (ho:ops[k]?=some o):o.dst≠some t:=by
 intro e;have hm:o∈ops.toList:=by
  rw[←Array.getElem?_toList] at ho;exact List.mem_of_getElem? ho
 have:=List.all_eq_true.1 h o hm;simp[e] at this
theorem Ix {L Hs:List Ap}{is:List Nat}(X:List Ap) (hn:is.Nodup) (hg:DZ L is Hs):(X++L).Perm (Hs++(X++Bw is 0 L)):=by
 have h:=(B9 hn hg).append_left X;refine h.trans ?_;rw[←List.append_assoc,←List.append_assoc];exact List.perm_append_comm.append_right _
theorem CR.eq {P:Program}{f:FuncId}{caps:List AV}{m:Gx}{H X:List Ap}{R:List Ap→Prop}(h:CR P f caps m H (fun H'=>H'=X)) (hq:R X):CR P f caps m H R:=by
 refine⟨h.1,fun F w vs u hH hr hm=>?_⟩;refine(h.2 F w vs u hH hr hm).mono ?_;rintro e u' w' ⟨v,H',F',h1,h2,rfl,h3,h4⟩;exact⟨v,_,F',h1,h2,hq,h3,h4⟩
end Go.Abs
namespace Go.Eu
open Go.Abs
mutual
def Vp:Tm→Prop
 | .mk k i _ _ ks=>(k=0→0≤i∧i<1099511627776)∧PZ ks
def PZ:List Tm→Prop
 | []=>True
 | t::ts=>Vp t∧PZ ts
end
theorem Jb:∀{ts:List Tm}{i:Nat}{t:Tm},PZ ts→ts[i]?=some t→Vp t
 | [],i,t,_,h=>by simp at h
 | a::ts,0,t,hn,h=>by simp at h;subst h;exact hn.1
 | a::ts,i+1,t,hn,h=>by simp at h;exact Jb hn.2 h
def IL:Tm→Tm
 | .mk k i n l _=> .mk k i n l []
def FF (i:Int):Except Int Tm:=if i > 65535 then .error 24 else .ok (Bc i)
def Rh (n m:Int):Except Int Int:=if wr (n+m) > 4096 then .error 5 else .ok (wr (n+m))
def QL (b fr:Int) (t:Tm) (d:Int):Except Int Tm :=
 if t.index - d<fr then .ok (IL t) else if b<0∧t.index - d<fr - b then .error 24 else FF (t.index+b)
def Gq {α β:Type}(f:α→β):Except Int α→Except Int β
 | .error e=> .error e
 | .ok x=> .ok (f x)
def CH {α β:Type}(x:Except Int α) (f:α→Except Int β):Except Int β :=
 match x with
 | .error e=> .error e
 | .ok x=>f x
def Fx (rep:Tm→Int→Except Int Tm) (s:Unit) (t:Tm) (d:Int):Except Int ((Tm×Bool)×Unit) :=
 if t.kind=0 then Gq (fun x=>((x,true),())) (rep t d) else .ok ((IL t,false),())
mutual
def CT {σ:Type}(vis:σ→Tm→Int→Except Int ((Tm×Bool)×σ)):Tm→Int→σ→Except Int (Tm×σ)
 | .mk k i n l ks,d,s=>CH (vis s (.mk k i n l ks) d) fun r =>
   if r.1.2=true then .ok (r.1.1,r.2) else CH (Cb vis k 0 ks d r.2) fun q=> .ok (F9 r.1.1 q.1,q.2)
def Cb {σ:Type}(vis:σ→Tm→Int→Except Int ((Tm×Bool)×σ)) (k:Int):Nat→List Tm→Int→σ→Except Int (List Tm×σ)
 | _,[],_,s=> .ok ([],s)
 | j,t::ts,d,s=>CH (CT vis t (d+below k j) s) fun r=>CH (Cb vis k (j+1) ts d r.2) fun q=> .ok (r.1::q.1,q.2)
end
section
variable {σ:Type}{vis:σ→Tm→Int→Except Int ((Tm×Bool)×σ)}
theorem GN {t:Tm}{d:Int}{s q:σ}{o:Tm}(h:vis s t d= .ok ((o,true),q)):CT vis t d s= .ok (o,q):=by
 obtain⟨k,i,n,l,ks⟩:=t;simp[CT,h,CH]
theorem HH {t:Tm}{d e:Int}{s:σ}(h:vis s t d= .error e):CT vis t d s= .error e:=by
 obtain⟨k,i,n,l,ks⟩:=t;simp[CT,h,CH]
theorem GO {k i d:Int}{n:ByteArray}{l:List B6}{ks:List Tm}{s q q':σ}{o:Tm}{ys:List Tm}(h:vis s (.mk k i n l ks) d= .ok ((o,false),q)) (hk:Cb vis k 0 ks d q= .ok (ys,q')):CT vis (.mk k i n l ks) d s= .ok (F9 o ys,q'):=by
 simp[CT,h,CH,hk]
theorem I3 {k i d e:Int}{n:ByteArray}{l:List B6}{ks:List Tm}{s q:σ}{o:Tm}(h:vis s (.mk k i n l ks) d= .ok ((o,false),q)) (hk:Cb vis k 0 ks d q= .error e):CT vis (.mk k i n l ks) d s= .error e:=by
 simp[CT,h,CH,hk]
def Kq (vis:σ→Tm→Int→Except Int ((Tm×Bool)×σ)) (k:Int) (ts:List Tm) (d:Int) (q0:σ) (i:Nat) (ys:List Tm) (q:σ):Prop :=
 ys.length=i∧Cb vis k 0 ts d q0=CH (Cb vis k i (ts.drop i) d q) fun r=> .ok (ys++r.1,r.2)
theorem Kq.zero (k:Int) (ts:List Tm) (d:Int) (q0:σ):Kq vis k ts d q0 0 [] q0:=by
 refine⟨O,?_⟩;simp only[List.drop_zero,List.nil_append];cases Cb vis k 0 ts d q0<;>rfl
theorem Kq.err {k d e:Int}{ts ys:List Tm}{q0 q:σ}{i:Nat}{x:Tm}(h:Kq vis k ts d q0 i ys q) (hx:ts[i]?=some x) (hb:CT vis x (d+below k i) q= .error e):Cb vis k 0 ts d q0= .error e:=by
 rw[h.2,Bx hx,Cb,hb];rfl
theorem Kq.succ {k d:Int}{ts ys:List Tm}{q0 q q':σ}{i:Nat}{x y:Tm}(h:Kq vis k ts d q0 i ys q) (hx:ts[i]?=some x) (hb:CT vis x (d+below k i) q= .ok (y,q')):Kq vis k ts d q0 (i+1) (ys++[y]) q':=by
 refine⟨by simp[h.1],?_⟩;rw[h.2,Bx hx,Cb,hb];simp only[CH];cases Cb vis k (i+1) (ts.drop (i+1)) d q'<;>simp
theorem Kq.fin {k d:Int}{ts ys:List Tm}{q0 q:σ}{i:Nat}(h:Kq vis k ts d q0 i ys q) (hi:ts.length≤i):Cb vis k 0 ts d q0= .ok (ys,q):=by
 rw[h.2,List.drop_eq_nil_of_le hi,Cb];simp[CH]
end
theorem Ns {ys:List Tm}{i m:Nat}{x:Tm}(h:ys.length=i) (hm:0<m):(ys++List.replicate m BF).set i x=(ys++[x])++List.replicate (m - 1) BF:=by
 subst h;cases m with
 | zero=>omega
 | succ m=>simp[List.replicate_succ]
section
variable {b fr d k i:Int}{n:ByteArray}{l:List B6}{ks:List Tm}
theorem P5 (h:i - d<fr):QL b fr (.mk k i n l ks) d= .ok (.mk k i n l []):=by simp[QL,Tm.index,IL,h]
theorem Qj (h:¬i - d<fr) (h2:b<0) (h3:i - d<fr - b):QL b fr (.mk k i n l ks) d= .error 24:=by unfold QL;exact(if_neg h).trans (if_pos ⟨h2,h3⟩)
theorem PU (h:¬i - d<fr) (h2:¬(b<0∧i - d<fr - b)):QL b fr (.mk k i n l ks) d=FF (i+b):=by unfold QL;exact(if_neg h).trans (if_neg h2)
variable {rep:Tm→Int→Except Int Tm}{s:Unit}
theorem KP {e:Int}(h:k=0) (hr:rep (.mk k i n l ks) d= .error e):Fx rep s (.mk k i n l ks) d= .error e:=by unfold Fx;exact(if_pos h).trans (by rw[hr];rfl)
theorem NP {x:Tm}(h:k=0) (hr:rep (.mk k i n l ks) d= .ok x):Fx rep s (.mk k i n l ks) d= .ok ((x,true),()):=by unfold Fx;exact(if_pos h).trans (by rw[hr];rfl)
theorem NA (h:k≠0):Fx rep s (.mk k i n l ks) d= .ok ((.mk k i n l [],false),()):=by unfold Fx;exact(if_neg h).trans rfl
end
def FE (b fr:Int) (t:Tm):Except Int Tm:=Gq Prod.fst (CT (Fx (QL b fr)) t 0 ())
theorem KG {α β:Type}{f:α→β}{x:Except Int α}{a:α}(h:x= .ok a):Gq f x= .ok (f a):=by rw[h];rfl
theorem IK {α β:Type}{f:α→β}{x:Except Int α}{e:Int}(h:x= .error e):Gq f x= .error e:=by rw[h];rfl
def FK (vs:List Tm) (dp ti d:Int):Int:=if 0≤wr (wr (ti - d) - dp)∧wr (wr (ti - d) - dp)<(vs.length:Int) then wr (wr (ti - d) - dp) else -1
theorem S5 {vs:List Tm}{dp ti d:Int}(h1:0≤wr (wr (ti - d) - dp)) (h2:wr (wr (ti - d) - dp)<(vs.length:Int)):FK vs dp ti d=wr (wr (ti - d) - dp):=if_pos ⟨h1,h2⟩
theorem Uw {vs:List Tm}{dp ti d:Int}(h:¬(0≤wr (wr (ti - d) - dp)∧wr (wr (ti - d) - dp)<(vs.length:Int))):FK vs dp ti d= -1:=if_neg h
theorem Mr {vs:List Tm}{dp ti d:Int}(h:0≤FK vs dp ti d):FK vs dp ti d<(vs.length:Int):=by
 unfold FK at *;split<;>omega
def PI (vs:List Tm) (sz:List Int) (dp:Int) (t:Tm) (d:Int):Int :=
 if t.kind=0∧0≤FK vs dp t.index d then sz.getD (FK vs dp t.index d).toNat 0 else 1
def N0 (vs:List Tm) (sz:List Int) (dp:Int) (n:Int) (t:Tm) (d:Int):Except Int ((Tm×Bool)×Int) :=
 Gq (fun m=>((BF,decide (t.kind=0)),m)) (Rh n (PI vs sz dp t d))
def H5 (vs:List Tm) (dp:Int) (t:Tm) (d:Int):Except Int Tm :=
 if 0≤FK vs dp t.index d then FE (wr (dp+d)) 0 (vs.getD (FK vs dp t.index d).toNat BF)
 else if wr (t.index - d)<dp then .ok (IL t) else FF (wr (t.index - vs.length))
def FD (vs:List Tm) (dp:Int) (t:Tm):Except Int Tm :=
 CH (CT (N0 vs (vs.map fun v=>(size v:Int)) dp) t 0 0) fun _=>Gq Prod.fst (CT (Fx (H5 vs dp)) t 0 ())
def Cs (t:Tm) (vs:List Tm) (dp:Int):Tm×Int :=
 match FD vs dp t with
 | .error e=>(BF,e)
 | .ok x=>if Dg x > 200 then (BF,7) else (x,0)
section
variable {vs:List Tm}{sz:List Int}{dp n d k i r m e:Int}{nm:ByteArray}{l:List B6}{ks:List Tm}
theorem Qi (hm:PI vs sz dp (.mk k i nm l ks) d=m) (hz:Rh n m= .ok r):N0 vs sz dp n (.mk k i nm l ks) d= .ok ((BF,decide (k=0)),r):=by
 subst hm;exact KG hz
theorem OJ (hm:PI vs sz dp (.mk k i nm l ks) d=m) (hz:Rh n m= .error e):N0 vs sz dp n (.mk k i nm l ks) d= .error e:=by
 subst hm;exact IK hz
theorem N6 (h:k=0∧0≤FK vs dp i d) (hx:sz[(FK vs dp i d).toNat]?=some m):PI vs sz dp (.mk k i nm l ks) d=m:=by
 unfold PI;refine(if_pos h).trans ?_;rw[List.getD_eq_getElem?_getD];exact(congrArg (fun o=>Option.getD o 0) hx)
theorem QO (h:¬(k=0∧0≤FK vs dp i d)):PI vs sz dp (.mk k i nm l ks) d=1:=by
 unfold PI;exact if_neg h
theorem N9 {v:Tm}(h:0≤FK vs dp i d) (hx:vs[(FK vs dp i d).toNat]?=some v):H5 vs dp (.mk k i nm l ks) d=FE (wr (dp+d)) 0 v:=by
 unfold H5;refine(if_pos h).trans ?_;rw[List.getD_eq_getElem?_getD];exact(congrArg (fun o=>FE (wr (dp+d)) 0 (Option.getD o BF)) hx)
theorem Tt (h:¬0≤FK vs dp i d) (h2:wr (i - d)<dp):H5 vs dp (.mk k i nm l ks) d= .ok (.mk k i nm l []):=by
 unfold H5;exact(if_neg h).trans ((if_pos h2).trans rfl)
theorem P7 (h:¬0≤FK vs dp i d) (h2:¬wr (i - d)<dp):H5 vs dp (.mk k i nm l ks) d=FF (wr (i - vs.length)):=by
 unfold H5;exact(if_neg h).trans (if_neg h2)
end
theorem HY {t:Tm}{vs:List Tm}{dp e:Int}(h:FD vs dp t= .error e):Cs t vs dp=(BF,e):=by unfold Cs;rw[h]
theorem Oi {t x:Tm}{vs:List Tm}{dp:Int}(h:FD vs dp t= .ok x) (hd:Dg x > 200):Cs t vs dp=(BF,7):=by unfold Cs;rw[h];exact if_pos hd
theorem RE {t x:Tm}{vs:List Tm}{dp:Int}(h:FD vs dp t= .ok x) (hd:¬Dg x > 200):Cs t vs dp=(x,0):=by unfold Cs;rw[h];exact if_neg hd
theorem Lu {t x:Tm}{vs:List Tm}{dp:Int}{a:Tm×Int}{b:Unit}(h1:CT (N0 vs (vs.map fun v=>(size v:Int)) dp) t 0 0= .ok a) (h2:CT (Fx (H5 vs dp)) t 0 ()= .ok (x,b)):FD vs dp t= .ok x:=by
 unfold FD;rw[h1];exact KG h2
theorem Nw {t:Tm}{vs:List Tm}{dp e:Int}(h1:CT (N0 vs (vs.map fun v=>(size v:Int)) dp) t 0 0= .error e):FD vs dp t= .error e:=by
 unfold FD;rw[h1];rfl
theorem OI {t:Tm}{vs:List Tm}{dp e:Int}{a:Tm×Int}(h1:CT (N0 vs (vs.map fun v=>(size v:Int)) dp) t 0 0= .ok a) (h2:CT (Fx (H5 vs dp)) t 0 ()= .error e):FD vs dp t= .error e:=by
 unfold FD;rw[h1];exact IK h2
theorem TE:∀{ts:List Tm},(∀t∈ts,Nd t)→JP ts
 | [],_=>trivial
 | t::ts,h=>⟨h t Ab,TE fun x hx=>h x (by simp[hx])⟩
section
variable {σ:Type}{vis:σ→Tm→Int→Except Int ((Tm×Bool)×σ)}
mutual
theorem Im (hv:∀s t d r,Nd t→Vp t→vis s t d= .ok r→Nd r.1.1):∀(t:Tm) (d:Int) (s:σ) (r:Tm×σ),Nd t→Vp t→CT vis t d s= .ok r→Nd r.1
 | .mk k i n l ks,d,s,r,h1,h2,h=>by
  unfold CT CH at h;split at h
  ·cases h
  rename_i r1 hr;have hn:=hv _ _ _ _ h1 h2 hr;simp only at h;split at h
  ·injection h with h;subst h;exact hn
  split at h
  ·cases h
  rename_i q hq;injection h with h;subst h;obtain⟨g1,g2⟩:=KD hv ks k 0 d r1.2 q h1.2.2.2.2.1 h2.2 hq;obtain⟨⟨o,dn⟩,q1⟩:=r1;obtain⟨ok,oi,on,ol,os⟩:=o;exact⟨hn.1,hn.2.1,hn.2.2.1,by rw[g2];exact h1.2.2.2.1,g1,hn.2.2.2.2.2⟩
theorem KD (hv:∀s t d r,Nd t→Vp t→vis s t d= .ok r→Nd r.1.1):∀(ts:List Tm) (k:Int) (j:Nat) (d:Int) (s:σ) (r:List Tm×σ),JP ts→PZ ts→Cb vis k j ts d s= .ok r→JP r.1∧r.1.length=ts.length
 | [],k,j,d,s,r,h1,h2,h=>by
  unfold Cb at h;injection h with h;subst h;exact⟨trivial,rfl⟩
 | t::ts,k,j,d,s,r,h1,h2,h=>by
  unfold Cb CH at h;split at h
  ·cases h
  rename_i r1 hr;simp only at h;split at h
  ·cases h
  rename_i q hq;injection h with h;subst h;obtain⟨g1,g2⟩:=KD hv ts k (j+1) d r1.2 q h1.2 h2.2 hq;exact⟨⟨Im hv t _ _ _ h1.1 h2.1 hr,g1⟩,by simp[g2]⟩
end
end
theorem KT {t:Tm}(h:Nd t):Nd (IL t):=by
 obtain⟨k,i,n,l,ks⟩:=t;exact⟨h.1,h.2.1,h.2.2.1,by decide,trivial,h.2.2.2.2.2⟩
theorem OE {i:Int}{x:Tm}(hi: -9223372036854775808≤i) (h:FF i= .ok x):Nd x:=by
 unfold FF at h;split at h
 ·cases h
 injection h with h;subst h;exact⟨by decide,by decide,by simp,by decide,trivial,⟨by decide,by decide⟩,⟨hi,by omega⟩⟩
theorem Qm {rep:Tm→Int→Except Int Tm}(hr:∀t d x,Nd t→Vp t→t.kind=0→rep t d= .ok x→Nd x):∀(s:Unit) (t:Tm) (d:Int) (r:(Tm×Bool)×Unit),Nd t→Vp t→Fx rep s t d= .ok r→Nd r.1.1:=by
 intro s t d r h1 h2 h;unfold Fx at h;split at h
 ·rename_i hk;unfold Gq at h;split at h
  ·cases h
  rename_i x hx;injection h with h;subst h;exact hr t d x h1 h2 hk hx
 injection h with h;subst h;exact KT h1
theorem Rv {b fr:Int}{t x:Tm}(hb:FR b) (h1:Nd t) (h2:Vp t) (h:FE b fr t= .ok x):Nd x:=by
 unfold FE Gq at h;split at h
 ·cases h
 rename_i r hr;injection h with h;subst h;refine Im (Qm ?_) t 0 () r h1 h2 hr;intro t d x g1 g2 g3 g;obtain⟨k,i,n,l,ks⟩:=t;have hi:=g2.1 g3;unfold QL at g;split at g
 ·injection g with g;subst g;exact KT g1
 split at g
 ·cases g
 exact OE (by have:=hb.1;simp only[Tm.index];omega) g
theorem Vu {vs:List Tm}{dp:Int}{t x:Tm}{u:Unit}(hv:JP vs) (hp:PZ vs) (h1:Nd t) (h2:Vp t) (h:CT (Fx (H5 vs dp)) t 0 ()= .ok (x,u)):Nd x:=by
 refine Im (Qm ?_) t 0 () (x,u) h1 h2 h;intro t d x g1 g2 g3 g;unfold H5 at g;split at g
 ·rename_i h0;have hl:=Mr h0;obtain⟨v,hx⟩:=Ar (l:=vs) (i:=(FK vs dp t.index d).toNat) Aa;rw[List.getD_eq_getElem?_getD,hx] at g;exact Rv (Pr _) (CK hv hx) (Jb hp hx) g
 split at g
 ·injection g with g;subst g;exact KT g1
 exact OE (Pr _).1 g
theorem YH {vs:List Tm}{i:Nat}{x:Tm}(hx:vs[i]?=some x):(((vs.take i).map fun v=>(size v:Int))++List.replicate (vs.length - i) 0).set i (size x:Int)=((vs.take (i+1)).map fun v=>(size v:Int))++List.replicate (vs.length - (i+1)) 0:=by
 have hi:i<vs.length:=by
  rcases Nat.lt_or_ge i vs.length with h | h
  ·exact h
  rw[List.getElem?_eq_none h] at hx;cases hx
 obtain⟨m,hm⟩:∃m,vs.length - i=m+1:=⟨vs.length - i - 1,by omega⟩;have hl:((vs.take i).map fun v=>(size v:Int)).length=i:=by simp;omega
 rw[List.take_add_one,hx,hm,show vs.length - (i+1)=m by omega,List.replicate_succ,List.set_append_right _ _ Aa,hl];simp
theorem Zn {vs:List Tm}{i:Nat}(h:vs.length≤i):((vs.take i).map fun v=>(size v:Int))++List.replicate (vs.length - i) 0=vs.map fun v=>(size v:Int):=by
 rw[List.take_of_length_le h,show vs.length - i=0 by omega];simp
theorem NL {k i:Int}{n:ByteArray}{l:List B6}{ks:List Tm}(h:Wt (.mk k i n l ks)) (hk:k=0):ks=[]:=by
 have:=h.1;subst hk;cases ks with
 | nil=>rfl
 | cons a b=>simp[arity] at this;omega
def Iy (x:Tm×Int):Except Int (Tm×Unit):=if x.2=0 then .ok (x.1,()) else .error x.2
def Jo (x:List Tm×Int):Except Int (List Tm×Unit):=if x.2=0 then .ok (x.1,()) else .error x.2
theorem Ni {er e:Int}(h:er≠0):E1 er e=er:=by unfold E1;rw[if_neg h]
theorem US {er i:Int}(h:er≠0):Jt er i=er:=by unfold Jt;split<;>simp[Ni h]
mutual
theorem RQ (b fr:Int):∀(t:Tm) (d er:Int),er≠0→(Be b fr d er t).2=er
 | .mk k i n l ks,d,er,h=>by
  unfold Be;split
  ·split
   ·rfl
   split
   ·exact Ni h
   exact US h
  exact Fa b fr k ks d 0 er h
theorem Fa (b fr k:Int):∀(ts:List Tm) (d:Int) (j:Nat) (er:Int),er≠0→(Bk b fr k d j er ts).2=er
 | [],d,j,er,h=>rfl
 | t::ts,d,j,er,h=>by
  unfold Bk;simp only;rw[RQ b fr t _ er h];exact Fa b fr k ts d (j+1) er h
end
section
variable {vs:List Tm}{d er nd k i:Int}{n:ByteArray}{l:List B6}{ks:List Tm}
end
structure ZZ (vs:List Tm) (dp:Int):Prop where
 wt:KQ vs
 vp:PZ vs
 sz:∀x∈vs,size x<1099511627776
 len:vs.length<1099511627776
 lo:0≤dp
 hi:dp≤65536
theorem ZZ.size {vs:List Tm}{dp:Int}(V:ZZ vs dp):∀x∈vs,(size x:Int)≤1099511627776:=fun x hx=>by have:=V.sz x hx;omega
def fE {α:Type}(x:Except Int (α×Int)) (m:Int):Prop:=(m > 4096→x= .error 5)∧(m≤4096→∃z,x= .ok (z,m))
def fy (vs:List Tm):List Int:=vs.map fun v=>(size v:Int)
structure EY where
 dn:List (Int×Tm)
 op:List Int
 wk:Int
def Yw (i:Int):List (Int×Tm)→Option Tm
 | []=>none
 | (j,x)::r=>if j=i then some x else Yw i r
def aR (i:Int) (v:Tm):List (Int×Tm)→List (Int×Tm)
 | []=>[(i,v)]
 | (j,x)::r=>if j=i then (j,v)::r else (j,x)::aR i v r
def fq (l:List (Int×Tm)):List (Int×AV):=l.map fun p=>(p.1,TV p.2)
def ZA (x:Tm) (e:Int):Except Int Tm:=if e≠0∨YL x=true then .error 11 else .ok x
def WB:Tm→List Tm→Except Int (Tm×List Tm)
 | v,[]=> .ok (v,[])
 | v,a::l=>if v.kind=5 then CH (ZA (Cs (v.kids.getD 1 BF) [a] 0).1 (Cs (v.kids.getD 1 BF) [a] 0).2) fun x=>WB x l else .ok (v,a::l)
def EK (F:EY→Tm→Except Int (Tm×EY)):EY→List Tm→Except Int (List Tm×EY)
 | st,[]=> .ok ([],st)
 | st,t::ts=>CH (F st t) fun r=>CH (EK F r.2 ts) fun q=> .ok (r.1::q.1,q.2)
def XL (F:EY→Tm→Except Int (Tm×EY)) (ms:List Mv) (st:EY) (i:Int):Except Int (Tm×EY) :=
 match Yw i st.dn with
 | some v=> .ok (v,st)
 | none=>if i∈st.op then .error 22 else CH (F { st with op:=st.op++[i] } (valueOf ms i)) fun r=> .ok (r.1,{ r.2 with dn:=aR i r.1 r.2.dn })
def ZD (F:EY→Tm→Except Int (Tm×EY)) (ms:List Mv) (st:EY) (h:Tm):Except Int (Tm×EY) :=
 if known ms h=true then XL F ms st h.index else Gq (fun q=>(F9 h q.1,q.2)) (EK F st h.kids)
def S4 (ms:List Mv):Nat→EY→Tm→Except Int (Tm×EY)
 | 0,st,t=> .error 11
 | n+1,st,t =>
  if st.wk+1 > 8192000 then .error 11
  else CH (ZD (S4 ms n) ms { st with wk:=st.wk+1 } (Ay t).1) fun r =>
   CH (EK (S4 ms n) r.2 (Ay t).2) fun q =>
   CH (if known ms (Ay t).1=true then WB r.1 q.1 else .ok (r.1,q.1)) fun y =>
   Gq (fun z=>(z,q.2)) (ZA (apply y.1 y.2) 0)
structure Ok (S:Nat) (t:Tm):Prop where
 nd:Nd t
 vp:Vp t
 wt:Wt t
 sz:size t≤S
structure cK (ms:List Mv) (st:EY):Prop where
 dn:∀p∈st.dn,Ok 4096 p.2
 w0:0≤st.wk
 w1:st.wk≤8192000
theorem Vt {ts:List Tm}{t:Tm}(h:JP ts) (hm:t∈ts):Nd t:=by
 obtain⟨i,hi⟩:=List.mem_iff_getElem?.1 hm;exact CK h hi
theorem RI {ts:List Tm}{t:Tm}(hm:t∈ts):size t≤A0 ts:=by
 obtain⟨i,hi⟩:=List.mem_iff_getElem?.1 hm;exact Bp hi
abbrev fj (l:List Tm):Prop:=∀x∈l,Ok 4096 x
def bW (st st':EY):Prop:=∀i,i∈st.op→i∈st'.op
def dz (ms:List Mv) (B:Nat) (F:EY→Tm→Except Int (Tm×EY)):Prop:=∀st t r,Ok B t→cK ms st→F st t= .ok r→Ok 4096 r.1∧cK ms r.2∧bW st r.2
section
variable {F:EY→Tm→Except Int (Tm×EY)}{ms:List Mv}{st st':EY}{i e:Int}{z:Tm}
end
def Mk (F:EY→Tm→Except Int (Tm×EY)) (ts:List Tm) (q0:EY) (i:Nat) (ys:List Tm) (q:EY):Prop :=
 ys.length=i∧EK F q0 ts=CH (EK F q (ts.drop i)) fun r=> .ok (ys++r.1,r.2)
section
variable {F:EY→Tm→Except Int (Tm×EY)}{ts ys:List Tm}{q0 q q':EY}{i:Nat}{x y:Tm}{e:Int}
theorem Mk.zero (F:EY→Tm→Except Int (Tm×EY)) (ts:List Tm) (q0:EY):Mk F ts q0 0 [] q0:=by
 refine⟨O,?_⟩;simp only[List.drop_zero,CH];cases EK F q0 ts<;>simp
theorem Mk.err (h:Mk F ts q0 i ys q) (hx:ts[i]?=some x) (hb:F q x= .error e):EK F q0 ts= .error e:=by
 rw[h.2,Bx hx,EK,hb];rfl
theorem Mk.succ (h:Mk F ts q0 i ys q) (hx:ts[i]?=some x) (hb:F q x= .ok (y,q')):Mk F ts q0 (i+1) (ys++[y]) q':=by
 refine⟨by simp[h.1],?_⟩;rw[h.2,Bx hx,EK,hb];simp only[CH];cases EK F q' (ts.drop (i+1))<;>simp
theorem Mk.fin (h:Mk F ts q0 i ys q) (hi:ts.length≤i):EK F q0 ts= .ok (ys,q):=by
 rw[h.2,List.drop_eq_nil_of_le hi,EK];simp[CH]
end
section
variable {ms:List Mv}{n:Nat}{dn:List (Int×Tm)}{op:List Int}{wk e:Int}{t v vv z h:Tm}{us ls ks:List Tm}{st1 st2:EY}
end
end Go.Eu
namespace Go.Abs
def fW {β:Type}(mkv:β→AV) (mkH:β→List Ap):CA→List Ap→Prop
 | .val v,H'=>∃b,v=mkv b∧H'=mkH b
 | .panic _,_=>False
section
variable {P:Program}{ops:Array Oper}{n:Nat}{τ₀ τ:Nat→AV}{D:List CI}{Q:Bl→A4→Prop}{opn:Nat→Bool}{k:Nat}{H:List Ap}{dst:Option Tmp}{ty:TypeId}{pos:String}{aft:Array Edge}{c:Call}{f:Operand}{fid:FuncId}{first caps A:List AV}{β:Type}{mkv:β→AV}{mkH:β→List Ap}
end
end Go.Abs
namespace Go.Eu
open Go.Abs
def Pl (ms:List Mv) (n:Nat) (t:Tm):Tm×Int :=
 match S4 ms n ⟨[],[],0⟩ t with
 | .ok r=>(r.1,0)
 | .error e=>(BF,e)
def eN (ms:List Mv) (n:Nat) (t:Tm):List Int×Int:=if (Pl ms n t).2≠0 then ([],(Pl ms n t).2) else (PL [] (Pl ms n t).1,0)
mutual
def TP (p:Int→Int→ByteArray→List B6→Prop):Tm→Prop
 | .mk k i n l ks=>p k i n l∧VL p ks
def VL (p:Int→Int→ByteArray→List B6→Prop):List Tm→Prop
 | []=>True
 | t::ts=>TP p t∧VL p ts
end
section
variable {p q:Int→Int→ByteArray→List B6→Prop}
mutual
theorem TP.imp (h:∀k i n l,p k i n l→q k i n l):∀(t:Tm),TP p t→TP q t
 | .mk k i n l ks,ht=>⟨h _ _ _ _ ht.1,VL.imp h ks ht.2⟩
theorem VL.imp (h:∀k i n l,p k i n l→q k i n l):∀(ts:List Tm),VL p ts→VL q ts
 | [],_=>trivial
 | t::ts,ht=>⟨TP.imp h t ht.1,VL.imp h ts ht.2⟩
end
end
def eI (ms:List Mv) (D:List Int) (k i:Int) (n:ByteArray) (l:List B6):Prop:=known ms (.mk k i n l [])=true→i∈D
abbrev KM (ms:List Mv) (D:List Int):Tm→Prop:=TP (eI ms D)
abbrev Yl (ms:List Mv) (D:List Int):List Tm→Prop:=VL (eI ms D)
theorem KM.mono {ms:List Mv}{D D':List Int}(h:∀i∈D,i∈D') {t:Tm}(ht:KM ms D t):KM ms D' t:=TP.imp (fun k i n l g e=>h _ (g e)) t ht
theorem Yl.mono {ms:List Mv}{D D':List Int}(h:∀i∈D,i∈D') {t:List Tm}(ht:Yl ms D t):Yl ms D' t:=VL.imp (fun k i n l g e=>h _ (g e)) t ht
theorem KM.head {ms:List Mv}{D:List Int}{h:Tm}(hk:known ms h=true) (ht:KM ms D h):h.index∈D:=by
 obtain⟨k,i,n,l,ks⟩:=h;exact ht.1 hk
theorem KM.kids {ms:List Mv}{D:List Int}{h:Tm}(ht:KM ms D h):Yl ms D h.kids:=by
 obtain⟨k,i,n,l,ks⟩:=h;exact ht.2
inductive Ord (ms:List Mv):List Int→Prop
 | nil:Ord ms []
 | snoc {D:List Int} {i:Int}:Ord ms D→i ∉ D→KM ms D (valueOf ms i)→Ord ms (D++[i])
theorem Ord.pre {ms:List Mv}{D:List Int}(h:Ord ms D):∀i∈D,∃D',Ord ms D'∧(∀j∈D',j∈D)∧i ∉ D'∧KM ms D' (valueOf ms i):=by
 induction h with
 | nil=>intro i hi;simp at hi
 | @snoc D j h1 h2 h3 ih =>
  intro i hi;rcases List.mem_append.1 hi with hi | hi
  ·obtain⟨D',a,b,c,d⟩:=ih i hi;exact⟨D',a,fun j hj=>List.mem_append_left _ (b j hj),c,d⟩
  simp at hi;subst hi;exact⟨D,h1,fun j hj=>List.mem_append_left _ hj,h2,h3⟩
def aC:Tm→List Tm→Tm×List Tm
 | v,[]=>(v,[])
 | v,a::l=>if v.kind=5 then aC (GH (v.kids.getD 1 BF) [a] 0).1 l else (v,a::l)
section
variable {F F':Gr→Tm→Tm×Int×Gr}
end
def YE (st:EY):List Int:=st.dn.map Prod.fst
def dh (ms:List Mv) (t v:Tm):Prop:=∃n ab c d,F8 ms n ab c t=(v,0,d)∧d.over=false
structure dV (ms:List Mv) (ab:List Int) (st:EY):Prop where
 op:∀i,i∈st.op↔i∈YE st∨i∈ab
 ord:Ord ms (YE st)
 dis:∀i∈YE st,i ∉ ab
 val:∀p∈st.dn,dh ms (valueOf ms p.1) p.2
 ok:∀p∈st.dn,Ok 4096 p.2
 w0:0≤st.wk
def pot (ms:List Mv) (B:Nat) (st:EY):Int:=st.wk+(B*free ms st.op:Nat)
structure Step (ms:List Mv) (B:Nat) (ab:List Int) (st st':EY) (s:Nat):Prop where
 inv:dV ms ab st'
 mono:∀i∈YE st,i∈YE st'
 pot:pot ms B st'≤pot ms B st+s
theorem Step.trans {ms:List Mv}{B:Nat}{ab:List Int}{a b c:EY}{s s':Nat}(h:Step ms B ab a b s) (h':Step ms B ab b c s'):Step ms B ab a c (s+s') :=
 ⟨h'.inv,fun i hi=>h'.mono i (h.mono i hi),by have:=h.pot;have:=h'.pot;omega⟩
theorem Step.le {ms:List Mv}{B:Nat}{ab:List Int}{a b:EY}{s s':Nat}(h:Step ms B ab a b s) (hs:s≤s'):Step ms B ab a b s':=⟨h.inv,h.mono,by have:=h.pot;omega⟩
def fX (ms:List Mv) (B:Nat) (ab:List Int) (t:Tm) (s:Nat) (st:EY) (F:Tm×Int×Gr) (G:Except Int (Tm×EY)):Prop :=
 (F.2.1=0∧∃st',G= .ok (F.1,st')∧Step ms B ab st st' s∧KM ms (YE st') t)∨(F.2.1=22∧F.1=BF∧G= .error 22)
def fR (ms:List Mv) (B:Nat) (ab:List Int) (ts:List Tm) (st:EY) (F:List Tm×Int×Gr) (G:Except Int (List Tm×EY)):Prop :=
 (F.2.1=0∧∃st',G= .ok (F.1,st')∧Step ms B ab st st' (A0 ts)∧Yl ms (YE st') ts)∨(F.2.1=22∧G= .error 22)
def e8 (m:Nat) (k i:Int) (n:ByteArray) (l:List B6):Prop:=k=12→0≤i∧i<(m:Int)
def ae (ms:List Mv) (k i:Int) (n:ByteArray) (l:List B6):Prop:=(k=12→0≤i∧i<(ms.length:Int)∧known ms (.mk k i n l [])=false)∧(k=4→i=0∧n=⟨#[]⟩∧l=[])
def eZ (ms:List Mv) (B:Nat) (F:EY→Tm→Except Int (Tm×EY)):Prop:=∀st t r,Ok B t→cK ms st→TP (e8 ms.length) t→(∀p∈st.dn,TP (ae ms) p.2)→F st t= .ok r→TP (ae ms) r.1∧∀p∈r.2.dn,TP (ae ms) p.2
def eE (ms:List Mv) (F:EY→Tm→Except Int (Tm×EY)):Prop:=∀st t,TP (ae ms) t→F st t= .error 11∨∃st',F st t= .ok (t,st')
def fZ (F:EY→Tm→Except Int (Tm×EY)):Prop:=∀st t e,F st t= .error e→e=11∨e=22
abbrev wide:Nat:=9223372036854775808
structure YU (l:B6):Prop where
 vars:l.vars.length<wide
 c:FR l.const
 v:∀v∈l.vars,FR v.index∧FR v.plus
mutual
def Wd:Tm→Prop
 | .mk k i n ls ks=>n.size<wide∧ls.length<wide∧(∀l∈ls,YU l)∧ks.length<wide∧Vv ks∧FR k∧FR i
def Vv:List Tm→Prop
 | []=>True
 | t::ts=>Wd t∧Vv ts
end
theorem Jc:∀{ts:List Tm}{i:Nat}{t:Tm},Vv ts→ts[i]?=some t→Wd t
 | [],i,t,_,h=>by simp at h
 | a::ts,0,t,hn,h=>by simp at h;subst h;exact hn.1
 | a::ts,i+1,t,hn,h=>by simp at h;exact Jc hn.2 h
mutual
def Fw:Tm→Prop
 | .mk k i n ls ks=>n.size≤200∧ls.length≤20∧(∀l∈ls,l.vars.length≤20)∧Ys ks
def Ys:List Tm→Prop
 | []=>True
 | t::ts=>Fw t∧Ys ts
end
theorem TK:∀{ts:List Tm},(∀t∈ts,Fw t)→Ys ts
 | [],_=>trivial
 | t::ts,h=>⟨h t Ab,TK fun x hx=>h x (by simp[hx])⟩
def RO:Tm→Prop
 | .mk k i n ls ks=>n.size≤200∧ls.length≤20∧(∀l∈ls,l.vars.length≤20)∧A0 ks≤200∧JP ks∧Ys ks
theorem W7 {t:Tm}(h:Wd t) (hf:RO t):Nd t:=by
 obtain⟨k,i,n,ls,ks⟩:=t;obtain⟨h1,h2,h3,h4,h5⟩:=hf;have:=DN ks;exact⟨by simp only[Cu];omega,by simp only[Cu];omega,fun l hl=>⟨by have:=h3 l hl;simp only[Cu];omega,(h.2.2.1 l hl).c,(h.2.2.1 l hl).v⟩,by simp only[Cu];omega,h5.1,h.2.2.2.2.2⟩
mutual
theorem Ia:∀(t:Tm) (most:Int),-1152921504606846976≤most→most≤1152921504606846976→(size t:Int)≤1152921504606846976→0≤CU t most∧CU t most<size t∧(CU t most≤most→CU t most+1=size t)
 | .mk k i n l ks,most,h1,h2,h3=>by
  simp only[size] at h3 ⊢;unfold CU;have:=IZ ks most 0 h1 h2 Aa Aa;exact⟨this.1,by omega,fun h=>by have:=this.2.2 h;omega⟩
theorem IZ:∀(ts:List Tm) (most n:Int),-1152921504606846976≤most→most≤1152921504606846976→0≤n→n+A0 ts≤1152921504606846976→n≤CM ts most n∧CM ts most n≤n+A0 ts∧(CM ts most n≤most→CM ts most n=n+A0 ts)
 | [],most,n,h1,h2,h3,h4=>by simp[CM,A0]
 | t::ts,most,n,h1,h2,h3,h4=>by
  simp only[A0] at h4 ⊢;have hp:=size_pos t;unfold CM;by_cases hm:n > most
  ·rw[if_pos hm];exact⟨by omega,by omega,by omega⟩
  rw[if_neg hm];have e1:wr (most - n)=most - n:=DT ⟨by omega,by omega⟩;have hT:=Ia t (most - n) Aa Aa Aa;rw[e1];have e2:wr (1+CU t (most - n))=1+CU t (most - n):=DT ⟨by omega,by omega⟩;rw[e2];have e3:wr (n+(1+CU t (most - n)))=n+(1+CU t (most - n)):=DT ⟨by omega,by omega⟩;rw[e3];have hL:=IZ ts most (n+(1+CU t (most - n))) h1 h2 Aa Aa;refine⟨by omega,by omega,fun h=>?_⟩;have:=hL.2.2 h;have:=hT.2.2 Aa;omega
end
theorem UB {t:Tm}(h:RO t):size t≤201:=by
 obtain⟨k,i,n,ls,ks⟩:=t;have:=h.2.2.2.1;simp only[size];omega
theorem MA:∀(ts:List Tm) (most n:Int),0≤most→most≤1000→0≤n→n≤3000→(∀t∈ts,size t≤201)→n≤CM ts most n
 | [],most,n,h1,h2,h3,h4,hs=>by simp[CM]
 | t::ts,most,n,h1,h2,h3,h4,hs=>by
  have ht:=hs t Ab;unfold CM;by_cases hm:n > most
  ·rw[if_pos hm];omega
  rw[if_neg hm];have e1:wr (most - n)=most - n:=DT ⟨by omega,by omega⟩;have hT:=Ia t (most - n) Aa Aa Aa;rw[e1];have e2:wr (1+CU t (most - n))=1+CU t (most - n):=DT ⟨by omega,by omega⟩;rw[e2];have e3:wr (n+(1+CU t (most - n)))=n+(1+CU t (most - n)):=DT ⟨by omega,by omega⟩;rw[e3];have hge:=MA ts most (n+(1+CU t (most - n))) h1 h2 Aa Aa (fun x hx=>hs x (by simp[hx]));omega
theorem MC:∀(ts:List Tm) (most n:Int),0≤most→most≤1000→0≤n→n≤3000→(∀t∈ts,size t≤201)→CM ts most n≤most→CM ts most n=n+A0 ts
 | [],most,n,h1,h2,h3,h4,hs,h=>by simp[CM,A0]
 | t::ts,most,n,h1,h2,h3,h4,hs,h=>by
  have ht:=hs t Ab;simp only[A0];unfold CM at h ⊢;by_cases hm:n > most
  ·rw[if_pos hm] at h;omega
  rw[if_neg hm] at h ⊢;have e1:wr (most - n)=most - n:=DT ⟨by omega,by omega⟩;have hT:=Ia t (most - n) Aa Aa Aa;rw[e1] at h ⊢;have e2:wr (1+CU t (most - n))=1+CU t (most - n):=DT ⟨by omega,by omega⟩;rw[e2] at h ⊢;have e3:wr (n+(1+CU t (most - n)))=n+(1+CU t (most - n)):=DT ⟨by omega,by omega⟩;rw[e3] at h ⊢;have hL:=MC ts most (n+(1+CU t (most - n))) h1 h2 Aa Aa (fun x hx=>hs x (by simp[hx])) h;have hge:=MA ts most (n+(1+CU t (most - n))) h1 h2 Aa Aa (fun x hx=>hs x (by simp[hx]));have:=hT.2.2 Aa;omega
structure NW (l:List Tm):Prop where
 sz:A0 l≤200
 nd:JP l
 fw:Ys l
theorem Uq {l:List Tm}{m:Nat}(hm:l.length≤m) (hw:Vv l) (hl:l.length<wide) (h:CM l 200 0≤200) (hc:∀j,j<m→∀t,l[j]?=some t→RO t):NW l:=by
 have hf:∀t∈l,RO t:=fun t ht=>by
  obtain⟨i,hi⟩:=D0 ht;exact hc i (by have:=(List.getElem?_eq_some_iff.1 hi).1;omega) t hi
 have:=MC l 200 0 Aa Aa Aa Aa (fun t ht=>UB (hf t ht)) h;exact⟨by omega,TE fun t ht=>by
  obtain⟨i,hi⟩:=D0 ht;exact W7 (Jc hw hi) (hf t ht),TK fun t ht=>by
  obtain⟨k,i,n,ls,ks⟩:=t;have h5:=hf _ ht;exact⟨h5.1,h5.2.1,h5.2.2.1,h5.2.2.2.2.2⟩⟩
theorem Nt {l:List Tm}{m:Int}(hf:NW l) (hm:0≤m∧m≤1000) (h:CM l m 0≤m):(A0 l:Int)≤m:=by
 have:=hf.sz;have:=(IZ l m 0 Aa Aa Aa Aa).2.2 h;omega
theorem Jr {l:List Tm}(hf:NW l) {t:Tm}(ht:t∈l):Nd t∧size t≤200:=⟨Vt hf.nd ht,by have:=RI ht;have:=hf.sz;omega⟩
structure Zz (m:Nat) (x:Mv):Prop where
 n1:Nd x.type
 n2:Nd x.value
 sz:size x.type+size x.value≤40
 w1:wf 0 m 0 x.type
 w2:x.known=true→wf 0 m 0 x.value
 w3:x.known=false→x.value=BF
structure eO (l:List Mv):Prop where
 len:l.length≤8
 all:∀m∈l,Zz l.length m
structure cY (m:Nat) (ctx terms:List Tm):Prop where
 len:ctx.length≤6
 s1:A0 ctx≤60
 s2:A0 terms≤60
 n1:JP ctx
 n2:JP terms
 w2:∀t∈terms,wf ctx.length m 0 t
 w1:∀(i:Nat) (t:Tm),ctx[i]?=some t→wf i m 0 t
structure fi (x:Mv):Prop where
 w1:Wd x.type
 w2:Wd x.value
theorem Ok.mono {B B':Nat}{t:Tm}(h:Ok B t) (hb:B≤B'):Ok B' t:=⟨h.nd,h.vp,h.wt,Nat.le_trans h.sz hb⟩
end Go.Eu
