/- Part of the proofs: an abstract program logic, plain models and contracts of functions. -/
import Derived.Test.YtldfmjoncbjldaaGreatPa
import Derived.MapKept
set_option linter.unusedVariables false
set_option linter.unusedSimpArgs false
namespace Go.Abs
section
variable {P:Program}{ops:Array Oper}{n:Nat}{τ₀:Nat→AV}{D:List CN}{Q:Bq→A9→Prop}{opn:Nat→Bool}{k:Nat}{τ:Nat→AV}{H:List Au}{rd:OY}{ef:N4}{effs:List Bool}{fx:List (Nat×Sp)}{dst:Option Tmp}{op:Op}{ty:TypeId}{pos:String}{aft:Array Edge}{v:AV}{H':List Au}
theorem Jy {cs:List AV}(fx':List (Nat×Sp)) (ho:ops[k]?=some ⟨dst,op,ty,pos,aft,none⟩) (hn:opn k=true) (h:B4 P ⟨dst,op,ty,pos,aft,none⟩ (ev τ) H (FD cs H)) (haft:Ck ops k (fx'.map (·.1))=true)
  (next:∀b,FH ops k H (.box b cs::H) rd∧Dy k (.eff (.ptr b 0) (.box b cs::H)) fx∧Dr P ops n τ₀ D Q opn (k+1) (put τ dst (.ptr b 0)) (.box b cs::H) rd ((k,H,.box b cs::H)::ef) (true::effs) (fx'++fx)):Dr P ops n τ₀ D Q opn k τ H rd ef effs fx :=
 Ge fx' ho hn h haft ⟨_,_,0,rfl,rfl⟩ (fun _ _ h=>h.elim) (fun v H' ⟨b,h1,h2⟩=>by subst h1;subst h2;exact next b)
theorem O8 {i sz:Nat}{rows:List (List PV)}(fx':List (Nat×Sp)) (ho:ops[k]?=some ⟨dst,op,ty,pos,aft,none⟩) (hn:opn k=true) (h:B4 P ⟨dst,op,ty,pos,aft,none⟩ (ev τ) H (H8 i sz rows H)) (haft:Ck ops k (fx'.map (·.1))=true)
  (next:∀o c,FH ops k H (H.set i (.vec o sz rows c)) rd∧Dy k (.eff (.vs o rows.length c) (H.set i (.vec o sz rows c))) fx∧Dr P ops n τ₀ D Q opn (k+1) (put τ dst (.vs o rows.length c)) (H.set i (.vec o sz rows c)) rd ((k,H,H.set i (.vec o sz rows c))::ef) (true::effs) (fx'++fx)):Dr P ops n τ₀ D Q opn k τ H rd ef effs fx :=
 Ge fx' ho hn h haft ⟨_,_,none,0,rfl,rfl⟩ (fun _ _ h=>h.elim) (fun v H' ⟨o,c,h1,h2⟩=>by subst h1;subst h2;exact next o c)
def GV (v:AV) (H':List Au):CG→List Au→Prop
 | .val v',H''=>v'=v∧H''=H'
 | .panic _,_=>False
theorem Ub {c:Call}{g:Option (Nat×Bool)}{f:Operand}{fid:FuncId}{first caps:List AV}{ρ:Operand→AV}{Hs Hf Hs':List Au}{A:List AV}
  (hc:c.callee= .value f) (hf:(ρ f= .p (.fn fid)∧first=[]∧caps=[])∨ρ f= .fn (.func fid) first caps) (hp:H.Perm (Hs++Hf)) (h:BK P fid A Hs (GV v Hs')) (hA:first++c.args.toList.map ρ++caps=A∨(first++c.args.toList.map ρ++caps).map norm=A) :
  CK P ⟨dst,.call c,ty,pos,aft,g⟩ ρ H v (Hs'++Hf):=by
 refine(Dw (H:=H) hc hf hp h hA).mono ?_;rintro r H' ⟨Hs',h1,rfl⟩;cases r with
 | val v'=>obtain⟨rfl,rfl⟩:=h1;exact⟨rfl,rfl⟩
 | panic v'=>exact h1
end
def ct (k:Int):List (Int×AV)→Option AV
 | []=>none
 | (j,x)::r=>if j=k then some x else ct k r
def ao (k:Int) (v:AV):List (Int×AV)→List (Int×AV)
 | []=>[(k,v)]
 | (j,x)::r=>if j=k then (j,v)::r else (j,x)::ao k v r
def cE (l:List (Int×AV)):List (PV×AV):=l.map fun p=>(.int .i64 p.1,p.2)
def mapOf (P:Program) (T:TypeId):Option TypeId :=
 match P.underlying T with
 | some (.map k e)=>match P.underlying k with
  | some (.int .i64)=>some e
  | _=>none
 | _=>none
section
variable {F:Nat→Prop}{w:World}
end
section
variable {P:Program}{dst:Option Tmp}{ty:TypeId}{pos:String}{aft:Array Edge}{g:Option (Nat×Bool)}{ρ:Operand→AV}{H:List Au}{x y z:Operand}{v:AV}
def cm (H:List Au):CG→List Au→Prop
 | .val v,H'=>∃b,v= .map b∧H'= .map b (cE [])::H
 | .panic _,_=>False
theorem Gd {T:TypeId}{d:TypeDesc}{a b:Value}{c:Bool}{w:World}(hu:P.underlying T=some d) (h:(match d,a,b with
  | .bool,.bool x,.bool y=>some (x==y)
  | .interface _,.nilIface,.nilIface=>some true
  | .interface _,.iface _ _,.nilIface=>some false
  | .slice _,.slice none _ _,.slice none _ _=>some true
  | .slice _,.slice (some _) _ _,.slice none _ _=>some false
  | _,_,_=>none)=some c):(Op.equal T a b).run P w= .ok c w:=by
 unfold Op.equal;rw[show Op.maxDepth=9999+1 from rfl];unfold Op.equalIn;simp only[Sem.run_bind,run_underlying hu,Result.andThen_ok];split at h<;>simp_all
theorem Dj {T U:TypeId}{ms:Array (String×TypeId)}{X:PV}{b:Bool}(hu:P.underlying T=some (.interface ms)) (hx:ρ x= .p X) (hy:ρ (.const .nilIface)= .p .nilIface) (hX:(match X with | .nilIface=>some false | .iface _ _=>some true | _=>none)=some b):CK P ⟨dst,.binOp .neq T x (.const .nilIface) U,ty,pos,aft,g⟩ ρ H (.p (.bool b)) H :=
 BS fun F w E hH hE=>by
  have e2:=hE (.const .nilIface) AT;rw[hy] at e2;simp only[BU,BY] at e2;have e1:=hE x AT;rw[hx] at e1;have hg:∀a,(eqGuard .neq T x (.const .nilIface) a .nilIface).run P w= .ok () w:=by
   intro a;unfold eqGuard;cases a<;>simp<;>rfl
  refine⟨.bool b,?_,by simp[BU,BY]⟩;cases X with
  | nilIface =>
   simp at hX;subst hX;simp only[BU,BY] at e1;have hq:(Op.equal T .nilIface .nilIface).run P w= .ok true w:=Gd hu rfl;simp[execOp,Sem.run_bind,hg,e1,e2,binOp,hq]
  | iface t c =>
   simp at hX;subst hX;simp only[BU,BY] at e1;obtain⟨u,e1,_⟩:=e1;have hq:(Op.equal T (.iface t u) .nilIface).run P w= .ok false w:=Gd hu rfl;simp[execOp,Sem.run_bind,hg,e1,e2,binOp,hq]
  | _=>simp at hX
theorem LI {T e:TypeId}{len sz b o:Nat}{k:IntKind}{i:Int}{inf:TypeInfo}(hu:P.underlying T=some (.array len e)) (hj:P.info? e=some inf) (hs:inf.size=sz) (hx:ρ x= .ptr b o) (hy:ρ y= .p (.int k i)) (h0:0≤i) (hn:i<len) :
  CK P ⟨dst,.indexAddr T x y,ty,pos,aft,g⟩ ρ H (.ptr b (o+i.toNat*sz)) H :=
 BS fun F w E hH hE=>by
  have h1:=hE x AT;have h2:=hE y AT;rw[hx] at h1;rw[hy] at h2;simp only[BU,BY] at h1 h2;refine⟨.pointer (some ⟨b,o+i.toNat*sz,none⟩),?_,by simp[BU]⟩;simp[execOp,Instr.indexAt,Sem.run_bind,run_underlying hu,h1,h2,asIntOf,h0,hn,sizeOf,typeInfo,hj,hs,Addr.add_mid,Instr.sureAddr,asAddr]
theorem LO {T e:TypeId}{len:Nat}{parts:Array (Nat×Operand)}{z:Value}{cs:List AV}{inf:TypeInfo}(hu:P.underlying T=some (.array len e)) (hj:P.info? e=some inf) (hz:zeroOf P T=some z)
  (hc:E0 (fun i=>some (i*inf.size,inf.size)) (z.cells.toList.map EN) (parts.toList.map fun p=>(p.1,ρ p.2))=some cs):CK P ⟨dst,.build T parts,ty,pos,aft,g⟩ ρ H (.agg cs) H :=
 BS fun F w E hH hE=>by
  unfold zeroOf at hz;cases hi:P.info? T with
  | none=>simp[hi] at hz
  | some i =>
   have hz':i.zero=some z:=by simpa [hi] using hz
   have hzv:(zeroValue T).run P w= .ok z w:=by simp[zeroValue,typeInfo,hi,hz',Sem.run_bind]
   have hsz:(sizeOf e).run P w= .ok inf.size w:=by simp[sizeOf,typeInfo,hj]
   obtain⟨us,hf,hr⟩:=FY (F:=F) (w:=w) (place:=(fun i=>some (i*inf.size,inf.size))) _ (parts.toList.map fun p=>(p.1,E p.2)) _ z.cells.toList _ Ae (by
    intro j p q h1 h2;simp only[List.getElem?_map] at h1 h2;cases hj:parts.toList[j]? with
    | none=>simp[hj] at h1
    | some t =>
     simp[hj] at h1 h2;subst h1;subst h2;exact⟨O,hE _ (by
      have:=List.mem_of_getElem? hj;simp only[Op.operands];exact List.mem_map.2 ⟨t,this,O⟩)⟩) (D6 _) hc
   refine⟨.agg ⟨us⟩,?_,by simp only[BU];exact⟨us,rfl,hr⟩⟩;simp only[execOp,Instr.build,Sem.run_bind,hzv,Result.andThen_ok,run_underlying hu,hsz];have hf':Instr.fill (fun i=>some (i*inf.size,inf.size)) z.cells (parts.toList.map fun p=>(p.1,E p.2))=some ⟨us⟩:=hf;simp[hf']
end
def Hw (P:Program) (T:TypeId):Bool :=
 match P.underlying T with
 | some (.struct fs)=>match fs.toList with
  | [f,g]=>f.name != "_" &&g.name != "_" &&Nat.beq f.offset 0&&Nat.beq g.offset 1&&(match P.underlying f.type,P.underlying g.type with | some (.int .i64),some (.int .i64)=>true | _,_=>false)&& !P.stoodInHeld T&& !P.eqGuardType P.depth T
  | _=>false
 | _=>false
theorem PW {P:Program}{T:TypeId}{a b c d:Int}{w:World}(h:Hw P T=true):(Op.equal T (.agg #[.int .i64 a,.int .i64 b]) (.agg #[.int .i64 c,.int .i64 d])).run P w= .ok (a==c&&b==d) w:=by
 unfold Hw at h;split at h
 ·rename_i fs hu;split at h
  ·rename_i f g hfs;obtain rfl:fs=#[f,g]:=by apply Array.ext';simpa using hfs
   simp only[Bool.and_eq_true,bne_iff_ne,ne_eq,Bool.not_eq_true'] at h;obtain⟨⟨⟨⟨⟨⟨h1,h2⟩,h3⟩,h4⟩,h5⟩,h6⟩,h7⟩:=h;split at h5
   ·rename_i hf hg;have e3:=Nat.eq_of_beq_eq_true h3;have e4:=Nat.eq_of_beq_eq_true h4;have hp:(program).run P w= .ok P w:=rfl;have af:(isAgg f.type).run P w= .ok false w:=Ie hf false rfl w;have ag:(isAgg g.type).run P w= .ok false w:=Ie hg false rfl w;have pf:∀x y,(part f.type #[.int .i64 x,.int .i64 y] f.offset).run P w= .ok (.int .i64 x) w:=by
     intro x y;unfold part;simp[Sem.run_bind,af,e3]
    have pg:∀x y,(part g.type #[.int .i64 x,.int .i64 y] g.offset).run P w= .ok (.int .i64 y) w:=by
     intro x y;unfold part;simp[Sem.run_bind,ag,e4]
    have qf:∀x y,(Op.equalIn 9999 f.type (.int .i64 x) (.int .i64 y)).run P w= .ok (x==y) w:=by
     intro x y;rw[show (9999:Nat)=9998+1 from rfl];unfold Op.equalIn;simp[Sem.run_bind,run_underlying hf]
    have qg:∀x y,(Op.equalIn 9999 g.type (.int .i64 x) (.int .i64 y)).run P w= .ok (x==y) w:=by
     intro x y;rw[show (9999:Nat)=9998+1 from rfl];unfold Op.equalIn;simp[Sem.run_bind,run_underlying hg]
    unfold Op.equal;rw[show Op.maxDepth=9999+1 from rfl];unfold Op.equalIn;simp only[Sem.run_bind,run_underlying hu,Result.andThen_ok,hp,h6];simp[Sem.run_bind,h1,h2,pf,pg,qf,qg];cases hac:(a==c)<;>cases hbd:(b==d)<;>simp_all [Sem.run_bind,h1,h2,pf,pg,qf,qg]
   cases h5
  cases h
 cases h
section
variable {P:Program}{dst:Option Tmp}{ty:TypeId}{pos:String}{aft:Array Edge}{g:Option (Nat×Bool)}{ρ:Operand→AV}{H:List Au}{x y z:Operand}{v:AV}
theorem L7 {T U:TypeId}{a b c d:Int}(h:Hw P T=true) (hx:ρ x= .agg [.p (.int .i64 a),.p (.int .i64 b)]) (hy:ρ y= .agg [.p (.int .i64 c),.p (.int .i64 d)]):CK P ⟨dst,.binOp .neq T x y U,ty,pos,aft,g⟩ ρ H (.p (.bool (!(a==c&&b==d)))) H :=
 BS fun F w E hH hE=>by
  have e1:=hE x AT;have e2:=hE y AT;rw[hx] at e1;rw[hy] at e2;simp only[BU,BG,BY] at e1 e2;obtain⟨vs,e1,u1,us1,rfl,rfl,u2,us2,rfl,rfl,rfl⟩:=e1;obtain⟨vs',e2,v1,vs1,rfl,rfl,v2,vs2,rfl,rfl,rfl⟩:=e2;refine⟨.bool (!(a==c&&b==d)),?_,by simp[BU,BY]⟩;have hq:=PW (P:=P) (T:=T) (a:=a) (b:=b) (c:=c) (d:=d) (w:=w) h;have h':=h;have hg:(eqGuard .neq T x y (.agg #[.int .i64 a,.int .i64 b]) (.agg #[.int .i64 c,.int .i64 d])).run P w= .ok () w:=by
   unfold Hw at h';split at h'
   ·split at h'
    ·simp only[Bool.and_eq_true,Bool.not_eq_true'] at h';have h7:=h'.2;have hp:(program).run P w= .ok P w:=rfl;unfold eqGuard;simp[Sem.run_bind,hp,h7]
    cases h'
   cases h'
  simp[execOp,Sem.run_bind,hg,e1,e2,binOp,hq]
end
theorem K3 {P:Program}{r:Option Nat}{c:Code}{S:A9}{Q:Bq→A9→Prop}(N:Nat) (C:Nat→Prop) (St:Nat→A9) (i₀:Nat) (h₀:i₀≤N) (hC:C i₀) (l:Le S (St i₀))
  (round:∀i,i≤N→C i→EP P r c (St i) (KH (fun S'=>i<N∧C (i+1)∧Le S' (St (i+1))) Q)):EP P r (.loop c) S Q:=by
 refine KN (fun m S=>∃i,i≤N∧m=N - i∧C i∧S=St i) (m:=N - i₀) l ⟨i₀,h₀,O,hC,O⟩ ?_;rintro m S ⟨i,hi,rfl,hc,rfl⟩;refine(round i hi hc).mono ?_;intro e S' h;cases e with
 | normal =>
  obtain⟨h1,h2,h3⟩:=h;exact⟨N - (i+1),St (i+1),by omega,h3,i+1,by omega,rfl,h2,rfl⟩
 | exit id=>exact h
 | ret=>exact h
 | panic v=>exact h
theorem BR {α:Type}{P:Program}{r:Option Nat}{c:Code}{S:A9}{Q:Bq→A9→Prop}(St:α→A9) (μ:α→Nat) (C:α→Prop) (a₀:α) (hC:C a₀) (l:Le S (St a₀))
  (round:∀a,C a→EP P r c (St a) (KH (fun S'=>∃a',μ a' < μ a∧C a'∧Le S' (St a')) Q)):EP P r (.loop c) S Q:=by
 refine KN (fun m S=>∃a,m=μ a∧C a∧S=St a) (m:=μ a₀) l ⟨a₀,O,hC,O⟩ ?_;rintro m S ⟨a,rfl,hc,rfl⟩;refine(round a hc).mono ?_;intro e S' h;cases e with
 | normal =>
  obtain⟨a',h1,h2,h3⟩:=h;exact⟨μ a',St a',h1,h3,a',O,h2,O⟩
 | exit id=>exact h
 | ret=>exact h
 | panic v=>exact h
abbrev wr (n:Int):Int:=IntKind.i64.wrap n
section
variable {P:Program}{dst:Option Tmp}{ty:TypeId}{pos:String}{aft:Array Edge}{g:Option (Nat×Bool)}{ρ:Operand→AV}{H:List Au}{x y z:Operand}{v:AV}
theorem DU {m n:Int}{T U:TypeId}(hx:ρ x= .p (.int .i64 m)) (hy:ρ y= .p (.int .i64 n)):CK P ⟨dst,.binOp .add T x y U,ty,pos,aft,g⟩ ρ H (.p (.int .i64 (wr (m+n)))) H :=
 BS fun F w E hH hE=>by
  have e1:=hE x AT;have e2:=hE y AT;rw[hx] at e1;rw[hy] at e2;simp only[BU,BY] at e1 e2;exact⟨.int .i64 (wr (m+n)),by simp[execOp,Sem.run_bind,E3,e1,e2,binOp,Op.intArith],by simp[BU,BY]⟩
theorem FM {m n:Int}{T U:TypeId}(hx:ρ x= .p (.int .i64 m)) (hy:ρ y= .p (.int .i64 n)):CK P ⟨dst,.binOp .sub T x y U,ty,pos,aft,g⟩ ρ H (.p (.int .i64 (wr (m - n)))) H :=
 BS fun F w E hH hE=>by
  have e1:=hE x AT;have e2:=hE y AT;rw[hx] at e1;rw[hy] at e2;simp only[BU,BY] at e1 e2;exact⟨.int .i64 (wr (m - n)),by simp[execOp,Sem.run_bind,E3,e1,e2,binOp,Op.intArith],by simp[BU,BY]⟩
end
def bj (R:AV→Prop):CG→List Au→Prop
 | .val v,H'=>R v∧H'=[]
 | .panic _,_=>False
abbrev D1 (P:Program) (f:FuncId) (args:List AV) (R:AV→Prop):Prop:=BK P f args [] (bj R)
theorem D1.of {P:Program}{f:FuncId}{args:List AV}{v:AV}{R:AV→Prop}(h:Dp P f args v) (hR:R v):D1 P f args R :=
 BK.mono h fun r H hr=>by
  cases r with
  | val v'=>obtain⟨rfl,rfl⟩:=hr;exact⟨hR,rfl⟩
  | panic v'=>exact hr
def OP (R:AV→Prop) (H:List Au):CG→List Au→Prop
 | .val v,H'=>R v∧H'=H
 | .panic _,_=>False
section
variable {P:Program}{r:Option Nat}{ops:Array Oper}{Q:Bq→A9→Prop}{k:Nat}{n:Nat}{τ:Nat→AV}{H H':List Au}{D:List CN}{dst:Option Tmp}{op:Op}{ty:TypeId}{pos:String}{aft:Array Edge}{g:Option (Nat×Bool)}{v:AV}
theorem Bo {c:Call}{f:Operand}{fid:FuncId}{ρ:Operand→AV}{A:List AV}{R:AV→Prop}(hc:c.callee= .value f) (hf:ρ f= .p (.fn fid)) (h:D1 P fid A R) (hA:c.args.toList.map ρ=A∨(c.args.toList.map ρ).map norm=A) :
  B4 P ⟨dst,.call c,ty,pos,aft,g⟩ ρ H (OP R H):=by
 refine(Dw (H:=H) (Hs:=[]) (Hf:=H) (first:=[]) (caps:=[]) hc (.inl ⟨hf,O,O⟩) (A:=A) Ae h (by simpa using hA)).mono ?_;rintro r H' ⟨Hs',h1,rfl⟩;cases r with
 | val v'=>obtain⟨h1,rfl⟩:=h1;exact⟨h1,rfl⟩
 | panic v'=>exact h1
theorem DB {R:AV→Prop}(ho:ops[k]?=some ⟨dst,op,ty,pos,aft,none⟩) (hd:De dst n=true) (h:B4 P ⟨dst,op,ty,pos,aft,none⟩ (ev τ) H (OP R H))
  (next:∀v,R v→AL P r ops (k+1) ⟨n,put τ dst v,H,D⟩ Q):AL P r ops k ⟨n,τ,H,D⟩ Q :=
 C3 (S:=⟨n,τ,H,D⟩) ho AX (D8 hd) h (fun v H' ⟨h1,h2⟩=>by subst h2;exact next v h1) (fun _ _ h=>h.elim)
theorem Fa {R:AV→Prop}{j d:Nat}{want:Bool}(ho:ops[k]?=some ⟨dst,op,ty,pos,aft,some (j,want)⟩) (hd:De dst n=true) (hj:(ops[j]?).bind (·.dst)=some d) (hb:τ d= .p (.bool want)) (h:B4 P ⟨dst,op,ty,pos,aft,some (j,want)⟩ (ev τ) H (OP R H))
  (next:∀v,R v→AL P r ops (k+1) ⟨n,put τ dst v,H,D⟩ Q):AL P r ops k ⟨n,τ,H,D⟩ Q :=
 C3 (S:=⟨n,τ,H,D⟩) ho (by simp only[CD];exact⟨d,hj,hb⟩) (D8 hd) h (fun v H' ⟨h1,h2⟩=>by subst h2;exact next v h1) (fun _ _ h=>h.elim)
end
section
variable {P:Program}{ops:Array Oper}{n:Nat}{τ₀:Nat→AV}{D:List CN}{Q:Bq→A9→Prop}{opn:Nat→Bool}{k:Nat}{τ:Nat→AV}{H:List Au}{rd:OY}{ef:N4}{effs:List Bool}{fx:List (Nat×Sp)}{dst:Option Tmp}{op:Op}{ty:TypeId}{pos:String}{aft:Array Edge}
theorem On {R:AV→Prop}(fx':List (Nat×Sp)) (ho:ops[k]?=some ⟨dst,op,ty,pos,aft,none⟩) (hn:opn k=true) (h:B4 P ⟨dst,op,ty,pos,aft,none⟩ (ev τ) H (OP R H)) (haft:Ck ops k (fx'.map (·.1))=true) (hne:∃v,R v) (owe:FH ops k H H rd)
  (next:∀v,R v→Dy k (.eff v H) fx∧Dr P ops n τ₀ D Q opn (k+1) (put τ dst v) H rd ((k,H,H)::ef) (true::effs) (fx'++fx)):Dr P ops n τ₀ D Q opn k τ H rd ef effs fx :=
 Ge fx' ho hn h haft (let ⟨v,hv⟩:=hne;⟨v,H,hv,rfl⟩) (fun _ _ h=>h.elim) (fun v H' ⟨h1,h2⟩=>by subst h2;exact⟨owe,next v h1⟩)
end
theorem BL {P:Program}{r:Option Nat}{c:Code}{Q:Bq→A9→Prop}{n:Nat}{τ:Nat→AV}{H:List Au}{D:List CN}(live:List Nat) (d:Nat) (R:AV→Prop) (h:EP P r c ⟨n,τ,H,D⟩ (KH (fun S'=>S'.n=n∧S'.D=D∧H.Sublist S'.H∧R (S'.τ d)∧W7 S'.τ τ live) Q))
  (next:∀x,R x→Q .normal ⟨n,mk ((d,x)::live.map fun t=>(t,τ t)),H,D⟩):EP P r c ⟨n,τ,H,D⟩ Q:=by
 intro F a w hs;refine wpIn_mono (h F a w hs) ?_;rintro e a' w' ⟨e',S',F',hq,he,hs',ht⟩;cases e' with
 | normal =>
  obtain⟨n',τ',H',D'⟩:=S';obtain⟨h1,h3,h2,h4,h5⟩:=hq;simp only at h1 h2 h3 h4 h5;subst h1;subst h3;have l:Le ⟨n',τ',H',D'⟩ ⟨n',mk ((d,τ' d)::live.map fun t=>(t,τ t)),H,D'⟩:=DK ⟨rfl,I6 h5⟩ h2;exact⟨.normal,_,F',next _ h4,he,hs'.le l,ht.sublist h2⟩
 | exit id=>exact⟨.exit id,S',F',hq,he,hs',ht⟩
 | ret=>exact⟨.ret,S',F',hq,he,hs',ht⟩
 | panic v=>exact⟨.panic v,S',F',hq,he,hs',ht⟩
def Hr (v:AV):Prop:=∃b:Bool,v= .p (.bool b)
def VY (v:AV):Prop:=∃e:Int,v= .p (.int .i64 e)
end Go.Abs
namespace Go.Eu
open Go.Abs
noncomputable def JT {α:Type}(a b:α):Bool:= @decide (a=b) (Classical.propDecidable _)
theorem Cl {α:Type}{a b:α}(h:a=b):JT a b=true:=by simp[JT,h]
theorem Cj {α:Type}{a b:α}(h:a≠b):JT a b=false:=by simp[JT,h]
theorem ER {α:Type}{a b:α}:JT a b=true↔a=b:=by simp[JT]
abbrev LV (l:CE):AV:= .agg ((B0 l).map .p)
abbrev dT (ts:List Tm):AV:= .p (.lst (A1 ts))
abbrev Zz (ls:List CE):AV:= .p (.lst (ls.map B0))
theorem DV {ts:List Br}{i:Nat}{t:Br}(h:ts[i]?=some t):(ts.map HK)[i]?=some (HK t):=by simp[h]
theorem Ek {ts:List CE}{i:Nat}{t:CE}(h:ts[i]?=some t):(ts.map B0)[i]?=some (B0 t):=by simp[h]
def G5 {α:Type}(a b:List α) (i:Nat):Prop:=a.take i=b.take i
theorem HJ {α:Type}(a b:List α):G5 a b 0:=by simp[G5]
theorem HR {α:Type}{a b:List α}{i:Nat}{x:α}(h:G5 a b i) (ha:a[i]?=some x) (hb:b[i]?=some x):G5 a b (i+1):=by
 unfold G5 at *;rw[List.take_add_one,List.take_add_one,ha,hb,h]
theorem Ic {α:Type}{a b:List α}{n:Nat}(h:G5 a b n) (ha:a.length=n) (hb:b.length=n):a=b:=by
 unfold G5 at h
 rwa [List.take_of_length_le Ad,List.take_of_length_le Ad] at h
theorem Av {α:Type}{l:List α}{i:Nat}(h:i<l.length):∃x,l[i]?=some x:=⟨_,List.getElem?_eq_getElem h⟩
abbrev Ci:Nat:=1099511627776
def HD (n:Int):Prop:= -9223372036854775808≤n∧n≤9223372036854775807
structure Ve (l:CE):Prop where
 vars:l.vars.length<Ci
 c:HD l.const
 v:∀v∈l.vars,HD v.index∧HD v.plus
mutual
def Nd:Tm→Prop
 | .mk k i n ls ks=>n.size<Ci∧ls.length<Ci∧(∀l∈ls,Ve l)∧ks.length<Ci∧IX ks∧HD k∧HD i
def IX:List Tm→Prop
 | []=>True
 | t::ts=>Nd t∧IX ts
end
theorem B2:∀{ts:List Tm}{i:Nat}{t:Tm},IX ts→ts[i]?=some t→Nd t
 | [],i,t,_,h=>by simp at h
 | a::ts,0,t,hn,h=>by simp at h;subst h;exact hn.1
 | a::ts,i+1,t,hn,h=>by simp at h;exact B2 hn.2 h
mutual
def depth:Tm→Nat
 | .mk _ _ _ _ ks=>Db ks+1
def Db:List Tm→Nat
 | []=>0
 | t::ts=>max (depth t) (Db ts)
end
theorem NQ {ts:List Tm}{i:Nat}{t:Tm}(h:ts[i]?=some t):Db (ts.take (i+1))=max (Db (ts.take i)) (depth t):=by
 induction ts generalizing i with
 | nil=>simp at h
 | cons a ts ih =>
  cases i with
  | zero=>simp at h;subst h;simp[Db]
  | succ i=>simp at h;simp only[List.take_succ_cons,Db,ih h];omega
mutual
theorem LC:∀t:Tm,depth t≤size t
 | .mk _ _ _ _ ks=>by simp only[depth,size];have:=EK ks;omega
theorem EK:∀ts:List Tm,Db ts≤A4 ts
 | []=>by simp[Db]
 | t::ts=>by simp only[Db,A4];have:=LC t;have:=EK ts;omega
end
theorem Jq {ts:List Tm}(i:Nat):Db (ts.take i)≤Db ts:=by
 induction ts generalizing i with
 | nil=>simp[Db]
 | cons a ts ih =>
  cases i with
  | zero=>simp[Db]
  | succ i=>simp only[List.take_succ_cons,Db];have:=ih i;omega
end Go.Eu
namespace Go.Eu
theorem He (bs : ByteArray) : ∀ (d i : Nat) (r : List UInt8), bs.size - i = d → ByteArray.toList.loop bs i r = r.reverse ++ bs.data.toList.drop i := by
 intro d
 induction d with
 | zero =>
  intro i r h
  unfold ByteArray.toList.loop
  have : ¬ i < bs.size := by omega
  simp only [this, if_false]
  rw [List.drop_eq_nil_of_le (by have : bs.data.size = bs.size := rfl; simp; omega)]; simp
 | succ d ih =>
  intro i r h
  unfold ByteArray.toList.loop
  have hi : i < bs.size := by omega
  simp only [hi, if_true]
  rw [ih (i + 1) _ Ad]
  have hlt : i < bs.data.toList.length := by have : bs.data.size = bs.size := rfl; simp; omega
  rw [List.drop_eq_getElem_cons hlt]
  have : bs.get! i = bs.data.toList[i] := by
   have h2 : i < bs.data.size := by simpa using hlt
   show bs.data[i]! = _
   rw [getElem!_pos bs.data i h2]; simp
  simp [this]
theorem IG (bs:ByteArray):bs.toList=bs.data.toList:=by
 unfold ByteArray.toList;rw[He bs _ 0 [] rfl];simp
theorem Hj {a b:ByteArray}(h:a.toList=b.toList):a=b:=by
 rw[IG,IG] at h;cases a;cases b;simp at h;congr
end Go.Eu
namespace Go.Eu
open Go.Abs
mutual
def CV:Tm→Int→Int
 | .mk _ _ _ _ ks,most=>CR ks most 0
def CR:List Tm→Int→Int→Int
 | [],_,n=>n
 | t::ts,most,n=>if n > most then n else CR ts most (wr (n+wr (1+CV t (wr (most - n)))))
end
theorem L9 {l:List Tm}{i:Nat}{t:Tm}{most n:Int}(h:l[i]?=some t):CR (l.drop i) most n=if n > most then n else CR (l.drop (i+1)) most (wr (n+wr (1+CV t (wr (most - n))))):=by
 have hlt:i<l.length:=(List.getElem?_eq_some_iff.1 h).1;rw[List.drop_eq_getElem_cons hlt];have:l[i]=t:=by simpa [List.getElem?_eq_getElem hlt] using h
 rw[this,CR]
end Go.Eu
namespace Go.Eu
def arity (k:Int):Int:=if k=4∨k=5∨k=6∨k=7 then 2 else if k=8∨k=11 then 3 else if k=9∨k=10 then 1 else 0
def below (k i:Int):Int:=if ((i==1&&(k==5||k==6||k==7))||(i==2&&k==11))=true then 1 else 0
def O3:Tm→Prop
 | .mk kd _ _ _ ks=>0≤kd∧kd<13∧(ks.length:Int)=arity kd
mutual
def wf (vars metas:Int):Int→Tm→Prop
 | d,.mk kd ix _ _ ks=>0≤kd∧kd<13∧(ks.length:Int)=arity kd∧(kd=0→0≤ix∧ix - d<vars)∧(kd=12→0≤ix∧ix<metas)∧Uf vars metas kd d 0 ks
def Uf (vars metas:Int):Int→Int→Nat→List Tm→Prop
 | _,_,_,[]=>True
 | kd,d,i,t::ts=>wf vars metas (d+below kd i) t∧Uf vars metas kd d (i+1) ts
end
theorem Fp {vars metas kd d:Int}:∀{ks:List Tm}{i:Nat},(∀j t,ks[j]?=some t→wf vars metas (d+below kd ((i+j:Nat):Int)) t)→Uf vars metas kd d i ks
 | [],i,_=>by simp[Uf]
 | t::ts,i,h=>by
  simp only[Uf];exact⟨by have:=h 0 t rfl;simpa using this,Fp fun j t' ht=>by have:=h (j+1) t' (by simpa using ht);rw[show i+1+j=i+(j+1) by omega];exact this⟩
theorem Bp (k i:Int):0≤below k i∧below k i≤1:=by unfold below;split<;>omega
theorem Dk {α:Type}{l:List α}{p:Nat→α→Prop}{i:Nat}{x:α}(h:∀j,j<i→∀t,l[j]?=some t→p j t) (hx:l[i]?=some x) (hp:p i x):∀j,j<i+1→∀t,l[j]?=some t→p j t:=by
 intro j hj t ht;rcases Nat.lt_or_ge j i with h' | h'
 ·exact h j h' t ht
 have e:j=i:=by omega
 subst e;rw[hx] at ht;injection ht with ht;subst ht;exact hp
end Go.Eu
namespace Go.Abs
section
variable {α:Type}
def JA (is:List Nat):Nat→List α→List α
 | _,[]=>[]
 | k,a::l=>bif is.any (Nat.beq k ·) then a::JA is (k+1) l else JA is (k+1) l
theorem IM (is:List Nat):∀(k:Nat) (l:List α),(JA is k l).Sublist l
 | _,[]=>List.Sublist.refl _
 | k,a::l=>by
  simp only[JA];cases is.any (Nat.beq k ·)
  ·exact(IM is (k+1) l).cons _
  exact(IM is (k+1) l).cons_cons _
theorem Ca {is:List Nat}{l l':List α}(h:JA is 0 l=l'):l'.Sublist l:=h▸IM is 0 l
def Df (H:List α):List Nat→List α→Prop
 | [],xs=>xs=[]
 | i::is,xs=>∃x xs',xs=x::xs'∧H[i]?=some x∧Df H is xs'
def Gn (H:List α):List Nat→List α→List α
 | i::is,x::xs=>Gn (H.set i x) is xs
 | _,_=>H
def B1 (is:List Nat):Nat→List α→List α
 | _,[]=>[]
 | k,a::l=>if k∈is then B1 is (k+1) l else a::B1 is (k+1) l
theorem JI:∀(k:Nat) (l:List α),B1 [] k l=l
 | _,[]=>rfl
 | k,a::l=>by simp[B1,JI (k+1) l]
theorem Iz {is:List Nat}{j:Nat}:∀(k:Nat) (l:List α),j<k→B1 (j::is) k l=B1 is k l
 | _,[],_=>rfl
 | k,a::l,h=>by
  have:k≠j:=by omega
  have ih:=Iz (is:=is) (j:=j) (k+1) l Ad;simp[B1,this,ih]
theorem Hd {is:List Nat}{x:α}:∀(l:List α) (k i:Nat),l[i]?=some x→(k+i) ∉ is→(B1 is k l).Perm (x::B1 ((k+i)::is) k l)
 | [],k,i,h,_=>by simp at h
 | a::l,k,0,h,hn=>by
  simp at h hn;subst h;simp[B1,hn,Iz (k+1) l (Nat.lt_succ_self k)]
 | a::l,k,i+1,h,hn=>by
  simp at h;have ih:=Hd l (k+1) i h (by rw[show k+1+i=k+(i+1) by omega];exact hn);rw[show k+1+i=k+(i+1) by omega] at ih;have hk:k≠k+(i+1):=by omega
  simp only[B1,List.mem_cons,hk,false_or];split
  ·exact ih
  exact(ih.cons a).trans (.swap _ _ _)
theorem CF {H:List α}:∀{is:List Nat}{xs:List α},is.Nodup→Df H is xs→H.Perm (xs++B1 is 0 H)
 | [],xs,_,h=>by simp only[Df] at h;subst h;simp[JI]
 | i::is,xs,hn,h=>by
  obtain⟨x,xs',rfl,hx,hr⟩:=h;have hn':=List.nodup_cons.1 hn;have ih:=CF hn'.2 hr;have:=Hd (is:=is) H 0 i hx (by simpa using hn'.1);simp only[Nat.zero_add] at this;exact ih.trans (((List.Perm.refl xs').append this).trans List.perm_middle)
theorem I8 {is:List Nat}{y:α}:∀(l:List α) (k i:Nat),(k+i)∈is→B1 is k (l.set i y)=B1 is k l
 | [],k,i,_=>by simp
 | a::l,k,0,h=>by simp at h;simp[B1,h]
 | a::l,k,i+1,h=>by
  have:=I8 (y:=y) l (k+1) i (by rw[show k+1+i=k+(i+1) by omega];exact h);simp only[List.set_cons_succ,B1,this]
theorem Ju {i:Nat}{y:α}:∀{is:List Nat}{xs H:List α},i ∉ is→Df H is xs→Df (H.set i y) is xs
 | [],xs,H,_,h=>h
 | j::is,xs,H,hn,h=>by
  obtain⟨x,xs',rfl,hx,hr⟩:=h;simp at hn;exact⟨x,xs',O,by rw[List.getElem?_set_ne hn.1];exact hx,Ju hn.2 hr⟩
theorem Lb:∀{is:List Nat}{xs xs' H:List α},is.Nodup→Df H is xs→xs'.length=xs.length→Df (Gn H is xs') is xs'∧(∀ks k,(∀i∈is,k+i∈ks)→B1 ks k (Gn H is xs')=B1 ks k H)∧∀j,j ∉ is→(Gn H is xs')[j]?=H[j]?
 | [],xs,xs',H,_,h,hl=>by
  simp only[Df] at h;subst h;have:xs'=[]:=by simpa using hl
  subst this;exact⟨O,fun _ _ _=>O,fun _ _=>O⟩
 | i::is,xs,xs',H,hn,h,hl=>by
  obtain⟨x,xr,rfl,hx,hr⟩:=h;have hn':=List.nodup_cons.1 hn;cases xs' with
  | nil=>simp at hl
  | cons y ys =>
   have hlt:i<H.length:=(List.getElem?_eq_some_iff.1 hx).1;obtain⟨h1,h2,h3⟩:=Lb (H:=H.set i y) hn'.2 (Ju hn'.1 hr) (by simpa using hl);refine⟨⟨y,ys,O,by rw[Gn,h3 i hn'.1];simp[hlt],h1⟩,fun ks k hk=>?_,fun j hj=>?_⟩
   ·rw[Gn,h2 ks k (fun q hq=>hk q (by simp[hq])),I8 _ _ _ (hk i Ae)]
   simp at hj;rw[Gn,h3 j hj.2,List.getElem?_set_ne (fun e=>hj.1 e.symm)]
theorem IT {is:List Nat}{xs xs' H:List α}(hn:is.Nodup) (h:Df H is xs) (hl:xs'.length=xs.length):(Gn H is xs').Perm (xs'++B1 is 0 H):=by
 obtain⟨h1,h2,_⟩:=Lb hn h hl;have:=CF hn h1
 rwa [h2 is 0 (fun i hi=>by simpa using hi)] at this
end
def Vz (τ:Nat→AV) (x:AV):List Nat→Prop
 | []=>True
 | t::r=>τ t=x∧Vz τ x r
theorem Cq {τ:Nat→AV}{x:AV}:∀{ts:List Nat},Vz τ x ts→∀t∈ts,τ t=x
 | [],_,t,h=>by simp at h
 | a::r,h,t,ht=>by
  rcases List.mem_cons.1 ht with rfl | ht
  ·exact h.1
  exact Cq h.2 t ht
section
variable {P:Program}{S:A9}{a T n b i:Nat}{cs:List AV}{v:AV}
theorem BD (hT:Cp P T=some (true,n)) (ha:S.τ a= .ptr b 0) (hi:S.H[i]?=some (.box b cs)) (hn:cs.length=n):UB P S (.cell a T) (.agg cs):=by
 obtain⟨d,h1,h2,h3⟩:=DN hT;exact⟨b,cs,i,ha,hi,.inl ⟨d,h1,h2,by rw[h3,hn],rfl⟩⟩
theorem Dq (hT:Cp P T=some (false,n)) (ha:S.τ a= .ptr b 0) (hi:S.H[i]?=some (.box b [v])):UB P S (.cell a T) v:=by
 obtain⟨d,h1,h2,h3⟩:=DN hT;exact⟨b,[v],i,ha,hi,.inr ⟨d,h1,h2,O⟩⟩
end
section
variable {P:Program}{dst:Option Tmp}{ty:TypeId}{pos:String}{aft:Array Edge}{g:Option (Nat×Bool)}{ρ:Operand→AV}{H Hs Hs':List Au}{x y z:Operand}{v:AV}{c:Call}{f:Operand}{fid:FuncId}{first caps A:List AV}
theorem B4.permD {o:Oper}{H H' H'':List Au}(h:CK P o ρ H v H') (hp:H'.Perm H''):CK P o ρ H v H'':=by
 intro r F S a w hs hH hρ hd;have:=h r F S a w hs hH hρ hd;refine IQ this ?_ ?_
 ·rintro a' w' ⟨v',H1,F',⟨rfl,rfl⟩,hs',ht⟩;exact⟨v',H'',F',⟨O,O⟩,⟨hs'.size,hs'.tmp,hs'.heap.perm hp,hs'.defs⟩,{ ht with keys:=fun o ho=>ht.keys o (hp.mem_iff.2 ho) }⟩
 rintro e a' w' ⟨v',H1,F',u,h,_⟩;exact h.elim
theorem CI (is:List Nat) (hc:c.callee= .value f) (hf:(ρ f= .p (.fn fid)∧first=[]∧caps=[])∨ρ f= .fn (.func fid) first caps) (h:BK P fid A Hs (GV v Hs')) (hg:Df H is Hs) (hn:is.Nodup) (hl:Hs'.length=Hs.length) (hA:first++c.args.toList.map ρ++caps=A∨(first++c.args.toList.map ρ++caps).map norm=A) :
  CK P ⟨dst,.call c,ty,pos,aft,g⟩ ρ H v (Gn H is Hs') :=
 B4.permD (Ub hc hf (CF hn hg) h hA) (IT hn hg hl).symm
theorem CZ {T T2 e e2:TypeId}{sz bytes n2 n3 c i n:Nat}{o:Option Nat}{rows rows' rows2:List (List PV)}{zv:Value}(hT:C6 P T=some (e,sz,bytes)) (hT2:C6 P T2=some (e2,n2,n3)) (hz:zeroOf P e=some zv) (hzs:zv.cells.size=sz) (hb0:(Nat.blt 0 sz&&Nat.blt 0 bytes)=true)
  (hx:ρ x= .vs o n c) (hn:n=rows.length) (hi:H[i]?=some (.vec o sz rows c)) (hy:norm (ρ y)= .p (.lst rows')) (hsol:∀r∈rows',Cd sz r) (hroom:2*(rows.length+rows'.length)*bytes≤281474976710656) (h2:rows++rows'=rows2) :
  B4 P ⟨dst,.call { callee:= .builtin .append,args:=#[x,y],argTypes:=#[T,T2] },ty,pos,aft,g⟩ ρ H (H8 i sz rows2 H):=by
 subst h2;exact PN hT hT2 hz hzs hb0 hx hn hi hy hsol hroom
theorem QH {F:Nat→Prop}{w:World}{u:Value}(h:BU F w (.p .nils) u):BU F w (.vs none 0 0) u:=by
 simp only[BU,BY] at *;exact⟨Af,Af,none,h⟩
theorem O7 {α : Type} : ∀ {us cs : List α}, us.length = cs.length → splice cs 0 us = us := by
 have key : ∀ (us : List α) (pre cs : List α), us.length = cs.length → splice (pre ++ cs) pre.length us = pre ++ us := by
  intro us
  induction us with
  | nil => intro pre cs h; have : cs = [] := by simpa using h.symm
           subst this; simp [splice]
  | cons u us ih =>
   intro pre cs h
   cases cs with
   | nil => simp at h
   | cons c cs =>
    simp only [splice]
    have := ih (pre ++ [u]) cs (by simpa using h)
    have e : (pre ++ c :: cs).set pre.length u = pre ++ [u] ++ cs := by simp
    rw [e]
    simpa using this
 intro us cs h
 exact key us [] cs h
theorem C7 {T:TypeId}{bl:Bool}{n b i:Nat}{cs us:List AV}(hT:Cp P T=some (bl,n+1)) (hx:ρ x= .ptr b 0) (hi:H[i]?=some (.box b cs)) (hy:DE (ρ y)=some us) (hn:us.length=n+1)
  (ho:cs.length=n+1) (h1:us.all one=true):CK P ⟨dst,.store T x y,ty,pos,aft,g⟩ ρ H (.p .any) (H.set i (.box b us)):=by
 have:=EB (P:=P) (dst:=dst) (ty:=ty) (pos:=pos) (aft:=aft) (g:=g) hT hx hi hy hn (by rw[ho];simp) h1
 rwa [O7 (by rw[hn,ho])] at this
theorem CC {T:TypeId}{bl:Bool}{b i j sz c:Nat}{rows rows2:List (List PV)}{us:List AV}{r:List PV}(hT:Cp P T=some (bl,sz)) (hpos:Nat.blt 0 sz=true) (hx:ρ x= .ptr b (j*sz)) (hi:H[i]?=some (.vec (some b) sz rows c)) (hj:j<rows.length) (hy:DE (ρ y)=some us) (hp:Di (us.map dn)=some r) (hrl:r.length=sz) (h1:us.all one=true) (h2:rows.set j r=rows2) :
  CK P ⟨dst,.store T x y,ty,pos,aft,g⟩ ρ H (.p .any) (H.set i (.vec (some b) sz rows2 c)):=by
 subst h2;exact LD hT hpos hx hi hj hy hp hrl h1
theorem Em {T e:TypeId}{sz bytes:Nat}{m:Int}{zs:List Value}{zv:Value}{zr:List PV}{rows2:List (List PV)}(hT:C6 P T=some (e,sz,bytes)) (hz:zeroOf P e=some zv) (hzs:zv.cells=⟨zs⟩) (hsz:zs.length=sz) (hpos:0<sz) (hp:Di ((zs.map EN).map dn)=some zr)
  (hx:ρ x= .p (.int .i64 m)) (hy:ρ y= .p (.int .i64 m)) (h0:0≤m) (hm:bytes*m≤281474976710656) (hm2:m≤9223372036854775807) (h2:List.replicate m.toNat zr=rows2) :
  B4 P ⟨dst,.makeSlice T x y,ty,pos,aft,g⟩ ρ H (GK sz rows2 H):=by
 subst h2;exact LM hT hz hzs hsz hpos hp hx hy h0 hm hm2
theorem PS {T e:TypeId}{sz bytes lo hi:Nat}{rows rows2:List (List PV)}{l h:Option Operand}(hT:C6 P T=some (e,sz,bytes)) (hx:ρ x= .p (.lst rows)) (hr:∀r∈rows,r.length=sz)
  (hl:match l with | none=>lo=0 | some y=>∃k,ρ y= .p (.int k lo)) (hh:match h with | none=>hi=rows.length | some y=>∃k,ρ y= .p (.int k hi)) (h1:lo≤hi) (h2:hi≤rows.length) (h3:(rows.take hi).drop lo=rows2) :
  CK P ⟨dst,.slice T x l h none,ty,pos,aft,g⟩ ρ H (.p (.lst rows2)) H:=by
 subst h3;exact RM hT hx hr hl hh h1 h2
end
section
variable {P:Program}{r:Option Nat}{ops:Array Oper}{Q:Bq→A9→Prop}{k:Nat}{n:Nat}{τ:Nat→AV}{H H':List Au}{D:List CN}{dst:Option Tmp}{op:Op}{ty:TypeId}{pos:String}{aft:Array Edge}{v:AV}
end
theorem leH {is:List Nat}{H H1 H':List Au}(h:JA is 0 H=H1) (w:C8 H1 H'):Vs H H':=⟨H1,Ca h,w⟩
theorem Dl {x y:AV}(h:norm x=y):Fz x y:=fun _ _ _ hr=>h▸hr.norm
theorem Cv:C8 [] []:=rfl
theorem wl {o o':Au}{l l':List Au}(h:G4 o o') (r:C8 l l'):C8 (o::l) (o'::l'):=⟨o',l',rfl,h,r⟩
theorem on {b:Nat}{cs cs':List AV}(h:cs.map dn=cs'):G4 (.box b cs) (.box b cs'):=⟨rfl,fun F w hr=>by
 obtain⟨vs,T,h1,h2⟩:=hr;exact⟨vs,T,h1,h▸FU h2⟩⟩
theorem By {n:Nat}{τ:Nat→AV}{H:List Au}{D:List CN}{i b:Nat}{cs:List AV}(hi:H[i]?=some (.box b cs)):Dz ⟨n,τ,H,D⟩ ⟨n,τ,H.set i (.box b (cs.map dn)),D⟩:=by
 intro F a w hs;refine⟨F,⟨hs.size,hs.tmp,?_,hs.defs⟩,?_⟩
 ·have hk:=DC (x':= .box b (cs.map dn)) hi rfl;refine⟨fun o ho c hc=>?_,by show List.Nodup _;rw[hk];exact hs.heap.nodup,fun o ho=>?_,hs.heap.bd⟩
  ·rcases B6 ho with rfl | ⟨j,_,hj⟩
   ·exact hs.heap.sub _ (List.mem_of_getElem? hi) c hc
   exact hs.heap.sub _ (List.mem_of_getElem? hj) c hc
  rcases B6 ho with rfl | ⟨j,_,hj⟩
  ·exact(on O).2 F w (hs.heap.obj _ (List.mem_of_getElem? hi))
  exact hs.heap.obj _ (List.mem_of_getElem? hj)
 refine { Trans.refl (F:=F) (H:=H) (w:=w) with keys:=fun o ho c hc=>?_ };rcases B6 ho with rfl | ⟨j,_,hj⟩
 ·exact .inl ⟨_,List.mem_of_getElem? hi,hc⟩
 exact .inl ⟨_,List.mem_of_getElem? hj,hc⟩
theorem ob {b:Nat}{cs cs':List AV}(h:cs=cs'):G4 (.box b cs) (.box b cs'):=oe (by rw[h])
def Wp (mkv:AV→AV) (sz:Nat) (rows:List (List PV)):CG→List Au→Prop
 | .val v,H'=>∃o c,v=mkv (.vs o rows.length c)∧H'=[.vec o sz rows c]
 | .panic _,_=>False
section
variable {P:Program}{r:Option Nat}{ops:Array Oper}{Q:Bq→A9→Prop}{k:Nat}{n:Nat}{τ:Nat→AV}{H H':List Au}{D:List CN}{dst:Option Tmp}{op:Op}{ty:TypeId}{pos:String}{aft:Array Edge}{v:AV}
theorem TT {c:Call}{f:Operand}{fid:FuncId}{first caps:List AV}{A:List AV}{mkv:AV→AV}{sz:Nat}{rows:List (List PV)}
  (ho:ops[k]?=some ⟨dst,.call c,ty,pos,aft,none⟩) (hd:De dst n=true)
  (hc:c.callee= .value f) (hf:(ev τ f= .p (.fn fid)∧first=[]∧caps=[])∨ev τ f= .fn (.func fid) first caps) (h:BK P fid A [] (Wp mkv sz rows)) (hA:first++c.args.toList.map (ev τ)++caps=A∨(first++c.args.toList.map (ev τ)++caps).map norm=A)
  (next:∀o cp,AL P r ops (k+1) ⟨n,put τ dst (mkv (.vs o rows.length cp)),.vec o sz rows cp::H,D⟩ Q):AL P r ops k ⟨n,τ,H,D⟩ Q :=
 Gj ho hd hc hf (Hs:=[]) (Hf:=H) Ae h hA (fun v H' ⟨o,cp,h1,h2⟩=>by subst h1;subst h2;exact next o cp) (fun _ _ h=>h.elim)
end
def C5:List AV→List AV→Prop
 | [],ys=>ys=[]
 | x::xs,ys=>∃y ys',ys=y::ys'∧Fz x y∧C5 xs ys'
theorem Gy:C5 [] []:=rfl
theorem aw {x y:AV}{xs ys:List AV}(h:Fz x y) (r:C5 xs ys):C5 (x::xs) (y::ys):=⟨y,ys,rfl,h,r⟩
theorem Gb {F:Nat→Prop}{w:World}:∀{xs ys:List AV}{vs:List Value},C5 xs ys→BG F w xs vs→BG F w ys vs
 | [],ys,vs,h,hr=>by simp only[C5] at h;subst h;exact hr
 | x::xs,ys,vs,h,hr=>by
  obtain⟨y,ys',rfl,h1,h2⟩:=h;simp only[BG] at hr ⊢;obtain⟨u,us,rfl,r1,r2⟩:=hr;exact⟨u,us,O,h1 F w u r1,Gb h2 r2⟩
theorem LS:Fz (.p .nils) (.vs none 0 0):=fun _ _ _ h=>QH h
theorem BK.args {P:Program}{f:FuncId}{args A:List AV}{H:List Au}{R:CG→List Au→Prop}(h:BK P f A H R) (hA:C5 args A):BK P f args H R :=
 ⟨h.1,fun F w vs hH ha=>h.2 F w vs hH (Gb hA ha)⟩
section
variable {P:Program}{r:Option Nat}{ops:Array Oper}{Q:Bq→A9→Prop}{k:Nat}{n:Nat}{τ:Nat→AV}{H Hs:List Au}{D:List CN}{dst:Option Tmp}{op:Op}{ty:TypeId}{pos:String}{aft:Array Edge}{v:AV}{c:Call}{f:Operand}{fid:FuncId}{first caps A:List AV}{R:CG→List Au→Prop}
theorem IP {S:A9}{H':List Au}(hp:S.H.Perm H'):Dz S ⟨S.n,S.τ,H',S.D⟩:=fun F a w hs =>
 ⟨F,⟨hs.size,hs.tmp,hs.heap.perm hp,hs.defs⟩,{ Trans.refl (F:=F) (H:=S.H) (w:=w) with keys:=fun o ho b hb=> .inl ⟨o,hp.mem_iff.2 ho,hb⟩ }⟩
theorem TH (is:List Nat) (ho:ops[k]?=some ⟨dst,.call c,ty,pos,aft,none⟩) (hd:De dst n=true)
  (hc:c.callee= .value f) (hf:(ev τ f= .p (.fn fid)∧first=[]∧caps=[])∨ev τ f= .fn (.func fid) first caps) (h:BK P fid A Hs R) (hg:Df H is Hs) (hn:is.Nodup) (hA:C5 (first++c.args.toList.map (ev τ)++caps) A)
  (next:∀v Hs',R (.val v) Hs'→Hs'.length=Hs.length∧AL P r ops (k+1) ⟨n,put τ dst v,Gn H is Hs',D⟩ Q) (pan:∀v Hs',R (.panic v) Hs'→Q (.panic v) ⟨n,τ,Hs'++B1 is 0 H,D⟩):AL P r ops k ⟨n,τ,H,D⟩ Q :=
 Gj ho hd hc hf (CF hn hg) (h.args hA) (.inl rfl) (fun v H' hR=>by
  obtain⟨hl,hn'⟩:=next v H' hR;exact Bv (IP (S:=⟨n,put τ dst v,H'++B1 is 0 H,D⟩) (IT hn hg hl).symm) hn') pan
theorem Ta (is:List Nat) (ho:ops[k]?=some ⟨dst,.call c,ty,pos,aft,none⟩) (hd:De dst n=true)
  (hc:c.callee= .value f) (hf:(ev τ f= .p (.fn fid)∧first=[]∧caps=[])∨ev τ f= .fn (.func fid) first caps) (h:BK P fid A Hs R) (hg:Df H is Hs) (hn:is.Nodup) (hA:C5 (first++c.args.toList.map (ev τ)++caps) A)
  (next:∀v Hs',R (.val v) Hs'→AL P r ops (k+1) ⟨n,put τ dst v,Hs'++B1 is 0 H,D⟩ Q) (pan:∀v Hs',R (.panic v) Hs'→Q (.panic v) ⟨n,τ,Hs'++B1 is 0 H,D⟩):AL P r ops k ⟨n,τ,H,D⟩ Q :=
 Gj ho hd hc hf (CF hn hg) (h.args hA) (.inl rfl) next pan
theorem KY {sz:Nat}:Dz ⟨n,τ,H,D⟩ ⟨n,τ,.vec none sz [] 0::H,D⟩:=by
 intro F a w hs;have hH:HRel F (.vec none sz [] 0::H) w:=⟨fun o ho b hb=>by
   rcases List.mem_cons.1 ho with rfl | ho
   ·cases hb
   ·exact hs.heap.sub o ho b hb,by simpa [List.filterMap_cons,Au.key] using hs.heap.nodup,fun o ho=>by
   rcases List.mem_cons.1 ho with rfl | ho
   ·exact⟨O,O⟩
   exact hs.heap.obj o ho,hs.heap.bd⟩
 exact⟨F,⟨hs.size,hs.tmp,hH,hs.defs⟩,⟨Nat.le_refl _,fun _ _ _=>O,fun _ h _=>h,fun _ h=> .inl h,fun o ho b hb=>by
   rcases List.mem_cons.1 ho with rfl | ho
   ·cases hb
   exact .inl ⟨o,ho,hb⟩,O,O,O⟩⟩
end
section
variable {P:Program}{r:Option Nat}{ops:Array Oper}{Q:Bq→A9→Prop}{k:Nat}{n:Nat}{τ:Nat→AV}{H:List Au}{D:List CN}{o:Option Nat}{sz cp i:Nat}{rows:List (List PV)}
theorem NN {F:Nat→Prop}{w:World}{a:Act}(hs:CQ F ⟨n,τ,H,D⟩ a w) (hi:H[i]?=some (.vec o sz rows cp)) (hne:0<rows.length):∃b,o=some b:=by
 have:=hs.heap.obj _ (List.mem_of_getElem? hi);cases o with
 | none=>obtain⟨h,_⟩:=this;simp[h] at hne
 | some b=>exact⟨b,rfl⟩
theorem Hh (hi:H[i]?=some (.vec o sz rows cp)) (hne:0<rows.length) (next:∀b,o=some b→AL P r ops k ⟨n,τ,H,D⟩ Q):AL P r ops k ⟨n,τ,H,D⟩ Q:=fun F a w hs=>by
 obtain⟨b,hb⟩:=NN hs hi hne;exact next b hb F a w hs
theorem Kw {c:Code}(hi:H[i]?=some (.vec o sz rows cp)) (hne:0<rows.length) (next:∀b,o=some b→EP P r c ⟨n,τ,H,D⟩ Q):EP P r c ⟨n,τ,H,D⟩ Q:=fun F a w hs=>by
 obtain⟨b,hb⟩:=NN hs hi hne;exact next b hb F a w hs
end
section
variable {P:Program}{dst:Option Tmp}{ty:TypeId}{pos:String}{aft:Array Edge}{g:Option (Nat×Bool)}{ρ:Operand→AV}{H:List Au}
theorem A8 {a:Operand}{T e:TypeId}{n n1 n2:Nat}{rows:List (List PV)}(hT:C6 P T=some (e,n1,n2)) (hx:ρ a= .p (.lst rows)) (hn:rows.length=n) :
  CK P ⟨dst,.call { callee:= .builtin .len,args:=#[a],argTypes:=#[T] },ty,pos,aft,g⟩ ρ H (.p (.int .i64 n)) H:=Fb hT (.inl ⟨rows,hx,hn⟩)
theorem GM {a:Operand}{T e:TypeId}{m n n1 n2 c:Nat}{o:Option Nat}(hT:C6 P T=some (e,n1,n2)) (hx:ρ a= .vs o m c) (hn:m=n) :
  CK P ⟨dst,.call { callee:= .builtin .len,args:=#[a],argTypes:=#[T] },ty,pos,aft,g⟩ ρ H (.p (.int .i64 n)) H:=Fb hT (.inr (.inl ⟨o,c,by rw[hx,hn]⟩))
end
section
variable {P:Program}{dst:Option Tmp}{ty:TypeId}{pos:String}{aft:Array Edge}{g:Option (Nat×Bool)}{ρ:Operand→AV}{H:List Au}{x y:Operand}
end
section
variable {P:Program}{ops:Array Oper}{n:Nat}{τ₀:Nat→AV}{D:List CN}{Q:Bq→A9→Prop}{opn:Nat→Bool}{k:Nat}{τ:Nat→AV}{H:List Au}{rd:OY}{ef:N4}{effs:List Bool}{fx:List (Nat×Sp)}{dst:Option Tmp}{ty:TypeId}{pos:String}{aft:Array Edge}{c:Call}{f:Operand}{fid:FuncId}{first caps A:List AV}{mkv:AV→AV}{sz:Nat}{rows:List (List PV)}
end
section
variable {P:Program}{dst:Option Tmp}{ty:TypeId}{pos:String}{aft:Array Edge}{g:Option (Nat×Bool)}{ρ:Operand→AV}{H Hs Hs':List Au}{v:AV}{c:Call}{f:Operand}{fid:FuncId}{first caps A:List AV}
theorem GJ (hc:c.callee= .value f) (hf:ρ f= .p (.fn fid)) (h:Dp P fid A v) (hA:C5 (c.args.toList.map ρ) A):CK P ⟨dst,.call c,ty,pos,aft,g⟩ ρ H v H:=A0 hc hf (h.args hA) rfl
end
end Go.Abs
namespace Go.Eu
open Go.Abs
structure Mv where
 type:Tm
 known:Bool
 value:Tm
 cls:Bool
 deriving Inhabited
def DD (n:Int):List PV:=[I n]
def ZW (s:ByteArray):List PV:=[.str s]
def ec (b:Bool):List PV:=[.bool b]
def Yd (m:Mv):List PV:=BA m.type++(.bool m.known::(BA m.value++[.bool m.cls]))
theorem FJ {ts:List Int}{i:Nat}{t:Int}(h:ts[i]?=some t):(ts.map DD)[i]?=some (DD t):=by simp[h]
abbrev MV (m:Mv):AV:= .agg ((Yd m).map .p)
abbrev eh (l:List Mv):AV:= .p (.lst (l.map Yd))
abbrev ei (l:List Int):AV:= .p (.lst (l.map DD))
def aO (sz:Nat) {α:Type}(f:α→List PV):Prop:=∀a,Cd sz (f a)
theorem Gg {α:Type}{sz:Nat}{f:α→List PV}(h:∀a,Cd sz (f a)) (l:List α):∀r∈l.map f,Cd sz r:=by
 intro r hr;obtain⟨a,_,rfl⟩:=List.mem_map.1 hr;exact h a
theorem Fg (t:Tm):Cd 5 (BA t):=by
 obtain⟨k,i,n,l,s⟩:=t;refine⟨O,?_⟩;intro c hc;simp[BA] at hc;rcases hc with rfl | rfl | rfl | rfl | rfl<;>simp
theorem Bu (l:List Tm):∀r∈A1 l,Cd 5 r:=by rw[DA];exact Gg Fg l
theorem Gf (l:List Int):∀r∈l.map DD,Cd 1 r:=Gg (f:=DD) (fun a=>⟨rfl,by simp[DD]⟩) l
theorem O9 (l:List Br):∀r∈l.map HK,Cd 2 r:=Gg (f:=HK) (fun a=>⟨rfl,by simp[HK]⟩) l
theorem Q0 (l:List CE):∀r∈l.map B0,Cd 2 r:=Gg (f:=B0) (fun a=>⟨rfl,by simp[B0]⟩) l
theorem CL {sz:Nat}{rows:List (List PV)}(h:∀r∈rows,Cd sz r):∀r∈rows,r.length=sz:=fun r hr=>(h r hr).1
theorem Ni (a b:List Tm):A1 a++A1 b=A1 (a++b):=by simp[DA]
theorem KO {α:Type}{f:α→List PV}(a b:List α):a.map f++b.map f=(a++b).map f:=by simp
theorem JB (l:List Tm) (j:Nat) (x:Tm):(A1 l).set j (BA x)=A1 (l.set j x):=by simp[DA,List.map_set]
theorem XU {α:Type}{f:α→List PV}(l:List α) (j:Nat) (x:α):(l.map f).set j (f x)=(l.set j x).map f:=by simp[List.map_set]
theorem Va (n:Nat) (x:Tm):List.replicate n (BA x)=A1 (List.replicate n x):=by simp[DA]
theorem WI {α:Type}{f:α→List PV}(n:Nat) (x:α):List.replicate n (f x)=(List.replicate n x).map f:=by simp
theorem Yc (l:List Tm) (lo:Nat):((A1 l).take (A1 l).length).drop lo=A1 (l.drop lo):=by rw[List.take_length];simp[DA,List.map_drop]
theorem Dg {sz:Nat}{r:List PV}(h:Cd sz r):(r.map AV.p).all one=true:=by
 simp only[List.all_eq_true];intro x hx;obtain⟨c,hc,rfl⟩:=List.mem_map.1 hx;have:=h.2 c hc;cases c<;>simp_all [one]
theorem Ed (t:Tm):((BA t).map AV.p).all one=true:=Dg (Fg t)
theorem FO (t:Tm):Di (((BA t).map AV.p).map dn)=some (BA t):=by obtain⟨k,i,n,l,s⟩:=t;rfl
end Go.Eu
namespace Go.Eu
def DT (f a:Tm):Tm:= .mk 4 0 ⟨#[]⟩ [] [f,a]
def apply (f:Tm) (xs:List Tm):Tm:=xs.foldl DT f
theorem PH {f:Tm}{xs:List Tm}{i:Nat}{x:Tm}(h:xs[i]?=some x):apply f (xs.take (i+1))=DT (apply f (xs.take i)) x:=by
 simp[apply,List.take_add_one,h]
def A3:Tm→Tm×List Tm
 | .mk k i n l [f,a]=>if k=4 then ((A3 f).1,(A3 f).2++[a]) else (.mk k i n l [f,a],[])
 | t=>(t,[])
theorem O5 {k i:Int}{n:ByteArray}{l:List CE}{ts:List Tm}(h:k≠4∨((ts.length:Nat):Int)≠2):A3 (.mk k i n l ts)=(.mk k i n l ts,[]):=by
 unfold A3;split
 ·rename_i k' i' n' l' f a e;injection e with e1 e2 e3 e4 e5;subst e1 e2 e3 e4 e5;simp at h;rw[if_neg h]
 rfl
theorem RC {k i:Int}{n:ByteArray}{l:List CE}{ts:List Tm}{x y:Tm}(h:k=4∧((ts.length:Nat):Int)=2) (hx:ts[0]?=some x) (hy:ts[1]?=some y):A3 (.mk k i n l ts)=((A3 x).1,(A3 x).2++[y]):=by
 obtain⟨rfl,h2⟩:=h
 match ts,h2,hx,hy with
 | [a,b],_,hx,hy =>
  simp at hx hy;subst hx hy;simp[A3]
theorem Fs:∀(t:Tm),size (A3 t).1+A4 (A3 t).2+(A3 t).2.length=size t
 | .mk k i n l [f,a]=>by
  unfold A3;split
  ·have:=Fs f;simp[size,A4] at this ⊢;have e:∀(xs:List Tm) (y:Tm),A4 (xs++[y])=A4 xs+size y:=by
    intro xs y
    induction xs with
    | nil=>simp[A4]
    | cons z zs ih=>simp[A4,ih];omega
   rw[e];omega
  ·simp[A4]
 | .mk k i n l []=>by simp[A3,A4]
 | .mk k i n l [_]=>by simp[A3,A4]
 | .mk k i n l (_::_::_::_)=>by simp[A3,A4]
def PM (k:Int) (xs:List Tm) (t:Tm):Tm:=xs.foldr (fun a t=> .mk k 0 ⟨#[]⟩ [] [a,t]) t
theorem sd:(∀(p:Prop) [Decidable p],(decide p=true)=p)∧(∀{p:Prop} [Decidable p],decide p=false↔¬p)∧(∀{α:Type} [BEq α] [LawfulBEq α] {a b:α},(a==b)=true↔a=b)∧(∀{α:Type} [BEq α] [LawfulBEq α] {a b:α},(a !=b)=true↔a≠b)∧(∀{α:Type} [BEq α] [LawfulBEq α] {a b:α},(a==b)=false↔a≠b)∧(∀{α:Type} [BEq α] [LawfulBEq α] {a b:α},(a !=b)=false↔a=b)∧(∀{α:Type}(a b:α),(a≠b)=¬(a=b))∧(∀{α:Type} [LT α] {x y:α},x > y↔y<x)∧(∀{α:Type} [LE α] {x y:α},x≥y↔y≤x)∧(∀(b:Bool),(¬(b=true))=(b=false))∧(∀(b:Bool),(¬(b=false))=(b=true))∧(∀(b:Bool),((!b)=true)=(b=false))∧(∀(b:Bool),((!b)=false)=(b=true))∧(∀{a b:Int},¬a<b↔b≤a)∧(∀{a b:Int},¬a≤b↔b<a) :=
 ⟨fun _=>decide_eq_true_eq,decide_eq_false_iff_not,beq_iff_eq,bne_iff_ne,beq_eq_false_iff_ne,bne_eq_false_iff_eq,ne_eq,gt_iff_lt,ge_iff_le,Bool.not_eq_true,Bool.not_eq_false,fun b=>by cases b<;>simp,fun b=>by cases b<;>simp,Int.not_lt,Int.not_le⟩
theorem se:(∀(ts:List Tm),(A1 ts).length=ts.length)∧(∀{α β:Type}{ays:List α}{f:α→β},(ays.map f).length=ays.length)∧(∀{α:Type}{n:Nat}{a:α},(List.replicate n a).length=n)∧(∀(a b:Bool),((a||b)=true)=(a=true∨b=true))∧(∀(a b:Bool),((a&&b)=true)=(a=true∧b=true))∧(∀{x y:Bool},(x||y)=false↔x=false∧y=false)∧(∀{x y:Bool},(x&&y)=false↔x=true→y=false) :=
 ⟨A2,List.length_map _,List.length_replicate,Bool.or_eq_true,Bool.and_eq_true,Bool.or_eq_false_iff,Bool.and_eq_false_imp⟩
end Go.Eu
namespace Go.Eu
open Go.Abs
def Bm (i:Int):Tm:= .mk 0 i ⟨#[]⟩ [] []
def BN:Tm:= .mk 0 0 ⟨#[]⟩ [] []
def Ew (er e:Int):Int:=if er=0 then e else er
def K2 (er i:Int):Int:=if i > 65535 then Ew er 24 else er
mutual
def JF:Tm→Int
 | .mk _ _ _ _ ks=>Sb 1 ks
def Sb:Int→List Tm→Int
 | n,[]=>n
 | n,t::ts=>Sb (wr (n+JF t)) ts
end
mutual
def Dc:Tm→Int
 | .mk _ _ _ _ ks=>wr (IF 0 ks+1)
def IF:Int→List Tm→Int
 | n,[]=>n
 | n,t::ts=>IF (max n (Dc t)) ts
end
mutual
def Bk (b fr:Int):Int→Int→Tm→Tm×Int
 | d,er,.mk k i n l ks =>
  if k=0 then
   (if i<wr (fr+d) then (.mk k i n l ks,er)
    else if wr (i+b)<wr (fr+d) then (.mk k i n l ks,Ew er 24)
    else (Bm (wr (i+b)),K2 er (wr (i+b))))
  else ((.mk k i n l (Bw b fr k d 0 er ks).1),(Bw b fr k d 0 er ks).2)
def Bw (b fr k:Int):Int→Nat→Int→List Tm→List Tm×Int
 | d,j,er,[]=>([],er)
 | d,j,er,t::ts=>((Bk b fr (d+below k j) er t).1::(Bw b fr k d (j+1) (Bk b fr (d+below k j) er t).2 ts).1,(Bw b fr k d (j+1) (Bk b fr (d+below k j) er t).2 ts).2)
end
mutual
def FF (vs:List Tm):Int→Int→Int→Tm→Tm×Int×Int
 | d,er,nd,.mk k i n l ks =>
  if nd > 4096 then (.mk k i n l ks,er,nd)
  else if k=0∧i≥d∧i - d<(vs.length:Int) then
   ((Bk d 0 0 er (vs.getD (i - d).toNat BN)).1,(Bk d 0 0 er (vs.getD (i - d).toNat BN)).2,wr (nd+JF (vs.getD (i - d).toNat BN)))
  else if k=0 then
   (if i≥d then (Bm (wr (i - vs.length)),K2 er (wr (i - vs.length)),wr (nd+1)) else (.mk k i n l ks,er,wr (nd+1)))
  else ((.mk k i n l (Je vs k d 0 er (wr (nd+1)) ks).1),(Je vs k d 0 er (wr (nd+1)) ks).2)
def Je (vs:List Tm) (k:Int):Int→Nat→Int→Int→List Tm→List Tm×Int×Int
 | d,j,er,nd,[]=>([],er,nd)
 | d,j,er,nd,t::ts=>((FF vs (d+below k j) er nd t).1::(Je vs k d (j+1) (FF vs (d+below k j) er nd t).2.1 (FF vs (d+below k j) er nd t).2.2 ts).1,
   (Je vs k d (j+1) (FF vs (d+below k j) er nd t).2.1 (FF vs (d+below k j) er nd t).2.2 ts).2)
end
def GB (t:Tm) (vs:List Tm) (d:Int):Tm×Int :=
 if (FF vs (min d 65536) 0 0 t).2.2 > 4096 then (BN,5)
 else if (FF vs (min d 65536) 0 0 t).2.1≠0 then (BN,(FF vs (min d 65536) 0 0 t).2.1)
 else if Dc (FF vs (min d 65536) 0 0 t).1 > 200 then (BN,7)
 else ((FF vs (min d 65536) 0 0 t).1,0)
structure Gw where
 steps:Int
 nodes:Int
 forms:Int
 limit:Int
 over:Bool
 deriving Inhabited
def eJ (c:Gw):List PV:=[I c.steps,I c.nodes,I c.forms,I c.limit,.bool c.over]
def Gw.form (c:Gw) (t:Tm) (e:Int):Gw :=
 { c with forms:=wr (c.forms+JF t),over:=c.over||(e !=0||decide (c.steps > c.limit)||decide (c.nodes > wr (2*c.limit))||decide (wr (c.forms+JF t) > wr (40*c.limit))||decide (JF t > 2000)||decide (Dc t > 95)) }
def Gw.sized (c:Gw) (t:Tm):Gw:={ c with over:=c.over||(decide (JF t > 2000)||decide (Dc t > 95)) }
def dF:Gw:=⟨0,0,0,1000,false⟩
end Go.Eu
namespace Go.Eu
theorem B3 {α:Type}{l:List α}{i:Nat}{x:α}(h:l[i]?=some x):l.drop i=x::l.drop (i+1):=by
 have hlt:=(List.getElem?_eq_some_iff.1 h).1;have e:l[i]=x:=(List.getElem?_eq_some_iff.1 h).2;rw[List.drop_eq_getElem_cons hlt,e]
end Go.Eu
namespace Go.Eu
open Go.Abs
theorem PD (n:Int):HD (wr n):=by
 unfold HD wr IntKind.wrap;have:IntKind.i64.min= -9223372036854775808:=rfl;have:IntKind.i64.max=9223372036854775807:=rfl;simp[IntKind.signed,IntKind.bits];omega
theorem XP (i:Int):Nd (Bm (wr i)):=by
 have:=PD i;exact⟨by decide,by decide,by simp,by decide,trivial,⟨by decide,by decide⟩,this⟩
theorem T4:Nd BN:=⟨by decide,by decide,by simp,by decide,trivial,⟨by decide,by decide⟩,⟨by decide,by decide⟩⟩
mutual
theorem LY (b fr:Int):∀(t:Tm) (d er:Int),Nd t→Nd (Bk b fr d er t).1
 | .mk k i n l ks,d,er,h=>by
  unfold Bk;split
  ·split
   ·exact h
   split
   ·exact h
   exact XP _
  simp only[Nd] at h ⊢;obtain⟨h1,h2,h3,h4,h5,h6⟩:=h;obtain⟨e1,e2⟩:=KI b fr k ks d 0 er h5;exact⟨h1,h2,h3,by rw[e1];exact h4,e2,h6⟩
theorem KI (b fr k:Int):∀(ts:List Tm) (d:Int) (j:Nat) (er:Int),IX ts→(Bw b fr k d j er ts).1.length=ts.length∧IX (Bw b fr k d j er ts).1
 | [],d,j,er,h=>by simp[Bw,IX]
 | t::ts,d,j,er,h=>by
  simp only[Bw,IX,List.length_cons] at *;have:=LY b fr t (d+below k j) er h.1;obtain⟨e1,e2⟩:=KI b fr k ts d (j+1) (Bk b fr (d+below k j) er t).2 h.2;exact⟨by rw[e1],this,e2⟩
end
theorem M9 {o:Option Nat}{c:Nat}(l:List Tm) {l':List Tm}(h:l=l'):AV.vs o (A1 l).length c= .vs o (A1 l').length c:=by rw[h]
theorem Qd {α:Type}{f:α→List PV}{o:Option Nat}{c:Nat}(l:List α) {l':List α}(h:l=l'):AV.vs o (l.map f).length c= .vs o (l'.map f).length c:=by rw[h]
theorem HB {o:Option Nat}{sz c:Nat}(l:List Tm) {l':List Tm}(h:l=l'):G4 (.vec o sz (A1 l) c) (.vec o sz (A1 l') c):=oe (by rw[h])
theorem M7 {α:Type}{f:α→List PV}{o:Option Nat}{sz c:Nat}(l:List α) {l':List α}(h:l=l'):G4 (.vec o sz (l.map f) c) (.vec o sz (l'.map f) c):=oe (by rw[h])
theorem Ef {o:Option Nat}{c:Nat}(l:List Tm) {l':List Tm}(h:l.length=l'.length):AV.vs o (A1 l).length c= .vs o (A1 l').length c:=by rw[A2,A2,h]
theorem RL {α:Type}{f:α→List PV}{o:Option Nat}{c:Nat}(l:List α) {l':List α}(h:l.length=l'.length):AV.vs o (l.map f).length c= .vs o (l'.map f).length c:=by rw[List.length_map,List.length_map,h]
mutual
def Ox:List Int→Tm→List Int
 | l,.mk k i _ _ ks=>if k=12 then (if i∈l then l else Mf (l++[i]) ks) else Mf l ks
def Mf:List Int→List Tm→List Int
 | l,[]=>l
 | l,t::ts=>Mf (Ox l t) ts
end
def eo (l:List Int) (n:Int):Bool:=decide (n∈l)
def TN (fr:Int):Nat→Nat→List Tm
 | _,0=>[]
 | m,k+1=>Bm (fr+(m+k:Nat))::TN fr m k
def Yi (n fr:Int):List Tm:=if n<1∨n > 4096∨fr<0 then [] else TN fr 0 n.toNat
def Yf:List Int→List Tm→Option (List Int)
 | l,[]=>some l
 | l,.mk k i _ _ _::ts=>if k≠0∨i∈l then none else Yf (l++[i]) ts
def eb (t:Tm):Int×List Int×Bool :=
 if (A3 t).1.kind≠12 then (0,[],false)
 else match Yf [] (A3 t).2 with
  | none=>(0,[],false)
  | some l=>((A3 t).1.index,l,true)
def dq (ms:List Mv) (ctx:List Tm) (t:Tm) (cls:Bool):List Mv×Tm×Int :=
 if ms.length≥2000 then ([],BN,6)
 else if JF (PM 6 ctx t) > 4096 then ([],BN,5)
 else if Dc (PM 6 ctx t) > 200 then ([],BN,7)
 else (ms++[⟨PM 6 ctx t,false,BN,cls⟩],apply (.mk 12 ms.length ⟨#[]⟩ [] []) (Yi ctx.length 0),0)
end Go.Eu
namespace Go.Eu
end Go.Eu
namespace Go.Eu
open Go.Abs
theorem EH {n:Int}(h:HD n):wr n=n:=Jc (k:= .i64) h.1 h.2
mutual
def Wt:Tm→Prop
 | .mk k i _ _ ks=>(ks.length:Int)=arity k∧(k=12→0≤i)∧K8 ks
def K8:List Tm→Prop
 | []=>True
 | t::ts=>Wt t∧K8 ts
end
theorem Mw:∀{ts:List Tm}{i:Nat}{t:Tm},K8 ts→ts[i]?=some t→Wt t
 | [],i,t,_,h=>by simp at h
 | a::ts,0,t,hn,h=>by simp at h;subst h;exact hn.1
 | a::ts,i+1,t,hn,h=>by simp at h;exact Mw hn.2 h
theorem HZ (a b:List Tm):A4 (a++b)=A4 a+A4 b:=by
 induction a with
 | nil=>simp[A4]
 | cons x a ih=>simp[A4,ih];omega
mutual
theorem Vu {vars metas:Int}:∀(t:Tm) (d:Int),wf vars metas d t→Wt t
 | .mk k i n l ks,d,h=>by
  simp only[wf,Wt] at *;exact⟨h.2.2.1,fun e=>(h.2.2.2.2.1 e).1,Si ks k d 0 h.2.2.2.2.2⟩
theorem Si {vars metas:Int}:∀(ts:List Tm) (k d:Int) (j:Nat),Uf vars metas k d j ts→K8 ts
 | [],k,d,j,h=>trivial
 | t::ts,k,d,j,h=>by
  simp only[Uf,K8] at *;exact⟨Vu t _ h.1,Si ts k d (j+1) h.2⟩
end
theorem XI (i:Int):Wt (Bm i):=⟨by simp[arity],by simp,trivial⟩
mutual
theorem Lu (b fr:Int):∀(t:Tm) (d er:Int),Wt t→Wt (Bk b fr d er t).1
 | .mk k i n l ks,d,er,h=>by
  unfold Bk;split
  ·split
   ·exact h
   split
   ·exact h
   exact XI _
  simp only[Wt] at h ⊢;obtain⟨e1,e2⟩:=Jr b fr k ks d 0 er h.2.2;exact⟨by rw[e1];exact h.1,h.2.1,e2⟩
theorem Jr (b fr k:Int):∀(ts:List Tm) (d:Int) (j:Nat) (er:Int),K8 ts→(Bw b fr k d j er ts).1.length=ts.length∧K8 (Bw b fr k d j er ts).1
 | [],d,j,er,h=>by simp[Bw,K8]
 | t::ts,d,j,er,h=>by
  simp only[Bw,K8,List.length_cons] at *;have:=Lu b fr t (d+below k j) er h.1;obtain⟨e1,e2⟩:=Jr b fr k ts d (j+1) (Bk b fr (d+below k j) er t).2 h.2;exact⟨by rw[e1],this,e2⟩
end
mutual
theorem JJ (b fr:Int):∀(t:Tm) (d er:Int),t.kind=0∧t.kids=[]∨Wt t→size (Bk b fr d er t).1=size t
 | .mk k i n l ks,d,er,h=>by
  unfold Bk;split
  ·rename_i hk;split
   ·rfl
   split
   ·rfl
   have:ks=[]:=by
    rcases h with h | h
    ·exact h.2
    have:=h.1;subst hk;simp[arity] at this;exact this
   subst this;simp[Bm,size,A4]
  rename_i hk;have hw:K8 ks:=by
   rcases h with h | h
   ·exact absurd h.1 hk
   exact h.2.2
  simp only[size];rw[H9 b fr k ks d 0 er hw]
theorem H9 (b fr k:Int):∀(ts:List Tm) (d:Int) (j:Nat) (er:Int),K8 ts→A4 (Bw b fr k d j er ts).1=A4 ts
 | [],d,j,er,h=>by simp[Bw]
 | t::ts,d,j,er,h=>by
  simp only[Bw,A4];rw[JJ b fr t _ _ (.inr h.1),H9 b fr k ts _ _ _ h.2]
end
def known (ms:List Mv) (t:Tm):Bool :=
 match t with
 | .mk k i _ _ _=>k==12&&(decide (i<ms.length)&&(match ms[i.toNat]? with | some m=>m.known | none=>false))
def valueOf (ms:List Mv) (i:Int):Tm:=match ms[i.toNat]? with | some m=>m.value | none=>BN
def I5 (F:Gw→Tm→Tm×Int×Gw):Gw→List Tm→List Tm×Int×Gw
 | c,[]=>([],0,c)
 | c,t::ts=>if (F c t).2.1≠0 then ([],(F c t).2.1,(F c t).2.2)
  else if (I5 F (F c t).2.2 ts).2.1≠0 then ([],(I5 F (F c t).2.2 ts).2.1,(I5 F (F c t).2.2 ts).2.2)
  else ((F c t).1::(I5 F (F c t).2.2 ts).1,0,(I5 F (F c t).2.2 ts).2.2)
def dN (l:List Tm) (q:List Tm×Int×Gw):List Tm×Int×Gw:=if q.2.1≠0 then ([],q.2.1,q.2.2) else (l++q.1,0,q.2.2)
def VW:Gw→Tm→List Tm→Gw×Tm×List Tm
 | c,v,[]=>(c,v,[])
 | c,v,a::l=>if v.kind=5∧c.over=false then VW (c.form (GB (v.kids.getD 1 BN) [a] 0).1 (GB (v.kids.getD 1 BN) [a] 0).2) (GB (v.kids.getD 1 BN) [a] 0).1 l else (c,v,a::l)
def GU:Tm→List Tm→Tm
 | .mk k i n l _,ks=> .mk k i n l ks
def F7 (ms:List Mv):Nat→List Int→Gw→Tm→Tm×Int×Gw
 | 0,ab,c,t=>(BN,11,c)
 | n+1,ab,c,t =>
  if c.over=true then (BN,11,c)
  else if known ms (A3 t).1=false then
   (let q:=I5 (F7 ms n ab) c (A3 t).1.kids
    if q.2.1≠0 then (BN,q.2.1,q.2.2)
    else
     (let r:=I5 (F7 ms n ab) q.2.2 (A3 t).2
      if r.2.1≠0 then (BN,r.2.1,r.2.2)
      else (apply (GU (A3 t).1 q.1) r.1,0,r.2.2.sized (apply (GU (A3 t).1 q.1) r.1))))
  else if (A3 t).1.index∈ab then (BN,22,c)
  else
   (let v:=F7 ms n (ab++[(A3 t).1.index]) c (valueOf ms (A3 t).1.index)
    if v.2.1≠0 then (BN,v.2.1,v.2.2)
    else
     (let r:=I5 (F7 ms n ab) (v.2.2.form v.1 0) (A3 t).2
      if r.2.1≠0 then (BN,r.2.1,r.2.2)
      else
       (let b:=VW r.2.2 v.1 r.1
        (apply b.2.1 b.2.2,0,b.1.form (apply b.2.1 b.2.2) 0))))
def free (ms:List Mv) (ab:List Int):Nat:=((List.range ms.length).filter fun i:Nat=> !decide ((i:Int)∈ab)).length
def Mb (S:Nat):Nat→Nat
 | 0=>0
 | k+1=>S*(Mb S k+2)+4096+Mb S k
def eU (S:Nat) (ms:List Mv):Prop:=∀m∈ms,Nd m.value∧Wt m.value∧size m.value≤S
structure dJ (M:Nat) (s:Nat) (r:Tm):Prop where
 nd:Nd r
 wt:Wt r
 size:size r≤s*M
theorem D5 {α:Type}{l:List α}{x:α}(h:x∈l):∃i:Nat,l[i]?=some x:=by
 obtain⟨i,hi,he⟩:=List.mem_iff_getElem.1 h;exact⟨i,by rw[List.getElem?_eq_getElem hi,he]⟩
section
variable {ms:List Mv}{n:Nat}{ab:List Int}{c:Gw}{t:Tm}{zk zi:Int}{zn:ByteArray}{zl:List CE}{zs:List Tm}
end
end Go.Eu
namespace Go.Eu
theorem Q7 {l:List Tm}{x:Tm}(h:x∈l):size x≤A4 l:=by
 obtain⟨i,hi⟩:=D5 h;exact Bg hi
def TJ (ms:List Mv) (n:Nat) (c:Gw) (t:Tm):Tm×Int×Gw :=
 ((F7 ms n [] c t).1,(F7 ms n [] c t).2.1,if (F7 ms n [] c t).2.1=0 then (F7 ms n [] c t).2.2.form (F7 ms n [] c t).1 0 else (F7 ms n [] c t).2.2)
def eQ (ms:List Mv) (n:Nat) (c:Gw) (t:Tm):List Int×Int :=
 if (TJ ms n c t).2.1=0 then (Ox [] (TJ ms n c t).1,0) else ([],(TJ ms n c t).2.1)
end Go.Eu
namespace Go.Abs
section
variable {P:Program}{r:Option Nat}{ops:Array Oper}{Q:Bq→A9→Prop}{k:Nat}{n:Nat}{τ:Nat→AV}{T:List Au}{D:List CN}{dst:Option Tmp}{op:Op}{ty:TypeId}{pos:String}{aft:Array Edge}{v:AV}{c:Call}{f:Operand}{fid:FuncId}{first caps A:List AV}{R:CG→List Au→Prop}
theorem FK {H H':List Au}(hp:H.Perm H') (h:AL P r ops k ⟨n,τ,H',D⟩ Q):AL P r ops k ⟨n,τ,H,D⟩ Q:=Bv (IP (S:=⟨n,τ,H,D⟩) hp) h
theorem Gk {c:Code}{H H':List Au}(hp:H.Perm H') (h:EP P r c ⟨n,τ,H',D⟩ Q):EP P r c ⟨n,τ,H,D⟩ Q:=BO (IP (S:=⟨n,τ,H,D⟩) hp) h
theorem RD (fr:List Au) {l:Nat}(ho:ops[k]?=some ⟨dst,.call c,ty,pos,aft,none⟩) (hd:De dst n=true)
  (hc:c.callee= .value f) (hf:ev τ f= .fn (.yield l) [] []) (h:IW P l A T R) (hA:c.args.toList.map (ev τ)=A)
  (next:∀v T',R (.val v) T'→AL P r ops (k+1) ⟨n,put τ dst v,fr++T',D⟩ Q) (pan:∀v T',R (.panic v) T'→Q (.panic v) ⟨n,τ,T'++fr,D⟩):AL P r ops k ⟨n,τ,fr++T,D⟩ Q :=
 C3 (S:=⟨n,τ,fr++T,D⟩) ho AX (D8 hd) (Qf hc hf List.perm_append_comm h hA) (fun v H' ⟨Hs',h1,h2⟩=>by subst h2;exact FK List.perm_append_comm (next v Hs' h1)) (fun v H' ⟨Hs',h1,h2⟩=>by subst h2;exact pan v Hs' h1)
theorem Ep (fr:List Au) (ho:ops[k]?=some ⟨dst,.call c,ty,pos,aft,none⟩) (hd:De dst n=true)
  (hc:c.callee= .value f) (hf:(ev τ f= .p (.fn fid)∧first=[]∧caps=[])∨ev τ f= .fn (.func fid) first caps) (h:BK P fid A T R) (hA:C5 (first++c.args.toList.map (ev τ)++caps) A)
  (next:∀v T',R (.val v) T'→AL P r ops (k+1) ⟨n,put τ dst v,fr++T',D⟩ Q) (pan:∀v T',R (.panic v) T'→Q (.panic v) ⟨n,τ,T'++fr,D⟩):AL P r ops k ⟨n,τ,fr++T,D⟩ Q :=
 Gj ho hd hc hf List.perm_append_comm (h.args hA) (.inl rfl) (fun v H' h1=>FK List.perm_append_comm (next v H' h1)) pan
end
theorem C8.append:∀{l l':List Au}{T:List Au},C8 l l'→C8 (l++T) (l'++T)
 | [],l',T,h=>by simp only[C8] at h;subst h;exact C8.refl T
 | o::l,l',T,h=>by
  obtain⟨o',r',rfl,h1,h2⟩:=h;exact⟨o',r'++T,O,h1,C8.append h2⟩
theorem Od (is:List Nat) (l:List Au) {l1 l' T:List Au}(h:JA is 0 l=l1) (w:C8 l1 l'):Vs (l++T) (l'++T):=⟨l1++T,(Ca h).append_right T,w.append⟩
theorem Cu (is:List Nat) (l:List Au) {l1 T:List Au}(h:JA is 0 l=l1):(l1++T).Sublist (l++T):=(Ca h).append_right T
def dg (b:Bool) (H':List Au):CG→List Au→Prop
 | .val v,H''=>v= .p (.bool b)∧H''=H'
 | .panic _,_=>False
theorem Dx {n:Nat}{τ:Nat→AV}{H:List Au}{D:List CN}{t:Nat}{x:AV}(h:τ t=x):Dz ⟨n,τ,H,D⟩ ⟨n,put τ (some t) x,H,D⟩:=Kh fun _ _ _ hr=>h▸hr
section
variable {P:Program}{dst:Option Tmp}{ty:TypeId}{pos:String}{aft:Array Edge}{g:Option (Nat×Bool)}{ρ:Operand→AV}{H:List Au}{x y:Operand}
theorem Ps {e:TypeId}{bl:Bool}{sz:Nat}(ht:Cp P e=some (bl,sz)):∃inf,P.info? e=some inf∧inf.size=sz:=by
 obtain⟨d,_,_,h⟩:=DN ht;cases hi:P.info? e with
 | none=>simp[hi] at h
 | some inf=>simp[hi] at h;exact⟨inf,rfl,h⟩
theorem KG {T e:TypeId}{bl:Bool}{len sz b o:Nat}{k:IntKind}{i:Int}(hu:P.underlying T=some (.array len e)) (ht:Cp P e=some (bl,sz)) (hx:ρ x= .ptr b o) (hy:ρ y= .p (.int k i)) (h0:0≤i) (hn:i<len) :
  CK P ⟨dst,.indexAddr T x y,ty,pos,aft,g⟩ ρ H (.ptr b (o+i.toNat*sz)) H:=by
 obtain⟨inf,h1,h2⟩:=Ps ht;exact LI hu h1 h2 hx hy h0 hn
theorem KF {T e:TypeId}{bl:Bool}{len sz:Nat}{parts:Array (Nat×Operand)}{z:Value}{cs:List AV}(hu:P.underlying T=some (.array len e)) (ht:Cp P e=some (bl,sz)) (hz:zeroOf P T=some z)
  (hc:E0 (fun i=>some (i*sz,sz)) (z.cells.toList.map EN) (parts.toList.map fun p=>(p.1,ρ p.2))=some cs):CK P ⟨dst,.build T parts,ty,pos,aft,g⟩ ρ H (.agg cs) H:=by
 obtain⟨inf,h1,h2⟩:=Ps ht;subst h2;exact LO hu h1 hz hc
end
theorem Oh {P:Program}{g:Operand}{ps:Array Tmp}{assign body:Code}{S:A9}{Q:Bq→A9→Prop}{fid:FuncId}{first caps:List AV}
  (hg:(ev S.τ g= .p (.fn fid)∧first=[]∧caps=[])∨ev S.τ g= .fn (.func fid) first caps)
  (h:∀d l (L:KR),L=⟨.ready,none,S.n,S.τ,ps,assign,body⟩→∃Hs Hf,(Au.loop l L:: .dfr d::S.H).Perm (Hs++Hf) ∧
   BK P fid (first++[.fn (.yield l) [] []]++caps) Hs (fun r H'=>TS P l d S Q r (H'++Hf))) :
  EP P none (.rangeFunc g ps assign body) S Q:=Qu hg fun d l=>h d l _ rfl
def eR (H':List Au):CG→List Au→Prop
 | .val v,H''=>v= .tup []∧H''=H'
 | .panic _,_=>False
def Rl (v:AV) (C:List Au→Prop):CG→List Au→Prop
 | .val v',H'=>v'=v∧C H'
 | .panic _,_=>False
section
variable {P:Program}{n:Nat}{τ:Nat→AV}{H:List Au}{D:List CN}
theorem SF {b:Nat}{cs cs':List AV}(h:C5 cs cs'):G4 (.box b cs) (.box b cs'):=⟨rfl,fun F w hr=>by
 obtain⟨vs,T,h1,h2⟩:=hr;exact⟨vs,T,h1,Gb h h2⟩⟩
theorem C9 {i:Nat}{o o':Au}(hi:H[i]?=some o) (hw:G4 o o'):Dz ⟨n,τ,H,D⟩ ⟨n,τ,H.set i o',D⟩:=by
 intro F a w hs;refine⟨F,⟨hs.size,hs.tmp,?_,hs.defs⟩,?_⟩
 ·have hk:=DC (x':=o') hi hw.1;refine⟨fun x hx c hc=>?_,by show List.Nodup _;rw[hk];exact hs.heap.nodup,fun x hx=>?_,hs.heap.bd⟩
  ·rcases B6 hx with rfl | ⟨j,_,hj⟩
   ·exact hs.heap.sub _ (List.mem_of_getElem? hi) c (by rw[←hw.1];exact hc)
   exact hs.heap.sub _ (List.mem_of_getElem? hj) c hc
  rcases B6 hx with rfl | ⟨j,_,hj⟩
  ·exact hw.2 F w (hs.heap.obj _ (List.mem_of_getElem? hi))
  exact hs.heap.obj _ (List.mem_of_getElem? hj)
 refine { Trans.refl (F:=F) (H:=H) (w:=w) with keys:=fun x hx c hc=>?_ };rcases B6 hx with rfl | ⟨j,_,hj⟩
 ·exact .inl ⟨_,List.mem_of_getElem? hi,by rw[←hw.1];exact hc⟩
 exact .inl ⟨_,List.mem_of_getElem? hj,hc⟩
end
section
variable {P:Program}{dst:Option Tmp}{ty:TypeId}{pos:String}{aft:Array Edge}{g:Option (Nat×Bool)}{ρ:Operand→AV}{H:List Au}{x y:Operand}
end
section
variable {P:Program}{dst:Option Tmp}{ty:TypeId}{pos:String}{aft:Array Edge}{g:Option (Nat×Bool)}{ρ:Operand→AV}{H:List Au}{x y:Operand}
end
section
variable {P:Program}{dst:Option Tmp}{ty:TypeId}{pos:String}{aft:Array Edge}{g:Option (Nat×Bool)}{ρ:Operand→AV}{H:List Au}{x y:Operand}
end
section
variable {P:Program}{r:Option Nat}{ops:Array Oper}{Q:Bq→A9→Prop}{k:Nat}{n:Nat}{τ:Nat→AV}{H:List Au}{D:List CN}{dst:Option Tmp}{ty:TypeId}{pos:String}{aft:Array Edge}{v:AV}{c:Call}{f:Operand}{fid:FuncId}{first caps A:List AV}
theorem Kk (ho:ops[k]?=some ⟨dst,.call c,ty,pos,aft,none⟩) (hd:De dst n=true) (hc:c.callee= .value f) (hf:(ev τ f= .p (.fn fid)∧first=[]∧caps=[])∨ev τ f= .fn (.func fid) first caps) (h:BK P fid A [] (M1 v [])) (hA:C5 (first++c.args.toList.map (ev τ)++caps) A) (pan:Q (.panic v) ⟨n,τ,H,D⟩):AL P r ops k ⟨n,τ,H,D⟩ Q :=
 Gj ho hd hc hf (Hs:=[]) (Hf:=H) Ae (h.args hA) (.inl rfl) (fun _ _ h=>h.elim) (fun v' H' ⟨h1,h2⟩=>by subst h1;subst h2;exact pan)
end
end Go.Abs
namespace Go.Eu
open Go.Abs
def Ev (k:Int):Int:=if k=5∨k=6∨k=7 then 1 else if k=11 then 2 else -1
theorem Nv {k:Int}{i:Int}(h:i=Ev k) (hi:0≤i):below k i=1:=by
 unfold Ev at h;unfold below;split at h
 ·rename_i hk;subst h;rcases hk with rfl | rfl | rfl<;>simp
 split at h
 ·rename_i hk;subst h;subst hk;simp
 omega
theorem LZ {k:Int}{i:Int}(h:i≠Ev k):below k i=0:=by
 unfold Ev at h;unfold below;rw[if_neg];simp only[Bool.or_eq_true,Bool.and_eq_true,beq_iff_eq];intro hc;apply h;rcases hc with ⟨h1,h2⟩ | ⟨h1,h2⟩
 ·rw[if_pos (by rcases h2 with (h | h) | h<;>simp[h]),h1]
 rw[if_neg Ad,if_pos h2,h1]
theorem NM {k:Int}(h:¬(0≤k∧k<13)):Ev k= -1:=by
 unfold Ev;rw[if_neg Ad,if_neg Ad]
section
variable {σ:Type}
mutual
def CT (st:σ→Int→Tm→σ×Bool):Tm→Int→σ→σ×Bool
 | .mk k i n l ks,d,s=>if (st s d (.mk k i n l ks)).2=false then ((st s d (.mk k i n l ks)).1,false) else CY st k d 0 (st s d (.mk k i n l ks)).1 ks
def CY (st:σ→Int→Tm→σ×Bool) (k d:Int):Nat→σ→List Tm→σ×Bool
 | _,s,[]=>(s,true)
 | j,s,t::ts=>if (CT st t (d+below k j) s).2=false then ((CT st t (d+below k j) s).1,false) else CY st k d (j+1) (CT st t (d+below k j) s).1 ts
end
end
def Iu (ix nm:Bool) (lv ks bl:Int):List AV:=[.p (.bool ix),.p (.bool nm),.p (I lv),.p (I ks),.p (I bl)]
def Ix:List AV:=[Iu true false 0 0 (-1),Iu false false 0 0 (-1),Iu false false 1 0 (-1),Iu false true (-1) 0 (-1),Iu false false 0 2 (-1),Iu false false 0 2 1,Iu false false 0 2 1,Iu false false 0 2 1,Iu false false 0 3 (-1),Iu false false 0 1 (-1),Iu false false 0 1 (-1),Iu false false 0 3 2,Iu true false 0 0 (-1)].flatten
theorem SE {k:Int}(h:0≤k∧k<13):Ix[0+k.toNat*5+4]?=some (.p (I (Ev k))):=by
 have:k=0∨k=1∨k=2∨k=3∨k=4∨k=5∨k=6∨k=7∨k=8∨k=9∨k=10∨k=11∨k=12:=by omega
 rcases this with rfl | rfl | rfl | rfl | rfl | rfl | rfl | rfl | rfl | rfl | rfl | rfl | rfl<;>rfl
section
variable {σ:Type}{st:σ→Int→Tm→σ×Bool}{Inv:Nat→σ→Prop}
theorem N3 {t:Tm}{d:Int}{s:σ}(h:(st s d t).2=false):CT st t d s=((st s d t).1,false):=by
 obtain⟨k,i,n,l,ks⟩:=t;rw[CT,if_pos h]
theorem D0 {k i:Int}{n:ByteArray}{l:List CE}{ks:List Tm}{d:Int}{s:σ}(h:(st s d (.mk k i n l ks)).2=true):CT st (.mk k i n l ks) d s=CY st k d 0 (st s d (.mk k i n l ks)).1 ks:=by
 rw[CT,if_neg (by simp[h])]
theorem ES {k d:Int}{ts:List Tm}{i:Nat}{x:Tm}{s:σ}(hx:ts[i]?=some x) (h:(CT st x (d+below k i) s).2=false):CY st k d i s (ts.drop i)=((CT st x (d+below k i) s).1,false):=by
 rw[B3 hx,CY,if_pos h]
theorem Fm {k d:Int}{ts:List Tm}{i:Nat}{x:Tm}{s:σ}(hx:ts[i]?=some x) (h:(CT st x (d+below k i) s).2=true):CY st k d i s (ts.drop i)=CY st k d (i+1) (CT st x (d+below k i) s).1 (ts.drop (i+1)):=by
 rw[B3 hx,CY,if_neg (by simp[h])]
mutual
theorem El (hI:∀m s d t,Inv (m+1) s→Inv m (st s d t).1):∀(t:Tm) (d:Int) (s:σ) (m:Nat),Inv (m+size t) s→(CT st t d s).2=true→Inv m (CT st t d s).1
 | .mk k i n l ks,d,s,m,h,hv=>by
  rw[size,show m+(1+A4 ks)=(m+A4 ks)+1 by omega] at h;have h1:=hI _ _ d (.mk k i n l ks) h;rw[CT] at hv ⊢;split at hv
  ·cases hv
  rename_i hc;rw[if_neg hc];exact I3 hI ks k d 0 _ m h1 hv
theorem I3 (hI:∀m s d t,Inv (m+1) s→Inv m (st s d t).1):∀(ts:List Tm) (k d:Int) (j:Nat) (s:σ) (m:Nat),Inv (m+A4 ts) s→(CY st k d j s ts).2=true→Inv m (CY st k d j s ts).1
 | [],k,d,j,s,m,h,hv=>by simpa [CY,A4] using h
 | t::ts,k,d,j,s,m,h,hv=>by
  rw[A4,show m+(size t+A4 ts)=(m+A4 ts)+size t by omega] at h;rw[CY] at hv ⊢;split at hv
  ·cases hv
  rename_i hc;rw[if_neg hc];have:=El hI t (d+below k j) s _ h (by simpa using hc);exact I3 hI ts k d (j+1) _ m this hv
end
end
def Oq (s:Int) (d:Int) (t:Tm):Int×Bool:=(wr (s+1),true)
mutual
theorem N2 (B:Int) (hB:B≤4611686018427387904):∀(t:Tm) (d s:Int),0≤s→s+size t<B→CT Oq t d s=(s+size t,true)
 | .mk k i n l ks,d,s,h0,h=>by
  rw[size] at h ⊢;rw[D0 rfl];simp only[Oq];rw[EH ⟨by omega,by omega⟩,L8 B hB ks k d 0 (s+1) Ad Ad];congr 1;omega
theorem L8 (B:Int) (hB:B≤4611686018427387904):∀(ts:List Tm) (k d:Int) (j:Nat) (s:Int),0≤s→s+A4 ts<B→CY Oq k d j s ts=(s+A4 ts,true)
 | [],k,d,j,s,h0,h=>by simp[CY,A4]
 | t::ts,k,d,j,s,h0,h=>by
  rw[A4] at h ⊢;rw[CY,N2 B hB t _ s h0 Ad];simp only;rw[if_neg Ae,L8 B hB ts k d (j+1) (s+size t) Ad Ad];congr 1;omega
end
def eV (s:List Int) (d:Int):Tm→List Int×Bool
 | .mk k i _ _ _=>(if k=12∧i ∉ s then s++[i] else s,true)
def ew (s:List Int):List (Int×AV):=s.map fun i=>(i,.p (.bool true))
def Ng (xs ys:List Tm) (i:Nat):Prop:=ys.length=xs.length∧∀k,k<xs.length→ys[k]?=if k<i∨xs.length - 1 - k<i then xs[xs.length - 1 - k]? else xs[k]?
theorem Of (xs:List Tm):Ng xs xs 0:=⟨rfl,fun k hk=>by rw[if_neg Ad]⟩
theorem Og {xs ys:List Tm}{i:Nat}{a b:Tm}(h:Ng xs ys i) (hi:i<xs.length - 1 - i) (ha:ys[i]?=some a) (hb:ys[xs.length - 1 - i]?=some b):Ng xs ((ys.set i b).set (xs.length - 1 - i) a) (i+1):=by
 obtain⟨hl,h⟩:=h;refine⟨by simp[hl],fun k hk=>?_⟩;have e1:=h i Ad;rw[if_neg Ad,ha] at e1;have e2:=h (xs.length - 1 - i) Ad;rw[if_neg Ad,hb] at e2;by_cases k1:k=xs.length - 1 - i
 ·subst k1;rw[if_pos Ad,List.getElem?_set_self AY,e1];congr 1;omega
 rw[List.getElem?_set_ne (fun e=>k1 e.symm)];by_cases k2:k=i
 ·subst k2;rw[if_pos Ad,List.getElem?_set_self Ad,e2]
 rw[List.getElem?_set_ne (fun e=>k2 e.symm),h k hk];by_cases k3:k<i∨xs.length - 1 - k<i
 ·rw[if_pos k3,if_pos Ad]
 rw[if_neg k3,if_neg Ad]
theorem Ov {xs ys:List Tm}{i:Nat}(h:Ng xs ys i) (hi:xs.length - 1 - i≤i):ys=xs.reverse:=by
 obtain⟨hl,h⟩:=h;apply List.ext_getElem?;intro k;by_cases hk:k<xs.length
 ·rw[h k hk,List.getElem?_reverse hk];by_cases k3:k<i∨xs.length - 1 - k<i
  ·rw[if_pos k3]
  rw[if_neg k3];congr 1;omega
 rw[List.getElem?_eq_none Ad,List.getElem?_eq_none AY]
def dO (f:Int) (n i:Nat):List Tm:=(TN f 0 n).take i++List.replicate (n - i) BN
def Wj (t:Tm):Bool:=decide ((size t:Int) > 4096)||decide (Dc t > 200)
def dx {σ:Type}(st:σ→Int→Tm→σ) (xs:List Tm):Nat→σ→σ
 | 0,s=>s
 | m+1,s=>dx st xs m (st s m (xs.getD m BN))
def aF (k:Int) (t:Tm) (i:Int) (a:Tm):Tm:= .mk k 0 ⟨#[]⟩ [] [a,t]
end Go.Eu
namespace Go.Abs
def PJ (mkv:Nat→AV) (cs:List AV):CG→List Au→Prop
 | .val v,H'=>∃b,v=mkv b∧H'=[.box b cs]
 | .panic _,_=>False
section
variable {P:Program}{ops:Array Oper}{n:Nat}{τ₀ τ:Nat→AV}{D:List CN}{Q:Bq→A9→Prop}{opn:Nat→Bool}{k:Nat}{H:List Au}{dst:Option Tmp}{ty:TypeId}{pos:String}{aft:Array Edge}{c:Call}{f:Operand}{fid:FuncId}{first caps A:List AV}{mkv:Nat→AV}{cs:List AV}
theorem ID {rd ef effs fx}(fx':List (Nat×Sp)) (ho:ops[k]?=some ⟨dst,.call c,ty,pos,aft,none⟩) (hn:opn k=true)
  (hc:c.callee= .value f) (hf:(ev τ f= .p (.fn fid)∧first=[]∧caps=[])∨ev τ f= .fn (.func fid) first caps) (h:BK P fid A [] (PJ mkv cs)) (hA:first++c.args.toList.map (ev τ)++caps=A∨(first++c.args.toList.map (ev τ)++caps).map norm=A) (haft:Ck ops k (fx'.map (·.1))=true)
  (next:∀b,FH ops k H (.box b cs::H) rd∧Dy k (.eff (mkv b) (.box b cs::H)) fx∧Dr P ops n τ₀ D Q opn (k+1) (put τ dst (mkv b)) (.box b cs::H) rd ((k,H,.box b cs::H)::ef) (true::effs) (fx'++fx)):Dr P ops n τ₀ D Q opn k τ H rd ef effs fx :=
 Ge fx' ho hn (Dw (H:=H) (Hs:=[]) (Hf:=H) hc hf Ae h hA) haft ⟨_,_,_,⟨0,rfl,rfl⟩,rfl⟩ (fun v H' ⟨_,h,_⟩=>h.elim) (fun v H' ⟨Hs',⟨b,h1,h2⟩,h3⟩=>by subst h1;subst h2;subst h3;exact next b)
theorem QA {r:Option Nat}(ho:ops[k]?=some ⟨dst,.call c,ty,pos,aft,none⟩) (hd:De dst n=true)
  (hc:c.callee= .value f) (hf:(ev τ f= .p (.fn fid)∧first=[]∧caps=[])∨ev τ f= .fn (.func fid) first caps) (h:BK P fid A [] (PJ mkv cs)) (hA:C5 (first++c.args.toList.map (ev τ)++caps) A)
  (next:∀b,AL P r ops (k+1) ⟨n,put τ dst (mkv b),.box b cs::H,D⟩ Q):AL P r ops k ⟨n,τ,H,D⟩ Q :=
 Gj ho hd hc hf (Hs:=[]) (Hf:=H) Ae (h.args hA) (.inl rfl) (fun v Hs' ⟨b,h1,h2⟩=>by subst h1;subst h2;exact next b) (fun _ _ h=>h.elim)
end
def OZ {α:Type}(mkv:α→AV) (mkp:Int→AV) (C:α→List Au→Prop) (x:Except Int α):CG→List Au→Prop
 | .val v,H'=>∃a,x= .ok a∧v=mkv a∧C a H'
 | .panic v,_=>∃e,x= .error e∧v=mkp e
theorem B4.permR {P:Program}{ρ:Operand→AV}{o:Oper}{H:List Au}{R R':CG→List Au→Prop}(h:B4 P o ρ H R) (hp:∀r H1,R r H1→∃H2,H1.Perm H2∧R' r H2):B4 P o ρ H R':=by
 intro r F S a w hs hH hρ hd;have:=h r F S a w hs hH hρ hd;refine IQ this ?_ ?_
 ·rintro a' w' ⟨v',H1,F',hR,hs',ht⟩;obtain⟨H2,hp,hR'⟩:=hp _ _ hR;exact⟨v',H2,F',hR',⟨hs'.size,hs'.tmp,hs'.heap.perm hp,hs'.defs⟩,{ ht with keys:=fun o ho=>ht.keys o (hp.mem_iff.2 ho) }⟩
 rintro e a' w' ⟨v',H1,F',u,hR,h1,h2,hs',ht⟩;obtain⟨H2,hp,hR'⟩:=hp _ _ hR;exact⟨v',H2,F',u,hR',h1,h2,⟨hs'.size,hs'.tmp,hs'.heap.perm hp,hs'.defs⟩,{ ht with keys:=fun o ho=>ht.keys o (hp.mem_iff.2 ho) }⟩
section
variable {P:Program}{ops:Array Oper}{n:Nat}{τ₀ τ:Nat→AV}{D:List CN}{Q:Bq→A9→Prop}{opn:Nat→Bool}{k:Nat}{T:List Au}{dst:Option Tmp}{ty:TypeId}{pos:String}{aft:Array Edge}{c:Call}{f:Operand}{fid:FuncId}{first caps A:List AV}
 {α:Type} {mkv:α→AV} {mkp:Int→AV} {C:α→List Au→Prop} {x:Except Int α}
theorem VP {r:Option Nat}(fr:List Au) (ho:ops[k]?=some ⟨dst,.call c,ty,pos,aft,none⟩) (hd:De dst n=true)
  (hc:c.callee= .value f) (hf:(ev τ f= .p (.fn fid)∧first=[]∧caps=[])∨ev τ f= .fn (.func fid) first caps) (h:BK P fid A T (OZ mkv mkp C x)) (hA:C5 (first++c.args.toList.map (ev τ)++caps) A)
  (next:∀a T',x= .ok a→C a T'→AL P r ops (k+1) ⟨n,put τ dst (mkv a),fr++T',D⟩ Q) (pan:∀e T',x= .error e→Q (.panic (mkp e)) ⟨n,τ,T'++fr,D⟩):AL P r ops k ⟨n,τ,fr++T,D⟩ Q :=
 Ep fr ho hd hc hf h hA (fun v T' ⟨a,h1,h2,h3⟩=>by subst h2;exact next a T' h1 h3) (fun v T' ⟨e,h1,h2⟩=>by subst h2;exact pan e T' h1)
theorem ZM {rd ef effs fx}(fr:List Au) (ho:ops[k]?=some ⟨dst,.call c,ty,pos,aft,none⟩) (hn:opn k=true)
  (hc:c.callee= .value f) (hf:(ev τ f= .p (.fn fid)∧first=[]∧caps=[])∨ev τ f= .fn (.func fid) first caps) (h:BK P fid A T (OZ mkv mkp C x)) (hA:C5 (first++c.args.toList.map (ev τ)++caps) A) (haft:Ck ops k []=true) (chk:Ip ops n (true::effs).reverse=true) (hfx:HC k fx=true) (owe:FH ops k (fr++T) (fr++T) rd)
  (next:∀a T',x= .ok a→C a T'→FH ops k (fr++T) (fr++T') rd∧Dy k (.eff (mkv a) (fr++T')) fx∧Dr P ops n τ₀ D Q opn (k+1) (put τ dst (mkv a)) (fr++T') rd ((k,fr++T,fr++T')::ef) (true::effs) fx)
  (pan:∀e,x= .error e→∀τ' T',(∀t,(∀(k:Nat) o,ops[k]?=some o→o.dst≠some t)→τ' t=τ₀ t)→Q (.panic (mkp e)) ⟨n,τ',T'++fr,D⟩):Dr P ops n τ₀ D Q opn k τ (fr++T) rd ef effs fx:=by
 have hop:B4 P ⟨dst,.call c,ty,pos,aft,none⟩ (ev τ) (fr++T) (fun r H'=>∃T',OZ mkv mkp C x r T'∧(match r with | .val _=>H'=fr++T' | .panic _=>H'=T'++fr)):=by
  refine B4.permR (Dw (H:=fr++T) (Hs:=T) (Hf:=fr) hc hf List.perm_append_comm (h.args hA) (.inl O)) ?_;rintro r H1 ⟨T',hR,rfl⟩;cases r with
  | val v=>exact⟨fr++T',List.perm_append_comm,T',hR,rfl⟩
  | panic v=>exact⟨T'++fr,List.Perm.refl _,T',hR,rfl⟩
 by_cases hx:∃a T',x= .ok a∧C a T'
 ·obtain⟨a,T',hx,hC⟩:=hx;refine Dr.opn _ [] ho hn Af hop haft ⟨mkv a,_,T',⟨a,hx,O,hC⟩,O⟩ ?_ ?_ ?_ ?_
  ·rintro v H' ⟨T',⟨a',h1,h2,h3⟩,rfl⟩;exact(next a' T' h1 h3).1
  ·rintro v H' ⟨T',⟨a',h1,h2,h3⟩,rfl⟩;subst h2;exact(next a' T' h1 h3).2.1
  ·rintro v H' ⟨T',⟨a',h1,h2,h3⟩,rfl⟩;subst h2;exact(next a' T' h1 h3).2.2
  rintro v H' ⟨T',⟨e,h1,h2⟩,rfl⟩ τ' hτ;subst h2;exact pan e h1 τ' T' hτ
 refine Dr.pan _ ho hn Af hop haft chk hfx ?_ owe ?_
 ·rintro v H' ⟨T',⟨a',h1,h2,h3⟩,rfl⟩;exact hx ⟨a',T',h1,h3⟩
 rintro v H' ⟨T',⟨e,h1,h2⟩,rfl⟩ τ' hτ;subst h2;exact pan e h1 τ' T' hτ
end
section
variable {P:Program}{ops:Array Oper}{n:Nat}{τ₀ τ:Nat→AV}{D:List CN}{Q:Bq→A9→Prop}{opn:Nat→Bool}{k:Nat}{H Hs:List Au}{dst:Option Tmp}{ty:TypeId}{pos:String}{aft:Array Edge}{c:Call}{f:Operand}{fid:FuncId}{first caps A:List AV}
 {α:Type} {mkv:α→AV} {mkp:Int→AV} {C:α→List Au→Prop} {x:Except Int α}
theorem KL {r:Option Nat}(is:List Nat) (ho:ops[k]?=some ⟨dst,.call c,ty,pos,aft,none⟩) (hd:De dst n=true)
  (hc:c.callee= .value f) (hf:(ev τ f= .p (.fn fid)∧first=[]∧caps=[])∨ev τ f= .fn (.func fid) first caps) (h:BK P fid A Hs (OZ mkv mkp C x)) (hg:Df H is Hs) (hn:is.Nodup) (hA:C5 (first++c.args.toList.map (ev τ)++caps) A)
  (hl:∀a T',C a T'→T'.length=Hs.length)
  (next:∀a T',x= .ok a→C a T'→AL P r ops (k+1) ⟨n,put τ dst (mkv a),Gn H is T',D⟩ Q) (pan:∀e H',x= .error e→Q (.panic (mkp e)) ⟨n,τ,H'++B1 is 0 H,D⟩):AL P r ops k ⟨n,τ,H,D⟩ Q :=
 TH is ho hd hc hf h hg hn hA (fun v T' ⟨a,h1,h2,h3⟩=>by subst h2;exact⟨hl a T' h3,next a T' h1 h3⟩) (fun v T' ⟨e,h1,h2⟩=>by subst h2;exact pan e T' h1)
theorem ML {rd ef effs fx}(is:List Nat) (ho:ops[k]?=some ⟨dst,.call c,ty,pos,aft,none⟩) (hn:opn k=true)
  (hc:c.callee= .value f) (hf:(ev τ f= .p (.fn fid)∧first=[]∧caps=[])∨ev τ f= .fn (.func fid) first caps) (h:BK P fid A Hs (OZ mkv mkp C x)) (hg:Df H is Hs) (hnd:is.Nodup) (hA:C5 (first++c.args.toList.map (ev τ)++caps) A)
  (hl:∀a T',C a T'→T'.length=Hs.length) (haft:Ck ops k []=true) (chk:Ip ops n (true::effs).reverse=true) (hfx:HC k fx=true) (owe:FH ops k H H rd)
  (next:∀a T',x= .ok a→C a T'→FH ops k H (Gn H is T') rd∧Dy k (.eff (mkv a) (Gn H is T')) fx∧Dr P ops n τ₀ D Q opn (k+1) (put τ dst (mkv a)) (Gn H is T') rd ((k,H,Gn H is T')::ef) (true::effs) fx)
  (pan:∀e,x= .error e→∀τ' H',(∀t,(∀(k:Nat) o,ops[k]?=some o→o.dst≠some t)→τ' t=τ₀ t)→Q (.panic (mkp e)) ⟨n,τ',H'++B1 is 0 H,D⟩):Dr P ops n τ₀ D Q opn k τ H rd ef effs fx:=by
 have hop:B4 P ⟨dst,.call c,ty,pos,aft,none⟩ (ev τ) H (fun r H'=>∃T',OZ mkv mkp C x r T'∧(match r with | .val _=>H'=Gn H is T' | .panic _=>H'=T'++B1 is 0 H)):=by
  refine B4.permR (Dw hc hf (CF hnd hg) (h.args hA) (.inl O)) ?_;rintro r H1 ⟨T',hR,rfl⟩;cases r with
  | val v=>obtain⟨a,h1,h2,h3⟩:=hR;exact⟨_,(IT hnd hg (hl a T' h3)).symm,T',⟨a,h1,h2,h3⟩,rfl⟩
  | panic v=>exact⟨_,List.Perm.refl _,T',hR,rfl⟩
 by_cases hx:∃a T',x= .ok a∧C a T'
 ·obtain⟨a,T',hx,hC⟩:=hx;refine Dr.opn _ [] ho hn Af hop haft ⟨mkv a,_,T',⟨a,hx,O,hC⟩,O⟩ ?_ ?_ ?_ ?_
  ·rintro v H' ⟨T',⟨a',h1,h2,h3⟩,rfl⟩;exact(next a' T' h1 h3).1
  ·rintro v H' ⟨T',⟨a',h1,h2,h3⟩,rfl⟩;subst h2;exact(next a' T' h1 h3).2.1
  ·rintro v H' ⟨T',⟨a',h1,h2,h3⟩,rfl⟩;subst h2;exact(next a' T' h1 h3).2.2
  rintro v H' ⟨T',⟨e,h1,h2⟩,rfl⟩ τ' hτ;subst h2;exact pan e h1 τ' T' hτ
 refine Dr.pan _ ho hn Af hop haft chk hfx ?_ owe ?_
 ·rintro v H' ⟨T',⟨a',h1,h2,h3⟩,rfl⟩;exact hx ⟨a',T',h1,h3⟩
 rintro v H' ⟨T',⟨e,h1,h2⟩,rfl⟩ τ' hτ;subst h2;exact pan e h1 τ' T' hτ
end
theorem DH:∀xs:List AV,C5 xs xs
 | []=>Gy
 | x::xs=>aw (we rfl) (DH xs)
def Ys (ops:Array Oper) (t:Nat):Bool:=ops.toList.all fun o=>match o.dst with | some u=> !(Nat.beq u t) | none=>true
theorem J9 {ops:Array Oper}{t:Nat}(h:Ys ops t=true) (k:Nat) (o:Oper) (ho:ops[k]?=some o):o.dst≠some t:=by
 intro e;have hm:o∈ops.toList:=by
  rw[←Array.getElem?_toList] at ho;exact List.mem_of_getElem? ho
 have:=List.all_eq_true.1 h o hm;simp[e] at this
theorem Ii {L Hs:List Au}{is:List Nat}(X:List Au) (hn:is.Nodup) (hg:Df L is Hs):(X++L).Perm (Hs++(X++B1 is 0 L)):=by
 have h:=(CF hn hg).append_left X;refine h.trans ?_;rw[←List.append_assoc,←List.append_assoc];exact List.perm_append_comm.append_right _
theorem CX.eq {P:Program}{f:FuncId}{caps:List AV}{m:G0}{H X:List Au}{R:List Au→Prop}(h:CX P f caps m H (fun H'=>H'=X)) (hq:R X):CX P f caps m H R:=by
 refine⟨h.1,fun F w vs u hH hr hm=>?_⟩;refine(h.2 F w vs u hH hr hm).mono ?_;rintro e u' w' ⟨v,H',F',h1,h2,rfl,h3,h4⟩;exact⟨v,_,F',h1,h2,hq,h3,h4⟩
end Go.Abs
namespace Go.Eu
open Go.Abs
mutual
def Vp:Tm→Prop
 | .mk k i _ _ ks=>(k=0→0≤i∧i<1099511627776)∧Oc ks
def Oc:List Tm→Prop
 | []=>True
 | t::ts=>Vp t∧Oc ts
end
theorem Ji:∀{ts:List Tm}{i:Nat}{t:Tm},Oc ts→ts[i]?=some t→Vp t
 | [],i,t,_,h=>by simp at h
 | a::ts,0,t,hn,h=>by simp at h;subst h;exact hn.1
 | a::ts,i+1,t,hn,h=>by simp at h;exact Ji hn.2 h
def Ib:Tm→Tm
 | .mk k i n l _=> .mk k i n l []
def E9 (i:Int):Except Int Tm:=if i > 65535 then .error 24 else .ok (Bm i)
def Qp (n m:Int):Except Int Int:=if wr (n+m) > 4096 then .error 5 else .ok (wr (n+m))
def Pn (b fr:Int) (t:Tm) (d:Int):Except Int Tm :=
 if t.index - d<fr then .ok (Ib t) else if b<0∧t.index - d<fr - b then .error 24 else E9 (t.index+b)
def Gv {α β:Type}(f:α→β):Except Int α→Except Int β
 | .error e=> .error e
 | .ok x=> .ok (f x)
def CM {α β:Type}(x:Except Int α) (f:α→Except Int β):Except Int β :=
 match x with
 | .error e=> .error e
 | .ok x=>f x
def F3 (rep:Tm→Int→Except Int Tm) (s:Unit) (t:Tm) (d:Int):Except Int ((Tm×Bool)×Unit) :=
 if t.kind=0 then Gv (fun x=>((x,true),())) (rep t d) else .ok ((Ib t,false),())
mutual
def CW {σ:Type}(vis:σ→Tm→Int→Except Int ((Tm×Bool)×σ)):Tm→Int→σ→Except Int (Tm×σ)
 | .mk k i n l ks,d,s=>CM (vis s (.mk k i n l ks) d) fun r =>
   if r.1.2=true then .ok (r.1.1,r.2) else CM (Cf vis k 0 ks d r.2) fun q=> .ok (GU r.1.1 q.1,q.2)
def Cf {σ:Type}(vis:σ→Tm→Int→Except Int ((Tm×Bool)×σ)) (k:Int):Nat→List Tm→Int→σ→Except Int (List Tm×σ)
 | _,[],_,s=> .ok ([],s)
 | j,t::ts,d,s=>CM (CW vis t (d+below k j) s) fun r=>CM (Cf vis k (j+1) ts d r.2) fun q=> .ok (r.1::q.1,q.2)
end
section
variable {σ:Type}{vis:σ→Tm→Int→Except Int ((Tm×Bool)×σ)}
theorem GW {t:Tm}{d:Int}{s q:σ}{o:Tm}(h:vis s t d= .ok ((o,true),q)):CW vis t d s= .ok (o,q):=by
 obtain⟨k,i,n,l,ks⟩:=t;simp[CW,h,CM]
theorem HX {t:Tm}{d e:Int}{s:σ}(h:vis s t d= .error e):CW vis t d s= .error e:=by
 obtain⟨k,i,n,l,ks⟩:=t;simp[CW,h,CM]
theorem F6 {k i d:Int}{n:ByteArray}{l:List CE}{ks:List Tm}{s q q':σ}{o:Tm}{ys:List Tm}(h:vis s (.mk k i n l ks) d= .ok ((o,false),q)) (hk:Cf vis k 0 ks d q= .ok (ys,q')):CW vis (.mk k i n l ks) d s= .ok (GU o ys,q'):=by
 simp[CW,h,CM,hk]
theorem I0 {k i d e:Int}{n:ByteArray}{l:List CE}{ks:List Tm}{s q:σ}{o:Tm}(h:vis s (.mk k i n l ks) d= .ok ((o,false),q)) (hk:Cf vis k 0 ks d q= .error e):CW vis (.mk k i n l ks) d s= .error e:=by
 simp[CW,h,CM,hk]
def KU (vis:σ→Tm→Int→Except Int ((Tm×Bool)×σ)) (k:Int) (ts:List Tm) (d:Int) (q0:σ) (i:Nat) (ys:List Tm) (q:σ):Prop :=
 ys.length=i∧Cf vis k 0 ts d q0=CM (Cf vis k i (ts.drop i) d q) fun r=> .ok (ys++r.1,r.2)
theorem KU.zero (k:Int) (ts:List Tm) (d:Int) (q0:σ):KU vis k ts d q0 0 [] q0:=by
 refine⟨O,?_⟩;simp only[List.drop_zero,List.nil_append];cases Cf vis k 0 ts d q0<;>rfl
theorem KU.err {k d e:Int}{ts ys:List Tm}{q0 q:σ}{i:Nat}{x:Tm}(h:KU vis k ts d q0 i ys q) (hx:ts[i]?=some x) (hb:CW vis x (d+below k i) q= .error e):Cf vis k 0 ts d q0= .error e:=by
 rw[h.2,B3 hx,Cf,hb];rfl
theorem KU.succ {k d:Int}{ts ys:List Tm}{q0 q q':σ}{i:Nat}{x y:Tm}(h:KU vis k ts d q0 i ys q) (hx:ts[i]?=some x) (hb:CW vis x (d+below k i) q= .ok (y,q')):KU vis k ts d q0 (i+1) (ys++[y]) q':=by
 refine⟨by simp[h.1],?_⟩;rw[h.2,B3 hx,Cf,hb];simp only[CM];cases Cf vis k (i+1) (ts.drop (i+1)) d q'<;>simp
theorem KU.fin {k d:Int}{ts ys:List Tm}{q0 q:σ}{i:Nat}(h:KU vis k ts d q0 i ys q) (hi:ts.length≤i):Cf vis k 0 ts d q0= .ok (ys,q):=by
 rw[h.2,List.drop_eq_nil_of_le hi,Cf];simp[CM]
end
theorem Nl {ys:List Tm}{i m:Nat}{x:Tm}(h:ys.length=i) (hm:0<m):(ys++List.replicate m BN).set i x=(ys++[x])++List.replicate (m - 1) BN:=by
 subst h;cases m with
 | zero=>omega
 | succ m=>simp[List.replicate_succ]
section
variable {b fr d k i:Int}{n:ByteArray}{l:List CE}{ks:List Tm}
theorem P3 (h:i - d<fr):Pn b fr (.mk k i n l ks) d= .ok (.mk k i n l []):=by simp[Pn,Tm.index,Ib,h]
theorem P0 (h:¬i - d<fr) (h2:b<0) (h3:i - d<fr - b):Pn b fr (.mk k i n l ks) d= .error 24:=by unfold Pn;exact(if_neg h).trans (if_pos ⟨h2,h3⟩)
theorem PC (h:¬i - d<fr) (h2:¬(b<0∧i - d<fr - b)):Pn b fr (.mk k i n l ks) d=E9 (i+b):=by unfold Pn;exact(if_neg h).trans (if_neg h2)
variable {rep:Tm→Int→Except Int Tm}{s:Unit}
theorem J5 {e:Int}(h:k=0) (hr:rep (.mk k i n l ks) d= .error e):F3 rep s (.mk k i n l ks) d= .error e:=by unfold F3;exact(if_pos h).trans (by rw[hr];rfl)
theorem Mm {x:Tm}(h:k=0) (hr:rep (.mk k i n l ks) d= .ok x):F3 rep s (.mk k i n l ks) d= .ok ((x,true),()):=by unfold F3;exact(if_pos h).trans (by rw[hr];rfl)
theorem M6 (h:k≠0):F3 rep s (.mk k i n l ks) d= .ok ((.mk k i n l [],false),()):=by unfold F3;exact(if_neg h).trans rfl
end
def FB (b fr:Int) (t:Tm):Except Int Tm:=Gv Prod.fst (CW (F3 (Pn b fr)) t 0 ())
theorem K0 {α β:Type}{f:α→β}{x:Except Int α}{a:α}(h:x= .ok a):Gv f x= .ok (f a):=by rw[h];rfl
theorem IS {α β:Type}{f:α→β}{x:Except Int α}{e:Int}(h:x= .error e):Gv f x= .error e:=by rw[h];rfl
def FC (vs:List Tm) (dp ti d:Int):Int:=if 0≤wr (wr (ti - d) - dp)∧wr (wr (ti - d) - dp)<(vs.length:Int) then wr (wr (ti - d) - dp) else -1
theorem Rf {vs:List Tm}{dp ti d:Int}(h1:0≤wr (wr (ti - d) - dp)) (h2:wr (wr (ti - d) - dp)<(vs.length:Int)):FC vs dp ti d=wr (wr (ti - d) - dp):=if_pos ⟨h1,h2⟩
theorem Tz {vs:List Tm}{dp ti d:Int}(h:¬(0≤wr (wr (ti - d) - dp)∧wr (wr (ti - d) - dp)<(vs.length:Int))):FC vs dp ti d= -1:=if_neg h
theorem MW {vs:List Tm}{dp ti d:Int}(h:0≤FC vs dp ti d):FC vs dp ti d<(vs.length:Int):=by
 unfold FC at *;split<;>omega
def PU (vs:List Tm) (sz:List Int) (dp:Int) (t:Tm) (d:Int):Int :=
 if t.kind=0∧0≤FC vs dp t.index d then sz.getD (FC vs dp t.index d).toNat 0 else 1
def Nz (vs:List Tm) (sz:List Int) (dp:Int) (n:Int) (t:Tm) (d:Int):Except Int ((Tm×Bool)×Int) :=
 Gv (fun m=>((BN,decide (t.kind=0)),m)) (Qp n (PU vs sz dp t d))
def Hc (vs:List Tm) (dp:Int) (t:Tm) (d:Int):Except Int Tm :=
 if 0≤FC vs dp t.index d then FB (wr (dp+d)) 0 (vs.getD (FC vs dp t.index d).toNat BN)
 else if wr (t.index - d)<dp then .ok (Ib t) else E9 (wr (t.index - vs.length))
def FE (vs:List Tm) (dp:Int) (t:Tm):Except Int Tm :=
 CM (CW (Nz vs (vs.map fun v=>(size v:Int)) dp) t 0 0) fun _=>Gv Prod.fst (CW (F3 (Hc vs dp)) t 0 ())
def Cs (t:Tm) (vs:List Tm) (dp:Int):Tm×Int :=
 match FE vs dp t with
 | .error e=>(BN,e)
 | .ok x=>if Dc x > 200 then (BN,7) else (x,0)
section
variable {vs:List Tm}{sz:List Int}{dp n d k i r m e:Int}{nm:ByteArray}{l:List CE}{ks:List Tm}
theorem QS (hm:PU vs sz dp (.mk k i nm l ks) d=m) (hz:Qp n m= .ok r):Nz vs sz dp n (.mk k i nm l ks) d= .ok ((BN,decide (k=0)),r):=by
 subst hm;exact K0 hz
theorem NR (hm:PU vs sz dp (.mk k i nm l ks) d=m) (hz:Qp n m= .error e):Nz vs sz dp n (.mk k i nm l ks) d= .error e:=by
 subst hm;exact IS hz
theorem NJ (h:k=0∧0≤FC vs dp i d) (hx:sz[(FC vs dp i d).toNat]?=some m):PU vs sz dp (.mk k i nm l ks) d=m:=by
 unfold PU;refine(if_pos h).trans ?_;rw[List.getD_eq_getElem?_getD];exact(congrArg (fun o=>Option.getD o 0) hx)
theorem Qa (h:¬(k=0∧0≤FC vs dp i d)):PU vs sz dp (.mk k i nm l ks) d=1:=by
 unfold PU;exact if_neg h
theorem NT {v:Tm}(h:0≤FC vs dp i d) (hx:vs[(FC vs dp i d).toNat]?=some v):Hc vs dp (.mk k i nm l ks) d=FB (wr (dp+d)) 0 v:=by
 unfold Hc;refine(if_pos h).trans ?_;rw[List.getD_eq_getElem?_getD];exact(congrArg (fun o=>FB (wr (dp+d)) 0 (Option.getD o BN)) hx)
theorem Su (h:¬0≤FC vs dp i d) (h2:wr (i - d)<dp):Hc vs dp (.mk k i nm l ks) d= .ok (.mk k i nm l []):=by
 unfold Hc;exact(if_neg h).trans ((if_pos h2).trans rfl)
theorem P2 (h:¬0≤FC vs dp i d) (h2:¬wr (i - d)<dp):Hc vs dp (.mk k i nm l ks) d=E9 (wr (i - vs.length)):=by
 unfold Hc;exact(if_neg h).trans (if_neg h2)
end
theorem IC {t:Tm}{vs:List Tm}{dp e:Int}(h:FE vs dp t= .error e):Cs t vs dp=(BN,e):=by unfold Cs;rw[h]
theorem NU {t x:Tm}{vs:List Tm}{dp:Int}(h:FE vs dp t= .ok x) (hd:Dc x > 200):Cs t vs dp=(BN,7):=by unfold Cs;rw[h];exact if_pos hd
theorem Qq {t x:Tm}{vs:List Tm}{dp:Int}(h:FE vs dp t= .ok x) (hd:¬Dc x > 200):Cs t vs dp=(x,0):=by unfold Cs;rw[h];exact if_neg hd
theorem L1 {t x:Tm}{vs:List Tm}{dp:Int}{a:Tm×Int}{b:Unit}(h1:CW (Nz vs (vs.map fun v=>(size v:Int)) dp) t 0 0= .ok a) (h2:CW (F3 (Hc vs dp)) t 0 ()= .ok (x,b)):FE vs dp t= .ok x:=by
 unfold FE;rw[h1];exact K0 h2
theorem OR {t:Tm}{vs:List Tm}{dp e:Int}(h1:CW (Nz vs (vs.map fun v=>(size v:Int)) dp) t 0 0= .error e):FE vs dp t= .error e:=by
 unfold FE;rw[h1];rfl
theorem OU {t:Tm}{vs:List Tm}{dp e:Int}{a:Tm×Int}(h1:CW (Nz vs (vs.map fun v=>(size v:Int)) dp) t 0 0= .ok a) (h2:CW (F3 (Hc vs dp)) t 0 ()= .error e):FE vs dp t= .error e:=by
 unfold FE;rw[h1];exact IS h2
theorem TX:∀{ts:List Tm},(∀t∈ts,Nd t)→IX ts
 | [],_=>trivial
 | t::ts,h=>⟨h t Ae,TX fun x hx=>h x (by simp[hx])⟩
section
variable {σ:Type}{vis:σ→Tm→Int→Except Int ((Tm×Bool)×σ)}
mutual
theorem Is (hv:∀s t d r,Nd t→Vp t→vis s t d= .ok r→Nd r.1.1):∀(t:Tm) (d:Int) (s:σ) (r:Tm×σ),Nd t→Vp t→CW vis t d s= .ok r→Nd r.1
 | .mk k i n l ks,d,s,r,h1,h2,h=>by
  unfold CW CM at h;split at h
  ·cases h
  rename_i r1 hr;have hn:=hv _ _ _ _ h1 h2 hr;simp only at h;split at h
  ·injection h with h;subst h;exact hn
  split at h
  ·cases h
  rename_i q hq;injection h with h;subst h;obtain⟨g1,g2⟩:=KS hv ks k 0 d r1.2 q h1.2.2.2.2.1 h2.2 hq;obtain⟨⟨o,dn⟩,q1⟩:=r1;obtain⟨ok,oi,on,ol,os⟩:=o;exact⟨hn.1,hn.2.1,hn.2.2.1,by rw[g2];exact h1.2.2.2.1,g1,hn.2.2.2.2.2⟩
theorem KS (hv:∀s t d r,Nd t→Vp t→vis s t d= .ok r→Nd r.1.1):∀(ts:List Tm) (k:Int) (j:Nat) (d:Int) (s:σ) (r:List Tm×σ),IX ts→Oc ts→Cf vis k j ts d s= .ok r→IX r.1∧r.1.length=ts.length
 | [],k,j,d,s,r,h1,h2,h=>by
  unfold Cf at h;injection h with h;subst h;exact⟨trivial,rfl⟩
 | t::ts,k,j,d,s,r,h1,h2,h=>by
  unfold Cf CM at h;split at h
  ·cases h
  rename_i r1 hr;simp only at h;split at h
  ·cases h
  rename_i q hq;injection h with h;subst h;obtain⟨g1,g2⟩:=KS hv ts k (j+1) d r1.2 q h1.2 h2.2 hq;exact⟨⟨Is hv t _ _ _ h1.1 h2.1 hr,g1⟩,by simp[g2]⟩
end
end
theorem K5 {t:Tm}(h:Nd t):Nd (Ib t):=by
 obtain⟨k,i,n,l,ks⟩:=t;exact⟨h.1,h.2.1,h.2.2.1,by decide,trivial,h.2.2.2.2.2⟩
theorem OM {i:Int}{x:Tm}(hi: -9223372036854775808≤i) (h:E9 i= .ok x):Nd x:=by
 unfold E9 at h;split at h
 ·cases h
 injection h with h;subst h;exact⟨by decide,by decide,by simp,by decide,trivial,⟨by decide,by decide⟩,⟨hi,by omega⟩⟩
theorem P8 {rep:Tm→Int→Except Int Tm}(hr:∀t d x,Nd t→Vp t→t.kind=0→rep t d= .ok x→Nd x):∀(s:Unit) (t:Tm) (d:Int) (r:(Tm×Bool)×Unit),Nd t→Vp t→F3 rep s t d= .ok r→Nd r.1.1:=by
 intro s t d r h1 h2 h;unfold F3 at h;split at h
 ·rename_i hk;unfold Gv at h;split at h
  ·cases h
  rename_i x hx;injection h with h;subst h;exact hr t d x h1 h2 hk hx
 injection h with h;subst h;exact K5 h1
theorem Qy {b fr:Int}{t x:Tm}(hb:HD b) (h1:Nd t) (h2:Vp t) (h:FB b fr t= .ok x):Nd x:=by
 unfold FB Gv at h;split at h
 ·cases h
 rename_i r hr;injection h with h;subst h;refine Is (P8 ?_) t 0 () r h1 h2 hr;intro t d x g1 g2 g3 g;obtain⟨k,i,n,l,ks⟩:=t;have hi:=g2.1 g3;unfold Pn at g;split at g
 ·injection g with g;subst g;exact K5 g1
 split at g
 ·cases g
 exact OM (by have:=hb.1;simp only[Tm.index];omega) g
theorem Ts {vs:List Tm}{dp:Int}{t x:Tm}{u:Unit}(hv:IX vs) (hp:Oc vs) (h1:Nd t) (h2:Vp t) (h:CW (F3 (Hc vs dp)) t 0 ()= .ok (x,u)):Nd x:=by
 refine Is (P8 ?_) t 0 () (x,u) h1 h2 h;intro t d x g1 g2 g3 g;unfold Hc at g;split at g
 ·rename_i h0;have hl:=MW h0;obtain⟨v,hx⟩:=Av (l:=vs) (i:=(FC vs dp t.index d).toNat) Ad;rw[List.getD_eq_getElem?_getD,hx] at g;exact Qy (PD _) (B2 hv hx) (Ji hp hx) g
 split at g
 ·injection g with g;subst g;exact K5 g1
 exact OM (PD _).1 g
theorem Xa {vs:List Tm}{i:Nat}{x:Tm}(hx:vs[i]?=some x):(((vs.take i).map fun v=>(size v:Int))++List.replicate (vs.length - i) 0).set i (size x:Int)=((vs.take (i+1)).map fun v=>(size v:Int))++List.replicate (vs.length - (i+1)) 0:=by
 have hi:i<vs.length:=by
  rcases Nat.lt_or_ge i vs.length with h | h
  ·exact h
  rw[List.getElem?_eq_none h] at hx;cases hx
 obtain⟨m,hm⟩:∃m,vs.length - i=m+1:=⟨vs.length - i - 1,by omega⟩;have hl:((vs.take i).map fun v=>(size v:Int)).length=i:=by simp;omega
 rw[List.take_add_one,hx,hm,show vs.length - (i+1)=m by omega,List.replicate_succ,List.set_append_right _ _ Ad,hl];simp
theorem Zm {vs:List Tm}{i:Nat}(h:vs.length≤i):((vs.take i).map fun v=>(size v:Int))++List.replicate (vs.length - i) 0=vs.map fun v=>(size v:Int):=by
 rw[List.take_of_length_le h,show vs.length - i=0 by omega];simp
theorem Pf {k i:Int}{n:ByteArray}{l:List CE}{ks:List Tm}(h:Wt (.mk k i n l ks)) (hk:k=0):ks=[]:=by
 have:=h.1;subst hk;cases ks with
 | nil=>rfl
 | cons a b=>simp[arity] at this;omega
def IN (x:Tm×Int):Except Int (Tm×Unit):=if x.2=0 then .ok (x.1,()) else .error x.2
def JX (x:List Tm×Int):Except Int (List Tm×Unit):=if x.2=0 then .ok (x.1,()) else .error x.2
theorem Nx {er e:Int}(h:er≠0):Ew er e=er:=by unfold Ew;rw[if_neg h]
theorem Tu {er i:Int}(h:er≠0):K2 er i=er:=by unfold K2;split<;>simp[Nx h]
mutual
theorem Qz (b fr:Int):∀(t:Tm) (d er:Int),er≠0→(Bk b fr d er t).2=er
 | .mk k i n l ks,d,er,h=>by
  unfold Bk;split
  ·split
   ·rfl
   split
   ·exact Nx h
   exact Tu h
  exact Fl b fr k ks d 0 er h
theorem Fl (b fr k:Int):∀(ts:List Tm) (d:Int) (j:Nat) (er:Int),er≠0→(Bw b fr k d j er ts).2=er
 | [],d,j,er,h=>rfl
 | t::ts,d,j,er,h=>by
  unfold Bw;simp only;rw[Qz b fr t _ er h];exact Fl b fr k ts d (j+1) er h
end
section
variable {vs:List Tm}{d er nd k i:Int}{n:ByteArray}{l:List CE}{ks:List Tm}
end
structure Zo (vs:List Tm) (dp:Int):Prop where
 wt:K8 vs
 vp:Oc vs
 sz:∀x∈vs,size x<1099511627776
 len:vs.length<1099511627776
 lo:0≤dp
 hi:dp≤65536
theorem Zo.size {vs:List Tm}{dp:Int}(V:Zo vs dp):∀x∈vs,(size x:Int)≤1099511627776:=fun x hx=>by have:=V.sz x hx;omega
def eW {α:Type}(x:Except Int (α×Int)) (m:Int):Prop:=(m > 4096→x= .error 5)∧(m≤4096→∃z,x= .ok (z,m))
def e6 (vs:List Tm):List Int:=vs.map fun v=>(size v:Int)
structure EZ where
 dn:List (Int×Tm)
 op:List Int
 wk:Int
def X8 (i:Int):List (Int×Tm)→Option Tm
 | []=>none
 | (j,x)::r=>if j=i then some x else X8 i r
def YR (i:Int) (v:Tm):List (Int×Tm)→List (Int×Tm)
 | []=>[(i,v)]
 | (j,x)::r=>if j=i then (j,v)::r else (j,x)::YR i v r
def ek (l:List (Int×Tm)):List (Int×AV):=l.map fun p=>(p.1,TV p.2)
def YP (x:Tm) (e:Int):Except Int Tm:=if e≠0∨Wj x=true then .error 11 else .ok x
def V5:Tm→List Tm→Except Int (Tm×List Tm)
 | v,[]=> .ok (v,[])
 | v,a::l=>if v.kind=5 then CM (YP (Cs (v.kids.getD 1 BN) [a] 0).1 (Cs (v.kids.getD 1 BN) [a] 0).2) fun x=>V5 x l else .ok (v,a::l)
def EL (F:EZ→Tm→Except Int (Tm×EZ)):EZ→List Tm→Except Int (List Tm×EZ)
 | st,[]=> .ok ([],st)
 | st,t::ts=>CM (F st t) fun r=>CM (EL F r.2 ts) fun q=> .ok (r.1::q.1,q.2)
def Wx (F:EZ→Tm→Except Int (Tm×EZ)) (ms:List Mv) (st:EZ) (i:Int):Except Int (Tm×EZ) :=
 match X8 i st.dn with
 | some v=> .ok (v,st)
 | none=>if i∈st.op then .error 22 else CM (F { st with op:=st.op++[i] } (valueOf ms i)) fun r=> .ok (r.1,{ r.2 with dn:=YR i r.1 r.2.dn })
def Zd (F:EZ→Tm→Except Int (Tm×EZ)) (ms:List Mv) (st:EZ) (h:Tm):Except Int (Tm×EZ) :=
 if known ms h=true then Wx F ms st h.index else Gv (fun q=>(GU h q.1,q.2)) (EL F st h.kids)
def Sc (ms:List Mv):Nat→EZ→Tm→Except Int (Tm×EZ)
 | 0,st,t=> .error 11
 | n+1,st,t =>
  if st.wk+1 > 8192000 then .error 11
  else CM (Zd (Sc ms n) ms { st with wk:=st.wk+1 } (A3 t).1) fun r =>
   CM (EL (Sc ms n) r.2 (A3 t).2) fun q =>
   CM (if known ms (A3 t).1=true then V5 r.1 q.1 else .ok (r.1,q.1)) fun y =>
   Gv (fun z=>(z,q.2)) (YP (apply y.1 y.2) 0)
structure Ok (S:Nat) (t:Tm):Prop where
 nd:Nd t
 vp:Vp t
 wt:Wt t
 sz:size t≤S
structure bF (ms:List Mv) (st:EZ):Prop where
 dn:∀p∈st.dn,Ok 4096 p.2
 w0:0≤st.wk
 w1:st.wk≤8192000
theorem To {ts:List Tm}{t:Tm}(h:IX ts) (hm:t∈ts):Nd t:=by
 obtain⟨i,hi⟩:=List.mem_iff_getElem?.1 hm;exact B2 h hi
theorem Qj {ts:List Tm}{t:Tm}(hm:t∈ts):size t≤A4 ts:=by
 obtain⟨i,hi⟩:=List.mem_iff_getElem?.1 hm;exact Bg hi
abbrev en (l:List Tm):Prop:=∀x∈l,Ok 4096 x
def cU (st st':EZ):Prop:=∀i,i∈st.op→i∈st'.op
def da (ms:List Mv) (B:Nat) (F:EZ→Tm→Except Int (Tm×EZ)):Prop:=∀st t r,Ok B t→bF ms st→F st t= .ok r→Ok 4096 r.1∧bF ms r.2∧cU st r.2
section
variable {F:EZ→Tm→Except Int (Tm×EZ)}{ms:List Mv}{st st':EZ}{i e:Int}{z:Tm}
end
def M5 (F:EZ→Tm→Except Int (Tm×EZ)) (ts:List Tm) (q0:EZ) (i:Nat) (ys:List Tm) (q:EZ):Prop :=
 ys.length=i∧EL F q0 ts=CM (EL F q (ts.drop i)) fun r=> .ok (ys++r.1,r.2)
section
variable {F:EZ→Tm→Except Int (Tm×EZ)}{ts ys:List Tm}{q0 q q':EZ}{i:Nat}{x y:Tm}{e:Int}
theorem M5.zero (F:EZ→Tm→Except Int (Tm×EZ)) (ts:List Tm) (q0:EZ):M5 F ts q0 0 [] q0:=by
 refine⟨O,?_⟩;simp only[List.drop_zero,CM];cases EL F q0 ts<;>simp
theorem M5.err (h:M5 F ts q0 i ys q) (hx:ts[i]?=some x) (hb:F q x= .error e):EL F q0 ts= .error e:=by
 rw[h.2,B3 hx,EL,hb];rfl
theorem M5.succ (h:M5 F ts q0 i ys q) (hx:ts[i]?=some x) (hb:F q x= .ok (y,q')):M5 F ts q0 (i+1) (ys++[y]) q':=by
 refine⟨by simp[h.1],?_⟩;rw[h.2,B3 hx,EL,hb];simp only[CM];cases EL F q' (ts.drop (i+1))<;>simp
theorem M5.fin (h:M5 F ts q0 i ys q) (hi:ts.length≤i):EL F q0 ts= .ok (ys,q):=by
 rw[h.2,List.drop_eq_nil_of_le hi,EL];simp[CM]
end
section
variable {ms:List Mv}{n:Nat}{dn:List (Int×Tm)}{op:List Int}{wk e:Int}{t v vv z h:Tm}{us ls ks:List Tm}{st1 st2:EZ}
end
end Go.Eu
namespace Go.Abs
def eF {β:Type}(mkv:β→AV) (mkH:β→List Au):CG→List Au→Prop
 | .val v,H'=>∃b,v=mkv b∧H'=mkH b
 | .panic _,_=>False
section
variable {P:Program}{ops:Array Oper}{n:Nat}{τ₀ τ:Nat→AV}{D:List CN}{Q:Bq→A9→Prop}{opn:Nat→Bool}{k:Nat}{H:List Au}{dst:Option Tmp}{ty:TypeId}{pos:String}{aft:Array Edge}{c:Call}{f:Operand}{fid:FuncId}{first caps A:List AV}{β:Type}{mkv:β→AV}{mkH:β→List Au}
end
end Go.Abs
namespace Go.Eu
open Go.Abs
def PZ (ms:List Mv) (n:Nat) (t:Tm):Tm×Int :=
 match Sc ms n ⟨[],[],0⟩ t with
 | .ok r=>(r.1,0)
 | .error e=>(BN,e)
def dU (ms:List Mv) (n:Nat) (t:Tm):List Int×Int:=if (PZ ms n t).2≠0 then ([],(PZ ms n t).2) else (Ox [] (PZ ms n t).1,0)
mutual
def TP (p:Int→Int→ByteArray→List CE→Prop):Tm→Prop
 | .mk k i n l ks=>p k i n l∧VF p ks
def VF (p:Int→Int→ByteArray→List CE→Prop):List Tm→Prop
 | []=>True
 | t::ts=>TP p t∧VF p ts
end
section
variable {p q:Int→Int→ByteArray→List CE→Prop}
mutual
theorem TP.imp (h:∀k i n l,p k i n l→q k i n l):∀(t:Tm),TP p t→TP q t
 | .mk k i n l ks,ht=>⟨h _ _ _ _ ht.1,VF.imp h ks ht.2⟩
theorem VF.imp (h:∀k i n l,p k i n l→q k i n l):∀(ts:List Tm),VF p ts→VF q ts
 | [],_=>trivial
 | t::ts,ht=>⟨TP.imp h t ht.1,VF.imp h ts ht.2⟩
end
end
def dG (ms:List Mv) (D:List Int) (k i:Int) (n:ByteArray) (l:List CE):Prop:=known ms (.mk k i n l [])=true→i∈D
abbrev KM (ms:List Mv) (D:List Int):Tm→Prop:=TP (dG ms D)
abbrev Y9 (ms:List Mv) (D:List Int):List Tm→Prop:=VF (dG ms D)
theorem KM.mono {ms:List Mv}{D D':List Int}(h:∀i∈D,i∈D') {t:Tm}(ht:KM ms D t):KM ms D' t:=TP.imp (fun k i n l g e=>h _ (g e)) t ht
theorem Y9.mono {ms:List Mv}{D D':List Int}(h:∀i∈D,i∈D') {t:List Tm}(ht:Y9 ms D t):Y9 ms D' t:=VF.imp (fun k i n l g e=>h _ (g e)) t ht
theorem KM.head {ms:List Mv}{D:List Int}{h:Tm}(hk:known ms h=true) (ht:KM ms D h):h.index∈D:=by
 obtain⟨k,i,n,l,ks⟩:=h;exact ht.1 hk
theorem KM.kids {ms:List Mv}{D:List Int}{h:Tm}(ht:KM ms D h):Y9 ms D h.kids:=by
 obtain⟨k,i,n,l,ks⟩:=h;exact ht.2
inductive Ord (ms:List Mv):List Int→Prop
 | nil:Ord ms []
 | snoc {D:List Int} {i:Int}:Ord ms D→i ∉ D→KM ms D (valueOf ms i)→Ord ms (D++[i])
theorem Ord.pre {ms:List Mv}{D:List Int}(h:Ord ms D):∀i∈D,∃D',Ord ms D'∧(∀j∈D',j∈D)∧i ∉ D'∧KM ms D' (valueOf ms i):=by
 induction h with
 | nil=>intro i hi;simp at hi
 | @snoc D j h1 h2 h3 ih =>
  intro i hi;rcases List.mem_append.1 hi with hi | hi
  ·obtain⟨D',a,b,c,d⟩:=ih i hi;exact⟨D',a,fun j hj=>List.mem_append_left _ (b j hj),c,d⟩
  simp at hi;subst hi;exact⟨D,h1,fun j hj=>List.mem_append_left _ hj,h2,h3⟩
def YU:Tm→List Tm→Tm×List Tm
 | v,[]=>(v,[])
 | v,a::l=>if v.kind=5 then YU (GB (v.kids.getD 1 BN) [a] 0).1 l else (v,a::l)
section
variable {F F':Gw→Tm→Tm×Int×Gw}
end
def Wk (st:EZ):List Int:=st.dn.map Prod.fst
def cv (ms:List Mv) (t v:Tm):Prop:=∃n ab c d,F7 ms n ab c t=(v,0,d)∧d.over=false
structure cQ (ms:List Mv) (ab:List Int) (st:EZ):Prop where
 op:∀i,i∈st.op↔i∈Wk st∨i∈ab
 ord:Ord ms (Wk st)
 dis:∀i∈Wk st,i ∉ ab
 val:∀p∈st.dn,cv ms (valueOf ms p.1) p.2
 ok:∀p∈st.dn,Ok 4096 p.2
 w0:0≤st.wk
def pot (ms:List Mv) (B:Nat) (st:EZ):Int:=st.wk+(B*free ms st.op:Nat)
structure Step (ms:List Mv) (B:Nat) (ab:List Int) (st st':EZ) (s:Nat):Prop where
 inv:cQ ms ab st'
 mono:∀i∈Wk st,i∈Wk st'
 pot:pot ms B st'≤pot ms B st+s
theorem Step.trans {ms:List Mv}{B:Nat}{ab:List Int}{a b c:EZ}{s s':Nat}(h:Step ms B ab a b s) (h':Step ms B ab b c s'):Step ms B ab a c (s+s') :=
 ⟨h'.inv,fun i hi=>h'.mono i (h.mono i hi),by have:=h.pot;have:=h'.pot;omega⟩
theorem Step.le {ms:List Mv}{B:Nat}{ab:List Int}{a b:EZ}{s s':Nat}(h:Step ms B ab a b s) (hs:s≤s'):Step ms B ab a b s':=⟨h.inv,h.mono,by have:=h.pot;omega⟩
def dv (ms:List Mv) (B:Nat) (ab:List Int) (t:Tm) (s:Nat) (st:EZ) (F:Tm×Int×Gw) (G:Except Int (Tm×EZ)):Prop :=
 (F.2.1=0∧∃st',G= .ok (F.1,st')∧Step ms B ab st st' s∧KM ms (Wk st') t)∨(F.2.1=22∧F.1=BN∧G= .error 22)
def df (ms:List Mv) (B:Nat) (ab:List Int) (ts:List Tm) (st:EZ) (F:List Tm×Int×Gw) (G:Except Int (List Tm×EZ)):Prop :=
 (F.2.1=0∧∃st',G= .ok (F.1,st')∧Step ms B ab st st' (A4 ts)∧Y9 ms (Wk st') ts)∨(F.2.1=22∧G= .error 22)
def eS (m:Nat) (k i:Int) (n:ByteArray) (l:List CE):Prop:=k=12→0≤i∧i<(m:Int)
def Zw (ms:List Mv) (k i:Int) (n:ByteArray) (l:List CE):Prop:=(k=12→0≤i∧i<(ms.length:Int)∧known ms (.mk k i n l [])=false)∧(k=4→i=0∧n=⟨#[]⟩∧l=[])
def ed (ms:List Mv) (B:Nat) (F:EZ→Tm→Except Int (Tm×EZ)):Prop:=∀st t r,Ok B t→bF ms st→TP (eS ms.length) t→(∀p∈st.dn,TP (Zw ms) p.2)→F st t= .ok r→TP (Zw ms) r.1∧∀p∈r.2.dn,TP (Zw ms) p.2
def dL (ms:List Mv) (F:EZ→Tm→Except Int (Tm×EZ)):Prop:=∀st t,TP (Zw ms) t→F st t= .error 11∨∃st',F st t= .ok (t,st')
def eD (F:EZ→Tm→Except Int (Tm×EZ)):Prop:=∀st t e,F st t= .error e→e=11∨e=22
abbrev wide:Nat:=9223372036854775808
structure Xs (l:CE):Prop where
 vars:l.vars.length<wide
 c:HD l.const
 v:∀v∈l.vars,HD v.index∧HD v.plus
mutual
def Wd:Tm→Prop
 | .mk k i n ls ks=>n.size<wide∧ls.length<wide∧(∀l∈ls,Xs l)∧ks.length<wide∧VD ks∧HD k∧HD i
def VD:List Tm→Prop
 | []=>True
 | t::ts=>Wd t∧VD ts
end
theorem Jh:∀{ts:List Tm}{i:Nat}{t:Tm},VD ts→ts[i]?=some t→Wd t
 | [],i,t,_,h=>by simp at h
 | a::ts,0,t,hn,h=>by simp at h;subst h;exact hn.1
 | a::ts,i+1,t,hn,h=>by simp at h;exact Jh hn.2 h
mutual
def Fw:Tm→Prop
 | .mk k i n ls ks=>n.size≤200∧ls.length≤20∧(∀l∈ls,l.vars.length≤20)∧Yz ks
def Yz:List Tm→Prop
 | []=>True
 | t::ts=>Fw t∧Yz ts
end
theorem R7:∀{ts:List Tm},(∀t∈ts,Fw t)→Yz ts
 | [],_=>trivial
 | t::ts,h=>⟨h t Ae,R7 fun x hx=>h x (by simp[hx])⟩
def RQ:Tm→Prop
 | .mk k i n ls ks=>n.size≤200∧ls.length≤20∧(∀l∈ls,l.vars.length≤20)∧A4 ks≤200∧IX ks∧Yz ks
theorem WE {t:Tm}(h:Wd t) (hf:RQ t):Nd t:=by
 obtain⟨k,i,n,ls,ks⟩:=t;obtain⟨h1,h2,h3,h4,h5⟩:=hf;have:=DQ ks;exact⟨by simp only[Ci];omega,by simp only[Ci];omega,fun l hl=>⟨by have:=h3 l hl;simp only[Ci];omega,(h.2.2.1 l hl).c,(h.2.2.1 l hl).v⟩,by simp only[Ci];omega,h5.1,h.2.2.2.2.2⟩
mutual
theorem Ih:∀(t:Tm) (most:Int),-1152921504606846976≤most→most≤1152921504606846976→(size t:Int)≤1152921504606846976→0≤CV t most∧CV t most<size t∧(CV t most≤most→CV t most+1=size t)
 | .mk k i n l ks,most,h1,h2,h3=>by
  simp only[size] at h3 ⊢;unfold CV;have:=It ks most 0 h1 h2 Ad Ad;exact⟨this.1,by omega,fun h=>by have:=this.2.2 h;omega⟩
theorem It:∀(ts:List Tm) (most n:Int),-1152921504606846976≤most→most≤1152921504606846976→0≤n→n+A4 ts≤1152921504606846976→n≤CR ts most n∧CR ts most n≤n+A4 ts∧(CR ts most n≤most→CR ts most n=n+A4 ts)
 | [],most,n,h1,h2,h3,h4=>by simp[CR,A4]
 | t::ts,most,n,h1,h2,h3,h4=>by
  simp only[A4] at h4 ⊢;have hp:=size_pos t;unfold CR;by_cases hm:n > most
  ·rw[if_pos hm];exact⟨by omega,by omega,by omega⟩
  rw[if_neg hm];have e1:wr (most - n)=most - n:=EH ⟨by omega,by omega⟩;have hT:=Ih t (most - n) Ad Ad Ad;rw[e1];have e2:wr (1+CV t (most - n))=1+CV t (most - n):=EH ⟨by omega,by omega⟩;rw[e2];have e3:wr (n+(1+CV t (most - n)))=n+(1+CV t (most - n)):=EH ⟨by omega,by omega⟩;rw[e3];have hL:=It ts most (n+(1+CV t (most - n))) h1 h2 Ad Ad;refine⟨by omega,by omega,fun h=>?_⟩;have:=hL.2.2 h;have:=hT.2.2 Ad;omega
end
theorem Ru {t:Tm}(h:RQ t):size t≤201:=by
 obtain⟨k,i,n,ls,ks⟩:=t;have:=h.2.2.2.1;simp only[size];omega
theorem Lo:∀(ts:List Tm) (most n:Int),0≤most→most≤1000→0≤n→n≤3000→(∀t∈ts,size t≤201)→n≤CR ts most n
 | [],most,n,h1,h2,h3,h4,hs=>by simp[CR]
 | t::ts,most,n,h1,h2,h3,h4,hs=>by
  have ht:=hs t Ae;unfold CR;by_cases hm:n > most
  ·rw[if_pos hm];omega
  rw[if_neg hm];have e1:wr (most - n)=most - n:=EH ⟨by omega,by omega⟩;have hT:=Ih t (most - n) Ad Ad Ad;rw[e1];have e2:wr (1+CV t (most - n))=1+CV t (most - n):=EH ⟨by omega,by omega⟩;rw[e2];have e3:wr (n+(1+CV t (most - n)))=n+(1+CV t (most - n)):=EH ⟨by omega,by omega⟩;rw[e3];have hge:=Lo ts most (n+(1+CV t (most - n))) h1 h2 Ad Ad (fun x hx=>hs x (by simp[hx]));omega
theorem Ly:∀(ts:List Tm) (most n:Int),0≤most→most≤1000→0≤n→n≤3000→(∀t∈ts,size t≤201)→CR ts most n≤most→CR ts most n=n+A4 ts
 | [],most,n,h1,h2,h3,h4,hs,h=>by simp[CR,A4]
 | t::ts,most,n,h1,h2,h3,h4,hs,h=>by
  have ht:=hs t Ae;simp only[A4];unfold CR at h ⊢;by_cases hm:n > most
  ·rw[if_pos hm] at h;omega
  rw[if_neg hm] at h ⊢;have e1:wr (most - n)=most - n:=EH ⟨by omega,by omega⟩;have hT:=Ih t (most - n) Ad Ad Ad;rw[e1] at h ⊢;have e2:wr (1+CV t (most - n))=1+CV t (most - n):=EH ⟨by omega,by omega⟩;rw[e2] at h ⊢;have e3:wr (n+(1+CV t (most - n)))=n+(1+CV t (most - n)):=EH ⟨by omega,by omega⟩;rw[e3] at h ⊢;have hL:=Ly ts most (n+(1+CV t (most - n))) h1 h2 Ad Ad (fun x hx=>hs x (by simp[hx])) h;have hge:=Lo ts most (n+(1+CV t (most - n))) h1 h2 Ad Ad (fun x hx=>hs x (by simp[hx]));have:=hT.2.2 Ad;omega
structure OH (l:List Tm):Prop where
 sz:A4 l≤200
 nd:IX l
 fw:Yz l
theorem Uv {l:List Tm}{m:Nat}(hm:l.length≤m) (hw:VD l) (hl:l.length<wide) (h:CR l 200 0≤200) (hc:∀j,j<m→∀t,l[j]?=some t→RQ t):OH l:=by
 have hf:∀t∈l,RQ t:=fun t ht=>by
  obtain⟨i,hi⟩:=D5 ht;exact hc i (by have:=(List.getElem?_eq_some_iff.1 hi).1;omega) t hi
 have:=Ly l 200 0 Ad Ad Ad Ad (fun t ht=>Ru (hf t ht)) h;exact⟨by omega,TX fun t ht=>by
  obtain⟨i,hi⟩:=D5 ht;exact WE (Jh hw hi) (hf t ht),R7 fun t ht=>by
  obtain⟨k,i,n,ls,ks⟩:=t;have h5:=hf _ ht;exact⟨h5.1,h5.2.1,h5.2.2.1,h5.2.2.2.2.2⟩⟩
theorem OE {l:List Tm}{m:Int}(hf:OH l) (hm:0≤m∧m≤1000) (h:CR l m 0≤m):(A4 l:Int)≤m:=by
 have:=hf.sz;have:=(It l m 0 Ad Ad Ad Ad).2.2 h;omega
theorem J6 {l:List Tm}(hf:OH l) {t:Tm}(ht:t∈l):Nd t∧size t≤200:=⟨To hf.nd ht,by have:=Qj ht;have:=hf.sz;omega⟩
structure Xw (m:Nat) (x:Mv):Prop where
 n1:Nd x.type
 n2:Nd x.value
 sz:size x.type+size x.value≤40
 w1:wf 0 m 0 x.type
 w2:x.known=true→wf 0 m 0 x.value
 w3:x.known=false→x.value=BN
structure dH (l:List Mv):Prop where
 len:l.length≤8
 all:∀m∈l,Xw l.length m
structure bq (m:Nat) (ctx terms:List Tm):Prop where
 len:ctx.length≤6
 s1:A4 ctx≤60
 s2:A4 terms≤60
 n1:IX ctx
 n2:IX terms
 w2:∀t∈terms,wf ctx.length m 0 t
 w1:∀(i:Nat) (t:Tm),ctx[i]?=some t→wf i m 0 t
structure eu (x:Mv):Prop where
 w1:Wd x.type
 w2:Wd x.value
mutual
theorem V2 {vars m:Int}(hv:vars≤65536):∀(t:Tm) (d:Int),wf vars m d t→0≤d→d+size t≤1073741824→Vp t
 | .mk k i n l ks,d,h,h0,h1=>by
  simp only[wf,size] at h h1;exact⟨fun e=>by have:=h.2.2.2.1 e;omega,Sf hv ks k d 0 h.2.2.2.2.2 h0 Ad⟩
theorem Sf {vars m:Int}(hv:vars≤65536):∀(ts:List Tm) (k d:Int) (j:Nat),Uf vars m k d j ts→0≤d→d+1+A4 ts≤1073741824→Oc ts
 | [],k,d,j,h,h0,h1=>trivial
 | t::ts,k,d,j,h,h0,h1=>by
  have:=Bp k j;simp only[Uf,A4] at h h1;exact⟨V2 hv t _ h.1 Ad Ad,Sf hv ts k d (j+1) h.2 h0 Ad⟩
end
theorem Ok.mono {B B':Nat}{t:Tm}(h:Ok B t) (hb:B≤B'):Ok B' t:=⟨h.nd,h.vp,h.wt,Nat.le_trans h.sz hb⟩
end Go.Eu
