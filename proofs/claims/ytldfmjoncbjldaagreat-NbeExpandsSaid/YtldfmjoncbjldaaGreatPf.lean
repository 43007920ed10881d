/- Part of the proofs: an abstract program logic, plain models and contracts of functions. -/
import Derived.Test.YtldfmjoncbjldaaGreatPe
import Derived.Test.YtldfmjoncbjldaaGreatPb
import Derived.Test.YtldfmjoncbjldaaGreatPd
import Derived.Test.YtldfmjoncbjldaaGreatPc
set_option linter.unusedVariables false
set_option linter.unusedSimpArgs false
set_option maxRecDepth 100000
namespace Go.Abs
section
variable {P:Program}{dst:Option Tmp}{ty:TypeId}{pos:String}{aft:Array Edge}{g:Option (Nat×Bool)}{ρ:Operand→AV}{H:List Ap}{x y z:Operand}{v:AV}
theorem Sq {T e:TypeId}{sz bytes:Nat}{m:Int}{rows:List (List PV)}(hT:Cy P T=some (e,sz,bytes)) (hx:ρ x= .p (.lst rows)) (hy:ρ y= .p (.int .i64 m)) (hz:ρ z= .p (.int .i64 m)) (hm:m=rows.length) :
  CG P ⟨dst,.slice T x none (some y) (some z),ty,pos,aft,g⟩ ρ H (.p (.lstc rows)) H :=
 BK fun F w E hH hE=>by
  obtain⟨hu,j,hj,hs,_⟩:=CE hT;have h:=hE x AQ;have h1:=hE y AQ;have h2:=hE z AQ;rw[hx] at h;rw[hy] at h1;rw[hz] at h2;subst hm;simp only[BM,BN] at h h1 h2;have hszr:(sizeOf e).run P w= .ok sz w:=by simp[sizeOf,typeInfo,hj,hs]
  rcases h with ⟨rfl,o,c,h⟩ | ⟨b,o,c,sz',h,hF,hb,hc,hr⟩
  ·refine⟨.slice o 0 0,?_,by simp only[BM,BN];exact .inl ⟨trivial,o,rfl⟩⟩;simp[execOp,Instr.sliceAt,Sem.run_bind,run_underlying hu,h,h1,h2,Instr.slice,Instr.sliceBounds,Instr.sliceBound,asIntOf,hszr]
  refine⟨.slice (some ⟨b,o,none⟩) rows.length rows.length,?_,by simp only[BM,BN];exact .inr ⟨b,o,sz',rfl,hF,hb,hr⟩⟩;have h0:(some (⟨b,o,none⟩:Addr)).map (·.add 0)=some ⟨b,o,none⟩:=by simp[Addr.add_mid]
  simp[execOp,Instr.sliceAt,Sem.run_bind,run_underlying hu,h,h1,h2,Instr.slice,Instr.sliceBounds,Instr.sliceBound,asIntOf,hszr,hc,Addr.add_mid]
theorem R2 (rows:List (List PV)):Fv (.p (.lstc rows)) (.p (.lst rows)):=fun F w v h=>by
 simp only[BM,BN] at h ⊢;rcases h with ⟨rfl,o,h⟩ | ⟨b,o,sz,h,hF,hb,hr⟩
 ·exact .inl ⟨O,o,0,h⟩
 exact .inr ⟨b,o,_,sz,h,hF,hb,Nat.le_refl _,hr⟩
theorem JV {T T2 e e2:TypeId}{sz bytes n2 n3:Nat}{rows rows':List (List PV)}{zv:Value}(hT:Cy P T=some (e,sz,bytes)) (hT2:Cy P T2=some (e2,n2,n3)) (hz:zeroOf P e=some zv) (hzs:zv.cells.size=sz) (hb0:(Nat.blt 0 sz&&Nat.blt 0 bytes)=true)
  (hx:ρ x= .p (.lstc rows)) (hr:∀r∈rows,r.length=sz) (hy:norm (ρ y)= .p (.lst rows')) (hsol:∀r∈rows',Cd sz r) (hne:0<rows'.length) (hroom:2*(rows.length+rows'.length)*bytes≤281474976710656) :
  Bz P ⟨dst,.call { callee:= .builtin .append,args:=#[x,y],argTypes:=#[T,T2] },ty,pos,aft,g⟩ ρ H (GK sz (rows++rows') H) :=
 En fun F w E hH hE=>by
  have hr':∀r∈rows',r.length=sz:=fun r hr=>(hsol r hr).1;simp only[Bool.and_eq_true,Nat.blt_eq] at hb0;obtain⟨hu,inf,hinf,hs,hby⟩:=CE hT;obtain⟨hu2,_⟩:=CE hT2;have h1:=hE x AM;have h2:=(hE y AM).norm;rw[hx] at h1;rw[hy] at h2;obtain⟨ns,oy,cy,hEy,hns,hnsl,hnsr⟩:=DB (P:=P) h2 hr';have hEx:∃base,E x= .slice base rows.length rows.length:=by
   have:=h1;simp only[BM,BN] at this;rcases this with ⟨rfl,o,h⟩ | ⟨b,o,sz',h,_⟩
   ·exact⟨o,h⟩
   exact⟨_,h⟩
  obtain⟨base,hEx⟩:=hEx;unfold zeroOf at hz;have hz':∃j,P.info? e=some j∧j.zero=some zv:=by
   cases hq:P.info? e with
   | none=>simp[hq] at hz
   | some j=>exact⟨j,rfl,by simpa [hq] using hz⟩
  obtain⟨j,hj,hz'⟩:=hz';have hzv:∀w,(zeroValue e).run P w= .ok zv w:=fun w=>by simp[zeroValue,typeInfo,hj,hz',Sem.run_bind]
  have hti:∀w,(typeInfo e).run P w= .ok inf w:=fun w=>by simp[typeInfo,hinf]
  have hszr:∀w,(sizeOf e).run P w= .ok sz w:=fun w=>by simp[sizeOf,typeInfo,hinf,hs]
  have hlall:∀r∈rows++rows',r.length=sz:=by
   intro r hq;rcases List.mem_append.1 hq with hq | hq
   ·exact hr r hq
   exact hr' r hq
  have hlen:(rows++rows').length=rows.length+rows'.length:=by simp
  have hlenof:∀w,(Builtin.lenOf (E y)).run P w= .ok rows'.length w:=fun w=>by rw[hEy];rfl
  have hcap':rows.length<rows.length+rows'.length:=by omega
  have hcap:¬(rows.length+rows'.length≤rows.length):=by omega
  generalize hnc:Question.cut (.appendCap (rows.length+rows'.length) rows.length e) (w.tape w.drawn (.appendCap (rows.length+rows'.length) rows.length e))=newCap;have hncge:rows.length+rows'.length≤newCap:=by rw[←hnc];simp only[Question.cut];omega
  have hnext:=G4 hcap';have hask:∀(b:Nat) w,(askRoom b).run P w= .ok () w:=by intro b w;unfold askRoom;split<;>rfl
  let w1:World:={ w with drawn:=w.drawn+1 }
  have same:B7 F w F w1:=⟨Nat.le_refl _,fun _ _ _=>rfl,fun _ h _=>h⟩;obtain⟨ns',oy',cy',hEy',hns',hnsl',hnsr'⟩:=DB (P:=P) (BM.mono same _ _ h2) hr';obtain⟨os',oz',cz',hEz',hos',hosl',hosr'⟩:=DB (P:=P) (BM.mono same _ _ (R2 rows _ _ _ h1)) hr
  let vs:List Value:=os'++ns'++(Builtin.zeroCells zv.cells (newCap - (rows.length+rows'.length))).toList
  have hrun:(execOp E ⟨dst,.call { callee:= .builtin .append,args:=#[x,y],argTypes:=#[T,T2] },ty,pos,aft,g⟩).run P w= .ok (.value (.slice (some ⟨w.heap.size,0,none⟩) (rows.length+rows'.length) newCap)) (World.push w1 (.cells ⟨vs⟩ e (0,0))):=by
   have hos2:=hos';rw[hEx] at hos2;simp only[execOp,resolve,invoke,builtin,Builtin.append_,hEx,Sem.run_bind,Sem.run_pure,Result.andThen_ok,List.map_toArray,List.map_cons,List.map_nil,List.getElem?_toArray,List.getElem?_cons_zero,List.getElem?_cons_succ,run_underlying hu,run_underlying hu2,hszr,pure_bind,
    Bool.false_eq_true,if_false,hlenof,Bool.not_false,if_true]
   rw[if_neg hcap];simp only[Sem.run_bind,hti,Result.andThen_ok,hby];rw[if_neg AU];simp only[Sem.run_bind,Sem.run_pure,Result.andThen_ok,hti,hby,pure_bind];rw[if_neg (by
    have:Builtin.nextslicecap (rows.length+rows'.length) rows.length*bytes≤2*(rows.length+rows'.length)*bytes:=Nat.mul_le_mul_right bytes hnext;simp;omega)]
   have hch:(choose (.appendCap (rows.length+rows'.length) rows.length e)).run P w= .ok newCap w1:=by
    simp only[choose,Sem.run,Question.forced,Bool.false_eq_true,if_false,hnc];rfl
   simp only[Sem.run_bind,Sem.run_pure,Result.andThen_ok,pure_bind,hch,hti,hask,hos2,hns',hzv,newRow,newObj,Sem.run,Result.andThen];have evs:(⟨os'⟩++⟨ns'⟩++Builtin.zeroCells zv.cells (newCap - (rows.length+rows'.length)):Array Value)=⟨vs⟩:=by
    apply Array.ext';simp[vs]
   rw[evs];rfl
  have hvl:vs.length=newCap*sz:=by
   simp only[vs,List.length_append,hosl',hnsl',Array.length_toList,FA,hzs];rw[←Nat.add_mul,←Nat.add_mul];congr 1;omega
  have hlen2:(rows++rows').flatten.length=(rows.length+rows'.length)*sz:=by rw[Te hlall,hlen]
  have hpre:A8 F w1 ((rows++rows').flatten.map .p) (vs.take ((rows++rows').flatten.length)):=by
   have e1:vs.take ((rows++rows').flatten.length)=os'++ns':=by
    rw[hlen2];have:(os'++ns').length=(rows.length+rows'.length)*sz:=by rw[List.length_append,hosl',hnsl',Nat.add_mul]
    rw[←this];exact List.take_left
   rw[e1,List.flatten_append,List.map_append];exact hosr'.append hnsr'
  have hH1:HRel F H w1:=hH.stable' same (fun _ h=>h) (fun _ _ _ _=>rfl) hH.bd;have t1:Trans F H w F H w1:=⟨Nat.le_refl _,fun _ _ _=>rfl,fun _ h _=>h,fun _ h=> .inl h,fun o ho b hb=> .inl ⟨o,ho,hb⟩,rfl,rfl,rfl⟩;obtain⟨v',H',F',hnv,ht,hHr,hrep⟩:=Hk (T:=e) (c:=newCap) (vs:=vs) (H:=H) hH1 hlall hpre (by rw[hvl];exact Nat.le_refl _) (by rw[hlen];exact hncge);exact⟨_,_,v',H',F',hrun,hnv,t1.trans hH.bd ht,hHr,by rw[←hlen];exact hrep⟩
def PG:AV→Option Bool
 | .p (.addr _)=>some false
 | .p (.optp o)=>some o.isNone
 | .ptr _ _=>some false
 | .nilp=>some true
 | .ref _=>some false
 | _=>none
theorem Nj {F:Nat→Prop}{w:World}{a:AV}{u:Value}{c:Bool}(h:PG a=some c) (hr:BM F w a u):∃q,u= .pointer q∧q.isNone=c:=by
 unfold PG at h;split at h
 ·injection h with h;subst h;simp only[BM,BN] at hr;exact⟨_,hr,rfl⟩
 ·rename_i o;injection h with h;subst h;simp only[BM,BN] at hr;exact⟨_,hr,by cases o<;>rfl⟩
 ·injection h with h;subst h;simp only[BM] at hr;exact⟨_,hr,rfl⟩
 ·injection h with h;subst h;simp only[BM] at hr;exact⟨_,hr,rfl⟩
 ·injection h with h;subst h;simp only[BM] at hr;obtain⟨b,o,hr,_⟩:=hr;exact⟨_,hr,rfl⟩
 cases h
theorem PY {T e:TypeId}{q:Option Addr}{w:World}(hu:P.underlying T=some (.pointer e)):(Op.equal T (.pointer q) (.pointer none)).run P w= .ok q.isNone w:=by
 unfold Op.equal;rw[show Op.maxDepth=9999+1 from rfl];unfold Op.equalIn;simp only[Sem.run_bind,run_underlying hu,Result.andThen_ok];cases q<;>rfl
theorem RZ {T U e:TypeId}{c:Bool}(hu:P.underlying T=some (.pointer e)) (hx:PG (ρ x)=some c) (hy:ρ (.const (.pointer none))= .nilp):CG P ⟨dst,.binOp .neq T x (.const (.pointer none)) U,ty,pos,aft,g⟩ ρ H (.p (.bool (!c))) H :=
 BK fun F w E hH hE=>by
  have e2:=hE (.const (.pointer none)) AQ;rw[hy] at e2;simp only[BM,BN] at e2;obtain⟨q,hq,hc⟩:=Nj hx (hE x AQ);have hg:(eqGuard .neq T x (.const (.pointer none)) (.pointer q) (.pointer none)).run P w= .ok () w:=by
   unfold eqGuard;simp<;>rfl
  refine⟨.bool (!c),?_,by simp[BM,BN]⟩;simp[execOp,Sem.run_bind,hg,hq,e2,binOp,PY hu,hc]
theorem Oe {T U:TypeId}{ms:Array (String×TypeId)}{X:PV}{b:Bool}(hu:P.underlying T=some (.interface ms)) (hx:ρ x= .p X) (hy:ρ (.const .nilIface)= .p .nilIface) (hX:(match X with | .nilIface=>some true | .iface _ _=>some false | _=>none)=some b):CG P ⟨dst,.binOp .eql T x (.const .nilIface) U,ty,pos,aft,g⟩ ρ H (.p (.bool b)) H :=
 BK fun F w E hH hE=>by
  have e2:=hE (.const .nilIface) AQ;rw[hy] at e2;simp only[BM,BN] at e2;have e1:=hE x AQ;rw[hx] at e1;have hg:∀a,(eqGuard .eql T x (.const .nilIface) a .nilIface).run P w= .ok () w:=by
   intro a;unfold eqGuard;cases a<;>simp<;>rfl
  refine⟨.bool b,?_,by simp[BM,BN]⟩;cases X with
  | nilIface =>
   simp at hX;subst hX;simp only[BM,BN] at e1;have hq:(Op.equal T .nilIface .nilIface).run P w= .ok true w:=Gh hu rfl;simp[execOp,Sem.run_bind,hg,e1,e2,binOp,hq]
  | iface t c =>
   simp at hX;subst hX;simp only[BM,BN] at e1;obtain⟨u,e1,_⟩:=e1;have hq:(Op.equal T (.iface t u) .nilIface).run P w= .ok false w:=Gh hu rfl;simp[execOp,Sem.run_bind,hg,e1,e2,binOp,hq]
  | _=>simp at hX
theorem OG {T A B e:TypeId}{c:PV}(hu:P.underlying B=some (.pointer e)) (hz:zeroOf P B=some (.pointer none)) (hx:ρ x= .p (.iface A c)) (hne:Nat.beq A B=false):CG P ⟨dst,.typeAssert x T B true,ty,pos,aft,g⟩ ρ H (.tup [.nilp,.p (.bool false)]) H :=
 BK fun F w E hH hE=>by
  have h1:=hE x AQ;rw[hx] at h1;simp only[BM,BN] at h1;obtain⟨u,hv,hc⟩:=h1;have hne':¬A=B:=fun e=>by subst e;rw[Nat.beq_refl] at hne;cases hne
  have hzv:(zeroValue B).run P w= .ok (.pointer none) w:=by
   unfold zeroOf at hz;cases hq:P.info? B with
   | none=>simp[hq] at hz
   | some j=>simp[hq] at hz;simp[zeroValue,typeInfo,hq,hz,Sem.run_bind]
  refine⟨.tuple #[.pointer none,.bool false],?_,?_⟩
  ·simp[execOp,Instr.typeAssert,Sem.run_bind,run_underlying hu,hv,hne',hzv]
  simp only[BM];exact⟨[.pointer none,.bool false],O,by simp only[A8,BM,BN];exact⟨_,_,rfl,rfl,_,_,rfl,rfl,rfl⟩⟩
end
section
variable {P:Program}{dst:Option Tmp}{ty:TypeId}{pos:String}{aft:Array Edge}{g:Option (Nat×Bool)}{ρ:Operand→AV}{H:List Ap}{x:Operand}
theorem Mc {T:TypeId}{name:String}{f:FuncId}(h:R5 P T name=some f) (n:Nat) (u:Value) (w:World):(nilAhead (n+1) T u name).run P w= .ok (some false) w:=by
 unfold R5 at h;split at h
 ·rename_i i e hi hu;split at h
  ·rename_i m hm;split at h
   ·rename_i f' hp hf;simp[nilAhead,typeInfo,hi,hm,hp,hf,followBlind,Sem.run_bind]
   cases h
  cases h
 cases h
theorem Jq {T:TypeId}{nm:String}{p:PV}(hm:(R5 P T nm).isSome=true) (hx:ρ x= .fn (.method nm) [.p (.iface T p)] []):CG P ⟨dst,.nilCheck x,ty,pos,aft,g⟩ ρ H (.p .any) H :=
 BK fun F w E hH hE=>by
  obtain⟨fid,hm⟩:=Option.isSome_iff_exists.1 hm;have h1:=hE x AQ;rw[hx] at h1;simp only[BM,A8,BN] at h1;obtain⟨fs,cs,hv,⟨u,us,rfl,⟨u',rfl,hu⟩,rfl⟩,rfl⟩:=h1;have hn:∃n,P.types.size+Made.depth=n+1:=⟨P.types.size+Made.depth - 1,by have:0<Made.depth:=AZ;omega⟩;obtain⟨n,hn⟩:=hn;refine⟨.func (.method nm) #[.iface T u'] #[],?_,Fi _⟩;simp[execOp,hv,Sem.run_bind,hn,Mc hm]
end
end Go.Abs
namespace Go.Eu
open Go.Abs
def dv {α:Type}(p:α→Bool):List α→Int→Int
 | [],_=> -1
 | x::l,i=>if p x=true then i else dv p l (i+1)
section
variable {l:List Bm}{i j:Nat}{x u:Bm}
end
def fH (m:List (Int×Int)):List (Int×AV):=m.map fun p=>(p.1,.p (I p.2))
theorem Rr (M:List (Int×Int)):(L9 M).length=M.length:=by simp[L9,Q9]
def ei (M:List (Int×Int)) (k:Int):Bm:=⟨k,(mg k M).getD 0⟩
theorem NR.len {m:List (Int×Int)}(h:NR m) (hr:∀k∈m.map Prod.fst,-65536≤k∧k<8):m.length≤65544:=by
 have ha:=RW h;have:=Mp (lo:= -65536) ha (fun v hv=>by
  simp only[L9,List.mem_map] at hv;obtain⟨k,hk,rfl⟩:=hv;exact hr k ((LD _).mem_iff.1 hk)) Aa
 rw[Rr] at this;omega
structure YI (S:List (Int×Int)×Int):Prop where
 m:NR S.1
 r:∀k∈S.1.map Prod.fst,-65536≤k∧k<8
theorem YI.len {S:List (Int×Int)×Int}(h:YI S):S.1.length≤65544:=h.m.len h.r
theorem Kh {m:List (Int×Int)}{i p:Int}{Q:Int→Prop}(h:∀k∈m.map Prod.fst,Q k) (hi:Q i):∀k∈(F3 m i p).map Prod.fst,Q k:=by
 have hs:∀k∈(ms i p m).map Prod.fst,Q k:=by
  rw[M3];split
  ·exact h
  intro k hk;rcases List.mem_append.1 hk with hk | hk
  ·exact h k hk
  rw[List.mem_singleton.1 hk];exact hi
 unfold F3;split
 ·split
  ·exact hs
  exact h
 exact hs
theorem L2 {n:Int}{Q:Int→Prop}:∀(vs:List Bm) (m:List (Int×Int)),(∀k∈m.map Prod.fst,Q k)→(∀v∈vs,Q v.index)→∀k∈(vs.foldl (GJ n) m).map Prod.fst,Q k
 | [],m,h,_=>h
 | v::vs,m,h,hv=>L2 vs (GJ n m v) (Kh h (hv v Ab)) fun w hw=>hv w (by simp[hw])
theorem YI.step {ps:List B6}{S:List (Int×Int)×Int}{x:Bm}(hps:∀l∈ps,Ca l=true) (h:YI S) (hx:(0≤x.plus∧x.plus≤100)∧ -65536≤x.index∧x.index<8) (hi:x.index<ps.length):YI (KF ps S x):=by
 refine⟨(Sv hps h.m hx.1.1 hi).1,?_⟩;unfold KF;split
 ·exact Kh h.r hx.2
 rename_i q;refine L2 _ _ h.r fun v hv=>?_;have hlt:x.index.toNat<ps.length:=by omega
 rw[List.getD_eq_getElem?_getD,List.getElem?_eq_getElem hlt] at hv;exact((LR.of (hps _ (List.getElem_mem hlt))).rg v hv).2
theorem YI.zero (c:Int):YI ([],c):=⟨NR.nil,by simp⟩
def V4 (ps:List B6):List B6→Except Int (List B6)
 | []=> .ok []
 | l::ls=>if (IF l ps).2≠0 then .error (IF l ps).2 else match V4 ps ls with
  | .ok zs=> .ok ((IF l ps).1::zs)
  | .error e=> .error e
def eS (ys:List B6):Except Int (List B6)→Except Int (List B6)
 | .ok zs=> .ok (ys++zs)
 | .error e=> .error e
def e9 (ps:List B6) (_:Unit) (t:Tm) (_:Int):Except Int ((Tm×Bool)×Unit):=match V4 ps t.levels with
 | .ok ls=> .ok ((.mk t.kind t.index t.name ls [],false),())
 | .error e=> .error e
section
variable {ps:List B6}
end
def Ja {α:Type}(a b:Out α):Prop:=a= .stuck∨a=b
section
variable {α β:Type}
theorem Ja.refl (a:Out α):Ja a a:= .inr rfl
theorem Ja.bind {a b:Out α}{k k':α→Out β}(h:Ja a b) (hk:∀x,Ja (k x) (k' x)):Ja (a.bind k) (b.bind k'):=by
 rcases h with rfl | rfl
 ·exact .inl O
 cases a with
 | stuck=>exact .inl rfl
 | fail=>exact .inr rfl
 | ok x=>exact hk x
theorem Ja.ite {c:Prop} [Decidable c] {a a' b b':Out α}(h1:Ja a a') (h2:Ja b b'):Ja (if c then a else b) (if c then a' else b'):=by
 split
 ·exact h1
 exact h2
theorem Ja.chk {σ:Type}{a b:Out (Tm×σ)}{k k':Tm×σ→Out β}(h:Ja a b) (hk:∀x,Ja (k x) (k' x)):Ja (a.chk k) (b.chk k'):=Ja.bind h fun x=>Ja.ite (hk x) (Ja.refl _)
variable {σ:Type}{E:List Cc}{S:Sys σ}
theorem Ja.put {s:σ}{x:Tm×Int}{k k':Tm→σ→Out β}(hk:∀t s',Ja (k t s') (k' t s')):Ja (S.put s x k) (S.put s x k'):=by
 unfold Sys.put;refine Ja.ite ?_ (Ja.refl _);cases S.res s x.1 x.2 with
 | none=>exact Ja.refl _
 | some s'=>exact hk _ _
variable {W W':σ→Tm→Out (Tm×σ)}(hW:∀s t,Ja (W s t) (W' s t))
include hW
end
section
variable {σ:Type}{E:List Cc}{S:Sys σ}
end
theorem N1:∀(t:Tm),(NZ t).1.length<size t
 | .mk k i n l [a,b]=>by
  unfold NZ;split
  ·have:=N1 b;have:=size_pos a;simp only[List.length_cons,size,A0];omega
  ·simp[size,A0];omega
 | .mk k i n l []=>by simp[NZ,size,A0]
 | .mk k i n l [_]=>by simp[NZ,size,A0];omega
 | .mk k i n l (_::_::_::_)=>by simp[NZ,size,A0];omega
mutual
def Km:FW→Prop
 | .mk k b v l=>okB b=true∧Ml l
def Wc:HT→Prop
 | .mk c a t=>Km t
def Ml:List HT→Prop
 | []=>True
 | b::l=>Wc b∧Ml l
end
structure DG (d:Cc):Prop where
 din:dt d
 fx:0≤d.fixed∧d.fixed≤1000000
 vl:okB d.value=true
 ru:∀t∈d.recs.rules,okB t=true
 fu:∀f∈d.funs,1≤f.arity∧f.arity≤16∧Km f.tree
structure XA (E:List Cc):Prop where
 env:Qv E
 all:∀d∈E,DG d
theorem FM.body:∀{t:FW},FM t→V2 t.body
 | .mk _ _ _ _,h=>h.1
theorem FM.bl:∀{t:FW},FM t→t.branches.length<2000000
 | .mk _ _ _ _,h=>h.2.1
theorem FM.bs:∀{t:FW},FM t→Kl t.branches
 | .mk _ _ _ _,h=>h.2.2
theorem QR.tr:∀{b:HT},QR b→FM b.tree
 | .mk _ _ _,h=>h.2
section
variable {f:Nat→Option (Nat×Nat)}{k a i p:Int}{t:Tm}
end
def eJ (TA:HQ→List Ap) (T0:List Ap) (nm:ByteArray) (l:List (ByteArray×HQ)):List Ap:=match KV nm l with
 | some e=>TA e
 | none=>T0
section
variable {TA:HQ→List Ap}{T0:List Ap}{nm:ByteArray}{d:Cc}{i:Int}{j:Nat}
end
def fI (ds:List Cc):Prop:=∀d∈ds,d.kind=0∨dt d
theorem KB {nm:ByteArray}:∀{l:List (ByteArray×HQ)}{e:HQ},KV nm l=some e→∃s,(s,e)∈l
 | (s,x)::l,e,h=>by
  simp only[KV] at h;split at h
  ·cases h;exact⟨s,by simp⟩
  obtain⟨s',h'⟩:=KB h;exact⟨s',List.mem_cons_of_mem _ h'⟩
theorem Nn {i p:Int}{s:ByteArray}{e:HQ}:∀{cs:List RV}{k:Int},(s,e)∈Q5 i p cs k→∃(j:Nat) (c:RV),cs[j]?=some c∧e=⟨4,i,k+j,p,c.type⟩
 | c::cs,k,h=>by
  simp only[Q5,List.mem_cons] at h;rcases h with h | h
  ·cases h;exact⟨0,c,rfl,by simp⟩
  obtain⟨j,c',h1,h2⟩:=Nn h;exact⟨j+1,c',by simpa using h1,by rw[h2];congr 1;omega⟩
theorem Qz {i p:Int}{s:ByteArray}{e:HQ}:∀{cs:List Oq}{k:Int},(s,e)∈Vk i p cs k→∃(j:Nat) (c:Oq),cs[j]?=some c∧e=⟨6,i,k+j,p,c.type⟩
 | c::cs,k,h=>by
  simp only[Vk,List.mem_cons] at h;rcases h with h | h
  ·cases h;exact⟨0,c,rfl,by simp⟩
  obtain⟨j,c',h1,h2⟩:=Qz h;exact⟨j+1,c',by simpa using h1,by rw[h2];congr 1;omega⟩
structure UL (d:Cc) (i:Int) (e:HQ):Prop where
 decl:e.decl=i
 kind:0≤e.kind∧e.kind≤6
 ctor:e.kind=4→∃(j:Nat) (c:RV),d.ctors[j]?=some c∧e.item=j
 func:e.kind=6→∃(j:Nat) (c:Oq),d.funs[j]?=some c∧e.item=j
theorem Xw {d:Cc}{i:Int}{s:ByteArray}{e:HQ}(h:(s,e)∈XE d i):UL d i e:=by
 unfold XE at h;split at h
 ·rename_i hk;simp only[List.mem_singleton,Prod.mk.injEq] at h;obtain⟨_,rfl⟩:=h;exact⟨O,by simp only;omega,fun q=>by simp only at q;omega,fun q=>by simp only at q;omega⟩
 split at h
 ·simp only[List.mem_cons,List.mem_append,List.mem_singleton,Prod.mk.injEq,List.not_mem_nil,or_false] at h;rcases h with ⟨_,rfl⟩ | h | ⟨_,rfl⟩
  ·exact⟨O,by simp,fun q=>by simp at q,fun q=>by simp at q⟩
  ·obtain⟨j,c,h1,rfl⟩:=Nn h;exact⟨O,by simp,fun _=>⟨j,c,h1,by simp⟩,fun q=>by simp at q⟩
  exact⟨O,by simp,fun q=>by simp at q,fun q=>by simp at q⟩
 split at h
 ·obtain⟨j,c,h1,rfl⟩:=Qz h;exact⟨O,by simp,fun q=>by simp at q,fun _=>⟨j,c,h1,by simp⟩⟩
 cases h
theorem N2 {nm:ByteArray}:∀{ds:List Cc}{k:Int}{e:HQ},findF nm ds k=some e→∃(i:Nat) (d:Cc),ds[i]?=some d∧UL d (k+i) e
 | d::ds,k,e,h=>by
  simp only[findF] at h;split at h
  ·rename_i x hx;cases h;obtain⟨s,hs⟩:=KB hx;exact⟨0,d,O,by simpa using Xw hs⟩
  obtain⟨i,d',h1,h2⟩:=N2 h;refine⟨i+1,d',by simpa using h1,?_⟩;rw[show k+((i+1:Nat):Int)=k+1+i by omega];exact h2
theorem T7 {ds:List Cc}{nm:ByteArray}(h:(C9 ds nm).2=0):∃(i:Nat) (d:Cc),ds[i]?=some d∧UL d i (C9 ds nm).1:=by
 unfold C9 at h ⊢;cases e:findF nm ds 0 with
 | none=>rw[e] at h;simp at h
 | some x =>
  obtain⟨i,d,h1,h2⟩:=N2 e;exact⟨i,d,h1,by simpa using h2⟩
def WS:Cc:=⟨0,⟨#[]⟩,0,BF,BF,0,[],⟨0,BF,[]⟩,[]⟩
def eo (E:List Cc) (nm:ByteArray):Cc×Int×Bool:=match Hv E nm with
 | some (d,j)=>(d,j,true)
 | none=>(WS,0,false)
section
variable {E:List Cc}{nm:ByteArray}{x:Cc}
end
def fN (E:List Cc) (h:Tm):Bool:=decide ((C9 E h.name).2=0)&&decide ((h.levels.length:Int)=(C9 E h.name).1.params)
def Out.ex {α:Type}:Out α→Except Int α
 | .ok a=> .ok a
 | .stuck=> .error 0
 | .fail=> .error 0
section
variable {α β σ:Type}
end
section
variable {E:List Cc}{σ:Type}{S:Sys σ}{W:σ→Tm→Out (Tm×σ)}{n:Nat}{t:FW}{v:List Tm}{l:Tm}{s:σ}{x:Tm}
def dy (E:List Cc) (S:Sys σ) (W:σ→Tm→Out (Tm×σ)) (n:Nat) (t:FW) (v:List Tm) (r:Tm×σ):Out ((Option (Tm×List Tm)×Tm)×σ):=match GL E r.1 with
 | none=> .ok ((none,r.1),r.2)
 | some (d,j,fields)=>match DL (IU d j).name t.branches with
  | none=> .ok ((none,r.1),r.2)
  | some t'=>Nv E S W n t' (v++fields) r.1 r.2
end
section
variable {E:List Cc}{σ:Type}{S:Sys σ}{W:σ→Tm→Out (Tm×σ)}{n:Nat}{h m:Tm}{a:List Tm}{s:σ}{d:Cc}{x:HQ}
def du (S:Sys σ) (f:Oq) (h:Tm) (a:List Tm) (q:(Option (Tm×List Tm)×Tm)×σ):Out (Option Tm×σ):=match q.1.1 with
 | none=> .ok (none,q.2)
 | some (b,vars)=>if S.over q.2=true then .ok (none,q.2) else SE S h b vars (a.drop f.arity.toNat) q.2
section
variable (hu:fN E h=true) (hd:E[(C9 E h.name).1.decl.toNat]?=some d)
include hu hd
omit hd
end
end
section
variable {E:List Cc}{σ:Type}{S:Sys σ}{n:Nat}{t:Tm}{s:σ}{X:Out (Tm×σ)}
section
variable (ho:okB t=true) (h:S.over s=false) (hm:S.many (Ay t).2.length=false)
include ho h hm
def eG (E:List Cc) (S:Sys σ) (n:Nat) (h:Tm) (a:List Tm) (r:Tm×σ):Out (Tm×σ) :=
 if r.1.kind≠8 then .ok (apply (TT h.kind r.1) a,r.2) else Tq S h r.1 a r.2 fun x s'=>SV E S n s' x
def eL (E:List Cc) (S:Sys σ) (n:Nat) (t:Tm) (r:Option Tm×σ):Out (Tm×σ):=match r.1 with
 | none=> .ok (t,r.2)
 | some x=>SV E S n r.2 x
end
end
inductive NV where
 | fn (a:Nat)
 | pr (a:Nat)
 | st (a:Nat)
 deriving DecidableEq,Inhabited
structure NB where
 t:Tm
 vars:Option Nat
 deriving Inhabited
structure NH where
 kind:Int
 level:Int
 node:Tm
 kids:List Nat
 body:Option NB
 deriving Inhabited
inductive NO where
 | thunk (t:Tm) (vars:Option Nat) (known:Option NV)
 | scope (first:Nat) (rest:Option Nat)
 | func (domain:Nat) (body:NB)
 | pair (domain first second:Nat)
 | stuck (h:NH) (args:List Nat)
 deriving Inhabited
structure NS where
 objs:List NO
 left:Int
 nodes:Int
def NS.get (s:NS) (a:Nat):Option NO:=if a<s.objs.length then s.objs[s.objs.length - 1 - a]? else none
def NS.set (s:NS) (a:Nat) (o:NO):NS:={ s with objs:=s.objs.set (s.objs.length - 1 - a) o }
def NS.new (s:NS) (o:NO):NS:={ s with objs:=o::s.objs }
def NS.next (s:NS):Nat:=s.objs.length
def NS.count (s:NS) {α:Type}(k:NS→Out α):Out α:=if s.left - 1<0 then .fail else k { s with left:=s.left - 1 }
def NS.node (s:NS) (d:Int) {α:Type}(k:NS→Out α):Out α:=if s.nodes+1 > 8192∨d > 400 then .fail else k { s with nodes:=s.nodes+1 }
def NS.thunk (s:NS) (t:Tm) (vars:Option Nat):NS:=s.new (.thunk t vars none)
def NH.plain (k:Int) (node:Tm):NH:=⟨k,0,node,[],none⟩
def NS.var (s:NS) (level:Int):NS:=s.new (.stuck ⟨0,level,BF,[],none⟩ [])
section
variable (E:List Cc)
def X8 (nm:ByteArray) (ls:List B6):Option Tm :=
 if (C9 E nm).2≠0∨(C9 E nm).1.kind≠1∨(ls.length:Int)≠(C9 E nm).1.params then none
 else if (DF (CB E (C9 E nm).1.decl).value ls).2≠0 then none else some (DF (CB E (C9 E nm).1.decl).value ls).1
def WI (s:NS):NV→Option (Cc×Int×List Nat)
 | .st a=>match s.get a with
  | some (.stuck h args) =>
   if h.kind≠3 then none
   else match Hv E h.node.name with
    | none=>none
    | some (d,j)=>if j<0 then none else if (args.length:Int)≠d.fixed+Jh d j then none else some (d,j,args.drop d.fixed.toNat)
  | _=>none
 | _=>none
inductive Rq where
 | eval (t:Tm) (vars:Option Nat)
 | force (a:Nat)
 | apply (v:NV) (a:Nat)
 | body (b:NB) (a:Nat)
def WR (W:Rq→NS→Out (NV×NS)) (s:NS):Nat→Int→Option Nat→Out (NV×NS)
 | _,i,none=> .ok (.st s.next,s.var (-1 - i))
 | 0,_,_=> .stuck
 | n+1,i,some b=>match s.get b with
  | some (.scope x r)=>if i=0 then W (.force x) s else WR W s n (i - 1) r
  | _=> .stuck
def Y1 (W:Rq→NS→Out (NV×NS)) (k:Int) (v:NV) (s:NS):Out (NV×NS):=match v with
 | .pr a=>s.count fun s=>match s.get a with
  | some (.pair d x y)=>W (.force (if k=9 then x else y)) s
  | _=> .stuck
 | v=> .ok (.st (s.next+1),(s.new (.thunk BF none (some v))).new (.stuck ⟨k,0,BF,[s.next],none⟩ []))
def WA (W:Rq→NS→Out (NV×NS)):List Nat→NV→NS→Out (NV×NS)
 | [],v,s=> .ok (v,s)
 | x::xs,v,s=>(W (.apply v x) s).bind fun r=>WA W xs r.1 r.2
def bp (W:Rq→NS→Out (NV×NS)) (d:Cc) (ls:List B6) (args:List Nat) (s:NS):Out (Option NV×NS) :=
 if (args.length:Int)≠Fq d+1 then .ok (none,s)
 else match args[(Fq d).toNat]? with
  | none=> .stuck
  | some x=>(W (.force x) s).bind fun r=>match WI E r.2 r.1 with
   | none=> .ok (none,r.2)
   | some (e,j,fields) =>
    if e.name≠d.name∨j≥(d.recs.rules.length:Int) then .ok (none,r.2)
    else if (DF (Mz d j) ls).2≠0 then .ok (none,r.2)
    else r.2.count fun s=>(W (.eval (DF (Mz d j) ls).1 none) s).bind fun q =>
     (WA W (args.take (d.fixed+1+d.ctors.length).toNat++fields) q.1 q.2).bind fun q=> .ok (some q.1,q.2)
def WG (W:Rq→NS→Out (NV×NS)):Nat→FW→List Nat→NS→Out (Option (Tm×List Nat)×NS)
 | 0,_,_,_=> .stuck
 | n+1,t,vars,s =>
  if t.kind=1 then
   if t.var<0∨t.var≥(vars.length:Int) then .ok (none,s)
   else (W (.force (vars.getD t.var.toNat 0)) s).bind fun r=>match WI E r.2 r.1 with
    | none=> .ok (none,r.2)
    | some (d,j,fields)=>match DL (IU d j).name t.branches with
     | none=> .ok (none,r.2)
     | some t'=>WG W n t' (vars++fields) r.2
  else .ok (some (t.body,vars),s)
def PE:List Nat→Option Nat→NS→Option Nat×NS
 | [],r,s=>(r,s)
 | x::xs,r,s=>PE xs (some s.next) (s.new (.scope x r))
def bA (W:Rq→NS→Out (NV×NS)) (n:Nat) (f:Oq) (ls:List B6) (args:List Nat) (s:NS):Out (Option NV×NS) :=
 if (args.length:Int)≠f.arity then .ok (none,s)
 else (WG E W n f.tree args s).bind fun r=>match r.1 with
  | none=> .ok (none,r.2)
  | some (b,vars) =>
   if (DF b ls).2≠0 then .ok (none,r.2)
   else r.2.count fun s=>(W (.eval (DF b ls).1 (PE vars none s).1) (PE vars none s).2).bind fun q=> .ok (some q.1,q.2)
def bH (W:Rq→NS→Out (NV×NS)) (n:Nat) (v:NV) (x:Nat) (s:NS):Out (NV×NS):=match v with
 | .fn a=>s.count fun s=>match s.get a with
  | some (.func d b)=>W (.body b x) s
  | _=> .stuck
 | .pr a=>match s.get a with
  | some (.pair d p q)=> .ok (.st s.next,s.new (.stuck ⟨8,0,BF,[d,p,q],none⟩ [x]))
  | _=> .stuck
 | .st a=>match s.get a with
  | some (.stuck h args) =>
   if args.length≥4096 then .fail
   else
    let s1:=s.new (.stuck h (args++[x]))
    if h.kind≠3 then .ok (.st s.next,s1)
    else match JX E h.node with
     | none=> .ok (.st s.next,s1)
     | some e =>
      (if e.kind=5 then bp E W (CB E e.decl) h.node.levels (args++[x]) s1
       else if e.kind=6 then bA E W n (G3 (CB E e.decl) e.item) h.node.levels (args++[x]) s1
       else .ok (none,s1)).bind fun r=>match r.1 with
        | some v=> .ok (v,r.2)
        | none=> .ok (.st s.next,r.2)
  | _=> .stuck
def ew (W:Rq→NS→Out (NV×NS)) (n:Nat) (t:Tm) (ρ:Option Nat) (s:NS):Out (NV×NS):=match t.kids with
 | [p]=>if t.kind=9∨t.kind=10 then (W (.eval p ρ) s).bind fun r=>Y1 W t.kind r.1 r.2 else .stuck
 | [a,b] =>
  if t.kind=4 then (W (.eval a ρ) s).bind fun r=>W (.apply r.1 r.2.next) (r.2.thunk b ρ)
  else if t.kind=5 then .ok (.fn (s.next+1),(s.thunk a ρ).new (.func s.next ⟨b,ρ⟩))
  else if t.kind=6∨t.kind=7 then .ok (.st (s.next+1),(s.thunk a ρ).new (.stuck ⟨t.kind,0,BF,[s.next],some ⟨b,ρ⟩⟩ []))
  else .stuck
 | [a,b,c] =>
  if t.kind=11 then s.count fun s=>W (.eval c (some (s.next+1))) ((s.thunk b ρ).new (.scope s.next ρ))
  else if t.kind=8 then .ok (.pr (s.next+3),(((s.thunk a ρ).thunk b ρ).thunk c ρ).new (.pair s.next (s.next+1) (s.next+2)))
  else .stuck
 | [] =>
  if t.kind=0 then WR W s n t.index ρ
  else if t.kind=3 then match X8 E t.name t.levels with
   | some v=>s.count fun s=>W (.eval v none) s
   | none=> .ok (.st s.next,s.new (.stuck (.plain t.kind t) []))
  else .ok (.st s.next,s.new (.stuck (.plain t.kind t) []))
 | _=> .stuck
def Ww:Nat→Rq→NS→Out (NV×NS)
 | 0,_,_=> .stuck
 | n+1,.eval t ρ,s=>ew E (Ww n) n t ρ s
 | n+1,.force a,s=>match s.get a with
  | some (.thunk t ρ (some v))=> .ok (v,s)
  | some (.thunk t ρ none)=>(Ww n (.eval t ρ) s).bind fun r=> .ok (r.1,r.2.set a (.thunk t none (some r.1)))
  | _=> .stuck
 | n+1,.apply v x,s=>bH E (Ww n) n v x s
 | n+1,.body b x,s=>Ww n (.eval b.t (some s.next)) (s.new (.scope x b.vars))
def Mf (Q:NS→Nat→Int→Out (Tm×NS)) (d:Int):List Nat→NS→Out (List Tm×NS)
 | [],s=> .ok ([],s)
 | x::xs,s=>(Q s x d).bind fun r=>(Mf Q d xs r.2).bind fun q=> .ok (r.1::q.1,q.2)
def Y8 (Q:NS→Nat→Int→Out (Tm×NS)) (d:Int):List Nat→Tm→NS→Out (Tm×NS)
 | [],t,s=> .ok (t,s)
 | x::xs,t,s=>s.node d fun s=>(Q s x d).bind fun r=>Y8 Q d xs (DQ t r.1) r.2
mutual
def bB:Nat→NS→NV→Int→Out (Tm×NS)
 | 0,_,_,_=> .stuck
 | n+1,s,.fn a,d=>match s.get a with
  | some (.func x b)=>s.node d fun s=>(ay n s x d).bind fun r=>(eX n r.2 b d).bind fun q=> .ok (.mk 5 0 ⟨#[]⟩ [] [r.1,q.1],q.2)
  | _=> .stuck
 | n+1,s,.pr a,d=>match s.get a with
  | some (.pair x y z)=>s.node d fun s=>(Mf (ay n) d [x,y,z] s).bind fun r=> .ok (.mk 8 0 ⟨#[]⟩ [] r.1,r.2)
  | _=> .stuck
 | n+1,s,.st a,d=>match s.get a with
  | some (.stuck h args)=>s.node d fun s =>
   (if h.kind=0 then .ok (Bc (d - 1 - h.level),s)
    else if h.kids.length > 0 then (Mf (ay n) d h.kids s).bind fun r=>match h.body with
     | none=> .ok (.mk h.kind 0 ⟨#[]⟩ [] r.1,r.2)
     | some b=>(eX n r.2 b d).bind fun q=> .ok (.mk h.kind 0 ⟨#[]⟩ [] (r.1++[q.1]),q.2)
    else .ok (h.node,s)).bind fun r=>Y8 (ay n) d args r.1 r.2
  | _=> .stuck
def ay:Nat→NS→Nat→Int→Out (Tm×NS)
 | 0,_,_,_=> .stuck
 | n+1,s,x,d=>(Ww E n (.force x) s).bind fun r=>bB n r.2 r.1 d
def eX:Nat→NS→NB→Int→Out (Tm×NS)
 | 0,_,_,_=> .stuck
 | n+1,s,b,d=>(Ww E n (.body b (s.next+1)) ((s.var d).new (.thunk BF none (some (.st s.next))))).bind fun r=>bB n r.2 r.1 (d+1)
end
def eD (n:Nat) (t:Tm):Out (Tm×NS):=(Ww E n (.eval t none) ⟨[],20000,0⟩).bind fun r=>bB E n r.2 r.1 0
end
def JO (n:Nat):Option Nat→Bool
 | none=>true
 | some a=>decide (a<n)
def LW (n:Nat):NV→Bool
 | .fn a | .pr a | .st a=>decide (a<n)
def aU (n:Nat):Option NV→Bool
 | none=>true
 | some v=>LW n v
def Ya (n:Nat):Option NB→Bool
 | none=>true
 | some b=>JO n b.vars
def LJ (n:Nat):NO→Bool
 | .thunk _ v k=>JO n v&&aU n k
 | .scope x r=>decide (x<n)&&JO n r
 | .func d b=>decide (d<n)&&JO n b.vars
 | .pair x y z=>decide (x<n)&&decide (y<n)&&decide (z<n)
 | .stuck h args=>h.kids.all (fun a=>decide (a<n))&&Ya n h.body&&args.all (fun a=>decide (a<n))
def LX (s:NS):Bool:=s.objs.all (LJ s.objs.length)
def gd {α:Type}(b:Bool) (x:Out α):Out α:=if b=true then x else .stuck
def Wy (n:Nat):Rq→Bool
 | .eval _ ρ=>JO n ρ
 | .force a=>decide (a<n)
 | .apply v a=>LW n v&&decide (a<n)
 | .body b a=>JO n b.vars&&decide (a<n)
def Ui {α:Type}(s:NS) (o:NO) (k:NS→Out α):Out α:=gd (LX s&&LJ s.objs.length o) (k (s.new o))
def Xk {α:Type}(s:NS) (k:NS→Out α):Out α:=gd (decide (0<s.left)&&decide (s.left≤20000)) (k { s with left:=s.left - 1 })
def WX {α:Type}(s:NS) (d:Int) (k:NS→Out α):Out α:=gd (decide (0≤s.nodes)&&decide (s.nodes<8000)&&decide (0≤d)&&decide (d<400)) (k { s with nodes:=s.nodes+1 })
def Gy (W:Rq→NS→Out (NV×NS)) (s:NS):Nat→Int→Option Nat→Out (NV×NS)
 | _,i,none=>gd (decide (-1000000≤i)&&decide (i≤1000000)) (Ui s (.stuck ⟨0,-1 - i,BF,[],none⟩ []) fun s1=> .ok (.st s.next,s1))
 | 0,_,_=> .stuck
 | n+1,i,some b=>gd (decide (-1000000≤i)&&decide (i≤1000000)) (match s.get b with
  | some (.scope x r)=>if i=0 then W (.force x) s else Gy W s n (i - 1) r
  | _=> .stuck)
def Xv {α:Type}(s:NS) (x:Out (α×NS)):Out (α×NS):=x.bind fun r=>gd (decide (s.objs.length≤r.2.objs.length)) (.ok r)
def MW (v:NV) (s:NS):Out (NV×NS):=match v with
 | .pr _=> .stuck
 | v=>Ui s (.thunk BF none (some v)) fun s1=>Ui s1 (.stuck ⟨9,0,BF,[s.next],none⟩ []) fun s2=> .ok (.st s1.next,s2)
def R8 (W:Rq→NS→Out (NV×NS)) (n:Nat) (t:Tm) (ρ:Option Nat) (s:NS):Out (NV×NS):=match t.kids with
 | []=>if t.kind=0 then Gy W s n t.index ρ else .stuck
 | [p]=>if t.kind=9 then (W (.eval p ρ) s).bind fun r=>MW r.1 r.2 else .stuck
 | [a,b] =>
  if t.kind=4 then (W (.eval a ρ) s).bind fun r=>Ui r.2 (.thunk b ρ none) fun s1=>W (.apply r.1 r.2.next) s1
  else if t.kind=5 then Ui s (.thunk a ρ none) fun s1=>Ui s1 (.func s.next ⟨b,ρ⟩) fun s2=> .ok (.fn s1.next,s2)
  else .stuck
 | _=> .stuck
def Vr (W:Rq→NS→Out (NV×NS)) (v:NV) (x:Nat) (s:NS):Out (NV×NS):=match v with
 | .fn a=>match s.get a with
  | some (.func d b)=>Xk s fun s=>W (.body b x) s
  | _=> .stuck
 | .st a=>match s.get a with
  | some (.stuck h args)=>gd (decide (args.length<100)&& !decide (h.kind=3)&&h.body.isNone) (Ui s (.stuck h (args++[x])) fun s1=> .ok (.st s.next,s1))
  | _=> .stuck
 | .pr _=> .stuck
def Fz:Nat→Rq→NS→Out (NV×NS)
 | 0,_,_=> .stuck
 | n+1,r,s=>gd (LX s&&Wy s.objs.length r) ((Xv s (match r with
  | .eval t ρ=>R8 (Fz n) n t ρ s
  | .force a=>match s.get a with
   | some (.thunk t ρ (some v))=> .ok (v,s)
   | some (.thunk t ρ none)=>(Fz n (.eval t ρ) s).bind fun r=>match r.2.get a with
    | some (.thunk t' ρ' k')=> .ok (r.1,r.2.set a (.thunk t' none (some r.1)))
    | _=> .stuck
   | _=> .stuck
  | .apply v x=>Vr (Fz n) v x s
  | .body b x=>Ui s (.scope x b.vars) fun s1=>Fz n (.eval b.t (some s.next)) s1)).bind fun r=>gd (LW r.2.objs.length r.1) (.ok r))
def LL (Q:NS→NV→Int→Out (Tm×NS)) (n:Nat) (s:NS) (x:Nat) (d:Int):Out (Tm×NS):=(Fz n (.force x) s).bind fun r=>Q r.2 r.1 d
def RJ (Q:NS→Nat→Int→Out (Tm×NS)) (h:NH) (s:NS) (d:Int):Out (Tm×NS) :=
 if h.kind=0 then gd (decide (-1000000≤h.level)&&decide (h.level≤1000000)) (.ok (Bc (d - 1 - h.level),s))
 else gd (decide (0<h.kids.length)&&h.body.isNone) ((Mf Q d h.kids s).bind fun r=> .ok (.mk h.kind 0 ⟨#[]⟩ [] r.1,r.2))
def Nf (Q:NS→Nat→Int→Out (Tm×NS)) (d:Int):List Nat→Tm→NS→Out (Tm×NS)
 | [],t,s=> .ok (t,s)
 | x::xs,t,s=>WX s d fun s=>(Q s x d).bind fun r=>Nf Q d xs (DQ t r.1) r.2
def Fy:Nat→NS→NV→Int→Out (Tm×NS)
 | 0,_,_,_=> .stuck
 | n+1,s,v,d=>match v with
  | .st a=>match s.get a with
   | some (.stuck h args)=>gd (LX s&&decide (h.kids.length<100)&&h.body.isNone) (Xv s (WX s d fun s=>(RJ (LL (Fy n) n) h s d).bind fun r=>match r.2.get a with
    | some (.stuck h2 args2)=>gd (LX r.2&&decide (args2.length<100)) (Nf (LL (Fy n) n) d args2 r.1 r.2)
    | _=> .stuck))
   | _=> .stuck
  | _=> .stuck
def SN (n:Nat) (t:Tm):Out (Tm×NS):=(Fz n (.eval t none) ⟨[],20000,0⟩).bind fun r=>Fy n r.2 r.1 0
def cA:Tm:= .mk 3 0 ⟨#[65]⟩ [] []
def aj:Tm:= .mk 5 0 ⟨#[]⟩ [] [cA,Bc 0]
def aa:Tm:=DQ (Bc 5) (DQ aj (Bc 3))
def eW:Tm:= .mk 9 0 ⟨#[]⟩ [] [DQ aj (Bc 2)]
theorem UA:∃s,SN 20 aa= .ok (DQ (Bc 5) (Bc 3),s):=⟨_,rfl⟩
theorem Ts:∃s,SN 20 eW= .ok (.mk 9 0 ⟨#[]⟩ [] [Bc 2],s):=⟨_,rfl⟩
structure XT where
 fn:Nat
 st:Nat
 pr:Nat
 clo:Nat
def JB (mu:List Nat) (a:Nat):Nat:=mu.getD (mu.length - 1 - a) 0
def Gl (mu:List Nat) (a:Nat):PV:= .addr (JB mu a)
def Jy (mu:List Nat) (v:Option Nat):PV:= .optp (v.map (JB mu))
def NV.addr:NV→Nat
 | .fn a | .pr a | .st a=>a
def XT.ty (q:XT):NV→Nat
 | .fn _=>q.fn
 | .pr _=>q.pr
 | .st _=>q.st
def LH (mu:List Nat) (l:List Nat):List (List PV):=l.map fun a=>[Gl mu a]
section
variable (q:XT) (m:Nat) (mu:List Nat)
def Oo (v:NV):PV:= .iface (q.ty v) (Gl mu v.addr)
def UO:Option NV→PV
 | none=> .nilIface
 | some v=>Oo q mu v
def YV (b:NB):AV:= .fn (.func q.clo) [] [.ref [.addr m],.ref (A3 b.t),.ref [Jy mu b.vars]]
def cz:Option NB→AV
 | none=> .p .nilFn
 | some b=>YV q m mu b
def Eh (b:Nat):NO→Ap
 | .thunk t v k=> .box b ((A3 t).map .p++[.p (Jy mu v),.p (UO q mu k)])
 | .scope x r=> .box b [.p (Gl mu x),.p (Jy mu r)]
 | .func d f=> .box b [.p (Gl mu d),YV q m mu f]
 | .pair x y z=> .box b [.p (Gl mu x),.p (Gl mu y),.p (Gl mu z)]
 | .stuck h args=> .box b (.p (I h.kind):: .p (I h.level)::((A3 h.node).map .p++[.p (.lst (LH mu h.kids)),cz q m mu h.body,.p (.lst (LH mu args))]))
def GF:List Nat→List NO→List Ap
 | b::bs,o::os=>Eh q m mu b o::GF bs os
 | _,_=>[]
def HS (s:NS):List Ap:= .box m [.p (.lst []),.p (I s.left),.p (I s.nodes)]::GF q m mu mu s.objs
def Qe (nv:NV) (s':NS):CA→List Ap→Prop
 | .val v,H'=>∃mu',mu'.length=s'.objs.length∧(∃new,mu'=new++mu)∧v= .p (Oo q mu' nv)∧H'=HS q m mu' s'
 | .panic _,_=>False
def Zo (t:Tm) (s':NS):CA→List Ap→Prop
 | .val v,H'=>∃mu',mu'.length=s'.objs.length∧(∃new,mu'=new++mu)∧v= .agg ((A3 t).map .p)∧H'=HS q m mu' s'
 | .panic _,_=>False
end
theorem HG {mu new:List Nat}{a:Nat}(h:a<mu.length):JB (new++mu) a=JB mu a:=by
 unfold JB;rw[List.length_append];simp only[List.getD_eq_getElem?_getD];rw[List.getElem?_append_right Aa];congr 2;omega
theorem Ed {mu new:List Nat}{a:Nat}(h:a<mu.length):Gl (new++mu) a=Gl mu a:=by rw[Gl,Gl,HG h]
theorem KR {mu new:List Nat}{v:Option Nat}(h:JO mu.length v=true):Jy (new++mu) v=Jy mu v:=by
 cases v with
 | none=>rfl
 | some a=>simp only[Jy,Option.map_some,HG (by simpa [JO] using h)]
theorem Xq {q:XT}{mu new:List Nat}{v:NV}(h:LW mu.length v=true):Oo q (new++mu) v=Oo q mu v:=by
 have:v.addr<mu.length:=by cases v<;>simpa [LW,NV.addr] using h
 simp only[Oo,Ed this]
theorem XX {q:XT}{mu new:List Nat}{v:Option NV}(h:aU mu.length v=true):UO q (new++mu) v=UO q mu v:=by
 cases v with
 | none=>rfl
 | some v=>exact Xq h
theorem Tn {q:XT}{m:Nat}{mu new:List Nat}{b:NB}(h:JO mu.length b.vars=true):YV q m (new++mu) b=YV q m mu b:=by simp only[YV,KR h]
theorem YP {q:XT}{m:Nat}{mu new:List Nat}{v:Option NB}(h:Ya mu.length v=true):cz q m (new++mu) v=cz q m mu v:=by
 cases v with
 | none=>rfl
 | some v=>exact Tn h
theorem Ow {mu new:List Nat}:∀{l:List Nat},(l.all fun a=>decide (a<mu.length))=true→LH (new++mu) l=LH mu l
 | [],_=>rfl
 | a::l,h=>by
  simp only[List.all_cons,Bool.and_eq_true,decide_eq_true_eq] at h;simp only[LH,List.map_cons,Ed h.1];exact congrArg _ (Ow h.2)
theorem OB {q:XT}{m:Nat}{mu new:List Nat}{b:Nat}{o:NO}(h:LJ mu.length o=true):Eh q m (new++mu) b o=Eh q m mu b o:=by
 cases o with
 | thunk t v k=>simp only[LJ,Bool.and_eq_true] at h;simp only[Eh,KR h.1,XX h.2]
 | scope x r=>simp only[LJ,Bool.and_eq_true,decide_eq_true_eq] at h;simp only[Eh,Ed h.1,KR h.2]
 | func d f=>simp only[LJ,Bool.and_eq_true,decide_eq_true_eq] at h;simp only[Eh,Ed h.1,Tn h.2]
 | pair x y z=>simp only[LJ,Bool.and_eq_true,decide_eq_true_eq] at h;simp only[Eh,Ed h.1.1,Ed h.1.2,Ed h.2]
 | stuck h' args=>simp only[LJ,Bool.and_eq_true] at h;simp only[Eh,Ow h.1.1,YP h.1.2,Ow h.2]
theorem QF {q:XT}{m:Nat}{mu new:List Nat}:∀{bs:List Nat}{os:List NO},os.all (LJ mu.length)=true→GF q m (new++mu) bs os=GF q m mu bs os
 | [],os,_=>by cases os<;>rfl
 | b::bs,[],_=>rfl
 | b::bs,o::os,h=>by
  simp only[List.all_cons,Bool.and_eq_true] at h;simp only[GF,OB h.1,QF h.2]
theorem YB {q:XT}{m b:Nat}{mu:List Nat}{s:NS}{o:NO}(hl:mu.length=s.objs.length) (h:(LX s&&LJ s.objs.length o)=true):HS q m (b::mu) (s.new o)= .box m [.p (.lst []),.p (I s.left),.p (I s.nodes)]::Eh q m mu b o::GF q m mu mu s.objs:=by
 simp only[Bool.and_eq_true,LX,←hl] at h;simp only[HS,NS.new,GF];rw[show b::mu=[b]++mu from rfl,OB h.2,QF h.1]
theorem QB {q:XT}{m:Nat}{mu:List Nat}:∀{bs:List Nat}{os:List NO}{i b:Nat}{o:NO},bs[i]?=some b→os[i]?=some o→(GF q m mu bs os)[i]?=some (Eh q m mu b o)
 | [],_,i,b,o,h,_=>by simp at h
 | _::_,[],i,b,o,_,h=>by simp at h
 | b'::bs,o'::os,0,b,o,h,h'=>by
  simp only[List.getElem?_cons_zero,Option.some.injEq] at h h';subst h;subst h';rfl
 | b'::bs,o'::os,i+1,b,o,h,h'=>by
  simp only[List.getElem?_cons_succ] at h h';simp only[GF,List.getElem?_cons_succ];exact QB h h'
theorem Q4 {q:XT}{m:Nat}{mu:List Nat}:∀{bs:List Nat}{os:List NO}{i b:Nat}(o:NO),bs[i]?=some b→(GF q m mu bs os).set i (Eh q m mu b o)=GF q m mu bs (os.set i o)
 | [],_,i,b,o,h=>by simp at h
 | _::_,[],i,b,o,_=>rfl
 | b'::bs,o'::os,0,b,o,h=>by
  simp only[List.getElem?_cons_zero,Option.some.injEq] at h;subst h;rfl
 | b'::bs,o'::os,i+1,b,o,h=>by
  simp only[List.getElem?_cons_succ] at h;simp only[GF,List.set_cons_succ];exact congrArg _ (Q4 o h)
def mB (m:Nat) (l k:Int):Ap:= .box m [.p (.lst []),.p (I l),.p (I k)]
end Go.Eu
namespace Go.Abs
open Go.Eu
section
variable {P:Program}{r:Option Nat}{ops:Array Oper}{n:Nat}{τ₀ τ:Nat→AV}{D:List CI}{opn:Nat→Bool}{k:Nat}{H:List Ap}{dst:Option Tmp}{op:Op}{ty:TypeId}{pos:String}{aft:Array Edge}
theorem GI {Q:Bl→A4→Prop}{R:CA→List Ap→Prop}(ho:ops[k]?=some ⟨dst,op,ty,pos,aft,none⟩) (hd:Db dst n=true) (h:Bz P ⟨dst,op,ty,pos,aft,none⟩ (ev τ) H R) (hno:∀v H',¬R (.panic v) H')
  (next:∀v H1,R (.val v) H1→∃H',H1.Perm H'∧AL P r ops (k+1) ⟨n,put τ dst v,H',D⟩ Q):AL P r ops k ⟨n,τ,H,D⟩ Q :=
 C0 (S:=⟨n,τ,H,D⟩) ho AT (D8 hd) h (fun v H1 hv=>by obtain⟨H',hp,hn⟩:=next v H1 hv;exact FT hp hn) (fun v H1 hv=>absurd hv (hno v H1))
theorem E9 {Q:Bl→A4→Prop}{rd ef effs fx}{R:CA→List Ap→Prop}(fx':List (Nat×Sp)) (ho:ops[k]?=some ⟨dst,op,ty,pos,aft,none⟩) (hn:opn k=true) (h:Bz P ⟨dst,op,ty,pos,aft,none⟩ (ev τ) H R) (haft:Cg ops k (fx'.map (·.1))=true) (hne:∃v H',R (.val v) H') (hno:∀v H',¬R (.panic v) H')
  (next:∀v H1,R (.val v) H1→∃H',H1.Perm H'∧FJ ops k H H' rd∧Dx k (.eff v H') fx∧Dr P ops n τ₀ D Q opn (k+1) (put τ dst v) H' rd ((k,H,H')::ef) (true::effs) (fx'++fx)):Dr P ops n τ₀ D Q opn k τ H rd ef effs fx:=by
 refine Gb (R:=fun r H'=>match r with | .val v=>FJ ops k H H' rd∧Dx k (.eff v H') fx∧Dr P ops n τ₀ D Q opn (k+1) (put τ dst v) H' rd ((k,H,H')::ef) (true::effs) (fx'++fx) | .panic _=>False) fx' ho hn (Bz.permR h ?_) haft ?_ (fun _ _ h=>h) (fun v H' h=>h)
 ·intro r H1 hr;cases r with
  | val v=>exact next v H1 hr
  | panic v=>exact absurd hr (hno v H1)
 obtain⟨v,H1,hv⟩:=hne;obtain⟨H',_,h⟩:=next v H1 hv;exact⟨v,H',h⟩
end
theorem Na {n:Nat}{τ:Nat→AV}{H:List Ap}{D:List CI}(t:Nat) {b:Nat}(h:τ t= .ptr b 0):Dy ⟨n,τ,H,D⟩ ⟨n,put τ (some t) (.p (.addr b)),H,D⟩:=KH fun F w v hr=>by rw[h] at hr;exact Pw b F w v hr
theorem CW {P:Program}{dst:Option Tmp}{c:Call}{ty:TypeId}{pos:String}{aft:Array Edge}{g:Option (Nat×Bool)}{f:Operand}{fid:FuncId}{ρ:Operand→AV}{H Hs Hf:List Ap}{A:List AV}{R:CA→List Ap→Prop}
  (hc:c.callee= .value f) (hf:ρ f= .p (.fn fid)) (hp:H.Perm (Hs++Hf)) (h:BD P fid A Hs R) (hA:C2 (c.args.toList.map ρ) A) :
  Bz P ⟨dst,.call c,ty,pos,aft,g⟩ ρ H (fun r H'=>∃Hs',R r Hs'∧H'=Hs'++Hf):=Du hc (.inl ⟨hf,rfl,rfl⟩) hp (h.args (by simpa using hA)) (.inl rfl)
theorem RG {P:Program}{dst:Option Tmp}{c:Call}{ty:TypeId}{pos:String}{aft:Array Edge}{g:Option (Nat×Bool)}{f:Operand}{fid:FuncId}{first caps:List AV}{ρ:Operand→AV}{H Hs Hf:List Ap}{A:List AV}{R:CA→List Ap→Prop}
  (hc:c.callee= .value f) (hf:ρ f= .fn (.func fid) first caps) (hp:H.Perm (Hs++Hf)) (h:BD P fid A Hs R) (hA:C2 (first++c.args.toList.map ρ++caps) A) :
  Bz P ⟨dst,.call c,ty,pos,aft,g⟩ ρ H (fun r H'=>∃Hs',R r Hs'∧H'=Hs'++Hf):=Du hc (.inr hf) hp (h.args hA) (.inl rfl)
theorem BR {P:Program}{dst:Option Tmp}{ty:TypeId}{pos:String}{aft:Array Edge}{g:Option (Nat×Bool)}{ρ:Operand→AV}{H:List Ap}{x:Operand}{b:Nat}(hx:ρ x= .p (.addr b)):CG P ⟨dst,.nilCheck x,ty,pos,aft,g⟩ ρ H (.ptr b 0) H :=
 BK fun F w E hH hE=>by
  have h1:=hE x AQ;rw[hx] at h1;simp only[BM,BN] at h1;exact⟨.pointer (some ⟨b,0,none⟩),by simp[execOp,h1,Sem.run_pure],by simp[BM]⟩
theorem Gu {P:Program}{dst:Option Tmp}{ty:TypeId}{pos:String}{aft:Array Edge}{g:Option (Nat×Bool)}{ρ:Operand→AV}{H:List Ap}{x:Operand}{b:Nat}(hx:ρ x= .p (.optp (some b))):CG P ⟨dst,.nilCheck x,ty,pos,aft,g⟩ ρ H (.ptr b 0) H :=
 BK fun F w E hH hE=>by
  have h1:=hE x AQ;rw[hx] at h1;simp only[BM,BN] at h1;exact⟨.pointer (some ⟨b,0,none⟩),by simp[execOp,h1,Sem.run_pure],by simp[BM]⟩
theorem Lx:Fv .nilp (.p (.optp none)):=fun F w v h=>by simp only[BM,BN] at h ⊢;exact h
theorem SZ (b:Nat):Fv (.p (.addr b)) (.p (.optp (some b))):=fun F w v h=>by simp only[BM,BN] at h ⊢;exact h
theorem Rj (b:Nat):Fv (.ptr b 0) (.p (.optp (some b))):=fun F w v h=>by simp only[BM,BN] at h ⊢;exact h
theorem dL {x y:AV}(h:Fv x y:=by first | exact we rfl | exact Pw _ | exact Lx | exact SZ _ | exact Rj _ | exact D5 rfl | exact VW _ | exact Ko _):Fv x y:=h
theorem Js {xs ys:List AV}(h:C2 xs ys:=by repeat' first | exact G7 | refine aw dL ?_):C2 xs ys:=h
section
variable {q:XT}{m b:Nat}{mu:List Nat}{s s':NS}{nv:NV}{t:Tm}{o:NO}{fr:List Ap}
theorem FU (fr:List Ap):∀v H',¬∃Hs',Qe q m mu nv s' (.panic v) Hs'∧H'=Hs'++fr:=fun _ _ h=>by obtain⟨_,h,_⟩:=h;exact h
theorem Kp (hl:mu.length=s.objs.length) (h:s.objs.length≤s'.objs.length) (fr:List Ap):∃v H',∃Hs',Qe q m mu nv s' (.val v) Hs'∧H'=Hs'++fr :=
 ⟨_,_,_,⟨List.replicate (s'.objs.length - s.objs.length) 0++mu,by simp;omega,⟨_,rfl⟩,rfl,rfl⟩,rfl⟩
theorem OK (fr:List Ap):∀v H',¬∃Hs',Zo q m mu t s' (.panic v) Hs'∧H'=Hs'++fr:=fun _ _ h=>by obtain⟨_,h,_⟩:=h;exact h
theorem Sz (hl:mu.length=s.objs.length) (h:s.objs.length≤s'.objs.length) (fr:List Ap):∃v H',∃Hs',Zo q m mu t s' (.val v) Hs'∧H'=Hs'++fr :=
 ⟨_,_,_,⟨List.replicate (s'.objs.length - s.objs.length) 0++mu,by simp;omega,⟨_,rfl⟩,rfl,rfl⟩,rfl⟩
theorem Kw (fr:List Ap) (hl:mu.length=s.objs.length) (h:(LX s&&LJ s.objs.length o)=true):(Eh q m mu b o::(fr++HS q m mu s)).Perm (fr++HS q m (b::mu) (s.new o)):=by
 rw[YB hl h];refine(List.perm_middle (a:=Eh q m mu b o) (l₁:=fr) (l₂:=HS q m mu s)).symm.trans (List.Perm.append_left fr ?_);exact List.Perm.swap _ _ _
theorem TY (fr:List Ap) (hl:mu.length=s.objs.length) (h:(LX s&&LJ s.objs.length o)=true):(Eh q m mu b o::(fr++HS q m mu s)).Perm (HS q m (b::mu) (s.new o)++fr):=(Kw fr hl h).trans List.perm_append_comm
theorem Ci {a:Nat}(hl:mu.length=s.objs.length) (hg:s.get a=some o):(HS q m mu s)[s.objs.length - 1 - a+1]?=some (Eh q m mu (JB mu a) o):=by
 unfold NS.get at hg;split at hg
 ·have hb:mu[s.objs.length - 1 - a]?=some (JB mu a):=by
   have:s.objs.length - 1 - a<mu.length:=by omega
   unfold JB;rw[List.getD_eq_getElem?_getD,hl,List.getElem?_eq_getElem this];rfl
  exact QB hb hg
 cases hg
theorem QJ {a c:Nat}(hl:mu.length=s.objs.length) (hg:s.get a=some o) (hc:JB mu a=c):(HS q m mu s)[s.objs.length - 1 - a+1]?=some (Eh q m mu c o):=hc▸Ci hl hg
theorem GX (mu l:List Nat):(LH mu l).length=l.length:=List.length_map _
theorem UU (mu l:List Nat):∀r∈LH mu l,r.length=1:=by
 intro r hr;obtain⟨a,_,rfl⟩:=List.mem_map.1 hr;rfl
theorem Rz (mu l:List Nat):∀r∈LH mu l,Cd 1 r:=by
 intro r hr;obtain⟨a,_,rfl⟩:=List.mem_map.1 hr;exact⟨O,fun c hc=>by simp only[List.mem_singleton] at hc;subst hc;exact⟨by simp[Gl],by simp[Gl]⟩⟩
theorem TX {a:Nat}(o':NO) (hl:mu.length=s.objs.length) (hg:s.get a=some o):(HS q m mu s).set (s.objs.length - 1 - a+1) (Eh q m mu (JB mu a) o')=HS q m mu (s.set a o'):=by
 unfold NS.get at hg;split at hg
 ·have hb:mu[s.objs.length - 1 - a]?=some (JB mu a):=by
   have:s.objs.length - 1 - a<mu.length:=by omega
   unfold JB;rw[List.getD_eq_getElem?_getD,hl,List.getElem?_eq_getElem this];rfl
  show _::(GF q m mu mu s.objs).set _ _=_;rw[Q4 o' hb];rfl
 cases hg
theorem IP {mu:List Nat}{s:NS}{b:Nat}(hl:mu.length=s.objs.length):Gl (b::mu) s.next= .addr b:=by
 unfold Gl JB NS.next;rw[←hl];simp
theorem Qq {mu:List Nat}{a b:Nat}(h:a<mu.length):Gl (b::mu) a=Gl mu a:=Ed (new:=[b]) h
theorem Vs {mu:List Nat}{b:Nat}{v:Option Nat}(h:JO mu.length v=true):Jy (b::mu) v=Jy mu v:=KR (new:=[b]) h
theorem Xf {mu:List Nat}{s:NS}{b:Nat}(hl:mu.length=s.objs.length):Jy (b::mu) (some s.next)= .optp (some b):=by
 unfold Jy JB NS.next;rw[←hl];simp
theorem Sg {q:XT}{mu:List Nat}{s:NS}{b:Nat}(hl:mu.length=s.objs.length):AV.p (.iface q.st (.addr b))= .p (Oo q (b::mu) (.st s.next)):=by
 simp only[Oo,NV.addr,IP hl];rfl
theorem Yk {q:XT}{mu:List Nat}{s:NS}{b:Nat}(hl:mu.length=s.objs.length):AV.p (.iface q.fn (.addr b))= .p (Oo q (b::mu) (.fn s.next)):=by
 simp only[Oo,NV.addr,IP hl];rfl
theorem Cx {mu:List Nat}{s:NS}{b:Nat}{o:NO}(hl:mu.length=s.objs.length):(b::mu).length=(s.new o).objs.length:=by simp[NS.new,hl]
theorem Q6 {s:NS}{a:Nat}{o o':NO}(h:s.get a=some o):(s.set a o').get a=some o':=by
 unfold NS.get NS.set at *;simp only[List.length_set];split at h
 ·rename_i hlt;rw[if_pos hlt,List.getElem?_set_self Aa]
 cases h
theorem set_set {s:NS}{a:Nat}{o o':NO}:(s.set a o).set a o'=s.set a o':=by simp[NS.set]
end
theorem Ks {P:Program}{dst:Option Tmp}{ty:TypeId}{pos:String}{aft:Array Edge}{g:Option (Nat×Bool)}{ρ:Operand→AV}{H:List Ap}{nm:String}{x:Operand} :
  CG P ⟨dst,.makeFunc (.method nm) #[x] #[],ty,pos,aft,g⟩ ρ H (.fn (.method nm) [ρ x] []) H:=CS rfl rfl
section
variable {P:Program}{dst:Option Tmp}{ty:TypeId}{pos:String}{aft:Array Edge}{g:Option (Nat×Bool)}{ρ:Operand→AV}{H:List Ap}{x:Operand}
def cf (P:Program) (T:TypeId):Bool:=match P.underlying T with
 | some (.interface _)=>true
 | _=>false
theorem Td {T:TypeId}(h:cf P T=true):∃ms,P.underlying T=some (.interface ms):=by
 unfold cf at h;split at h
 ·exact⟨_,by assumption⟩
 cases h
theorem H4 {T U:TypeId}{X:PV}{b:Bool}(hu:cf P T=true) (hx:ρ x= .p X) (hy:ρ (.const .nilIface)= .p .nilIface) (hX:(match X with | .nilIface=>some true | .iface _ _=>some false | _=>none)=some b):CG P ⟨dst,.binOp .eql T x (.const .nilIface) U,ty,pos,aft,g⟩ ρ H (.p (.bool b)) H:=by
 obtain⟨ms,hu⟩:=Td hu;exact Oe hu hx hy hX
end
theorem Re {P:Program}{dst:Option Tmp}{ty:TypeId}{pos:String}{aft:Array Edge}{g:Option (Nat×Bool)}{ρ:Operand→AV}{H:List Ap}{x y:Operand}{T U:TypeId}(hT:(match P.underlying T with | some (.func _ _ _)=>true | _=>false)=true) (hx:ρ x= .p .nilFn) (hy:ρ y= .p .nilFn):CG P ⟨dst,.binOp .neq T x y U,ty,pos,aft,g⟩ ρ H (.p (.bool false)) H :=
 BK fun F w E hH hE=>by
  have e1:=hE x AQ;have e2:=hE y AQ;rw[hy] at e2;rw[hx] at e1;simp only[BM,BN] at e1 e2;obtain⟨a1,a2,a3,hu⟩:∃a1 a2 a3,P.underlying T=some (.func a1 a2 a3):=by
   cases hd:P.underlying T with
   | none=>rw[hd] at hT;cases hT
   | some d =>
    rw[hd] at hT;cases d<;>first | exact⟨_,_,_,rfl⟩ | cases hT
  refine⟨.bool false,?_,by simp[BM,BN]⟩;have hg:(eqGuard .neq T x y .nilFunc .nilFunc).run P w= .ok () w:=by
   unfold eqGuard;rfl
  have hq:(Op.equal T .nilFunc .nilFunc).run P w= .ok true w:=by
   have h:∀d:Nat,(Op.equalIn (d+1) T .nilFunc .nilFunc).run P w= .ok true w:=fun d=>by simp[Op.equalIn,run_underlying hu]
   simp[Op.equal,Op.maxDepth,h 9999]
  simp[execOp,Sem.run_bind,hg,e1,e2,binOp,hq]
theorem S6 {P:Program}{dst:Option Tmp}{ty:TypeId}{pos:String}{aft:Array Edge}{g:Option (Nat×Bool)}{ρ:Operand→AV}{x y:Operand}{q:XT}{m a b:Nat}{mu:List Nat}{s:NS}{T:TypeId}{bl:Bool}{t:Tm}{v:Option Nat}{k:Option NV}{nv:NV}
  (hT:Ck P T=some (bl,1)) (hl:mu.length=s.objs.length) (hg:s.get a=some (.thunk t v k)) (hb:JB mu a=b) (hx:ρ x= .ptr b 6) (hy:ρ y= .p (Oo q mu nv)) :
  CG P ⟨dst,.store T x y,ty,pos,aft,g⟩ ρ (HS q m mu s) (.p .any) (HS q m mu (s.set a (.thunk t v (some nv)))):=by
 subst hb;obtain⟨tk,ti,tn,tl,ts⟩:=t;have h:=EB (P:=P) (dst:=dst) (ty:=ty) (pos:=pos) (aft:=aft) (g:=g) (us:=[.p (Oo q mu nv)]) hT hx (Ci (q:=q) (m:=m) hl hg) (by rw[hy];rfl) rfl rfl rfl;rw[←TX (q:=q) (m:=m) (.thunk (.mk tk ti tn tl ts) v (some nv)) hl hg];exact h
theorem Ul {P:Program}{dst:Option Tmp}{ty:TypeId}{pos:String}{aft:Array Edge}{g:Option (Nat×Bool)}{ρ:Operand→AV}{x y:Operand}{q:XT}{m a b:Nat}{mu:List Nat}{s:NS}{T:TypeId}{bl:Bool}{t:Tm}{v:Option Nat}{k:Option NV}
  (hT:Ck P T=some (bl,1)) (hl:mu.length=s.objs.length) (hg:s.get a=some (.thunk t v k)) (hb:JB mu a=b) (hx:ρ x= .ptr b 5) (hy:ρ y= .nilp) :
  Bz P ⟨dst,.store T x y,ty,pos,aft,g⟩ ρ (HS q m mu s) (dj (.p .any) ((HS q m mu s).set (s.objs.length - 1 - a+1) (.box b ((A3 t).map .p++[.nilp,.p (UO q mu k)])))):=by
 subst hb;obtain⟨tk,ti,tn,tl,ts⟩:=t;have h:=EB (P:=P) (dst:=dst) (ty:=ty) (pos:=pos) (aft:=aft) (g:=g) (us:=[.nilp]) hT hx (Ci (q:=q) (m:=m) hl hg) (by rw[hy];rfl) rfl rfl rfl;exact h
theorem RL {n:Nat}{τ:Nat→AV}{D:List CI}{q:XT}{m a b:Nat}{mu:List Nat}{s:NS}{t:Tm}{v:Option Nat}{k:Option NV}(hl:mu.length=s.objs.length) (hg:s.get a=some (.thunk t v k)) (hb:JB mu a=b) :
  Dy ⟨n,τ,(HS q m mu s).set (s.objs.length - 1 - a+1) (.box b ((A3 t).map .p++[.nilp,.p (UO q mu k)])),D⟩ ⟨n,τ,HS q m mu (s.set a (.thunk t none k)),D⟩:=by
 subst hb;have hi:((HS q m mu s).set (s.objs.length - 1 - a+1) (.box (JB mu a) ((A3 t).map .p++[.nilp,.p (UO q mu k)])))[s.objs.length - 1 - a+1]?=some (.box (JB mu a) ((A3 t).map .p++[.nilp,.p (UO q mu k)])):=by
  rw[List.getElem?_set_self (List.getElem?_eq_some_iff.1 (Ci (q:=q) (m:=m) hl hg)).1]
 obtain⟨tk,ti,tn,tl,ts⟩:=t;have hw:C2 ((A3 (.mk tk ti tn tl ts)).map .p++[.nilp,.p (UO q mu k)]) ((A3 (.mk tk ti tn tl ts)).map .p++[.p (Jy mu none),.p (UO q mu k)]):=by
  simp only[A3,List.map_cons,List.map_nil,List.cons_append,List.nil_append];exact aw (we O) (aw (we O) (aw (we O) (aw (we O) (aw (we O) (aw Lx (aw (we O) G7))))))
 have:=C4 (n:=n) (τ:=τ) (D:=D) (o':= .box (JB mu a) ((A3 (.mk tk ti tn tl ts)).map .p++[.p (Jy mu none),.p (UO q mu k)])) hi (Sw hw);rw[List.set_set] at this;rw[←TX (q:=q) (m:=m) (.thunk (.mk tk ti tn tl ts) none k) hl hg];exact this
end Go.Abs
namespace Go.Eu
open Go.Abs
theorem CJ {α:Type}{b:Bool}{x:Out α}{y:α}(h:gd b x= .ok y):b=true∧x= .ok y:=by
 unfold gd at h;split at h
 ·rename_i hb;exact⟨hb,h⟩
 cases h
theorem Ew {α β:Type}{x:Out α}{k:α→Out β}{y:β}(h:x.bind k= .ok y):∃a,x= .ok a∧k a= .ok y:=by
 cases x with
 | stuck=>cases h
 | fail=>cases h
 | ok a=>exact⟨a,rfl,h⟩
theorem ER {α:Type}{s:NS}{x:Out (α×NS)}{y:α×NS}(h:Xv s x= .ok y):x= .ok y∧s.objs.length≤y.2.objs.length:=by
 obtain⟨a,h1,h2⟩:=Ew h;obtain⟨h3,h4⟩:=CJ h2;injection h4 with h4;subst h4;exact⟨h1,by simpa using h3⟩
section
variable {n:Nat}{s s':NS}{nv:NV}{t:Tm}{ρ:Option Nat}{a x:Nat}{W:Rq→NS→Out (NV×NS)}
theorem W2 {x:Out (NV×NS)}{y:NV×NS}(h:(x.bind fun r=>gd (LW r.2.objs.length r.1) (.ok r))= .ok y):x= .ok y∧LW y.2.objs.length y.1=true:=by
 obtain⟨a,h1,h2⟩:=Ew h;obtain⟨h3,h4⟩:=CJ h2;injection h4 with h4;subst h4;exact⟨h1,h3⟩
theorem FX {r:Rq}(h:Fz n r s= .ok (nv,s')):LX s=true∧Wy s.objs.length r=true∧s.objs.length≤s'.objs.length∧LW s'.objs.length nv=true:=by
 cases n with
 | zero=>cases h
 | succ n =>
  unfold Fz at h;obtain⟨h1,h2⟩:=CJ h;obtain⟨h2,h5⟩:=W2 h2;obtain⟨h3,h4⟩:=ER h2;simp only[Bool.and_eq_true] at h1;exact⟨h1.1,h1.2,h4,h5⟩
theorem Us (h:Fz (n+1) (.eval t ρ) s= .ok (nv,s')):R8 (Fz n) n t ρ s= .ok (nv,s'):=by
 unfold Fz at h;exact(ER (W2 (CJ h).2).1).1
theorem Sm (h:Fz (n+1) (.force a) s= .ok (nv,s')):∃t ρ k,s.get a=some (.thunk t ρ k)∧((k=some nv∧s=s')∨(k=none∧∃s1 t' ρ' k',Fz n (.eval t ρ) s= .ok (nv,s1)∧s1.get a=some (.thunk t' ρ' k')∧s'=s1.set a (.thunk t' none (some nv)))):=by
 unfold Fz at h;have h:=(ER (W2 (CJ h).2).1).1;simp only at h;split at h
 ·rename_i t ρ v hg;injection h with h;simp only[Prod.mk.injEq] at h;obtain⟨rfl,rfl⟩:=h;exact⟨t,ρ,_,hg,.inl ⟨rfl,rfl⟩⟩
 ·rename_i t ρ hg;obtain⟨⟨v1,s1⟩,h1,h2⟩:=Ew h;simp only at h2;split at h2
  ·rename_i t' ρ' k' hg';injection h2 with h2;simp only[Prod.mk.injEq] at h2;obtain⟨rfl,rfl⟩:=h2;exact⟨t,ρ,_,hg,.inr ⟨O,s1,t',ρ',k',h1,hg',O⟩⟩
  cases h2
 cases h
theorem YZ (h:Fz (n+1) (.apply (.fn a) x) s= .ok (nv,s')):∃d b,s.get a=some (.func d b)∧0<s.left∧s.left≤20000∧Fz n (.body b x) { s with left:=s.left - 1 }= .ok (nv,s'):=by
 unfold Fz at h;have h:=(ER (W2 (CJ h).2).1).1;simp only[Vr] at h;split at h
 ·rename_i d b hg;obtain⟨h1,h2⟩:=CJ h;simp only[Bool.and_eq_true,decide_eq_true_eq] at h1;exact⟨d,b,hg,h1.1,h1.2,h2⟩
 cases h
theorem aI (h:Fz (n+1) (.apply (.st a) x) s= .ok (nv,s')):∃hd args,s.get a=some (.stuck hd args)∧args.length<100∧¬hd.kind=3∧hd.body=none∧(LX s&&LJ s.objs.length (.stuck hd (args++[x])))=true∧nv= .st s.next∧s'=s.new (.stuck hd (args++[x])):=by
 unfold Fz at h;have h:=(ER (W2 (CJ h).2).1).1;simp only[Vr] at h;split at h
 ·rename_i hd args hg;obtain⟨h1,h2⟩:=CJ h;simp only[Bool.and_eq_true,decide_eq_true_eq,Bool.not_eq_true',decide_eq_false_iff_not,Option.isNone_iff_eq_none] at h1;obtain⟨h3,h4⟩:=CJ h2;injection h4 with h4;simp only[Prod.mk.injEq] at h4;obtain⟨rfl,rfl⟩:=h4;exact⟨hd,args,hg,h1.1.1,h1.1.2,h1.2,h3,O,O⟩
 cases h
theorem VM {b:NB}(h:Fz (n+1) (.body b x) s= .ok (nv,s')):(LX s&&LJ s.objs.length (.scope x b.vars))=true∧Fz n (.eval b.t (some s.next)) (s.new (.scope x b.vars))= .ok (nv,s'):=by
 unfold Fz at h;exact CJ (ER (W2 (CJ h).2).1).1
variable {k i:Int}{nm:ByteArray}{l:List B6}{ts:List Tm}
theorem XI (h:R8 W n (.mk k i nm l ts) ρ s= .ok (nv,s')) (hk:k=0):Gy W s n i ρ= .ok (nv,s'):=by
 subst hk;unfold R8 at h;simp only[Tm.kids,Tm.kind,Tm.index] at h;split at h
 ·simpa using h
 ·simp at h
 ·simp at h
 cases h
theorem X0 (h:R8 W n (.mk k i nm l ts) ρ s= .ok (nv,s')) (hk:k=4):∃a b v1 s1,ts=[a,b]∧W (.eval a ρ) s= .ok (v1,s1)∧(LX s1&&LJ s1.objs.length (.thunk b ρ none))=true∧W (.apply v1 s1.next) (s1.new (.thunk b ρ none))= .ok (nv,s'):=by
 subst hk;unfold R8 at h;simp only[Tm.kids,Tm.kind,Tm.index] at h;split at h
 ·simp at h
 ·simp at h
 ·rename_i a b;simp only[if_true] at h;obtain⟨⟨v1,s1⟩,h1,h2⟩:=Ew h;obtain⟨h3,h4⟩:=CJ h2;exact⟨a,b,v1,s1,O,h1,h3,h4⟩
 cases h
theorem Xa (h:R8 W n (.mk k i nm l ts) ρ s= .ok (nv,s')) (hk:k=5):∃a b,ts=[a,b]∧(LX s&&LJ s.objs.length (.thunk a ρ none))=true∧(LX (s.new (.thunk a ρ none))&&LJ (s.new (.thunk a ρ none)).objs.length (.func s.next ⟨b,ρ⟩))=true∧nv= .fn (s.new (.thunk a ρ none)).next∧s'=(s.new (.thunk a ρ none)).new (.func s.next ⟨b,ρ⟩):=by
 subst hk;unfold R8 at h;simp only[Tm.kids,Tm.kind,Tm.index] at h;split at h
 ·simp at h
 ·simp at h
 ·rename_i a b;simp only[if_true] at h;rw[if_neg AZ] at h;obtain⟨h1,h2⟩:=CJ h;obtain⟨h3,h4⟩:=CJ h2;injection h4 with h4;simp only[Prod.mk.injEq] at h4;obtain⟨rfl,rfl⟩:=h4;exact⟨a,b,O,h1,h3,O,O⟩
 cases h
theorem XB (h:R8 W n (.mk k i nm l ts) ρ s= .ok (nv,s')) (hk:k=9):∃p v1 s1,ts=[p]∧W (.eval p ρ) s= .ok (v1,s1)∧MW v1 s1= .ok (nv,s'):=by
 subst hk;unfold R8 at h;simp only[Tm.kids,Tm.kind,Tm.index] at h;split at h
 ·simp at h
 ·rename_i p;simp only[if_true] at h;obtain⟨⟨v1,s1⟩,h1,h2⟩:=Ew h;exact⟨p,v1,s1,O,h1,h2⟩
 ·simp at h
 cases h
theorem Tp (h:R8 W n (.mk k i nm l ts) ρ s= .ok (nv,s')):k=0∨k=4∨k=5∨k=9:=by
 by_cases h0:k=0
 ·exact .inl h0
 by_cases h4:k=4
 ·exact .inr (.inl h4)
 by_cases h5:k=5
 ·exact .inr (.inr (.inl h5))
 by_cases h9:k=9
 ·exact .inr (.inr (.inr h9))
 exfalso;unfold R8 at h;split at h
 ·rw[if_neg (show ¬(Tm.mk k i nm l ts).kind=0 from h0)] at h;cases h
 ·rw[if_neg (show ¬(Tm.mk k i nm l ts).kind=9 from h9)] at h;cases h
 ·rw[if_neg (show ¬(Tm.mk k i nm l ts).kind=4 from h4),if_neg (show ¬(Tm.mk k i nm l ts).kind=5 from h5)] at h;cases h
 cases h
theorem OF {v:NV}(h:MW v s= .ok (nv,s')):(∀a,v≠ .pr a)∧(LX s&&LJ s.objs.length (.thunk BF none (some v)))=true∧(LX (s.new (.thunk BF none (some v)))&&LJ (s.new (.thunk BF none (some v))).objs.length (.stuck ⟨9,0,BF,[s.next],none⟩ []))=true∧nv= .st (s.new (.thunk BF none (some v))).next∧s'=(s.new (.thunk BF none (some v))).new (.stuck ⟨9,0,BF,[s.next],none⟩ []):=by
 cases v with
 | pr a=>cases h
 | fn a =>
  simp only[MW] at h;obtain⟨h1,h2⟩:=CJ h;obtain⟨h3,h4⟩:=CJ h2;injection h4 with h4;simp only[Prod.mk.injEq] at h4;obtain⟨rfl,rfl⟩:=h4;exact⟨fun _ h=>(by cases h),h1,h3,O,O⟩
 | st a =>
  simp only[MW] at h;obtain⟨h1,h2⟩:=CJ h;obtain⟨h3,h4⟩:=CJ h2;injection h4 with h4;simp only[Prod.mk.injEq] at h4;obtain⟨rfl,rfl⟩:=h4;exact⟨fun _ h=>(by cases h),h1,h3,O,O⟩
theorem Ri {j:Nat}(h:Gy W s j i none= .ok (nv,s')): -1000000≤i∧i≤1000000∧(LX s&&LJ s.objs.length (.stuck ⟨0,-1 - i,BF,[],none⟩ []))=true∧nv= .st s.next∧s'=s.new (.stuck ⟨0,-1 - i,BF,[],none⟩ []):=by
 have h:gd (decide (-1000000≤i)&&decide (i≤1000000)) (Ui s (.stuck ⟨0,-1 - i,BF,[],none⟩ []) fun s1=>Out.ok (NV.st s.next,s1))= .ok (nv,s'):=by cases j<;>simpa only[Gy] using h
 obtain⟨h1,h2⟩:=CJ h;simp only[Bool.and_eq_true,decide_eq_true_eq] at h1;obtain⟨h3,h4⟩:=CJ h2;injection h4 with h4;simp only[Prod.mk.injEq] at h4;obtain⟨rfl,rfl⟩:=h4;exact⟨h1.1,h1.2,h3,O,O⟩
theorem RT {j b:Nat}(h:Gy W s j i (some b)= .ok (nv,s')): -1000000≤i∧i≤1000000∧∃j' x r,j=j'+1∧s.get b=some (.scope x r)∧((i=0∧W (.force x) s= .ok (nv,s'))∨(i≠0∧Gy W s j' (i - 1) r= .ok (nv,s'))):=by
 cases j with
 | zero=>cases h
 | succ j =>
  simp only[Gy] at h;obtain⟨h1,h2⟩:=CJ h;simp only[Bool.and_eq_true,decide_eq_true_eq] at h1;split at h2
  ·rename_i x r hg;refine⟨h1.1,h1.2,j,x,r,O,hg,?_⟩;split at h2
   ·exact .inl ⟨‹_›,h2⟩
   exact .inr ⟨‹_›,h2⟩
  cases h2
end
section
variable {n:Nat}{s s':NS}{t t':Tm}{a x:Nat}{d:Int}{Q:NS→Nat→Int→Out (Tm×NS)}
theorem O6 {v:NV}(h:Fy n s v d= .ok (t,s')):s.objs.length≤s'.objs.length∧∃a,v= .st a:=by
 cases n with
 | zero=>cases h
 | succ n =>
  simp only[Fy] at h;split at h
  ·split at h
   ·exact⟨(ER (CJ h).2).2,_,O⟩
   cases h
  cases h
theorem ZQ (h:Fy (n+1) s (.st a) d= .ok (t,s')):∃hd args0,s.get a=some (.stuck hd args0)∧LX s=true∧hd.kids.length<100∧hd.body=none∧0≤s.nodes∧s.nodes<8000∧0≤d∧d<400 ∧
  ∃t1 s1 h2 args,RJ (LL (Fy n) n) hd { s with nodes:=s.nodes+1 } d= .ok (t1,s1)∧s1.get a=some (.stuck h2 args)∧LX s1=true∧args.length<100∧Nf (LL (Fy n) n) d args t1 s1= .ok (t,s'):=by
 simp only[Fy] at h;split at h
 ·rename_i hd args hg;obtain⟨h1,h2⟩:=CJ h;obtain⟨h3,h4⟩:=CJ (ER h2).1;obtain⟨⟨t1,s1⟩,h5,h6⟩:=Ew h4;simp only[Bool.and_eq_true,decide_eq_true_eq,Option.isNone_iff_eq_none] at h1 h3;simp only at h6;split at h6
  ·rename_i h2 args2 hg2;obtain⟨h7,h8⟩:=CJ h6;simp only[Bool.and_eq_true,decide_eq_true_eq] at h7;exact⟨hd,args,hg,h1.1.1,h1.1.2,h1.2,h3.1.1.1,h3.1.1.2,h3.1.2,h3.2,t1,s1,h2,args2,h5,hg2,h7.1,h7.2,h8⟩
  cases h6
 cases h
theorem YK {hd:NH}{t1:Tm}{s1:NS}(h:RJ Q hd s d= .ok (t1,s1)) (hk:hd.kind=0): -1000000≤hd.level∧hd.level≤1000000∧t1=Bc (d - 1 - hd.level)∧s1=s:=by
 unfold RJ at h;rw[if_pos hk] at h;obtain⟨h1,h2⟩:=CJ h;simp only[Bool.and_eq_true,decide_eq_true_eq] at h1;injection h2 with h2;simp only[Prod.mk.injEq] at h2;exact⟨h1.1,h1.2,h2.1.symm,h2.2.symm⟩
theorem Uy {hd:NH}{t1:Tm}{s1:NS}(h:RJ Q hd s d= .ok (t1,s1)) (hk:¬hd.kind=0):0<hd.kids.length∧hd.body=none∧∃ts,Mf Q d hd.kids s= .ok (ts,s1)∧t1= .mk hd.kind 0 ⟨#[]⟩ [] ts:=by
 unfold RJ at h;rw[if_neg hk] at h;obtain⟨h1,h2⟩:=CJ h;simp only[Bool.and_eq_true,decide_eq_true_eq,Option.isNone_iff_eq_none] at h1;obtain⟨⟨ts,s2⟩,h3,h4⟩:=Ew h2;injection h4 with h4;simp only[Prod.mk.injEq] at h4;obtain⟨rfl,rfl⟩:=h4;exact⟨h1.1,h1.2,ts,h3,O⟩
theorem VR {ts:List Tm}(h:Mf Q d [] s= .ok (ts,s')):ts=[]∧s'=s:=by
 injection h with h;simp only[Prod.mk.injEq] at h;exact⟨h.1.symm,h.2.symm⟩
theorem TM {xs:List Nat}{ts:List Tm}(h:Mf Q d (x::xs) s= .ok (ts,s')):∃y sy ys,Q s x d= .ok (y,sy)∧Mf Q d xs sy= .ok (ys,s')∧ts=y::ys:=by
 obtain⟨⟨y,sy⟩,h1,h2⟩:=Ew h;obtain⟨⟨ys,sz⟩,h3,h4⟩:=Ew h2;injection h4 with h4;simp only[Prod.mk.injEq] at h4;obtain⟨rfl,rfl⟩:=h4;exact⟨y,sy,ys,h1,h3,O⟩
theorem QK (h:Nf Q d [] t s= .ok (t',s')):t'=t∧s'=s:=by
 injection h with h;simp only[Prod.mk.injEq] at h;exact⟨h.1.symm,h.2.symm⟩
theorem NT {xs:List Nat}(h:Nf Q d (x::xs) t s= .ok (t',s')):0≤s.nodes∧s.nodes<8000∧0≤d∧d<400∧∃y sy,Q { s with nodes:=s.nodes+1 } x d= .ok (y,sy)∧Nf Q d xs (DQ t y) sy= .ok (t',s'):=by
 obtain⟨h1,h2⟩:=CJ h;simp only[Bool.and_eq_true,decide_eq_true_eq] at h1;obtain⟨⟨y,sy⟩,h3,h4⟩:=Ew h2;exact⟨h1.1.1.1,h1.1.1.2,h1.1.2,h1.2,y,sy,h3,h4⟩
theorem Ti (h:LL (Fy n) n s x d= .ok (t,s')):∃a s1,Fz n (.force x) s= .ok (.st a,s1)∧Fy n s1 (.st a) d= .ok (t,s'):=by
 obtain⟨⟨v,s1⟩,h1,h2⟩:=Ew h;obtain⟨_,a,e⟩:=O6 h2;simp only at e;subst e;exact⟨a,s1,h1,h2⟩
theorem M1 (h:LL (Fy n) n s x d= .ok (t,s')):s.objs.length≤s'.objs.length:=by
 obtain⟨a,s1,h1,h2⟩:=Ti h;exact Nat.le_trans (FX h1).2.2.1 (O6 h2).1
end
theorem Md {mu l:List Nat}{i x:Nat}(h:l[i]?=some x):(LH mu l)[i]?=some [Gl mu x]:=by simp[LH,h]
theorem XK {s:NS}{a:Nat}{o:NO}(hg:s.get a=some o):a<s.objs.length:=by
 unfold NS.get at hg;split at hg
 ·assumption
 cases hg
theorem Xc {s:NS}{a:Nat}{o:NO}(hw:LX s=true) (hg:s.get a=some o):LJ s.objs.length o=true:=by
 unfold NS.get at hg;split at hg
 ·exact List.all_eq_true.1 hw _ (List.mem_of_getElem? hg)
 cases hg
theorem Nc {s:NS}{a:Nat}{h:NH}{args:List Nat}(hw:LX s=true) (hg:s.get a=some (.stuck h args)):(∀x∈h.kids,x<s.objs.length)∧∀x∈args,x<s.objs.length:=by
 have:=Xc hw hg;simp only[LJ,Bool.and_eq_true,List.all_eq_true,decide_eq_true_eq] at this;exact⟨this.1.1,this.2⟩
end Go.Eu
namespace Go.Proofs.YtldfmjoncbjldaaGreat
open Go.Abs Go.Eu
def xq:XT:=⟨93,104,100,107⟩
theorem Wu:∀(l:Int),BD Tryz.prog 106 [.p (I l)] [] (Pu (fun b=> .p (.iface 104 (.addr b))) [.p (I 0),.p (I l),.p (I 0),.p (I 0),.p (.str ⟨#[]⟩),.p (.lst []),.p (.lst []),.p (.lst []),.p .nilFn,.p (.lst [])]):=by
 intro l;exact An Tryz.func106 O Z8 (n:=8) O O (Ae Aj 1 [] O (Al (Am Aj 3 [] O (A2 O (A9 O) fun b6=>Ah O (Dv AW O) (Ad Aj 1 [] O (BP (C4 (i:=0) (o':= .box b6 ([.p (I 0),.p (I l),.p (I 0),.p (I 0),.p (.str ⟨#[]⟩),.p (.lst []),.p (.lst []),.p (.lst []),.p .nilFn,.p (.lst [])])) O (Sw Js)) (Ai (⟨O,_,_,⟨_,_,O,O,O⟩,(CX (is:=[0]) O),⟨_,O,O⟩⟩))))))))
theorem Zu:∀(T b0:Nat),BD Tryz.prog 108 [.p (.iface T (.addr b0))] [] (Pu (fun b=> .p (.addr b)) [.p (I 0),.p (I 0),.p (.str ⟨#[]⟩),.p (.lst []),.p (.lst []),.p (.optp none),.p (.iface T (.addr b0))]):=by
 intro T b0;exact An Tryz.func108 O aE (n:=6) O O (Ae Aj 1 [] O (Al (Am Aj 2 [] O (A2 O (A9 O) fun b5=>Ad Aj 1 [] O (BP (C4 (i:=0) (o':= .box b5 ([.p (I 0),.p (I 0),.p (.str ⟨#[]⟩),.p (.lst []),.p (.lst []),.p (.optp none),.p (.iface T (.addr b0))])) O (Sw Js)) (BP (Na 2 O) (Ai (⟨O,_,_,⟨_,_,O,O,O⟩,(CX (is:=[0]) O),⟨_,O,O⟩⟩))))))))
theorem T3:∀(t:Tm) (p:Option Nat),BD Tryz.prog 56 [TV t,.p (.optp p)] [] (Pu (fun b=> .p (.addr b)) ((A3 t).map .p++[.p (.optp p),.p .nilIface])):=by
 intro t p;obtain⟨tk,ti,tn,tl,ts⟩:=t;exact An Tryz.func56 O a9 (n:=9) O O (Al (A2 O (A9 O) fun b2=>Ad Aj 1 [] O (Al (Am Aj 3 [0] O (A2 O (A9 O) fun b8=>Ad Aj 1 [] O (BP (C4 (i:=0) (o':= .box b8 ((A3 (.mk tk ti tn tl ts)).map .p++[.p (.optp p),.p .nilIface])) O (Sw Js)) (BP (Na 4 O) (Ai (⟨O,_,_,⟨_,_,O,O,O⟩,(CX (is:=[0]) O),⟨_,O,O⟩⟩)))))))))
theorem W3:∀(m:Nat) (t:Tm) (p:Option Nat),Dl Tryz.prog 57 [.p (.addr m),TV t,.p (.optp p)] (.fn (.func 107) [] [.ref [.addr m],.ref (A3 t),.ref [.optp p]]):=by
 intro m t p;refine An Tryz.func57 O dN (n:=8) O O (Al (A2 O (A9 O) fun b3=>A2 O (A9 O) fun b4=>A2 O (A9 O) fun b5=>Ad Aj 1 [] O (Al (Br (Dz (i:=0) (cs:=[(.optp p)]) [5] O (Da ⟨O,Ac⟩)) (Br (Dz (i:=0) (cs:=A3 t) [4] O (Da ⟨O,Ac⟩)) (Br (Dz (i:=0) (cs:=[(.addr m)]) [3] O (Da ⟨O,Ac⟩)) (Ad Aj 2 [] O (Ai (⟨O,_,_,⟨_,_,O,O,O⟩,(List.nil_sublist _),?_⟩)))))))))
 all_goals exact⟨rfl,rfl⟩
theorem XG:∀(m:Nat) (l k:Int),(0<l)→(l≤20000)→BD Tryz.prog 58 [.p (.addr m)] [.box m [.p (.lst []),.p (I l),.p (I k)]] (GB (.tup []) [.box m [.p (.lst []),.p (I (l - 1)),.p (I k)]]):=by
 intro m l k h1 h2;refine An Tryz.func58 O bD (n:=16) O O (Al (BY O (Ah O (BR O) (Am Aj 3 [0] O (Ah O (BR O) (Ad Aj 2 [0,0] O (Al (BY O (Ah O (BR O) (Ad Aj 3 [0] O (Ag O (fun c=>?_) (fun c=>?_))))))))))))
 ·(try simp only[sd,se] at c);exfalso;omega
 (try simp only[sd,se] at c);refine Ak ⟨O,_,_,O,(CX (is:=[0]) O),?_⟩
 all_goals exact⟨rfl,rfl⟩
theorem PO:∀(m:Nat) (l k d:Int),(0≤k)→(k<8000)→(0≤d)→(d<400)→BD Tryz.prog 251 [.p (.addr m),.p (I d)] [.box m [.p (.lst []),.p (I l),.p (I k)]] (GB (.tup []) [.box m [.p (.lst []),.p (I l),.p (I (k+1))]]):=by
 intro m l k d h1 h2 h3 h4;refine An Tryz.func251 O aN (n:=22) O O (Al (BY O (Ah O (BR O) (Am Aj 3 [0] O (Ah O (BR O) (Ad Aj 2 [0,0] O (Af (BL [] 19 (fun y=>y= .p (.bool false)) ?_ ?_))))))))
 ·refine Ao (BY O (Ah O (BR O) (Am Aj 4 [0] O (A6 16 O (fun g=>?_) (fun g=>?_)))))
  ·(try simp only[sd,se] at g);exact Ad Aj 3 [] O ⟨O,O,AG,(by refine pB ?_;simp;omega),Ac⟩
  (try simp only[sd,se] at g);exact Ad Aj 3 [] O ⟨O,O,AG,(by refine pB ?_;simp;omega),Ac⟩
 rintro _ rfl;refine Ag O (fun c=>by cases c) (fun c=>?_);refine Ak ⟨O,_,_,O,(CX (is:=[0]) O),?_⟩
 all_goals exact⟨rfl,rfl⟩
def XC (n:Nat):Prop:=∀(m:Nat) (mu:List Nat) (s s':NS) (nv:NV),mu.length=s.objs.length →
 (∀t ρ,Fz n (.eval t ρ) s= .ok (nv,s')→BD Tryz.prog 33 [.p (.addr m),TV t,.p (Jy mu ρ)] (HS xq m mu s) (Qe xq m mu nv s')) ∧
 (∀a,Fz n (.force a) s= .ok (nv,s')→BD Tryz.prog 105 [.p (Gl mu a),.p (.addr m)] (HS xq m mu s) (Qe xq m mu nv s')) ∧
 (∀a x,Fz n (.apply (.fn a) x) s= .ok (nv,s')→BD Tryz.prog 249 [.p (Gl mu a),.p (.addr m),.p (Gl mu x)] (HS xq m mu s) (Qe xq m mu nv s')) ∧
 (∀a x,Fz n (.apply (.st a) x) s= .ok (nv,s')→BD Tryz.prog 255 [.p (Gl mu a),.p (.addr m),.p (Gl mu x)] (HS xq m mu s) (Qe xq m mu nv s')) ∧
 (∀b x,Fz n (.body b x) s= .ok (nv,s')→BD Tryz.prog 107 [.p (Gl mu x),.ref [.addr m],.ref (A3 b.t),.ref [Jy mu b.vars]] (HS xq m mu s) (Qe xq m mu nv s'))
theorem Yi (t:Tm) (mu w:List Nat) (ρ:Option Nat) (h:JO mu.length ρ=true):BD Tryz.prog 56 [TV t,.p (Jy mu ρ)] [] (Pu (fun b=> .p (.addr b)) ((A3 t).map .p++[.p (Jy (w++mu) ρ),.p .nilIface])):=by rw[KR h];exact T3 t _
theorem Ux:∀(n j:Nat),XC n→∀(m:Nat) (mu:List Nat) (s s':NS) (nv:NV) (i:Int) (ρ:Option Nat),mu.length=s.objs.length→Gy (Fz n) s j i ρ= .ok (nv,s')→BD Tryz.prog 55 [.p (.addr m),.p (I i),.p (Jy mu ρ)] (HS xq m mu s) (Qe xq m mu nv s'):=by
 intro n j hX m mu s s' nv i ρ hl h;refine An Tryz.func55 O ct (n:=26) O O (Ae Aj 1 [] O (Af (Au (BZ (α:=Nat×Int×Option Nat) (fun(j1,i2,ρ2)=>⟨26,mk [(0,.p (.addr m)),(1,.p (I i2)),(2,.p (Jy mu ρ2))],(.box m [.p (.lst []),.p (I s.left),.p (I s.nodes)]::GF xq m mu mu s.objs),[]⟩) (fun(j1,i2,ρ2)=>j1) (fun(j1,i2,ρ2)=>Gy (Fz n) s j1 i2 ρ2= .ok (nv,s')) ⟨j,i,ρ⟩ (h) ?_ ?_))))
 ·exact BO ⟨we O,we O,we O,Ac⟩ (Ou [0] [_] (l':=[_]) O (wl (oe O) (DM)))
 rintro⟨j1,i2,ρ2⟩ hC
 try simp only at hC
 refine Af (Al (BY O (Ah O (RZ (e:=99) AW O O) (Bb O (Ag O (fun c=>?_) (fun c=>?_))))))
 ·(try simp only[sd,se] at c);obtain⟨b,rfl⟩:∃b,ρ2=some b:=by cases ρ2 with | none=>simp at c | some b=>exact⟨b,rfl⟩
  obtain⟨r1,r2,j2,x,r,hj,hg,hc⟩:=RT hC;refine Ak (Af (Au (Af (Ae Aj 2 [] O (Ag O (fun c1=>?_) (fun c1=>?_))))))
  ·(try simp only[sd,se] at c1);have hf:Fz n (.force x) s= .ok (nv,s'):=by rcases hc with ⟨_,e⟩ | ⟨e,_⟩;exact e;exact absurd c1 e
   refine Al (BY O (Ah O (Gu O) (Ah O (BH Ym O O) (Ah O (BU (i:=s.objs.length - 1 - b+1) dg O (Ci hl hg) O) (BY O (GI O O (CW O O (List.perm_append_comm (l₁:=[])) ((hX m mu s s' nv hl).2.1 x hf) (Js)) (FU _) ?_))))));rintro _ _ ⟨_,⟨_,hl1,⟨w,rfl⟩,rfl,rfl⟩,rfl⟩;refine⟨(.box m [.p (.lst []),.p (I s'.left),.p (I s'.nodes)]::GF xq m (w++mu) (w++mu) s'.objs),List.perm_append_comm,?_⟩;exact Ad Aj 1 [] O (Ai (⟨O,_,_,⟨_,_,O,O,O⟩,(Co [] [] O),⟨_,hl1,⟨w,O⟩,O,O⟩⟩))
  (try simp only[sd,se] at c1);refine Ak (Ao (Ad Aj 3 [] O (Ao (BY O (Ah O (Gu O) (Ah O (BH Ym O O) (Ah O (BU (i:=s.objs.length - 1 - b+1) Xl O (Ci hl hg) O) (Ad Aj 1 [] O ?_))))))));refine⟨⟨j2,i2 - 1,r⟩,AK,by rcases hc with ⟨e,_⟩ | ⟨_,e⟩;exact absurd e AX;exact e,BO ⟨we rfl,we rfl,we rfl,trivial⟩ (Ou [0] [_] (l':=[_]) rfl (wl (oe rfl) (DM)))⟩
 (try simp only[sd,se] at c);obtain rfl:ρ2=none:=by cases ρ2 with | none=>rfl | some b=>simp at c
 obtain⟨r1,r2,hw,rfl,rfl⟩:=Ri hC;exact BS (Al (Am Aj 2 [] O (P1 O O O (.inl ⟨O,O,O⟩) (Wu _) Js fun b25=>Ad Aj 1 [] O (Gd (Kw (q:=xq) (m:=m) (b:=b25) [] hl hw) (Ai (⟨O,_,_,⟨_,_,O,O,O⟩,(List.Sublist.refl _),⟨_,Cx hl,⟨[_],O⟩,Sg (q:=xq) (b:=b25) hl,O⟩⟩))))))
theorem X5:∀(m:Nat) (mu:List Nat) (s s':NS) (nv v:NV),mu.length=s.objs.length→MW v s= .ok (nv,s')→BD Tryz.prog 59 [.p (.addr m),.p (I 9),.p (Oo xq mu v)] (HS xq m mu s) (Qe xq m mu nv s'):=by
 intro m mu s s' nv v hl h;obtain⟨hv,hw1,hw2,rfl,rfl⟩:=OF h;have hne:Nat.beq (xq.ty v) 100=false:=by cases v with | fn a=>rfl | st a=>rfl | pr a=>exact absurd rfl (hv a)
 refine An Tryz.func59 O dJ (n:=37) O O (Ae Aj 1 [] O (Ae Aj 1 [] O (Au (Al (Ah O (OG (e:=102) AW AW O hne) (Ad Aj 2 [] O ?_))))));refine Ag O (fun c=>by cases c) (fun c=>?_);refine Ae Aj 1 [] O (Al (Am Aj 2 [] O (P1 O O O (.inl ⟨O,O,O⟩) (Zu (xq.ty v) (JB mu v.addr)) Js fun b12=>Ah O (Bt El Xz O O O O O) (Am Aj 2 [] O (A2 O (A9 O) fun b16=>Ah O (Dv AW O) (Ad Aj 1 [] O (BP (C4 (i:=0) (o':= .box b16 [.p (I 9),.p (I 0),.p (I 0),.p (I 0),.p (.str ⟨#[]⟩),.p (.lst []),.p (.lst []),.p (.lst [[.addr b12]]),.p .nilFn,.p (.lst [])]) O (Sw Js)) (BP (C4 (i:=0) (o':=Eh xq m (b12::mu) b16 (.stuck ⟨9,0,BF,[s.next],none⟩ [])) O (oe (by simp only[Eh,LH,List.map_cons,List.map_nil,IP hl];rfl))) (Gd (((Kw (q:=xq) (m:=m) (b:=b12) [] hl hw1).cons _).trans (Kw (q:=xq) (m:=m) (b:=b16) [] (Cx hl) hw2)) (Ai ?_))))))))));exact⟨O,_,_,⟨_,_,O,O,O⟩,(List.Sublist.refl _),⟨_,Cx (Cx hl),⟨[_,_],O⟩,Sg (q:=xq) (b:=b16) (Cx hl),O⟩⟩
theorem aA:∀(n:Nat),XC n→∀(m:Nat) (mu:List Nat) (s s':NS) (nv:NV) (a x:Nat),mu.length=s.objs.length→Fz (n+1) (.apply (.fn a) x) s= .ok (nv,s')→BD Tryz.prog 249 [.p (Gl mu a),.p (.addr m),.p (Gl mu x)] (HS xq m mu s) (Qe xq m mu nv s'):=by
 intro n hX m mu s s' nv a x hl h;obtain⟨d,b,hg,hl1,hl2,hb⟩:=YZ h;refine An Tryz.func249 O aD (n:=15) O O (Ae Aj 1 [] O (Al (BY O (Ah O (CD [0] O (.inl ⟨O,O,O⟩) (XG m s.left s.nodes hl1 hl2) ⟨_,_,O,O,O⟩ AZ O (.inl O)) (Bb O (Al (BY O (Ah O (BR O) (Ah O (BH dm O O) (Ah O (BU (i:=s.objs.length - 1 - a+1) dM O (Ci (s:={ s with left:=s.left - 1 }) hl hg) O) (BY O (GI O O (RG O O (List.perm_append_comm (l₁:=[])) ((hX m mu { s with left:=s.left - 1 } s' nv hl).2.2.2.2 b x hb) (Js)) (FU _) ?_))))))))))));rintro _ _ ⟨_,⟨_,hl3,⟨w,rfl⟩,rfl,rfl⟩,rfl⟩;refine⟨(.box m [.p (.lst []),.p (I s'.left),.p (I s'.nodes)]::GF xq m (w++mu) (w++mu) s'.objs),List.perm_append_comm,?_⟩;exact Ad Aj 1 [] O (Ai (⟨O,_,_,⟨_,_,O,O,O⟩,(Co [] [] O),⟨_,hl3,⟨w,O⟩,O,O⟩⟩))
theorem Xj:∀(n:Nat),XC n→∀(m:Nat) (mu:List Nat) (s s':NS) (nv:NV) (b:NB) (x:Nat),mu.length=s.objs.length→Fz (n+1) (.body b x) s= .ok (nv,s')→BD Tryz.prog 107 [.p (Gl mu x),.ref [.addr m],.ref (A3 b.t),.ref [Jy mu b.vars]] (HS xq m mu s) (Qe xq m mu nv s'):=by
 intro n hX m mu s s' nv b x hl h;obtain⟨hw,hb⟩:=VM h;refine An Tryz.func107 O Yq (n:=13) O O (Ae Aj 1 [] O (Al (Am Aj 5 [] O (A2 O (A9 O) fun b11=>GI O O (CW O O (TY [] hl hw) (by have h9:=(hX m (b11::mu) _ s' nv (Cx hl)).1 b.t (some s.next) hb;rw[Xf hl] at h9;exact h9) (Js)) (FU _) ?_))));rintro _ _ ⟨_,⟨_,hl1,⟨w,rfl⟩,rfl,rfl⟩,rfl⟩;refine⟨(.box m [.p (.lst []),.p (I s'.left),.p (I s'.nodes)]::GF xq m (w++(b11::mu)) (w++(b11::mu)) s'.objs),List.perm_append_comm,?_⟩;refine Ad Aj 1 [] O (Ai ?_);exact⟨O,_,_,⟨_,_,O,O,O⟩,(Co [] [] O),⟨_,hl1,⟨w++[b11],by simp⟩,rfl,rfl⟩⟩
set_option maxHeartbeats 2000000 in
theorem Zk:∀(n:Nat),XC n→∀(m:Nat) (mu:List Nat) (s s':NS) (nv:NV) (t:Tm) (ρ:Option Nat),mu.length=s.objs.length→Fz (n+1) (.eval t ρ) s= .ok (nv,s')→BD Tryz.prog 33 [.p (.addr m),TV t,.p (Jy mu ρ)] (HS xq m mu s) (Qe xq m mu nv s'):=by
 intro n hX m mu s s' nv t ρ hl h;have he:=Us h;have hsc:JO mu.length ρ=true:=by rw[hl];exact(FX h).2.1
 obtain⟨tk,ti,tn,tl,ts⟩:=t;refine An Tryz.func33 O bC (n:=162) O O (Al (A2 O (A9 O) fun b4=>Ad Aj 1 [] O (Af (Ae Aj 2 [0] O (Au (Ae Aj 2 [] O (Ag O (fun c=>?_) (fun c=>?_))))))))
 ·(try simp only[sd,se] at c);have hlk:=XI he c;refine Al (Am Aj 4 [0] O (GI O O (CW O O (List.perm_append_comm (l₁:=[_])) (Ux n n hX m mu s s' nv ti ρ hl hlk) (Js)) (FU _) ?_));rintro _ _ ⟨_,⟨_,hl1,⟨w,rfl⟩,rfl,rfl⟩,rfl⟩;refine⟨(.box b4 [.p (I tk),.p (I ti),.p (.str tn),.p (.lst (List.map By tl)),.p (.lst (Ax ts))]:: .box m [.p (.lst []),.p (I s'.left),.p (I s'.nodes)]::GF xq m (w++mu) (w++mu) s'.objs),List.perm_append_comm,?_⟩;exact Ad Aj 1 [] O (Ai (⟨O,_,_,⟨_,_,O,O,O⟩,(Co [] [_] O),⟨_,hl1,⟨w,O⟩,O,O⟩⟩))
 (try simp only[sd,se] at c);refine Ae Aj 2 [] O (Ag O (fun c1=>?_) (fun c1=>?_))
 ·(try simp only[sd,se] at c1);obtain⟨a,b,v1,s1,rfl,h1,hw1,h2⟩:=X0 he c1;have hle1:=(FX h1).2.2.1;have hle2:=(FX h2).2.2.1;refine Af ?_;rcases v1 with fa | fa | fa
  ·have hnv1:fa<s1.objs.length:=by have:=(FX h1).2.2.2;simpa [LW] using this
   refine Bq (fun k=>Nat.beq k 6||Nat.beq k 13||Nat.beq k 17) Er (BC Aj 3 [0] O (A5 O (fun _=>Aq BJ O O Aa (BI O) (Az _)) Ac (BC Aj 2 [] O (E9 [(7,.free (.p (.addr m))),(8,.free (.ptr b4 4)),(9,.read [.box b4 [.p (I tk),.p (I ti),.p (.str tn),.p (.lst (List.map By tl)),.p (.lst (Ax [a,b]))]] (.p (.lst (Ax [a,b])))),(10,.free (.ref (A3 b))),(11,.free (.agg ((A3 b).map .p))),(12,.free (.p (Jy mu ρ)))] O O (CW O O (List.perm_append_comm (l₁:=[_])) ((hX m mu s s1 (.fn fa) hl).1 a ρ h1) (Js)) AW (Kp hl hle1 _) (FU _) ?_))));rintro _ _ ⟨_,⟨_,hl1,⟨w,rfl⟩,rfl,rfl⟩,rfl⟩;refine⟨(.box b4 [.p (I tk),.p (I ti),.p (.str tn),.p (.lst (List.map By tl)),.p (.lst (Ax [a,b]))]:: .box m [.p (.lst []),.p (I s1.left),.p (I s1.nodes)]::GF xq m (w++mu) (w++mu) s1.objs),List.perm_append_comm,AB,Ac,?_⟩;refine BC Aj 3 [0] O (A5 O (fun _=>Aq BJ O O Aa (BI O) (Az _)) AH (BC Aj 2 [] O (Hi [(14,.free (.fn (.method "euclid/nbe.apply") [.p (Oo xq (w++mu) (.fn fa))] [])),(15,.free (.p .any)),(16,.free (.p (Oo xq (w++mu) (.fn fa))))] O O O (.inl ⟨O,O,O⟩) (Yi b mu w ρ hsc) (.inl O) AW fun b33=>⟨AB,AH,?_⟩)));refine A5 O (fun _=>Ks) AH (A5 O (fun _=>Jq AW O) AH (BC Aj 1 [] O ?_));refine E9 [] O O (Fm O O AW (TY [_] hl1 hw1) (by have h9:=(hX m (b33::(w++mu)) _ s' nv (Cx hl1)).2.2.1 fa s1.next h2;rw[Qq (by rw[hl1];exact hnv1),IP hl1] at h9;exact h9) (Js)) AW (Kp (mu:=b33::(w++mu)) (Cx hl1) hle2 _) (FU _) ?_;rintro _ _ ⟨_,⟨_,hl2,⟨w1,rfl⟩,rfl,rfl⟩,rfl⟩;refine⟨(.box b4 [.p (I tk),.p (I ti),.p (.str tn),.p (.lst (List.map By tl)),.p (.lst (Ax [a,b]))]:: .box m [.p (.lst []),.p (I s'.left),.p (I s'.nodes)]::GF xq m (w1++(b33::(w++mu))) (w1++(b33::(w++mu))) s'.objs),List.perm_append_comm,AB,AH,?_⟩;refine Bo Aj 1 [] O (Ai ?_);exact⟨O,_,_,⟨_,_,O,O,O⟩,(Co [] [_] O),⟨_,hl2,⟨w1++([b33]++w),by simp⟩,rfl,rfl⟩⟩
  ·exact absurd h2 (fun e=>by cases n with | zero=>cases e | succ n=>have:=(ER (W2 (CJ e).2).1).1;simp[Vr] at this)
  have hnv1:fa<s1.objs.length:=by have:=(FX h1).2.2.2;simpa [LW] using this
  refine Bq (fun k=>Nat.beq k 6||Nat.beq k 13||Nat.beq k 17) Er (BC Aj 3 [0] O (A5 O (fun _=>Aq BJ O O Aa (BI O) (Az _)) Ac (BC Aj 2 [] O (E9 [(7,.free (.p (.addr m))),(8,.free (.ptr b4 4)),(9,.read [.box b4 [.p (I tk),.p (I ti),.p (.str tn),.p (.lst (List.map By tl)),.p (.lst (Ax [a,b]))]] (.p (.lst (Ax [a,b])))),(10,.free (.ref (A3 b))),(11,.free (.agg ((A3 b).map .p))),(12,.free (.p (Jy mu ρ)))] O O (CW O O (List.perm_append_comm (l₁:=[_])) ((hX m mu s s1 (.st fa) hl).1 a ρ h1) (Js)) AW (Kp hl hle1 _) (FU _) ?_))));rintro _ _ ⟨_,⟨_,hl1,⟨w,rfl⟩,rfl,rfl⟩,rfl⟩;refine⟨(.box b4 [.p (I tk),.p (I ti),.p (.str tn),.p (.lst (List.map By tl)),.p (.lst (Ax [a,b]))]:: .box m [.p (.lst []),.p (I s1.left),.p (I s1.nodes)]::GF xq m (w++mu) (w++mu) s1.objs),List.perm_append_comm,AB,Ac,?_⟩;refine BC Aj 3 [0] O (A5 O (fun _=>Aq BJ O O Aa (BI O) (Az _)) AH (BC Aj 2 [] O (Hi [(14,.free (.fn (.method "euclid/nbe.apply") [.p (Oo xq (w++mu) (.st fa))] [])),(15,.free (.p .any)),(16,.free (.p (Oo xq (w++mu) (.st fa))))] O O O (.inl ⟨O,O,O⟩) (Yi b mu w ρ hsc) (.inl O) AW fun b33=>⟨AB,AH,?_⟩)));refine A5 O (fun _=>Ks) AH (A5 O (fun _=>Jq AW O) AH (BC Aj 1 [] O ?_));refine E9 [] O O (Fm O O AW (TY [_] hl1 hw1) (by have h9:=(hX m (b33::(w++mu)) _ s' nv (Cx hl1)).2.2.2.1 fa s1.next h2;rw[Qq (by rw[hl1];exact hnv1),IP hl1] at h9;exact h9) (Js)) AW (Kp (mu:=b33::(w++mu)) (Cx hl1) hle2 _) (FU _) ?_;rintro _ _ ⟨_,⟨_,hl2,⟨w1,rfl⟩,rfl,rfl⟩,rfl⟩;refine⟨(.box b4 [.p (I tk),.p (I ti),.p (.str tn),.p (.lst (List.map By tl)),.p (.lst (Ax [a,b]))]:: .box m [.p (.lst []),.p (I s'.left),.p (I s'.nodes)]::GF xq m (w1++(b33::(w++mu))) (w1++(b33::(w++mu))) s'.objs),List.perm_append_comm,AB,AH,?_⟩;refine Bo Aj 1 [] O (Ai ?_);exact⟨O,_,_,⟨_,_,O,O,O⟩,(Co [] [_] O),⟨_,hl2,⟨w1++([b33]++w),by simp⟩,rfl,rfl⟩⟩
 (try simp only[sd,se] at c1);refine Ae Aj 2 [] O (Ag O (fun c2=>?_) (fun c2=>?_))
 ·(try simp only[sd,se] at c2);obtain⟨a,b,rfl,hw1,hw2,rfl,rfl⟩:=Xa he c2;refine Af (Bq (fun k=>Nat.beq k 5||Nat.beq k 14) Er (BC Aj 2 [0] O (A5 O (fun _=>Aq BJ O O Aa (BI O) (Az _)) Ac (BC Aj 2 [] O (Hi [(6,.free (.p (.addr m))),(7,.free (.ptr b4 4)),(8,.read [.box b4 [.p (I tk),.p (I ti),.p (.str tn),.p (.lst (List.map By tl)),.p (.lst (Ax [a,b]))]] (.p (.lst (Ax [a,b])))),(9,.free (.ref (A3 b))),(10,.free (.agg ((A3 b).map .p))),(11,.free (.p (Jy mu ρ)))] O O O (.inl ⟨O,O,O⟩) (T3 a (ρ.map (JB mu))) (.inl O) AW fun b45=>⟨AB,Ac,?_⟩)))));refine BC Aj 3 [1] O (A5 O (fun _=>Aq BJ O O Aa (BI O) (Az _)) AH (BC Aj 2 [] O (A5 O (fun _=>Av O O (W3 m b (ρ.map (JB mu))) O) AH (BC Aj 1 [] O (Kr [] O O (A9 O) AW fun b54=>⟨AB,AH,?_⟩)))));exact A5 O (fun _=>Dv AW O) AH (Bo Aj 1 [] O (BP (C4 (i:=0) (o':=Eh xq m (b45::mu) b54 (.func s.next ⟨b,ρ⟩)) O (oe (by simp only[Eh,YV,IP hl,Vs hsc];rfl))) (Gd (((Kw (q:=xq) (m:=m) (b:=b45) [_] hl hw1).cons _).trans (Kw (q:=xq) (m:=m) (b:=b54) [_] (Cx hl) hw2)) (Ai (⟨O,_,_,⟨_,_,O,O,O⟩,(Co [] [_] O),⟨_,Cx (Cx hl),⟨[_,_],O⟩,Yk (q:=xq) (b:=b54) (Cx hl),O⟩⟩)))))
 (try simp only[sd,se] at c2);refine Ae Aj 2 [] O (Ag O (fun c3=>?_) (fun c3=>?_))
 ·(try simp only[sd,se] at c3);exfalso;rcases Tp he with e | e | e | e<;>omega
 (try simp only[sd,se] at c3);refine Ae Aj 2 [] O (Ag O (fun c4=>?_) (fun c4=>?_))
 ·(try simp only[sd,se] at c4);exfalso;rcases Tp he with e | e | e | e<;>omega
 (try simp only[sd,se] at c4);refine Af (Ae Aj 2 [] O (Ag O (fun c5=>?_) (fun c5=>?_)))
 ·(try simp only[sd,se] at c5);obtain⟨p,v1,s1,rfl,h1,hp⟩:=XB he c5;have hle1:=(FX h1).2.2.1;have hle2:s1.objs.length≤s'.objs.length:=by obtain⟨_,_,_,_,rfl⟩:=OF hp;simp[NS.new];omega
  refine Ak (Ag O (fun c6=>?_) (fun c6=>?_))
  ·(try simp only[sd,se] at c6);refine Af (Bq (fun k=>Nat.beq k 9||Nat.beq k 10) Er (BC Aj 6 [0,0] O (A5 O (fun _=>Aq BJ O O Aa (BI O) (Az _)) Ac (BC Aj 2 [] O (E9 [] O O (CW O O (List.perm_append_comm (l₁:=[_])) ((hX m mu s s1 v1 hl).1 p ρ h1) (Js)) AW (Kp hl hle1 _) (FU _) ?_)))));rintro _ _ ⟨_,⟨_,hl1,⟨w,rfl⟩,rfl,rfl⟩,rfl⟩;refine⟨(.box b4 [.p (I tk),.p (I ti),.p (.str tn),.p (.lst (List.map By tl)),.p (.lst (Ax [p]))]:: .box m [.p (.lst []),.p (I s1.left),.p (I s1.nodes)]::GF xq m (w++mu) (w++mu) s1.objs),List.perm_append_comm,AB,Ac,?_⟩;refine E9 [] O O (CW O O (List.perm_append_comm (l₁:=[_])) (X5 m (w++mu) s1 s' nv v1 hl1 hp) (aw dL (aw (we (by show AV.p (I tk)=_;rw[c5])) (aw dL G7)))) AW (Kp (mu:=(w++mu)) hl1 hle2 _) (FU _) ?_;rintro _ _ ⟨_,⟨_,hl2,⟨w1,rfl⟩,rfl,rfl⟩,rfl⟩;refine⟨(.box b4 [.p (I tk),.p (I ti),.p (.str tn),.p (.lst (List.map By tl)),.p (.lst (Ax [p]))]:: .box m [.p (.lst []),.p (I s'.left),.p (I s'.nodes)]::GF xq m (w1++(w++mu)) (w1++(w++mu)) s'.objs),List.perm_append_comm,AB,Ac,?_⟩;refine Bo Aj 1 [] O (Ai ?_);exact⟨O,_,_,⟨_,_,O,O,O⟩,(Co [] [_] O),⟨_,hl2,⟨w1++w,by simp⟩,rfl,rfl⟩⟩
  (try simp only[sd,se] at c6);exfalso;omega
 (try simp only[sd,se] at c5);exfalso;rcases Tp he with e | e | e | e<;>omega
theorem XD:∀(n:Nat),XC n→∀(m:Nat) (mu:List Nat) (s s':NS) (nv:NV) (a:Nat),mu.length=s.objs.length→Fz (n+1) (.force a) s= .ok (nv,s')→BD Tryz.prog 105 [.p (Gl mu a),.p (.addr m)] (HS xq m mu s) (Qe xq m mu nv s'):=by
 intro n hX m mu s s' nv a hl h;have hlt:a<mu.length:=by have:=(FX h).2.1;rw[hl];simpa [Wy] using this
 obtain⟨t,ρ,k,hg,hk⟩:=Sm h;refine An Tryz.func105 O Yx (n:=30) O O (Ae Aj 1 [] O (Af (Af ?_)));rcases hk with ⟨rfl,rfl⟩ | ⟨rfl,s1,t2,ρ2,k2,h1,hg1,rfl⟩
 ·obtain⟨tk,ti,tn,tl,ts⟩:=t;refine Ao (BY O (Ah O (BR O) (Ah O (BH I9 O O) (Ah O (BU (i:=s.objs.length - 1 - a+1) SU O (Ci hl hg) O) (Ah O (H4 AW O O O) (Bb O ?_))))));refine Ag O (fun c=>by cases c) (fun c=>?_);exact Ak (Al (BY O (Ah O (BR O) (Ah O (BH I9 O O) (Ah O (BU (i:=s.objs.length - 1 - a+1) SU O (Ci hl hg) O) (Ad Aj 1 [] O (Ai (⟨O,_,_,⟨_,_,O,O,O⟩,(Co [] [] O),⟨_,hl,⟨[],O⟩,O,O⟩⟩))))))))
 obtain⟨tk,ti,tn,tl,ts⟩:=t;obtain⟨uk,ui,un,ul,us⟩:=t2;have hle1:=(FX h1).2.2.1;refine Ao (BY O (Ah O (BR O) (Ah O (BH I9 O O) (Ah O (BU (i:=s.objs.length - 1 - a+1) SU O (Ci hl hg) O) (Ah O (H4 AW O O O) (Bb O ?_))))));refine Ag O (fun c=>?_) (fun c=>by cases c);refine Af (Bq (fun k=>Nat.beq k 10) Er (BC Aj 3 [] O (A5 O (fun _=>BR O) Ac (A5 O (fun _=>BH I9 O O) Ac (GY (j:=s.objs.length - 1 - a+1) O O (Ci hl hg) (fun H i hi=>C3 (i:=i) Bd O hi O O) AB Ac (A5 O (fun _=>Ch O) Ac (A5 O (fun _=>BR O) Ac (A5 O (fun _=>BH I9 O O) Ac (GY (j:=s.objs.length - 1 - a+1) O O (Ci hl hg) (fun H i hi=>BU (i:=i) Xl O hi O) AB Ac (E9 [] O O (CW O O (List.perm_append_comm (l₁:=[])) ((hX m mu s s1 nv hl).1 (.mk tk ti tn tl ts) ρ h1) (Js)) AW (Kp hl hle1 _) (FU _) ?_))))))))));rintro _ _ ⟨_,⟨_,hl1,⟨w,rfl⟩,rfl,rfl⟩,rfl⟩;refine⟨(.box m [.p (.lst []),.p (I s1.left),.p (I s1.nodes)]::GF xq m (w++mu) (w++mu) s1.objs),List.perm_append_comm,AB,Ac,?_⟩;refine A5 O (fun _=>BR O) Ac (A5 O (fun _=>BH I9 O O) Ac (HC O O (S6 (q:=xq) (m:=m) (nv:=nv) SU hl1 hg1 (HG hlt) O O) (by repeat' first | exact trivial | refine And.intro ?_ ?_ | exact Or.inl AW) Ac ?_));refine GU O AW (Ao (BY O (Ah O (BR O) (Ah O (BH I9 O O) ?_))));have hl2:(w++mu).length=(s1.set a (.thunk (.mk uk ui un ul us) ρ2 (some nv))).objs.length:=by simp only[NS.set,List.length_set];exact hl1
 have hg2:=Q6 (o':= .thunk (.mk uk ui un ul us) ρ2 (some nv)) hg1;refine Ah O (Ul (q:=xq) (m:=m) Xl hl2 hg2 (HG hlt) O O) (Br (RL hl2 hg2 (HG hlt)) ?_);rw[set_set];have hl3:(w++mu).length=(s1.set a (.thunk (.mk uk ui un ul us) none (some nv))).objs.length:=by simp only[NS.set,List.length_set];exact hl1
 have hg3:=Q6 (o':= .thunk (.mk uk ui un ul us) none (some nv)) hg1;exact Bb O (Al (BY O (Ah O (BR O) (Ah O (BH I9 O O) (Ah O (BU (i:=(s1.set a (.thunk (.mk uk ui un ul us) none (some nv))).objs.length - 1 - a+1) SU O (QJ hl3 hg3 (HG hlt)) O) (Ad Aj 1 [] O (Ai (⟨O,_,_,⟨_,_,O,O,O⟩,(Co [] [] O),⟨_,hl3,⟨w,O⟩,O,O⟩⟩))))))))
theorem VU:∀(rows:List (List PV)),Dl Tryz.prog 257 [.p (.lst rows)] (.p (.lstc rows)):=by
 intro rows;refine An Tryz.func257 O Ze (n:=9) O O (Ae Aj 1 [] O (Al (Am Aj 2 [] O (Ah O (A7 El O O) (BY O (Ah O (A7 El O O) (Ah O (Sq El O O O O) (Ad Aj 1 [] O (Ai (⟨O,_,_,⟨_,_,O,O,O⟩,(List.nil_sublist _),?_⟩))))))))))
 all_goals exact⟨rfl,rfl⟩
theorem Yc:∀(n m:Nat) (mu:List Nat) (s s':NS) (nv:NV) (a x:Nat),mu.length=s.objs.length→Fz (n+1) (.apply (.st a) x) s= .ok (nv,s')→BD Tryz.prog 255 [.p (Gl mu a),.p (.addr m),.p (Gl mu x)] (HS xq m mu s) (Qe xq m mu nv s'):=by
 intro n m mu s s' nv a x hl h;obtain⟨hd,args,hg,hal,hk3,hbn,hw,rfl,rfl⟩:=aI h;obtain⟨hk,hv,⟨ok,oi,on,ol,os⟩,hks,hb⟩:=hd;simp only at hk3 hbn;subst hbn;refine An Tryz.func255 O Y7 (n:=123) O O (Ae Aj 1 [] O (Af (Al (BY O (Ah O (BR O) (Ah O (BH KL O O) (Ah O (BU (i:=s.objs.length - 1 - a+1) Q3 O (Ci hl hg) O) (Ah O (A7 El O (GX _ _)) (Ad Aj 1 [] O (Ag O (fun c=>?_) (fun c=>?_)))))))))))
 ·(try simp only[sd,se] at c);exfalso;omega
 (try simp only[sd,se] at c);refine Ak (Af (Bq (fun k=>Nat.beq k 11||Nat.beq k 13) Er (A5 O (fun _=>Ch O) Ac (A5 O (fun _=>BR O) Ac (A5 O (fun _=>BH KL O O) Ac (GY (j:=s.objs.length - 1 - a+1) O O (Ci hl hg) (fun H i hi=>C3 (i:=i) Wb O hi O O) AB Ac (A5 O (fun _=>Ch O) Ac (A5 O (fun _=>BR O) Ac (A5 O (fun _=>BH KL O O) Ac (GY (j:=s.objs.length - 1 - a+1) O O (Ci hl hg) (fun H i hi=>BU (i:=i) Q3 O hi O) AB Ac (A5 O (fun _=>Av O O (VU (LH mu args)) O) Ac (A5 O (fun _=>Ch O) Ac (A5 O (fun _=>Bt El Xz O O O O O) Ac ?_)))))))))))));refine Xn [] O O (JV El El Xz O O O (UU _ _) O (Rz mu [x]) (Nat.succ_pos 0) (by rw[GX];show 2*(args.length+1)*8≤_;omega)) AW fun b32 cp=>⟨(by repeat' first | exact trivial | refine And.intro ?_ ?_ | exact Or.inr ⟨List.mem_of_getElem? (Ci hl hg),List.mem_cons_of_mem _ (List.mem_of_getElem? (Ci hl hg))⟩),Ac,?_⟩;refine A5 O (fun _=>D6 KL ZF O) Ac (Kr [] O O (A9 O) AW fun b34=>⟨AB,Ac,?_⟩);refine Bo Aj 1 [] O (Af (Al (Br (B1 (i:=1) (j:=0) (q:=9) [32] O O O (Da ⟨O,Ac⟩)) (BY O (Ah O (BR O) (Am Aj 2 [] O (Ah O (BU (i:=s.objs.length - 1 - a+1+1) YW O (Ci hl hg) O) (Ad Aj 1 [] O (Ag O (fun c1=>?_) (fun c1=>?_))))))))))
 ·(try simp only[sd,se] at c1);exact Al (BY O (Ah O (Dv AW O) (Ad Aj 1 [] O (BP (C4 (i:=0) (o':=Eh xq m mu b34 (.stuck ⟨hk,hv,.mk ok oi on ol os,hks,none⟩ (args++[x]))) O (oe (by simp only[Eh,LH,List.map_append];rfl))) (Gd (Kw (q:=xq) (m:=m) (b:=b34) [] hl hw) (Ai (⟨O,_,_,⟨_,_,O,O,O⟩,(List.Sublist.refl _),⟨_,Cx hl,⟨[_],O⟩,Sg (q:=xq) (b:=b34) hl,O⟩⟩)))))))
 (try simp only[sd,se] at c1);exfalso;omega
theorem Lk:∀n,XC n
 | 0=>fun m mu s s' nv hl=>⟨fun _ _ h=>(by cases h),fun _ h=>(by cases h),fun _ _ h=>(by cases h),fun _ _ h=>(by cases h),fun _ _ h=>(by cases h)⟩
 | n+1=>fun m mu s s' nv hl=>⟨fun t ρ h=>Zk n (Lk n) m mu s s' nv t ρ hl h,fun a h=>XD n (Lk n) m mu s s' nv a hl h,fun a x h=>aA n (Lk n) m mu s s' nv a x hl h,fun a x h=>Yc n m mu s s' nv a x hl h,fun b x h=>Xj n (Lk n) m mu s s' nv b x hl h⟩
def QC (n:Nat):Prop:=∀(m:Nat) (mu:List Nat) (s s':NS) (t:Tm) (a:Nat) (d:Int),mu.length=s.objs.length→Fy n s (.st a) d= .ok (t,s')→BD Tryz.prog 256 [.p (Gl mu a),.p (.addr m),.p (I d)] (HS xq m mu s) (Zo xq m mu t s')
theorem PN:∀(n:Nat),QC n→∀(m:Nat) (mu:List Nat) (s s':NS) (t:Tm) (x:Nat) (d:Int),mu.length=s.objs.length→LL (Fy n) n s x d= .ok (t,s')→BD Tryz.prog 248 [.p (Gl mu x),.p (.addr m),.p (I d)] (HS xq m mu s) (Zo xq m mu t s'):=by
 intro n hQ m mu s s' t x d hl h;obtain⟨a,s1,hf,hq⟩:=Ti h;refine An Tryz.func248 O ZL (n:=13) O O (Al (A2 O (As Bf O) fun b6=>Bb O (Al (Am Aj 2 [] O (GI O O (CW O O (List.perm_append_comm (l₁:=[_])) ((Lk n m mu s s1 (.st a) hl).2.1 x hf) (Js)) (FU _) ?_)))));rintro _ _ ⟨_,⟨_,hl1,⟨w,rfl⟩,rfl,rfl⟩,rfl⟩;refine⟨(.box b6 [.p (I 0),.p (I 0),.p (.str ⟨#[]⟩),.p (.nils),.p (.nils)]:: .box m [.p (.lst []),.p (I s1.left),.p (I s1.nodes)]::GF xq m (w++mu) (w++mu) s1.objs),List.perm_append_comm,?_⟩;refine Am Aj 2 [] O (GI O O (Fm O O AW (List.perm_append_comm (l₁:=[_])) (hQ m (w++mu) s1 s' t a d hl1 hq) (Js)) (OK _) ?_);rintro _ _ ⟨_,⟨_,hl2,⟨w1,rfl⟩,rfl,rfl⟩,rfl⟩;refine⟨(.box b6 [.p (I 0),.p (I 0),.p (.str ⟨#[]⟩),.p (.nils),.p (.nils)]:: .box m [.p (.lst []),.p (I s'.left),.p (I s'.nodes)]::GF xq m (w1++(w++mu)) (w1++(w++mu)) s'.objs),List.perm_append_comm,?_⟩;refine Ad Aj 1 [0,1] O (Ai ?_);exact⟨O,_,_,⟨_,_,O,(BA (i:=0) Bd O O AS),O⟩,(Co [] [_] O),⟨_,hl2,⟨w1++w,by simp⟩,rfl,rfl⟩⟩
theorem fB (t:Tm):∀c∈A3 t,c≠ .nils:=by obtain⟨k,i,n,l,s⟩:=t;simp[A3]
theorem C7 (l:List Tm):∀r∈Ax l,∀c∈r,c≠ .nils:=by
 intro r hr;rw[C5] at hr;obtain⟨t,_,rfl⟩:=List.mem_map.1 hr;exact fB t
end Go.Proofs.YtldfmjoncbjldaaGreat
namespace Go.Eu
open Go.Abs
theorem LS {vs:List Tm}(h:∀v∈vs,okB v=true):JP vs∧KQ vs∧PZ vs:=HD vs (FP.2 fun t ht=>Wi (h t ht))
theorem LR.zero:LR E4:=LR.num (n:=0) Aa
theorem JU (l:List Tm) (k:Nat):A0 (l.take k)+A0 (l.drop k)=A0 l:=by rw[←Hg,List.take_append_drop]
theorem HR:∀(t:Tm),size (Ay t).1+A0 (Ay t).2+(Ay t).2.length=size t
 | .mk k i n l [f,a]=>by
  unfold Ay;split
  ·have:=HR f;simp only[Hg,A0,size,List.length_append,List.length_cons,List.length_nil];omega
  ·simp[A0]
 | .mk k i n l []=>by simp[Ay,A0]
 | .mk k i n l [_]=>by simp[Ay,A0]
 | .mk k i n l (_::_::_::_)=>by simp[Ay,A0]
mutual
def HO:FW→Nat
 | .mk _ _ _ l=>1+Jn l
def UM:HT→Nat
 | .mk _ _ t=>HO t
def Jn:List HT→Nat
 | []=>0
 | b::l=>max (UM b) (Jn l)
end
structure T5 (E:List Cc):Prop where
 g:XA E
 vl:∀d∈E,size d.value≤400
 ru:∀d∈E,∀t∈d.recs.rules,size t≤400
 fu:∀d∈E,∀f∈d.funs,HO f.tree≤50
theorem Nk {nm:ByteArray}:∀{l:List HT}{t:FW},DL nm l=some t→Ml l→Km t∧HO t≤Jn l
 | .mk c a q::l,t,h,ho=>by
  simp only[Ml,Wc] at ho;rw[DL] at h;simp only[Jn,UM];split at h
  ·split at h
   ·cases h
   cases h;exact⟨ho.1,by simp only[HT.tree];omega⟩
  obtain⟨h1,h2⟩:=Nk h ho.2;exact⟨h1,by omega⟩
theorem YM {nm:ByteArray}{t t':FW}(h:DL nm t.branches=some t') (ho:Km t):Km t'∧HO t' < HO t:=by
 obtain⟨k,b,v,l⟩:=t;simp only[Km] at ho;obtain⟨h1,h2⟩:=Nk h ho.2;exact⟨h1,by simp only[HO,FW.branches] at *;omega⟩
theorem R7 {E:List Cc}{nm:ByteArray}{d:Cc}{j:Int}(h:Hv E nm=some (d,j)):d∈E∧(0≤j→j<d.ctors.length):=by
 unfold Hv at h;split at h
 ·cases h
 rename_i h0;obtain⟨i,d',h1,h2⟩:=T7 (Decidable.not_not.1 h0);have hd:CB E (C9 E nm).1.decl=d':=P6 (by rw[h2.decl];simpa using h1);have hm:=List.mem_of_getElem? h1;rw[hd] at h;split at h
 ·cases h;exact⟨hm,fun q=>by omega⟩
 split at h
 ·rename_i h4;obtain⟨k,c,h5,h6⟩:=h2.ctor h4;cases h;exact⟨hm,fun _=>by have:=(List.getElem?_eq_some_iff.1 h5).1;omega⟩
 split at h
 ·cases h;exact⟨hm,fun q=>by omega⟩
 cases h
structure X9 (E:List Cc) (t:Tm) (d:Cc) (j:Int) (f:List Tm):Prop where
 mem:d∈E
 lo:0≤j
 hi:j<d.ctors.length
 fs:f=(Ay t).2.drop d.fixed.toNat
 len:((Ay t).2.length:Int)=d.fixed+Jh d j
 kind:(Ay t).1.kind=3
theorem J9 {E:List Cc}{t:Tm}{d:Cc}{j:Int}{f:List Tm}(h:GL E t=some (d,j,f)):X9 E t d j f:=by
 unfold GL at h;split at h
 ·cases h
 rename_i hk;split at h
 ·cases h
 rename_i d' j' hf;obtain⟨h1,h2⟩:=R7 hf;split at h
 ·cases h
 split at h
 ·cases h
 rename_i h3 h4;cases h;exact⟨h1,by omega,h2 Aa,rfl,Decidable.not_not.1 h4,Decidable.not_not.1 hk⟩
theorem OD {E:List Cc}{t:Tm}{d:Cc}{j:Int}{f:List Tm}(h:GL E t=some (d,j,f)) (ho:okB t=true):(∀x∈f,okB x=true∧size x<size t)∧A0 f+f.length<size t:=by
 have c:=J9 h;have hs:=HR t;have hp:=size_pos (Ay t).1;have hd:=JU (Ay t).2 d.fixed.toNat;rw[c.fs];refine⟨fun x hx=>⟨(IG ho).2 x (List.mem_of_mem_drop hx),?_⟩,by rw[List.length_drop];omega⟩;have:=Rx (List.mem_of_mem_drop hx);omega
theorem UJ {E:List Cc}{t:Tm}{d:Cc}{j:Int}{f:List Tm}(hE:XA E) (h:GL E t=some (d,j,f)):f.length≤1000000:=by
 have c:=J9 h;have hd:=hE.all d c.mem;have hlo:=c.lo;have hhi:=c.hi;have hlt:j.toNat<d.ctors.length:=by omega
 have hx:=List.getElem?_eq_getElem hlt;have hs:=(hd.din.cs _ (List.getElem_mem hlt)).ty.sz;have hl:=N1 d.ctors[j.toNat].type;have hfx:=hd.fx;have hlen:=c.len;rw[c.fs,List.length_drop];unfold Jh XH IU at hlen;rw[P6 hx] at hlen;omega
def Es {α:Type}(o:Out α) (p:α→Prop):Prop:=match o with
 | .stuck=>False
 | .fail=>True
 | .ok a=>p a
section
variable {α β σ:Type}
theorem Es.ok {a:α}{p:α→Prop}(h:p a):Es (.ok a) p:=h
theorem Es.ns {o:Out α}{p:α→Prop}(h:Es o p):o≠ .stuck:=fun e=>by rw[e] at h;exact h
theorem Es.get {o:Out α}{p:α→Prop}{a:α}(h:Es o p) (e:o= .ok a):p a:=by rw[e] at h;exact h
theorem Es.mono {o:Out α}{p q:α→Prop}(h:Es o p) (hpq:∀a,p a→q a):Es o q:=by
 cases o with
 | stuck=>exact h
 | fail=>trivial
 | ok a=>exact hpq a h
theorem Es.bind {o:Out α}{k:α→Out β}{p:α→Prop}{q:β→Prop}(h:Es o p) (hk:∀a,p a→Es (k a) q):Es (o.bind k) q:=by
 cases o with
 | stuck=>exact h
 | fail=>trivial
 | ok a=>exact hk a h
theorem Es.chk {o:Out (Tm×σ)}{k:Tm×σ→Out β}{p:Tm×σ→Prop}{q:β→Prop}(h:Es o p) (hk:∀a,p a→okB a.1=true∧Es (k a) q):Es (o.chk k) q :=
 Es.bind h fun a ha=>by rw[if_pos (hk a ha).1];exact(hk a ha).2
theorem Es.put {S:Sys σ}{s:σ}{x:Tm×Int}{k:Tm→σ→Out β}{q:β→Prop}(ho:okB x.1=true) (hk:∀s',S.res s x.1 x.2=some s'→Es (k x.1 s') q):Es (S.put s x k) q:=by
 unfold Sys.put;rw[if_pos ho];cases h:S.res s x.1 x.2 with
 | none=>trivial
 | some s'=>exact hk s' h
end
structure SD {σ:Type} (S:Sys σ) (J:σ→Prop) (cnt:σ→Nat) (C:Nat):Prop where
 nov:∀s,J s→S.over s=false→cnt s≤C
 res:∀s t e s',J s→cnt s<1152921504606846976→okB t=true→S.res s t e=some s'→J s'∧cnt s'=cnt s+1
 hC:C≤20000
section
variable {σ:Type}(S:Sys σ) (J:σ→Prop) (cnt:σ→Nat) (C:Nat)
structure ZH (s:σ) (t:Tm) (r:Tm×σ):Prop where
 j:J r.2
 ok:okB r.1=true
 le:cnt s≤cnt r.2
 sz:size r.1≤size t+(cnt r.2 - cnt s)*4500
 ub:S.over s=false→cnt r.2≤C+1+size t+(C - cnt s)*4500
 st:S.over s=true→r.2=s
structure dS (n:Nat) (s:σ) (t:Tm):Prop where
 j:J s
 ok:okB t=true
 pm:S.over s=false→size t+(C - cnt s)*4500≤90100000
 fu:S.over s=false→size t+(C - cnt s)*4501+100≤n
 n1:1≤n
def Yn (n:Nat) (W:σ→Tm→Out (Tm×σ)):Prop:=∀s t,dS S J cnt C n s t→Es (W s t) (ZH S J cnt C s t)
end
section
variable {σ:Type}{S:Sys σ}{J:σ→Prop}{cnt:σ→Nat}{C:Nat}{E:List Cc}{n:Nat}{W:σ→Tm→Out (Tm×σ)}
variable (hS:SD S J cnt C) (hE:T5 E) (hW:Yn S J cnt C n W)
structure fK (S:Sys σ) (J:σ→Prop) (cnt:σ→Nat) (C n V Z:Nat) (s:σ) (vars:List Tm) (last:Tm):Prop where
 j:J s
 ok:∀v∈vars,okB v=true
 lok:okB last=true
 pm:S.over s=false→∀v∈vars,size v+(C - cnt s)*4500≤V
 fu:S.over s=false→∀v∈vars,size v+(C - cnt s)*4501+100≤n
 lm:S.over s=false→size last+(C - cnt s)*4500≤V∧size last+(C - cnt s)*4501+100≤n
 zs:∀v∈vars,size v≤Z
 lz:size last≤Z
structure eQ (S:Sys σ) (J:σ→Prop) (cnt:σ→Nat) (C n V L Z:Nat) (s:σ) (q:(Option (Tm×List Tm)×Tm)×σ):Prop where
 j:J q.2
 le:cnt s≤cnt q.2
 ub:S.over s=false→cnt q.2≤C+1+V
 st:S.over s=true→q.2=s
 ok:∀b vars,q.1.1=some (b,vars)→okB b=true∧∀v∈vars,okB v=true
 vl:∀b vars,q.1.1=some (b,vars)→vars.length≤L∧A0 vars<1125899906842624
 lok:okB q.1.2=true
 lz:q.1.1=none→size q.1.2≤Z+(cnt q.2 - cnt s)*4500
 lm:S.over q.2=false→q.1.1=none→size q.1.2+(C - cnt q.2)*4500≤V∧size q.1.2+(C - cnt q.2)*4501+100≤n
include hS hE hW
end
section
variable {σ:Type}{S:Sys σ}{J:σ→Prop}{cnt:σ→Nat}{C:Nat}{E:List Cc}{n:Nat}{W:σ→Tm→Out (Tm×σ)}
structure eA (S:Sys σ) (J:σ→Prop) (cnt:σ→Nat) (C:Nat) (s:σ) (z:Nat) (r:Option Tm×σ):Prop where
 j:J r.2
 le:cnt s≤cnt r.2
 ub:cnt r.2≤C+1+z+(C - cnt s)*4500
 ok:∀x,r.1=some x→okB x=true∧cnt s+1≤cnt r.2∧size x≤z+(cnt r.2 - cnt s)*4500
variable (hS:SD S J cnt C)
include hS
variable (hE:T5 E)
include hE
variable (hW:Yn S J cnt C n W)
include hW
end
section
variable {σ:Type}{S:Sys σ}{J:σ→Prop}{cnt:σ→Nat}{C:Nat}{E:List Cc}
variable (hS:SD S J cnt C) (hE:T5 E)
include hS
include hE
end
def Mh:Tm→List Int→Tm→Prop
 | t,[],v=>t=v
 | t,p::ps,v=>∃y,(Ay t).2[p.toNat]?=some y∧Mh y ps v
theorem ME {k:Int}{w:Tm}:∀{ps:List Int}{t v:Tm},Mh t ps v→(Ay v).2[k.toNat]?=some w→Mh t (ps++[k]) w
 | [],t,v,h,hw=>by cases h;exact⟨w,hw,rfl⟩
 | p::ps,t,v,⟨y,h1,h2⟩,hw=>⟨y,h1,ME h2 hw⟩
structure X2 (a vars:List Tm) (pl:List (Int×List Int)):Prop where
 len:pl.length=vars.length
 at_:∀(i:Nat) v,vars[i]?=some v→∃j path y,pl[i]?=some (j,path)∧a[j.toNat]?=some y∧Mh y path v
theorem Pn (p:Int×List Int) (fx:Int) (n:Nat):(Hc p fx n).length=n:=by simp[Hc]
theorem X2.more {a vars:List Tm}{pl:List (Int×List Int)}(h:X2 a vars pl) {i:Nat}{v:Tm}{p:Int×List Int}(hv:vars[i]?=some v) (hp:pl[i]?=some p) {fx:Int}(hfx:0≤fx):X2 a (vars++(Ay v).2.drop fx.toNat) (pl++Hc p fx ((Ay v).2.drop fx.toNat).length):=by
 refine⟨by rw[List.length_append,List.length_append,h.len,Pn],fun q w hw=>?_⟩;by_cases hq:q<vars.length
 ·rw[List.getElem?_append_left hq] at hw;rw[List.getElem?_append_left (by rw[h.len];exact hq)];exact h.at_ q w hw
 rw[List.getElem?_append_right Aa] at hw;rw[List.getElem?_append_right (by rw[h.len];omega),h.len];obtain⟨j,path,y,h1,h2,h3⟩:=h.at_ i v hv;rw[hp] at h1;cases h1;have hlt:=(List.getElem?_eq_some_iff.1 hw).1;rw[List.getElem?_drop] at hw;refine⟨j,path++[fx+((q - vars.length:Nat):Int)],y,?_,h2,ME h3 (by rw[show (fx+((q - vars.length:Nat):Int)).toNat=fx.toNat+(q - vars.length) by omega];exact hw)⟩;rw[Hc,List.getElem?_map,List.getElem?_range hlt];rfl
section
variable {σ:Type}{S:Sys σ}{J:σ→Prop}{cnt:σ→Nat}{C:Nat}{E:List Cc}
structure eH (S:Sys σ) (J:σ→Prop) (cnt:σ→Nat) (s:σ) (z:Nat) (r:Option Tm×σ):Prop where
 j:J r.2
 le:cnt s≤cnt r.2
 ub:cnt r.2≤cnt s+1
 ok:∀x,r.1=some x→okB x=true∧size x≤z+4500
variable (hS:SD S J cnt C) (hE:T5 E)
omit hS hE in
include hS
include hE
end
section
variable {σ:Type}{S:Sys σ}{J:σ→Prop}{cnt:σ→Nat}{C:Nat}{E:List Cc}
variable (hS:SD S J cnt C) (hE:T5 E)
include hS hE
end
def en (c:Gr):Prop:=c.limit=1000∧0≤c.steps∧(c.over=false→c.steps≤1000)
def ec (n:Int):Prop:=0≤n∧n≤20000
section
variable {E:List Cc}{t:Tm}{k i:Int}{n:ByteArray}{ls:List B6}{ks:List Tm}
end
section
variable {E:List Cc}{t:Tm}{k i:Int}{n:ByteArray}{ls:List B6}{ks:List Tm}
end
def eY (E:List Cc) (t:Tm):Cc×Int×List Tm×Bool:=match GL E t with
 | some (d,j,l)=>(d,j,l,true)
 | none=>(WS,0,[],false)
end Go.Eu
namespace Go.Eu
def cw (nm:ByteArray):List HT→Int→Int
 | [],_=> -1
 | b::l,i=>if b.ctor=nm then i else cw nm l (i+1)
end Go.Eu
namespace Go.Eu
open Go.Abs
theorem Su {nm:ByteArray}:∀{l:List HT}{t:FW},DL nm l=some t→Kl l→FM t
 | .mk c a q::l,t,h,ho=>by
  simp only[Kl,QR] at ho;rw[DL] at h;split at h
  ·split at h
   ·cases h
   cases h;exact ho.1.2
  exact Su h ho.2
theorem Yz {nm:ByteArray}{t t':FW}(h:DL nm t.branches=some t') (ho:FM t):FM t':=Su h ho.bs
def fk (q:Option (Tm×List Tm)×Tm):Tm:=match q.1 with
 | some (b,_)=>b
 | none=>BF
def gA (q:Option (Tm×List Tm)×Tm):List Tm:=match q.1 with
 | some (_,v)=>v
 | none=>[]
structure Xh (y:FW) (us:List Tm):Prop where
 tin:FM y
 tok:Km y
 len:us.length+HO y*1000000≤100000000
 ok:∀v∈us,okB v=true
theorem Xh.next {E:List Cc}{y q:FW}{us f:List Tm}{x:Tm}{nm:ByteArray}{d:Cc}{j:Int}(h:Xh y us) (hE:XA E) (hx:okB x=true) (hc:GL E x=some (d,j,f)) (hb:DL nm y.branches=some q):Xh q (us++f):=by
 obtain⟨h1,h2⟩:=YM hb h.tok;have h3:=UJ hE hc;have h4:=h.len;refine⟨Yz hb h.tin,h1,by rw[List.length_append];omega,fun v hv=>?_⟩;rcases List.mem_append.1 hv with hv | hv
 ·exact h.ok v hv
 exact((OD hc hx).1 v hv).1
def TO:FW:= .mk 0 BF 0 []
def fJ (nm:ByteArray):List HT→FW×Bool
 | []=>(TO,false)
 | b::l=>if b.ctor=nm then (b.tree,!b.absurd) else fJ nm l
def fp (nm:ByteArray) (l:List HT):FW×Bool:=match DL nm l with
 | some q=>(q,true)
 | none=>(TO,false)
section
variable {E:List Cc}{σ:Type}{S:Sys σ}{W:σ→Tm→Out (Tm×σ)}{n:Nat}{h m:Tm}{a:List Tm}{s:σ}{d:Cc}{x:HQ}
end
section
variable {E:List Cc}{σ:Type}{S:Sys σ}{W:σ→Tm→Out (Tm×σ)}{n:Nat}{h m:Tm}{a:List Tm}{s:σ}{d:Cc}{x:HQ}
end
section
variable {E:List Cc}{σ:Type}{S:Sys σ}{n:Nat}{t:Tm}{s:σ}
end
structure bw (w:Tm):Prop where
 ok:okB w=true
 nd:Nd w
 sz:size w<549755813888
 len:(Ay w).2.length<549755813888
 head:okB (Ay w).1=true
 args:∀x∈(Ay w).2,okB x=true
 asz:A0 (Ay w).2+(Ay w).2.length<size w
theorem V8 {w:Tm}(h:okB w=true):bw w:=by
 have h1:=Po h;have h2:=HR w;have h3:=size_pos (Ay w).1;exact⟨h,(Ji.1 h).nd,h1,by omega,(IG h).1,(IG h).2,by omega⟩
def Ll (L:List (List Tm)):List (List PV):=L.map fun l=>[.lst (Ax l)]
theorem Lg {L:List (List Tm)}{i:Nat}{l:List Tm}(h:L[i]?=some l):(Ll L)[i]?=some [.lst (Ax l)]:=by simp[Ll,h]
theorem MS {L:List (List Tm)}{i:Nat}{l:List Tm}(h:L[i]?=some l):((L.take (i+1)).map List.length).sum=((L.take i).map List.length).sum+l.length:=by
 simp[List.take_add_one,h]
theorem G6 {L:List (List Tm)}{i:Nat}{l:List Tm}(h:L[i]?=some l):(L.take (i+1)).flatten=(L.take i).flatten++l:=by
 simp[List.take_add_one,h]
def K0 (t:Tm):Out (Option Tm) :=
 if (Ay t).1.kind=0∨(Ay t).1.kind=3 then .ok none
 else if (Ay t).1.kind=5 then match (Ay t).2,(Ay t).1.kids with
  | [],_=> .ok none
  | x::xs,[d,b]=>gd (decide ((Cs b [x] 0).2=0)) (.ok (some (apply (Cs b [x] 0).1 xs)))
  | _,_=> .stuck
 else .stuck
def PS (W:Tm→Out Bool):List Tm→Out Bool
 | []=> .ok true
 | x::xs=>(W x).bind fun b=>if b=true then PS W xs else .ok false
def Oa:Nat→Tm→Out Bool
 | 0,_=> .stuck
 | n+1,t=>gd (okB t) ((K0 t).bind fun q=>if q.isSome=true then gd (okB (q.getD BF)&&decide (size (q.getD BF)≤4096)&&decide (Dg (q.getD BF)≤200)) (.ok false) else gd (decide ((Ay t).1.kids.length<1000)&&decide ((Ay t).2.length<1000)) (PS (Oa n) ((Ay t).1.kids++(Ay t).2)))
theorem VP:Oa 9 aa= .ok false:=rfl
theorem VS:Oa 9 aj= .ok true:=rfl
theorem VO {t:Tm}{q:Option Tm}(h:K0 t= .ok q):(Ay t).1.kind=0∨(Ay t).1.kind=3∨(Ay t).1.kind=5:=by
 unfold K0 at h;split at h
 ·rename_i e;rcases e with e | e
  ·exact .inl e
  exact .inr (.inl e)
 split at h
 ·rename_i e;exact .inr (.inr e)
 cases h
theorem MK {t:Tm}{q:Option Tm}(h:K0 t= .ok q) (hk:(Ay t).1.kind=0∨(Ay t).1.kind=3):q=none:=by
 unfold K0 at h;rw[if_pos hk] at h;injection h with h;exact h.symm
theorem N8 {t:Tm}{q:Option Tm}(h:K0 t= .ok q) (hk:(Ay t).1.kind=5):((Ay t).2=[]∧q=none)∨∃x xs d b,(Ay t).2=x::xs∧(Ay t).1.kids=[d,b]∧(Cs b [x] 0).2=0∧q=some (apply (Cs b [x] 0).1 xs):=by
 unfold K0 at h;rw[if_neg Aa,if_pos hk] at h;split at h
 ·rename_i e;injection h with h;exact .inl ⟨e,h.symm⟩
 ·rename_i x xs d b e1 e2;obtain⟨h1,h2⟩:=CJ h;injection h2 with h2;exact .inr ⟨x,xs,d,b,e1,e2,by simpa using h1,h2.symm⟩
 cases h
theorem Up {n:Nat}{t:Tm}{b:Bool}(h:Oa n t= .ok b):∃m q,n=m+1∧okB t=true∧K0 t= .ok q∧((q.isSome=true∧(okB (q.getD BF)=true∧size (q.getD BF)≤4096∧Dg (q.getD BF)≤200)∧b=false)∨(q=none∧(Ay t).1.kids.length<1000∧(Ay t).2.length<1000∧PS (Oa m) ((Ay t).1.kids++(Ay t).2)= .ok b)):=by
 cases n with
 | zero=>cases h
 | succ m =>
  obtain⟨h1,h2⟩:=CJ h;obtain⟨q,h3,h4⟩:=Ew h2;refine⟨m,q,O,h1,h3,?_⟩;split at h4
  ·rename_i e;obtain⟨h5,h6⟩:=CJ h4;simp only[Bool.and_eq_true,decide_eq_true_eq] at h5;injection h6 with h6;exact .inl ⟨e,⟨h5.1.1,h5.1.2,h5.2⟩,h6.symm⟩
  rename_i e;obtain⟨h5,h6⟩:=CJ h4;simp only[Bool.and_eq_true,decide_eq_true_eq] at h5;exact .inr ⟨by cases q<;>simp_all,h5.1,h5.2,h6⟩
theorem Rl {W:Tm→Out Bool}{x:Tm}{xs:List Tm}{b:Bool}(h:PS W (x::xs)= .ok b):∃c,W x= .ok c∧((c=true∧PS W xs= .ok b)∨(c=false∧b=false)):=by
 obtain⟨c,h1,h2⟩:=Ew h;refine⟨c,h1,?_⟩;cases c with
 | true=>exact .inl ⟨rfl,h2⟩
 | false=>injection h2 with h2;exact .inr ⟨rfl,h2.symm⟩
end Go.Eu
namespace Go.Abs
section
variable {P:Program}{dst:Option Tmp}{ty:TypeId}{pos:String}{aft:Array Edge}{g:Option (Nat×Bool)}{ρ:Operand→AV}{H:List Ap}{x y z:Operand}{v:AV}
theorem JD {a:Operand}{T e:TypeId}{n1 n2:Nat}(hT:Cy P T=some (e,n1,n2)) (hx:ρ a= .p .nils) :
  CG P ⟨dst,.call { callee:= .builtin .cap,args:=#[a],argTypes:=#[T] },ty,pos,aft,g⟩ ρ H (.p (.int .i64 0)) H :=
 BK fun F w E hH hE=>by
  have h1:=hE a AM;obtain⟨hu,_⟩:=CE hT;rw[hx] at h1;simp only[BM,BN] at h1;refine⟨.int .i64 0,?_,by simp[BM,BN]⟩;simp[execOp,resolve,invoke,builtin,Builtin.cap_,h1,Sem.run_bind,run_underlying hu,goInt]
theorem LF {T e:TypeId}{sz bytes:Nat}(hT:Cy P T=some (e,sz,bytes)) (hx:ρ x= .p .nils) (hy:ρ y= .p (.int .i64 0)):CG P ⟨dst,.slice T x none (some y) none,ty,pos,aft,g⟩ ρ H (.p .nils) H :=
 BK fun F w E hH hE=>by
  obtain⟨hu,j,hj,hs,_⟩:=CE hT;have h:=hE x AQ;have h1:=hE y AQ;rw[hx] at h;rw[hy] at h1;simp only[BM,BN] at h h1;have hszr:(sizeOf e).run P w= .ok sz w:=by simp[sizeOf,typeInfo,hj,hs]
  refine⟨.slice none 0 0,?_,by simp only[BM,BN]⟩;simp[execOp,Instr.sliceAt,Sem.run_bind,run_underlying hu,h,h1,Instr.slice,Instr.sliceBounds,Instr.sliceBound,asIntOf,hszr]
theorem LU {T e:TypeId}{sz bytes b n c:Nat}(hT:Cy P T=some (e,sz,bytes)) (hx:ρ x= .vs (some b) n c) (hy:ρ y= .p (.int .i64 0)):CG P ⟨dst,.slice T x none (some y) none,ty,pos,aft,g⟩ ρ H (.vs (some b) 0 c) H :=
 BK fun F w E hH hE=>by
  obtain⟨hu,j,hj,hs,_⟩:=CE hT;have h:=hE x AQ;have h1:=hE y AQ;rw[hx] at h;rw[hy] at h1;simp only[BM,BN] at h h1;have hszr:(sizeOf e).run P w= .ok sz w:=by simp[sizeOf,typeInfo,hj,hs]
  refine⟨.slice (some ⟨b,0,none⟩) 0 c,?_,by simp only[BM]⟩;simp[execOp,Instr.sliceAt,Sem.run_bind,run_underlying hu,h,h1,Instr.slice,Instr.sliceBounds,Instr.sliceBound,asIntOf,hszr,Addr.add_mid]
def SP (sz n:Nat) (H:List Ap):CA→List Ap→Prop
 | .val v,H'=>∃b c,v= .vs (some b) n c∧H'= .vec (some b) sz [] c::H
 | .panic _,_=>False
theorem Ta {T T2 e:TypeId}{sz bytes:Nat}{n:Nat}{zv:Value}(hT:Cy P T=some (e,sz,bytes)) (hT2:P.underlying T2=some (.int .i64)) (hz:zeroOf P e=some zv) (hzs:zv.cells.size=sz) (hb0:(Nat.blt 0 sz&&Nat.blt 0 bytes)=true)
  (hx:ρ x= .p .nils) (hy:ρ y= .p (.int .i64 n)) (hn:0<n) (hroom:2*n*bytes≤281474976710656) :
  Bz P ⟨dst,.call { callee:= .builtin .append,args:=#[x,y],argTypes:=#[T,T2] },ty,pos,aft,g⟩ ρ H (SP sz n H) :=
 En fun F w E hH hE=>by
  simp only[Bool.and_eq_true,Nat.blt_eq] at hb0;obtain⟨hu,inf,hinf,hs,hby⟩:=CE hT;have h1:=hE x AM;have h2:=hE y AM;rw[hx] at h1;rw[hy] at h2;simp only[BM,BN] at h1 h2;unfold zeroOf at hz;have hz':∃j,P.info? e=some j∧j.zero=some zv:=by
   cases hq:P.info? e with
   | none=>simp[hq] at hz
   | some j=>exact⟨j,rfl,by simpa [hq] using hz⟩
  obtain⟨j,hj,hz'⟩:=hz';have hzv:∀w,(zeroValue e).run P w= .ok zv w:=fun w=>by simp[zeroValue,typeInfo,hj,hz',Sem.run_bind]
  have hti:∀w,(typeInfo e).run P w= .ok inf w:=fun w=>by simp[typeInfo,hinf]
  have hszr:∀w,(sizeOf e).run P w= .ok sz w:=fun w=>by simp[sizeOf,typeInfo,hinf,hs]
  have hcap':(0:Nat)<0+n:=by omega
  have hcap:¬(0+n≤0):=by omega
  have hnext:=G4 hcap';generalize hnc:Question.cut (.appendCap (0+n) 0 e) (w.tape w.drawn (.appendCap (0+n) 0 e))=newCap;have hncge:0+n≤newCap:=by rw[←hnc];simp only[Question.cut];omega
  have hask:∀(b:Nat) w,(askRoom b).run P w= .ok () w:=by intro b w;unfold askRoom;split<;>rfl
  let w1:World:={ w with drawn:=w.drawn+1 }
  have same:B7 F w F w1:=⟨Nat.le_refl _,fun _ _ _=>rfl,fun _ h _=>h⟩
  let vs:List Value:=(Builtin.zeroCells zv.cells n).toList++(Builtin.zeroCells zv.cells (newCap - (0+n))).toList
  have hbn:bytes*n≤281474976710656:=by
   have:2*n*bytes=2*(bytes*n):=by rw[Nat.mul_assoc,Nat.mul_comm n bytes]
   omega
  have hnn:(n:Int)≤281474976710656:=by
   have:n≤bytes*n:=Nat.le_mul_of_pos_left n hb0.2;omega
  have hwr:IntKind.i64.wrap (n:Int)=n:=Jk (by simp[IntKind.min,IntKind.signed,IntKind.bits]) (by simp[IntKind.max,IntKind.signed,IntKind.bits];omega);have hai:∀w,(asIntOf (.int .i64 (n:Int))).run P w= .ok (.i64,(n:Int)) w:=fun w=>rfl;have hbi:¬((n:Int)*(bytes:Int) > 281474976710656):=by
   have:((n*bytes:Nat):Int)≤281474976710656:=by rw[Nat.mul_comm];omega
   rw[Int.natCast_mul] at this;omega
  have hne:¬(n*sz=0):=Nat.ne_of_gt (Nat.mul_pos hn hb0.1);have hrun:(execOp E ⟨dst,.call { callee:= .builtin .append,args:=#[x,y],argTypes:=#[T,T2] },ty,pos,aft,g⟩).run P w= .ok (.value (.slice (some ⟨w.heap.size,0,none⟩) (0+n) newCap)) (World.push w1 (.cells ⟨vs⟩ e (0,0))):=by
   simp only[execOp,resolve,invoke,builtin,Builtin.append_,h1,h2,Sem.run_bind,Sem.run_pure,Result.andThen_ok,List.map_toArray,List.map_cons,List.map_nil,List.getElem?_toArray,List.getElem?_cons_zero,List.getElem?_cons_succ,run_underlying hu,run_underlying hT2,hszr,pure_bind,if_true,asInt,hai,hwr];rw[if_neg Aa];simp only[Sem.run_bind,Sem.run_pure,Result.andThen_ok,hti,hby,pure_bind];rw[if_neg (by simpa using hbi)];simp only[Sem.run_bind,Sem.run_pure,Result.andThen_ok,hti,hby,pure_bind,Int.toNat_natCast];rw[if_neg hcap];simp only[Sem.run_bind,hti,Result.andThen_ok,hby];rw[if_neg (by simp[IntKind.max,IntKind.signed,IntKind.bits];omega)];simp only[Sem.run_bind,Sem.run_pure,Result.andThen_ok,hti,hby,pure_bind];rw[if_neg (by
    have:Builtin.nextslicecap (0+n) 0*bytes≤2*(0+n)*bytes:=Nat.mul_le_mul_right bytes hnext;rw[Nat.zero_add] at this ⊢;simp;omega)]
   have hch:(choose (.appendCap (0+n) 0 e)).run P w= .ok newCap w1:=by
    simp only[choose,Sem.run,Question.forced,Bool.false_eq_true,if_false,hnc];rfl
   have hf0:∀w,(Builtin.firstCells sz 0 (.slice none 0 0)).run P w= .ok #[] w:=fun w=>rfl;have evs:(#[]++Builtin.zeroCells zv.cells n++Builtin.zeroCells zv.cells (newCap - (0+n)):Array Value)=⟨vs⟩:=by
    apply Array.ext';simp[vs]
   simp only[Sem.run_bind,Sem.run_pure,Result.andThen_ok,pure_bind,hch,hti,hask,hf0,hzv,Bool.not_true,Bool.false_eq_true,if_false,if_neg hne,newRow,newObj,Sem.run,Result.andThen];rw[evs];rfl
  have hvl:vs.length=newCap*sz:=by
   simp only[vs,List.length_append,Array.length_toList,FA,hzs];rw[←Nat.add_mul];congr 1;omega
  have hH1:HRel F H w1:=hH.stable' same (fun _ h=>h) (fun _ _ _ _=>rfl) hH.bd;have t1:Trans F H w F H w1:=⟨Nat.le_refl _,fun _ _ _=>rfl,fun _ h _=>h,fun _ h=> .inl h,fun o ho b hb=> .inl ⟨o,ho,hb⟩,rfl,rfl,rfl⟩;obtain⟨v',H',F',⟨b',c',hv',hH'⟩,ht,hHr,hrep⟩:=Hk (T:=e) (c:=newCap) (vs:=vs) (rows:=[]) (sz:=sz) (H:=H) hH1 Ab (by simp[A8]) (by rw[hvl];exact Nat.le_refl _) Ab;subst hv';subst hH';simp only[BM,List.length_nil] at hrep;injection hrep with e1 e2 e3;injection e1 with e1;injection e1 with e1;subst e1;subst e3;exact⟨_,_,.vs (some w.heap.size) n newCap,_,F',hrun,⟨_,_,O,O⟩,t1.trans hH.bd ht,hHr,by simp[BM]⟩
end
section
variable {P:Program}{r:Option Nat}{ops:Array Oper}{n k:Nat}{τ:Nat→AV}{H:List Ap}{D:List CI}{Q:Bl→A4→Prop}{dst:Option Tmp}{op:Op}{ty:TypeId}{pos:String}{aft:Array Edge}
theorem VV {sz m:Nat}(ho:ops[k]?=some ⟨dst,op,ty,pos,aft,none⟩) (hd:Db dst n=true) (h:Bz P ⟨dst,op,ty,pos,aft,none⟩ (ev τ) H (SP sz m H))
  (next:∀b c,AL P r ops (k+1) ⟨n,put τ dst (.vs (some b) m c),.vec (some b) sz [] c::H,D⟩ Q):AL P r ops k ⟨n,τ,H,D⟩ Q :=
 C0 (S:=⟨n,τ,H,D⟩) ho AT (D8 hd) h (fun v H' ⟨b,c,h1,h2⟩=>by subst h1;subst h2;exact next b c) (fun _ _ h=>h.elim)
end
end Go.Abs
namespace Go.Proofs.YtldfmjoncbjldaaGreat
open Go.Abs Go.Eu
theorem U9:∀(n:Int),(0≤n)→(n≤1000000000)→BD Tryz.prog 71 [.p (.nils),.p (I n)] [] (Ws (fun v=>v) 5 (Ax [])):=by
 intro n h1 h2;refine An Tryz.func71 O bO (n:=27) O O (Ae Aj 1 [] O (Af (Ae Aj 2 [] O (Ag O (fun c=>?_) (fun c=>?_)))))
 ·(try simp only[sd,se] at c);exfalso;omega
 (try simp only[sd,se] at c);refine Ak (Af (Al (Am Aj 2 [] O (Ah O (JD BJ O) (BY O (Ah O (JK BJ O) (Ad Aj 3 [] O (Ae Aj 2 [] O (Ag O (fun c1=>?_) (fun c1=>?_))))))))))
 ·(try simp only[sd,se] at c1);refine Ao (Am Aj 2 [] O (Ah O (JD BJ O) (Ah O (LF BJ O O) (BY O (Br (Dp (t:=21) (x:= .p (I ((n.toNat:Nat):Int))) (congrArg (fun z=>AV.p (.int .i64 z)) Aa)) (VV O O (Ta (n:=n.toNat) BJ eh Bf O O O O Aa Aa) fun b cp=>BY O (Ah O (JK BJ O) (Ah O (LU BJ O O) (Ad Aj 1 [] O (Ae Aj 2 [] O (Ai (⟨O,_,_,⟨_,_,O,O,O⟩,(CX (is:=[0]) O),?_⟩))))))))))))
  all_goals exact⟨_,_,rfl,rfl⟩
 (try simp only[sd,se] at c1);refine Ak (Ae Aj 2 [] O (BP (II (t:=4) (sz:=5) O) (Ai (⟨O,_,_,⟨_,_,O,O,O⟩,(CX (is:=[0]) O),?_⟩))))
 all_goals exact⟨_,_,rfl,rfl⟩
theorem Vj:∀(L:List (List Tm)),(L.length<100)→(∀l∈L,l.length<1000000)→BD Tryz.prog 39 [.p (.lst (Ll L))] [] (Ws (fun v=>v) 5 (Ax L.flatten)):=by
 intro L h1 h2;refine An Tryz.func39 O bx (n:=36) O O (Ae Aj 1 [] O (Ae Aj 1 [] O (Af (Al (BY O (Ah O (A7 OZ O (List.length_map _)) (Ad Aj 1 [] O (Au ?_))))))));refine BZ (α:=Nat) (fun i=>⟨36,mk [(0,.p (.lst (Ll L))),(3,.p (I ((((L.take i).map List.length).sum:Nat):Int))),(9,.p (.lst (Ll L))),(10,.p (I (L.length:Nat))),(11,.p (I (i:Int)))],[],[]⟩) (fun i=>L.length - i) (fun i=>i≤L.length∧(((L.take i).map List.length).sum≤i*1000000)) 0 (⟨by omega,by simp⟩) ?_ ?_
 ·exact BO ⟨we O,we O,we O,we O,we O,Ac⟩ (leH (is:=[]) O (DM))
 rintro i hC
 try simp only at hC
 obtain⟨hi,hC⟩:=hC;refine Ae Aj 1 [] O (Af (Ag O (fun c=>?_) (fun c=>?_)))
 ·(try simp only[sd,se] at c);refine Ak (Af (Au (Al ?_)));obtain⟨x,hx⟩:=Ar (l:=L) (i:=i) Aa;refine Ah O (Aq OZ O O Aa (Lg hx) O) (Ad Aj 2 [] O (Al (Am Aj 2 [] O (Ah O (A7 BJ O (A1 _)) (Ah O (M4 O O (by have:=h2 x (List.mem_of_getElem? hx);omega) (by have:=h2 x (List.mem_of_getElem? hx);omega)) (Ad Aj 1 [] O (Ae Aj 2 [] O (Ag O (fun c1=>?_) (fun c1=>?_)))))))))
  ·(try simp only[sd,se] at c1);exfalso;omega
  (try simp only[sd,se] at c1);refine Ak (Ao (Ad Aj 2 [] O ?_));refine⟨(i+1),AK,⟨by omega,by rw[MS hx];have:=h2 x (List.mem_of_getElem? hx);omega⟩,BO ⟨we rfl,we (by show AV.p (.int .i64 _)=_;rw[MS hx];rfl),we rfl,we rfl,we rfl,trivial⟩ (leH (is:=[]) rfl (DM))⟩
 (try simp only[sd,se] at c);refine BS (Al (BY O (SG O O O (.inl ⟨O,O,O⟩) (U9 ((((L.take i).map List.length).sum:Nat):Int) (by first | assumption | omega) (by first | assumption | omega)) (.inl O) fun o cp=>Ad Aj 1 [] O (Af (Al (BY O (Ah O (A7 OZ O (List.length_map _)) (Ad Aj 1 [] O (Au ?_)))))))));refine BZ (α:=Nat×Option Nat×Nat) (fun(i,o1,cp1)=>⟨36,mk [(6,.vs o1 (Ax ((L.take i).flatten)).length cp1),(25,.p (.lst (Ll L))),(26,.p (I (L.length:Nat))),(27,.p (I (i:Int)))],[.vec o1 5 (Ax ((L.take i).flatten)) cp1],[]⟩) (fun(i,o1,cp1)=>L.length - i) (fun(i,o1,cp1)=>i≤L.length∧((L.take i).flatten.length≤i*1000000)) ⟨0,o,cp⟩ (⟨by omega,by simp⟩) ?_ ?_
 ·exact BO ⟨we O,we O,we O,we O,Ac⟩ (leH (is:=[0]) O (wl (oe O) (DM)))
 rintro⟨i,o1,cp1⟩ hC1
 try simp only at hC1
 obtain⟨hi,hC⟩:=hC1;refine Ae Aj 1 [] O (Af (Ag O (fun c1=>?_) (fun c1=>?_)))
 ·(try simp only[sd,se] at c1);refine Ak (Af (Au (Al ?_)));obtain⟨x,hx⟩:=Ar (l:=L) (i:=i) Aa;refine Ah O (Aq OZ O O Aa (Lg hx) O) (Ad Aj 2 [] O (Ao (Am Aj 2 [] O (SX O O (EF (i:=0) (rows':=Ax x) BJ BJ Bf O O O O O O (Bj _) (by have:=h2 x (List.mem_of_getElem? hx);simp only[A1];omega) (Q2 ((L.take i).flatten) x)) fun o2 cp2=>Ad Aj 1 [] O (Ao (Ad Aj 2 [] O ?_))))));refine⟨⟨i+1,o2,cp2⟩,AK,⟨by omega,by rw[G6 hx,List.length_append];have:=h2 x (List.mem_of_getElem? hx);omega⟩,BO ⟨we (O5 ((L.take i).flatten++x) (by rw[G6 hx])),we rfl,we rfl,we rfl,trivial⟩ (leH (is:=[0]) rfl (wl (Ip ((L.take i).flatten++x) (by rw[G6 hx])) (DM)))⟩
 (try simp only[sd,se] at c1);refine BS (Ae Aj 2 [] O (Ai (⟨O,_,_,⟨_,_,O,O,O⟩,(CX (is:=[0]) O),?_⟩)));rw[List.take_of_length_le Aa]
 all_goals exact⟨_,_,rfl,rfl⟩
theorem XF:∀(m:Nat) (l:Int),(0<l)→(l≤20000)→BD Tryz.prog 148 [.ptr m 0] [.box m [.p (.lst []),.p (I l)]] (GB (.tup []) [.box m [.p (.lst []),.p (I (l - 1))]]):=by
 intro m l h1 h2;refine An Tryz.func148 O Zv (n:=16) O O (Ae Aj 8 [0,0,0] O (Ae Aj 5 [0] O (Ag O (fun c=>?_) (fun c=>?_))))
 ·(try simp only[sd,se] at c);exfalso;omega
 (try simp only[sd,se] at c);refine Ak ⟨O,_,_,O,(CX (is:=[0]) O),?_⟩
 all_goals exact⟨rfl,rfl⟩
theorem Wq:∀(m:Nat) (n:Int) (t:Tm) (vs:List Tm),(0<n)→(n≤20000)→(okB t=true)→(∀v∈vs,okB v=true)→(vs.length<549755813888)→((Cs t vs 0).2=0)→BD Tryz.prog 113 [.ptr m 0,.agg ((A3 t).map .p),.p (.lst (Ax vs))] [.box m [.p (.lst []),.p (I n)]] (GB (.agg ((A3 ((Cs t vs 0).1)).map .p)) [.box m [.p (.lst []),.p (I (n - 1))]]):=by
 intro m n t vs h1 h2 h3 h4 h5 h6;have hto:=Ji.1 h3;have hts:=hto.sz;have hvo:=LS h4;refine An Tryz.func113 O Y6 (n:=22) O O (Al (A2 O (A9 O) fun b4=>A2 O (As Bf O) fun b6=>Bb O (Al (BY O (Ah O (CD [2] O (.inl ⟨O,O,O⟩) (XF m n h1 h2) ⟨_,_,O,O,O⟩ AZ O (.inl O)) (Bb O (Al (Am Aj 2 [1] O ?_))))))));refine Ah rfl (Av rfl rfl (Rg t vs hto.nd hto.vp Aa hvo.1 hvo.2.2 (fun v hv=>by have:=Po (h4 v hv);simp only[Cu];omega) AP) rfl) ?_;refine Am Aj 3 [] O (A2 O (As Bf O) fun b7=>Ad Aj 2 [0,1] O (Af (Ae Aj 2 [] O (Ag O (fun c=>?_) (fun c=>?_)))))
 ·(try simp only[sd,se] at c);exact absurd h6 (by simpa using c)
 (try simp only[sd,se] at c);refine Ak (Ae Aj 2 [0,1,1] O (Ai (⟨O,_,_,⟨_,_,O,(BA (i:=1) Bd O O AS),O⟩,(CX (is:=[3]) O),?_⟩)))
 all_goals exact⟨rfl,rfl⟩
theorem U2:∀(nm:ByteArray),Dl Tryz.prog 109 [.p (.lst []),.p (.str nm)] (.tup [.agg [.p (I 0),.p (I 0),.p (I 0),.p (I 0),.p (I 0),.p (I 0),.p (.str ⟨#[]⟩),.p (.lst []),.p (.lst [])],.p (I 9)]):=by
 intro nm;refine Cp Tryz.func109 O ZK (n:=28) O O (Al (A2 O (A9 O) fun b3=>A2 O (As P8 O) fun b4=>A2 O (As UN O) fun b5=>Bb O (Af (Al (BY O (Ah O (A7 Tg O O) (Ad Aj 1 [] O (Au (BZ (α:=Nat) (fun i=>⟨28,mk [(3,.ptr b3 0),(4,.ptr b4 0),(5,.ptr b5 0),(10,.p (.lst [])),(11,.p (I (0:Nat))),(12,.p (I (i:Int)))],[.box b5 [.p (I 0)],.box b4 [.p (I 0),.p (I 0),.p (I 0),.p (I 0),.p (I 0),.p (I 0),.p (.str ⟨#[]⟩),.p (.nils),.p (.nils)],.box b3 [.p (.str nm)]],[]⟩) (fun i=>0 - i) (fun i=>i≤0) 0 AJ ?_ ?_)))))))))
 ·exact BO ⟨we O,we O,we O,we O,we O,we O,Ac⟩ (leH (is:=[0,1,2]) O (wl (oe O) (wl (oe O) (wl (oe O) (DM)))))
 rintro i hC
 try simp only at hC
 have hi:=hC;refine Ae Aj 1 [] O (Af (Ag O (fun c=>?_) (fun c=>?_)))
 ·(try simp only[sd,se] at c);exfalso;omega
 (try simp only[sd,se] at c);refine BS (Ae Aj 3 [1,0,0,0] O (BP (Bv (i:=1) O) (Ai (⟨_,_,⟨_,_,O,(BA (i:=1) WT O O O),⟨_,_,O,(Dt (i:=0) M7 O O),O⟩⟩,(List.nil_sublist _),?_⟩))))
 all_goals exact⟨rfl,rfl⟩
theorem U0:∀(m:Nat) (l:Int) (h:Tm),BD Tryz.prog 149 [.ptr m 0,.agg ((A3 h).map .p)] [.box m [.p (.lst []),.p (I l)]] (GB (.tup [.agg [.p (I 0),.p (I 0),.p (I 0),.p (I 0),.p (I 0),.p (I 0),.p (.str ⟨#[]⟩),.p (.lst []),.p (.lst [])],.p (.bool false)]) [.box m [.p (.lst []),.p (I l)]]):=by
 intro m l h;obtain⟨hk,hi,hn,hl,hs⟩:=h;refine An Tryz.func149 O aO (n:=29) O O (Al (A2 O (A9 O) fun b3=>A2 O (As P8 O) fun b4=>Ad Aj 1 [] O (Af (Bq (fun k=>Nat.beq k 10) Er (BC Aj 6 [2,1] O (A5 O (fun _=>Av O O (U2 hn) O) Ac (BC Aj 3 [] O (Kr [] O O (As P8 O) AW fun b6=>⟨AB,Ac,?_⟩))))))));refine Bo Aj 2 [0,0] O (Af (Bq (fun k=>false) Er (Bo Aj 13 [0,1,0] O (Ai (⟨O,_,_,⟨_,_,O,(BA (i:=1) WT O O O),⟨_,_,O,O,O⟩⟩,(CX (is:=[3]) O),?_⟩)))))
 all_goals exact⟨rfl,rfl⟩
theorem W5:∀(m:Nat) (l:Int) (h:Tm) (a:List Tm),BD Tryz.prog 115 [.ptr m 0,.agg ((A3 h).map .p),.p (.lst (Ax a))] [.box m [.p (.lst []),.p (I l)]] (GB (.tup [.agg ((A3 BF).map .p),.p (.bool false)]) [.box m [.p (.lst []),.p (I l)]]):=by
 intro m l h a;refine An Tryz.func115 O Z5 (n:=122) O O (Al (A2 O (A9 O) fun b4=>A2 O (As Bf O) fun b6=>Ad Aj 1 [] O (Al (Am Aj 2 [1] O (Ah O (CD [2] O (.inl ⟨O,O,O⟩) (U0 m l h) ⟨_,_,O,O,O⟩ AZ O (.inl O)) (Am Aj 3 [] O (A2 O (As P8 O) fun b8=>Ad Aj 2 [0,0] O (Af (Ae Aj 2 [] O ?_)))))))));refine Ag O (fun c=>?_) (fun c=>by cases c);refine Ae Aj 3 [1,0] O (BP (Bv (i:=1) O) (Ai (⟨O,_,_,⟨_,_,O,(BA (i:=1) Bd O O O),⟨_,_,O,O,O⟩⟩,(CX (is:=[3]) O),?_⟩)))
 all_goals exact⟨rfl,rfl⟩
set_option maxHeartbeats 2000000 in
theorem UT:∀(m:Nat) (t:Tm) (q:Option Tm),(okB t=true)→(K0 t= .ok q)→BD Tryz.prog 67 [.ptr m 0,.agg ((A3 t).map .p)] [.box m [.p (.lst []),.p (I 20000)]] (GB (.tup [.agg ((A3 (q.getD BF)).map .p),.p (.bool q.isSome)]) [.box m [.p (.lst []),.p (I (if q.isSome=true then 19999 else 20000))]]):=by
 intro m t q h1 h2;have hsp:=V8 h1;have hsl:=hsp.len;have hss:=hsp.sz;have hsa:=hsp.asz;have hkk:=VO h2;refine An Tryz.func67 O cU (n:=90) O O (Al (A2 O (A9 O) fun b3=>A2 O (As Bf O) fun b4=>Ad Aj 1 [] O (Al (Ah O (BQ (i:=1) Bd O O AS) (Ah O (Av O O (OT t hsp.nd AP) O) (Am Aj 3 [] O (A2 O (As Bf O) fun b6=>Ad Aj 2 [0,1] O (Af (Al (Ah O (BH K2 O O) ?_))))))))));generalize hz:(Ay t).1=z;obtain⟨zk,zi,zn,zl,zs⟩:=z;have hzo:okB (.mk zk zi zn zl zs)=true:=hz▸hsp.head;rw[hz] at hkk;simp only[Tm.kind] at hkk;refine Ad Aj 1 [0] O (Au (Ae Aj 2 [] O (Ag O (fun c=>?_) (fun c=>?_))))
 ·(try simp only[sd,se] at c);refine Al (BY O (Ah O (A7 BJ O (A1 _)) (Ad Aj 1 [] O (Ag O (fun c1=>?_) (fun c1=>?_)))))
  ·(try simp only[sd,se] at c1);rcases N8 h2 (by rw[hz];exact c) with ⟨e,_⟩ | ⟨x,xs,d,b,e1,e2,e3,rfl⟩
   ·rw[e] at c1;simp at c1
   rw[hz] at e2;simp only[Tm.kids] at e2;subst e2;have hx0:(Ay t).2[0]?=some x:=by rw[e1];rfl
   have hbo:=Uf hzo (i:=1) (x:=b) rfl;have hxo:=hsp.args x (List.mem_of_getElem? hx0);refine Af (Bq (fun k=>false) Er (BC Aj 3 [0] O (A5 O (fun _=>Aq BJ O O Aa (BI O) (Az _)) Ac (BC Aj 2 [] O (A5 O (fun _=>Aq BJ O O Aa (BI hx0) (Az _)) Ac (A5 O (fun _=>BE Bd O (Az _)) Ac (A5 O (fun _=>BG (rows:=Ax [x]) BJ Bf O O O O (B3 (Bj _)) (C7 _)) Ac ?_)))))));refine HC O O (CD [3] O (.inl ⟨O,O,O⟩) (Wq m 20000 b [x] AZ AZ hbo (fun v hv=>by simp only[List.mem_singleton] at hv;subst hv;exact hxo) (by simp only[List.length_cons,List.length_nil];decide) e3) ⟨_,_,rfl,rfl,rfl⟩ AZ rfl (.inl rfl)) AB trivial ?_;refine A5 O (fun _=>Ch O) Ac (A5 O (fun _=>Pk (lo:=1) BJ O (B3 (Bj _)) ⟨_,O⟩ O (by simp only[A1,List.length_map];omega) (Nat.le_refl _) (Z4 ((Ay t).2) 1)) Ac (A5 O (fun _=>Av O O (J0 ((Cs b [x] 0).1) (((Ay t).2).drop 1) (by simp only[Cu,List.length_drop];omega)) O) Ac (Bo Aj 2 [1,1] O (Ai (⟨O,_,_,⟨_,_,O,(BA (i:=1) Bd O O AS),⟨_,_,O,O,O⟩⟩,(CX (is:=[3]) O),?_⟩)))))
   all_goals exact⟨by show (.tup [.agg ((A3 (apply ((Cs b [x] 0).1) (((Ay t).2).drop 1))).map .p),.p (.bool true)]:AV)=_;rw[e1];rfl,rfl⟩
  (try simp only[sd,se] at c1);rcases N8 h2 (by rw[hz];exact c) with ⟨_,rfl⟩ | ⟨x,xs,d,b,e1,e2,e3,rfl⟩
  rotate_left
  ·rw[e1] at c1;simp at c1;omega
  refine Ak (Ae Aj 3 [1,0] O (BP (Bv (i:=1) O) (Ai (⟨O,_,_,⟨_,_,O,(BA (i:=1) Bd O O O),⟨_,_,O,O,O⟩⟩,(CX (is:=[3]) O),?_⟩))))
  all_goals exact⟨rfl,rfl⟩
 (try simp only[sd,se] at c);refine Ae Aj 2 [] O (Ag O (fun c1=>?_) (fun c1=>?_))
 ·(try simp only[sd,se] at c1);exfalso;omega
 (try simp only[sd,se] at c1);refine Af (Ae Aj 2 [] O (Ag O (fun c2=>?_) (fun c2=>?_)))
 ·(try simp only[sd,se] at c2);exfalso;omega
 (try simp only[sd,se] at c2);refine Ao (Ad Aj 2 [] O (Ag O (fun c3=>?_) (fun c3=>?_)))
 ·(try simp only[sd,se] at c3);exfalso;omega
 (try simp only[sd,se] at c3);refine Ae Aj 2 [] O (Ag O (fun c4=>?_) (fun c4=>?_))
 ·(try simp only[sd,se] at c4);obtain rfl:=MK h2 (by rw[hz];exact .inr c4);refine Al (Am Aj 3 [0] O (Ah O (CD [3] O (.inl ⟨O,O,O⟩) (W5 m 20000 (.mk zk zi zn zl zs:Tm) ((Ay t).2)) ⟨_,_,O,O,O⟩ AZ O (.inl O)) (Ad Aj 4 [1,1] O (Ai (⟨O,_,_,⟨_,_,O,(BA (i:=1) Bd O O AS),⟨_,_,O,O,O⟩⟩,(CX (is:=[3]) O),?_⟩)))))
  all_goals exact⟨rfl,rfl⟩
 (try simp only[sd,se] at c4);obtain rfl:=MK h2 (by rw[hz];left;show zk=0;omega);refine Ak (Ae Aj 3 [1,0] O (BP (Bv (i:=1) O) (Ai (⟨O,_,_,⟨_,_,O,(BA (i:=1) Bd O O O),⟨_,_,O,O,O⟩⟩,(CX (is:=[3]) O),?_⟩))))
 all_goals exact⟨rfl,rfl⟩
end Go.Proofs.YtldfmjoncbjldaaGreat
