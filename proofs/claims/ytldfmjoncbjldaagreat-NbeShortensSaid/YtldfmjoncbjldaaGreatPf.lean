/- Part of the proofs: an abstract program logic, plain models and contracts of functions. -/
import Derived.Test.YtldfmjoncbjldaaGreatPe
import Derived.Test.YtldfmjoncbjldaaGreatPb
import Derived.Test.YtldfmjoncbjldaaGreatPd
import Derived.Test.YtldfmjoncbjldaaGreatPc
set_option linter.unusedVariables false
set_option linter.unusedSimpArgs false
set_option maxRecDepth 100000
namespace Go.Abs
section
variable {P:Program}{dst:Option Tmp}{ty:TypeId}{pos:String}{aft:Array Edge}{g:Option (Nat×Bool)}{ρ:Operand→AV}{H:List Au}{x y z:Operand}{v:AV}
theorem R3 {T e:TypeId}{sz bytes:Nat}{m:Int}{rows:List (List PV)}(hT:C6 P T=some (e,sz,bytes)) (hx:ρ x= .p (.lst rows)) (hy:ρ y= .p (.int .i64 m)) (hz:ρ z= .p (.int .i64 m)) (hm:m=rows.length) :
  CK P ⟨dst,.slice T x none (some y) (some z),ty,pos,aft,g⟩ ρ H (.p (.lstc rows)) H :=
 BS fun F w E hH hE=>by
  obtain⟨hu,j,hj,hs,_⟩:=CJ hT;have h:=hE x AT;have h1:=hE y AT;have h2:=hE z AT;rw[hx] at h;rw[hy] at h1;rw[hz] at h2;subst hm;simp only[BU,BY] at h h1 h2;have hszr:(sizeOf e).run P w= .ok sz w:=by simp[sizeOf,typeInfo,hj,hs]
  rcases h with ⟨rfl,o,c,h⟩ | ⟨b,o,c,sz',h,hF,hb,hc,hr⟩
  ·refine⟨.slice o 0 0,?_,by simp only[BU,BY];exact .inl ⟨trivial,o,rfl⟩⟩;simp[execOp,Instr.sliceAt,Sem.run_bind,run_underlying hu,h,h1,h2,Instr.slice,Instr.sliceBounds,Instr.sliceBound,asIntOf,hszr]
  refine⟨.slice (some ⟨b,o,none⟩) rows.length rows.length,?_,by simp only[BU,BY];exact .inr ⟨b,o,sz',rfl,hF,hb,hr⟩⟩;have h0:(some (⟨b,o,none⟩:Addr)).map (·.add 0)=some ⟨b,o,none⟩:=by simp[Addr.add_mid]
  simp[execOp,Instr.sliceAt,Sem.run_bind,run_underlying hu,h,h1,h2,Instr.slice,Instr.sliceBounds,Instr.sliceBound,asIntOf,hszr,hc,Addr.add_mid]
theorem Qk (rows:List (List PV)):Fz (.p (.lstc rows)) (.p (.lst rows)):=fun F w v h=>by
 simp only[BU,BY] at h ⊢;rcases h with ⟨rfl,o,h⟩ | ⟨b,o,sz,h,hF,hb,hr⟩
 ·exact .inl ⟨O,o,0,h⟩
 exact .inr ⟨b,o,_,sz,h,hF,hb,Nat.le_refl _,hr⟩
theorem JL {T T2 e e2:TypeId}{sz bytes n2 n3:Nat}{rows rows':List (List PV)}{zv:Value}(hT:C6 P T=some (e,sz,bytes)) (hT2:C6 P T2=some (e2,n2,n3)) (hz:zeroOf P e=some zv) (hzs:zv.cells.size=sz) (hb0:(Nat.blt 0 sz&&Nat.blt 0 bytes)=true)
  (hx:ρ x= .p (.lstc rows)) (hr:∀r∈rows,r.length=sz) (hy:norm (ρ y)= .p (.lst rows')) (hsol:∀r∈rows',Cd sz r) (hne:0<rows'.length) (hroom:2*(rows.length+rows'.length)*bytes≤281474976710656) :
  B4 P ⟨dst,.call { callee:= .builtin .append,args:=#[x,y],argTypes:=#[T,T2] },ty,pos,aft,g⟩ ρ H (GK sz (rows++rows') H) :=
 Er fun F w E hH hE=>by
  have hr':∀r∈rows',r.length=sz:=fun r hr=>(hsol r hr).1;simp only[Bool.and_eq_true,Nat.blt_eq] at hb0;obtain⟨hu,inf,hinf,hs,hby⟩:=CJ hT;obtain⟨hu2,_⟩:=CJ hT2;have h1:=hE x AO;have h2:=(hE y AO).norm;rw[hx] at h1;rw[hy] at h2;obtain⟨ns,oy,cy,hEy,hns,hnsl,hnsr⟩:=DL (P:=P) h2 hr';have hEx:∃base,E x= .slice base rows.length rows.length:=by
   have:=h1;simp only[BU,BY] at this;rcases this with ⟨rfl,o,h⟩ | ⟨b,o,sz',h,_⟩
   ·exact⟨o,h⟩
   exact⟨_,h⟩
  obtain⟨base,hEx⟩:=hEx;unfold zeroOf at hz;have hz':∃j,P.info? e=some j∧j.zero=some zv:=by
   cases hq:P.info? e with
   | none=>simp[hq] at hz
   | some j=>exact⟨j,rfl,by simpa [hq] using hz⟩
  obtain⟨j,hj,hz'⟩:=hz';have hzv:∀w,(zeroValue e).run P w= .ok zv w:=fun w=>by simp[zeroValue,typeInfo,hj,hz',Sem.run_bind]
  have hti:∀w,(typeInfo e).run P w= .ok inf w:=fun w=>by simp[typeInfo,hinf]
  have hszr:∀w,(sizeOf e).run P w= .ok sz w:=fun w=>by simp[sizeOf,typeInfo,hinf,hs]
  have hlall:∀r∈rows++rows',r.length=sz:=by
   intro r hq;rcases List.mem_append.1 hq with hq | hq
   ·exact hr r hq
   exact hr' r hq
  have hlen:(rows++rows').length=rows.length+rows'.length:=by simp
  have hlenof:∀w,(Builtin.lenOf (E y)).run P w= .ok rows'.length w:=fun w=>by rw[hEy];rfl
  have hcap':rows.length<rows.length+rows'.length:=by omega
  have hcap:¬(rows.length+rows'.length≤rows.length):=by omega
  generalize hnc:Question.cut (.appendCap (rows.length+rows'.length) rows.length e) (w.tape w.drawn (.appendCap (rows.length+rows'.length) rows.length e))=newCap;have hncge:rows.length+rows'.length≤newCap:=by rw[←hnc];simp only[Question.cut];omega
  have hnext:=HO hcap';have hask:∀(b:Nat) w,(askRoom b).run P w= .ok () w:=by intro b w;unfold askRoom;split<;>rfl
  let w1:World:={ w with drawn:=w.drawn+1 }
  have same:CA F w F w1:=⟨Nat.le_refl _,fun _ _ _=>rfl,fun _ h _=>h⟩;obtain⟨ns',oy',cy',hEy',hns',hnsl',hnsr'⟩:=DL (P:=P) (BU.mono same _ _ h2) hr';obtain⟨os',oz',cz',hEz',hos',hosl',hosr'⟩:=DL (P:=P) (BU.mono same _ _ (Qk rows _ _ _ h1)) hr
  let vs:List Value:=os'++ns'++(Builtin.zeroCells zv.cells (newCap - (rows.length+rows'.length))).toList
  have hrun:(execOp E ⟨dst,.call { callee:= .builtin .append,args:=#[x,y],argTypes:=#[T,T2] },ty,pos,aft,g⟩).run P w= .ok (.value (.slice (some ⟨w.heap.size,0,none⟩) (rows.length+rows'.length) newCap)) (World.push w1 (.cells ⟨vs⟩ e (0,0))):=by
   have hos2:=hos';rw[hEx] at hos2;simp only[execOp,resolve,invoke,builtin,Builtin.append_,hEx,Sem.run_bind,Sem.run_pure,Result.andThen_ok,List.map_toArray,List.map_cons,List.map_nil,List.getElem?_toArray,List.getElem?_cons_zero,List.getElem?_cons_succ,run_underlying hu,run_underlying hu2,hszr,pure_bind,
    Bool.false_eq_true,if_false,hlenof,Bool.not_false,if_true]
   rw[if_neg hcap];simp only[Sem.run_bind,hti,Result.andThen_ok,hby];rw[if_neg AY];simp only[Sem.run_bind,Sem.run_pure,Result.andThen_ok,hti,hby,pure_bind];rw[if_neg (by
    have:Builtin.nextslicecap (rows.length+rows'.length) rows.length*bytes≤2*(rows.length+rows'.length)*bytes:=Nat.mul_le_mul_right bytes hnext;simp;omega)]
   have hch:(choose (.appendCap (rows.length+rows'.length) rows.length e)).run P w= .ok newCap w1:=by
    simp only[choose,Sem.run,Question.forced,Bool.false_eq_true,if_false,hnc];rfl
   simp only[Sem.run_bind,Sem.run_pure,Result.andThen_ok,pure_bind,hch,hti,hask,hos2,hns',hzv,newRow,newObj,Sem.run,Result.andThen];have evs:(⟨os'⟩++⟨ns'⟩++Builtin.zeroCells zv.cells (newCap - (rows.length+rows'.length)):Array Value)=⟨vs⟩:=by
    apply Array.ext';simp[vs]
   rw[evs];rfl
  have hvl:vs.length=newCap*sz:=by
   simp only[vs,List.length_append,hosl',hnsl',Array.length_toList,FA,hzs];rw[←Nat.add_mul,←Nat.add_mul];congr 1;omega
  have hlen2:(rows++rows').flatten.length=(rows.length+rows'.length)*sz:=by rw[Ss hlall,hlen]
  have hpre:BG F w1 ((rows++rows').flatten.map .p) (vs.take ((rows++rows').flatten.length)):=by
   have e1:vs.take ((rows++rows').flatten.length)=os'++ns':=by
    rw[hlen2];have:(os'++ns').length=(rows.length+rows'.length)*sz:=by rw[List.length_append,hosl',hnsl',Nat.add_mul]
    rw[←this];exact List.take_left
   rw[e1,List.flatten_append,List.map_append];exact hosr'.append hnsr'
  have hH1:HRel F H w1:=hH.stable' same (fun _ h=>h) (fun _ _ _ _=>rfl) hH.bd;have t1:Trans F H w F H w1:=⟨Nat.le_refl _,fun _ _ _=>rfl,fun _ h _=>h,fun _ h=> .inl h,fun o ho b hb=> .inl ⟨o,ho,hb⟩,rfl,rfl,rfl⟩;obtain⟨v',H',F',hnv,ht,hHr,hrep⟩:=IH (T:=e) (c:=newCap) (vs:=vs) (H:=H) hH1 hlall hpre (by rw[hvl];exact Nat.le_refl _) (by rw[hlen];exact hncge);exact⟨_,_,v',H',F',hrun,hnv,t1.trans hH.bd ht,hHr,by rw[←hlen];exact hrep⟩
def PT:AV→Option Bool
 | .p (.addr _)=>some false
 | .p (.optp o)=>some o.isNone
 | .ptr _ _=>some false
 | .nilp=>some true
 | .ref _=>some false
 | _=>none
theorem No {F:Nat→Prop}{w:World}{a:AV}{u:Value}{c:Bool}(h:PT a=some c) (hr:BU F w a u):∃q,u= .pointer q∧q.isNone=c:=by
 unfold PT at h;split at h
 ·injection h with h;subst h;simp only[BU,BY] at hr;exact⟨_,hr,rfl⟩
 ·rename_i o;injection h with h;subst h;simp only[BU,BY] at hr;exact⟨_,hr,by cases o<;>rfl⟩
 ·injection h with h;subst h;simp only[BU] at hr;exact⟨_,hr,rfl⟩
 ·injection h with h;subst h;simp only[BU] at hr;exact⟨_,hr,rfl⟩
 ·injection h with h;subst h;simp only[BU] at hr;obtain⟨b,o,hr,_⟩:=hr;exact⟨_,hr,rfl⟩
 cases h
theorem Ol {T e:TypeId}{q:Option Addr}{w:World}(hu:P.underlying T=some (.pointer e)):(Op.equal T (.pointer q) (.pointer none)).run P w= .ok q.isNone w:=by
 unfold Op.equal;rw[show Op.maxDepth=9999+1 from rfl];unfold Op.equalIn;simp only[Sem.run_bind,run_underlying hu,Result.andThen_ok];cases q<;>rfl
theorem Rc {T U e:TypeId}{c:Bool}(hu:P.underlying T=some (.pointer e)) (hx:PT (ρ x)=some c) (hy:ρ (.const (.pointer none))= .nilp):CK P ⟨dst,.binOp .neq T x (.const (.pointer none)) U,ty,pos,aft,g⟩ ρ H (.p (.bool (!c))) H :=
 BS fun F w E hH hE=>by
  have e2:=hE (.const (.pointer none)) AT;rw[hy] at e2;simp only[BU,BY] at e2;obtain⟨q,hq,hc⟩:=No hx (hE x AT);have hg:(eqGuard .neq T x (.const (.pointer none)) (.pointer q) (.pointer none)).run P w= .ok () w:=by
   unfold eqGuard;simp<;>rfl
  refine⟨.bool (!c),?_,by simp[BU,BY]⟩;simp[execOp,Sem.run_bind,hg,hq,e2,binOp,Ol hu,hc]
theorem OV {T U:TypeId}{ms:Array (String×TypeId)}{X:PV}{b:Bool}(hu:P.underlying T=some (.interface ms)) (hx:ρ x= .p X) (hy:ρ (.const .nilIface)= .p .nilIface) (hX:(match X with | .nilIface=>some true | .iface _ _=>some false | _=>none)=some b):CK P ⟨dst,.binOp .eql T x (.const .nilIface) U,ty,pos,aft,g⟩ ρ H (.p (.bool b)) H :=
 BS fun F w E hH hE=>by
  have e2:=hE (.const .nilIface) AT;rw[hy] at e2;simp only[BU,BY] at e2;have e1:=hE x AT;rw[hx] at e1;have hg:∀a,(eqGuard .eql T x (.const .nilIface) a .nilIface).run P w= .ok () w:=by
   intro a;unfold eqGuard;cases a<;>simp<;>rfl
  refine⟨.bool b,?_,by simp[BU,BY]⟩;cases X with
  | nilIface =>
   simp at hX;subst hX;simp only[BU,BY] at e1;have hq:(Op.equal T .nilIface .nilIface).run P w= .ok true w:=Gd hu rfl;simp[execOp,Sem.run_bind,hg,e1,e2,binOp,hq]
  | iface t c =>
   simp at hX;subst hX;simp only[BU,BY] at e1;obtain⟨u,e1,_⟩:=e1;have hq:(Op.equal T (.iface t u) .nilIface).run P w= .ok false w:=Gd hu rfl;simp[execOp,Sem.run_bind,hg,e1,e2,binOp,hq]
  | _=>simp at hX
theorem Nb {T A B e:TypeId}{c:PV}(hu:P.underlying B=some (.pointer e)) (hz:zeroOf P B=some (.pointer none)) (hx:ρ x= .p (.iface A c)) (hne:Nat.beq A B=false):CK P ⟨dst,.typeAssert x T B true,ty,pos,aft,g⟩ ρ H (.tup [.nilp,.p (.bool false)]) H :=
 BS fun F w E hH hE=>by
  have h1:=hE x AT;rw[hx] at h1;simp only[BU,BY] at h1;obtain⟨u,hv,hc⟩:=h1;have hne':¬A=B:=fun e=>by subst e;rw[Nat.beq_refl] at hne;cases hne
  have hzv:(zeroValue B).run P w= .ok (.pointer none) w:=by
   unfold zeroOf at hz;cases hq:P.info? B with
   | none=>simp[hq] at hz
   | some j=>simp[hq] at hz;simp[zeroValue,typeInfo,hq,hz,Sem.run_bind]
  refine⟨.tuple #[.pointer none,.bool false],?_,?_⟩
  ·simp[execOp,Instr.typeAssert,Sem.run_bind,run_underlying hu,hv,hne',hzv]
  simp only[BU];exact⟨[.pointer none,.bool false],O,by simp only[BG,BU,BY];exact⟨_,_,rfl,rfl,_,_,rfl,rfl,rfl⟩⟩
end
section
variable {P:Program}{dst:Option Tmp}{ty:TypeId}{pos:String}{aft:Array Edge}{g:Option (Nat×Bool)}{ρ:Operand→AV}{H:List Au}{x:Operand}
theorem Mg {T:TypeId}{name:String}{f:FuncId}(h:RO P T name=some f) (n:Nat) (u:Value) (w:World):(nilAhead (n+1) T u name).run P w= .ok (some false) w:=by
 unfold RO at h;split at h
 ·rename_i i e hi hu;split at h
  ·rename_i m hm;split at h
   ·rename_i f' hp hf;simp[nilAhead,typeInfo,hi,hm,hp,hf,followBlind,Sem.run_bind]
   cases h
  cases h
 cases h
theorem K4 {T:TypeId}{nm:String}{p:PV}(hm:(RO P T nm).isSome=true) (hx:ρ x= .fn (.method nm) [.p (.iface T p)] []):CK P ⟨dst,.nilCheck x,ty,pos,aft,g⟩ ρ H (.p .any) H :=
 BS fun F w E hH hE=>by
  obtain⟨fid,hm⟩:=Option.isSome_iff_exists.1 hm;have h1:=hE x AT;rw[hx] at h1;simp only[BU,BG,BY] at h1;obtain⟨fs,cs,hv,⟨u,us,rfl,⟨u',rfl,hu⟩,rfl⟩,rfl⟩:=h1;have hn:∃n,P.types.size+Made.depth=n+1:=⟨P.types.size+Made.depth - 1,by have:0<Made.depth:=Ac;omega⟩;obtain⟨n,hn⟩:=hn;refine⟨.func (.method nm) #[.iface T u'] #[],?_,Fe _⟩;simp[execOp,hv,Sem.run_bind,hn,Mg hm]
end
end Go.Abs
namespace Go.Eu
open Go.Abs
def aT {α:Type}(p:α→Bool):List α→Int→Int
 | [],_=> -1
 | x::l,i=>if p x=true then i else aT p l (i+1)
section
variable {l:List Br}{i j:Nat}{x u:Br}
end
def eY (m:List (Int×Int)):List (Int×AV):=m.map fun p=>(p.1,.p (I p.2))
theorem Qn (M:List (Int×Int)):(Lt M).length=M.length:=by simp[Lt,Q1]
def dw (M:List (Int×Int)) (k:Int):Br:=⟨k,(mg k M).getD 0⟩
theorem NA.len {m:List (Int×Int)}(h:NA m) (hr:∀k∈m.map Prod.fst,-65536≤k∧k<8):m.length≤65544:=by
 have ha:=RB h;have:=MR (lo:= -65536) ha (fun v hv=>by
  simp only[Lt,List.mem_map] at hv;obtain⟨k,hk,rfl⟩:=hv;exact hr k ((KQ _).mem_iff.1 hk)) Ad
 rw[Qn] at this;omega
structure Xo (S:List (Int×Int)×Int):Prop where
 m:NA S.1
 r:∀k∈S.1.map Prod.fst,-65536≤k∧k<8
theorem Xo.len {S:List (Int×Int)×Int}(h:Xo S):S.1.length≤65544:=h.m.len h.r
theorem Kj {m:List (Int×Int)}{i p:Int}{Q:Int→Prop}(h:∀k∈m.map Prod.fst,Q k) (hi:Q i):∀k∈(GA m i p).map Prod.fst,Q k:=by
 have hs:∀k∈(ms i p m).map Prod.fst,Q k:=by
  rw[Ml];split
  ·exact h
  intro k hk;rcases List.mem_append.1 hk with hk | hk
  ·exact h k hk
  rw[List.mem_singleton.1 hk];exact hi
 unfold GA;split
 ·split
  ·exact hs
  exact h
 exact hs
theorem Lz {n:Int}{Q:Int→Prop}:∀(vs:List Br) (m:List (Int×Int)),(∀k∈m.map Prod.fst,Q k)→(∀v∈vs,Q v.index)→∀k∈(vs.foldl (GC n) m).map Prod.fst,Q k
 | [],m,h,_=>h
 | v::vs,m,h,hv=>Lz vs (GC n m v) (Kj h (hv v Ae)) fun w hw=>hv w (by simp[hw])
theorem Xo.step {ps:List CE}{S:List (Int×Int)×Int}{x:Br}(hps:∀l∈ps,Cc l=true) (h:Xo S) (hx:(0≤x.plus∧x.plus≤100)∧ -65536≤x.index∧x.index<8) (hi:x.index<ps.length):Xo (KJ ps S x):=by
 refine⟨(Rs hps h.m hx.1.1 hi).1,?_⟩;unfold KJ;split
 ·exact Kj h.r hx.2
 rename_i q;refine Lz _ _ h.r fun v hv=>?_;have hlt:x.index.toNat<ps.length:=by omega
 rw[List.getD_eq_getElem?_getD,List.getElem?_eq_getElem hlt] at hv;exact((LF.of (hps _ (List.getElem_mem hlt))).rg v hv).2
theorem Xo.zero (c:Int):Xo ([],c):=⟨NA.nil,by simp⟩
def Vy (ps:List CE):List CE→Except Int (List CE)
 | []=> .ok []
 | l::ls=>if (IV l ps).2≠0 then .error (IV l ps).2 else match Vy ps ls with
  | .ok zs=> .ok ((IV l ps).1::zs)
  | .error e=> .error e
def dW (ys:List CE):Except Int (List CE)→Except Int (List CE)
 | .ok zs=> .ok (ys++zs)
 | .error e=> .error e
def du (ps:List CE) (_:Unit) (t:Tm) (_:Int):Except Int ((Tm×Bool)×Unit):=match Vy ps t.levels with
 | .ok ls=> .ok ((.mk t.kind t.index t.name ls [],false),())
 | .error e=> .error e
section
variable {ps:List CE}
end
def Jn {α:Type}(a b:Out α):Prop:=a= .stuck∨a=b
section
variable {α β:Type}
theorem Jn.refl (a:Out α):Jn a a:= .inr rfl
theorem Jn.bind {a b:Out α}{k k':α→Out β}(h:Jn a b) (hk:∀x,Jn (k x) (k' x)):Jn (a.bind k) (b.bind k'):=by
 rcases h with rfl | rfl
 ·exact .inl O
 cases a with
 | stuck=>exact .inl rfl
 | fail=>exact .inr rfl
 | ok x=>exact hk x
theorem Jn.ite {c:Prop} [Decidable c] {a a' b b':Out α}(h1:Jn a a') (h2:Jn b b'):Jn (if c then a else b) (if c then a' else b'):=by
 split
 ·exact h1
 exact h2
theorem Jn.chk {σ:Type}{a b:Out (Tm×σ)}{k k':Tm×σ→Out β}(h:Jn a b) (hk:∀x,Jn (k x) (k' x)):Jn (a.chk k) (b.chk k'):=Jn.bind h fun x=>Jn.ite (hk x) (Jn.refl _)
variable {σ:Type}{E:List Cg}{S:Sys σ}
theorem Jn.put {s:σ}{x:Tm×Int}{k k':Tm→σ→Out β}(hk:∀t s',Jn (k t s') (k' t s')):Jn (S.put s x k) (S.put s x k'):=by
 unfold Sys.put;refine Jn.ite ?_ (Jn.refl _);cases S.res s x.1 x.2 with
 | none=>exact Jn.refl _
 | some s'=>exact hk _ _
variable {W W':σ→Tm→Out (Tm×σ)}(hW:∀s t,Jn (W s t) (W' s t))
include hW
end
section
variable {σ:Type}{E:List Cg}{S:Sys σ}
end
theorem Nk:∀(t:Tm),(NW t).1.length<size t
 | .mk k i n l [a,b]=>by
  unfold NW;split
  ·have:=Nk b;have:=size_pos a;simp only[List.length_cons,size,A4];omega
  ·simp[size,A4];omega
 | .mk k i n l []=>by simp[NW,size,A4]
 | .mk k i n l [_]=>by simp[NW,size,A4];omega
 | .mk k i n l (_::_::_::_)=>by simp[NW,size,A4];omega
mutual
def Kz:FX→Prop
 | .mk k b v l=>okB b=true∧MZ l
def Vw:HY→Prop
 | .mk c a t=>Kz t
def MZ:List HY→Prop
 | []=>True
 | b::l=>Vw b∧MZ l
end
structure DG (d:Cg):Prop where
 din:bX d
 fx:0≤d.fixed∧d.fixed≤1000000
 vl:okB d.value=true
 ru:∀t∈d.recs.rules,okB t=true
 fu:∀f∈d.funs,1≤f.arity∧f.arity≤16∧Kz f.tree
structure Xl (E:List Cg):Prop where
 env:QR E
 all:∀d∈E,DG d
theorem FI.body:∀{t:FX},FI t→Vg t.body
 | .mk _ _ _ _,h=>h.1
theorem FI.bl:∀{t:FX},FI t→t.branches.length<2000000
 | .mk _ _ _ _,h=>h.2.1
theorem FI.bs:∀{t:FX},FI t→Kq t.branches
 | .mk _ _ _ _,h=>h.2.2
theorem QV.tr:∀{b:HY},QV b→FI b.tree
 | .mk _ _ _,h=>h.2
section
variable {f:Nat→Option (Nat×Nat)}{k a i p:Int}{t:Tm}
end
def dS (TA:HW→List Au) (T0:List Au) (nm:ByteArray) (l:List (ByteArray×HW)):List Au:=match Ks nm l with
 | some e=>TA e
 | none=>T0
section
variable {TA:HW→List Au}{T0:List Au}{nm:ByteArray}{d:Cg}{i:Int}{j:Nat}
end
def eI (ds:List Cg):Prop:=∀d∈ds,d.kind=0∨bX d
theorem Kf {nm:ByteArray}:∀{l:List (ByteArray×HW)}{e:HW},Ks nm l=some e→∃s,(s,e)∈l
 | (s,x)::l,e,h=>by
  simp only[Ks] at h;split at h
  ·cases h;exact⟨s,by simp⟩
  obtain⟨s',h'⟩:=Kf h;exact⟨s',List.mem_cons_of_mem _ h'⟩
theorem OC {i p:Int}{s:ByteArray}{e:HW}:∀{cs:List RJ}{k:Int},(s,e)∈Po i p cs k→∃(j:Nat) (c:RJ),cs[j]?=some c∧e=⟨4,i,k+j,p,c.type⟩
 | c::cs,k,h=>by
  simp only[Po,List.mem_cons] at h;rcases h with h | h
  ·cases h;exact⟨0,c,rfl,by simp⟩
  obtain⟨j,c',h1,h2⟩:=OC h;exact⟨j+1,c',by simpa using h1,by rw[h2];congr 1;omega⟩
theorem P7 {i p:Int}{s:ByteArray}{e:HW}:∀{cs:List OW}{k:Int},(s,e)∈Ux i p cs k→∃(j:Nat) (c:OW),cs[j]?=some c∧e=⟨6,i,k+j,p,c.type⟩
 | c::cs,k,h=>by
  simp only[Ux,List.mem_cons] at h;rcases h with h | h
  ·cases h;exact⟨0,c,rfl,by simp⟩
  obtain⟨j,c',h1,h2⟩:=P7 h;exact⟨j+1,c',by simpa using h1,by rw[h2];congr 1;omega⟩
structure SJ (d:Cg) (i:Int) (e:HW):Prop where
 decl:e.decl=i
 kind:0≤e.kind∧e.kind≤6
 ctor:e.kind=4→∃(j:Nat) (c:RJ),d.ctors[j]?=some c∧e.item=j
 func:e.kind=6→∃(j:Nat) (c:OW),d.funs[j]?=some c∧e.item=j
theorem Xe {d:Cg}{i:Int}{s:ByteArray}{e:HW}(h:(s,e)∈WU d i):SJ d i e:=by
 unfold WU at h;split at h
 ·rename_i hk;simp only[List.mem_singleton,Prod.mk.injEq] at h;obtain⟨_,rfl⟩:=h;exact⟨O,by simp only;omega,fun q=>by simp only at q;omega,fun q=>by simp only at q;omega⟩
 split at h
 ·simp only[List.mem_cons,List.mem_append,List.mem_singleton,Prod.mk.injEq,List.not_mem_nil,or_false] at h;rcases h with ⟨_,rfl⟩ | h | ⟨_,rfl⟩
  ·exact⟨O,by simp,fun q=>by simp at q,fun q=>by simp at q⟩
  ·obtain⟨j,c,h1,rfl⟩:=OC h;exact⟨O,by simp,fun _=>⟨j,c,h1,by simp⟩,fun q=>by simp at q⟩
  exact⟨O,by simp,fun q=>by simp at q,fun q=>by simp at q⟩
 split at h
 ·obtain⟨j,c,h1,rfl⟩:=P7 h;exact⟨O,by simp,fun q=>by simp at q,fun _=>⟨j,c,h1,by simp⟩⟩
 cases h
theorem NK {nm:ByteArray}:∀{ds:List Cg}{k:Int}{e:HW},findF nm ds k=some e→∃(i:Nat) (d:Cg),ds[i]?=some d∧SJ d (k+i) e
 | d::ds,k,e,h=>by
  simp only[findF] at h;split at h
  ·rename_i x hx;cases h;obtain⟨s,hs⟩:=Kf hx;exact⟨0,d,O,by simpa using Xe hs⟩
  obtain⟨i,d',h1,h2⟩:=NK h;refine⟨i+1,d',by simpa using h1,?_⟩;rw[show k+((i+1:Nat):Int)=k+1+i by omega];exact h2
theorem TB {ds:List Cg}{nm:ByteArray}(h:(DJ ds nm).2=0):∃(i:Nat) (d:Cg),ds[i]?=some d∧SJ d i (DJ ds nm).1:=by
 unfold DJ at h ⊢;cases e:findF nm ds 0 with
 | none=>rw[e] at h;simp at h
 | some x =>
  obtain⟨i,d,h1,h2⟩:=NK e;exact⟨i,d,h1,by simpa using h2⟩
def WB:Cg:=⟨0,⟨#[]⟩,0,BN,BN,0,[],⟨0,BN,[]⟩,[]⟩
def eP (E:List Cg) (nm:ByteArray):Cg×Int×Bool:=match Hp E nm with
 | some (d,j)=>(d,j,true)
 | none=>(WB,0,false)
section
variable {E:List Cg}{nm:ByteArray}{x:Cg}
end
def eE (E:List Cg) (h:Tm):Bool:=decide ((DJ E h.name).2=0)&&decide ((h.levels.length:Int)=(DJ E h.name).1.params)
def Out.ex {α:Type}:Out α→Except Int α
 | .ok a=> .ok a
 | .stuck=> .error 0
 | .fail=> .error 0
section
variable {α β σ:Type}
end
section
variable {E:List Cg}{σ:Type}{S:Sys σ}{W:σ→Tm→Out (Tm×σ)}{n:Nat}{t:FX}{v:List Tm}{l:Tm}{s:σ}{x:Tm}
def dZ (E:List Cg) (S:Sys σ) (W:σ→Tm→Out (Tm×σ)) (n:Nat) (t:FX) (v:List Tm) (r:Tm×σ):Out ((Option (Tm×List Tm)×Tm)×σ):=match F8 E r.1 with
 | none=> .ok ((none,r.1),r.2)
 | some (d,j,fields)=>match DO (Im d j).name t.branches with
  | none=> .ok ((none,r.1),r.2)
  | some t'=>OT E S W n t' (v++fields) r.1 r.2
end
section
variable {E:List Cg}{σ:Type}{S:Sys σ}{W:σ→Tm→Out (Tm×σ)}{n:Nat}{h m:Tm}{a:List Tm}{s:σ}{d:Cg}{x:HW}
def dC (S:Sys σ) (f:OW) (h:Tm) (a:List Tm) (q:(Option (Tm×List Tm)×Tm)×σ):Out (Option Tm×σ):=match q.1.1 with
 | none=> .ok (none,q.2)
 | some (b,vars)=>if S.over q.2=true then .ok (none,q.2) else Sj S h b vars (a.drop f.arity.toNat) q.2
section
variable (hu:eE E h=true) (hd:E[(DJ E h.name).1.decl.toNat]?=some d)
include hu hd
omit hd
end
end
section
variable {E:List Cg}{σ:Type}{S:Sys σ}{n:Nat}{t:Tm}{s:σ}{X:Out (Tm×σ)}
section
variable (ho:okB t=true) (h:S.over s=false) (hm:S.many (A3 t).2.length=false)
include ho h hm
def dc (E:List Cg) (S:Sys σ) (n:Nat) (h:Tm) (a:List Tm) (r:Tm×σ):Out (Tm×σ) :=
 if r.1.kind≠8 then .ok (apply (Sy h.kind r.1) a,r.2) else Tc S h r.1 a r.2 fun x s'=>SK E S n s' x
def dR (E:List Cg) (S:Sys σ) (n:Nat) (t:Tm) (r:Option Tm×σ):Out (Tm×σ):=match r.1 with
 | none=> .ok (t,r.2)
 | some x=>SK E S n r.2 x
end
end
inductive NV where
 | fn (a:Nat)
 | pr (a:Nat)
 | st (a:Nat)
 deriving DecidableEq,Inhabited
structure NB where
 t:Tm
 vars:Option Nat
 deriving Inhabited
structure NH where
 kind:Int
 level:Int
 node:Tm
 kids:List Nat
 body:Option NB
 deriving Inhabited
inductive NO where
 | thunk (t:Tm) (vars:Option Nat) (known:Option NV)
 | scope (first:Nat) (rest:Option Nat)
 | func (domain:Nat) (body:NB)
 | pair (domain first second:Nat)
 | stuck (h:NH) (args:List Nat)
 deriving Inhabited
structure NS where
 objs:List NO
 left:Int
 nodes:Int
def NS.get (s:NS) (a:Nat):Option NO:=if a<s.objs.length then s.objs[s.objs.length - 1 - a]? else none
def NS.set (s:NS) (a:Nat) (o:NO):NS:={ s with objs:=s.objs.set (s.objs.length - 1 - a) o }
def NS.new (s:NS) (o:NO):NS:={ s with objs:=o::s.objs }
def NS.next (s:NS):Nat:=s.objs.length
def NS.count (s:NS) {α:Type}(k:NS→Out α):Out α:=if s.left - 1<0 then .fail else k { s with left:=s.left - 1 }
def NS.node (s:NS) (d:Int) {α:Type}(k:NS→Out α):Out α:=if s.nodes+1 > 8192∨d > 400 then .fail else k { s with nodes:=s.nodes+1 }
def NS.thunk (s:NS) (t:Tm) (vars:Option Nat):NS:=s.new (.thunk t vars none)
def NH.plain (k:Int) (node:Tm):NH:=⟨k,0,node,[],none⟩
def NS.var (s:NS) (level:Int):NS:=s.new (.stuck ⟨0,level,BN,[],none⟩ [])
section
variable (E:List Cg)
def Xh (nm:ByteArray) (ls:List CE):Option Tm :=
 if (DJ E nm).2≠0∨(DJ E nm).1.kind≠1∨(ls.length:Int)≠(DJ E nm).1.params then none
 else if (DM (CH E (DJ E nm).1.decl).value ls).2≠0 then none else some (DM (CH E (DJ E nm).1.decl).value ls).1
def V9 (s:NS):NV→Option (Cg×Int×List Nat)
 | .st a=>match s.get a with
  | some (.stuck h args) =>
   if h.kind≠3 then none
   else match Hp E h.node.name with
    | none=>none
    | some (d,j)=>if j<0 then none else if (args.length:Int)≠d.fixed+Jm d j then none else some (d,j,args.drop d.fixed.toNat)
  | _=>none
 | _=>none
inductive Rq where
 | eval (t:Tm) (vars:Option Nat)
 | force (a:Nat)
 | apply (v:NV) (a:Nat)
 | body (b:NB) (a:Nat)
def V7 (W:Rq→NS→Out (NV×NS)) (s:NS):Nat→Int→Option Nat→Out (NV×NS)
 | _,i,none=> .ok (.st s.next,s.var (-1 - i))
 | 0,_,_=> .stuck
 | n+1,i,some b=>match s.get b with
  | some (.scope x r)=>if i=0 then W (.force x) s else V7 W s n (i - 1) r
  | _=> .stuck
def Y5 (W:Rq→NS→Out (NV×NS)) (k:Int) (v:NV) (s:NS):Out (NV×NS):=match v with
 | .pr a=>s.count fun s=>match s.get a with
  | some (.pair d x y)=>W (.force (if k=9 then x else y)) s
  | _=> .stuck
 | v=> .ok (.st (s.next+1),(s.new (.thunk BN none (some v))).new (.stuck ⟨k,0,BN,[s.next],none⟩ []))
def V1 (W:Rq→NS→Out (NV×NS)):List Nat→NV→NS→Out (NV×NS)
 | [],v,s=> .ok (v,s)
 | x::xs,v,s=>(W (.apply v x) s).bind fun r=>V1 W xs r.1 r.2
def bW (W:Rq→NS→Out (NV×NS)) (d:Cg) (ls:List CE) (args:List Nat) (s:NS):Out (Option NV×NS) :=
 if (args.length:Int)≠Fu d+1 then .ok (none,s)
 else match args[(Fu d).toNat]? with
  | none=> .stuck
  | some x=>(W (.force x) s).bind fun r=>match V9 E r.2 r.1 with
   | none=> .ok (none,r.2)
   | some (e,j,fields) =>
    if e.name≠d.name∨j≥(d.recs.rules.length:Int) then .ok (none,r.2)
    else if (DM (M8 d j) ls).2≠0 then .ok (none,r.2)
    else r.2.count fun s=>(W (.eval (DM (M8 d j) ls).1 none) s).bind fun q =>
     (V1 W (args.take (d.fixed+1+d.ctors.length).toNat++fields) q.1 q.2).bind fun q=> .ok (some q.1,q.2)
def Vj (W:Rq→NS→Out (NV×NS)):Nat→FX→List Nat→NS→Out (Option (Tm×List Nat)×NS)
 | 0,_,_,_=> .stuck
 | n+1,t,vars,s =>
  if t.kind=1 then
   if t.var<0∨t.var≥(vars.length:Int) then .ok (none,s)
   else (W (.force (vars.getD t.var.toNat 0)) s).bind fun r=>match V9 E r.2 r.1 with
    | none=> .ok (none,r.2)
    | some (d,j,fields)=>match DO (Im d j).name t.branches with
     | none=> .ok (none,r.2)
     | some t'=>Vj W n t' (vars++fields) r.2
  else .ok (some (t.body,vars),s)
def PK:List Nat→Option Nat→NS→Option Nat×NS
 | [],r,s=>(r,s)
 | x::xs,r,s=>PK xs (some s.next) (s.new (.scope x r))
def a9 (W:Rq→NS→Out (NV×NS)) (n:Nat) (f:OW) (ls:List CE) (args:List Nat) (s:NS):Out (Option NV×NS) :=
 if (args.length:Int)≠f.arity then .ok (none,s)
 else (Vj E W n f.tree args s).bind fun r=>match r.1 with
  | none=> .ok (none,r.2)
  | some (b,vars) =>
   if (DM b ls).2≠0 then .ok (none,r.2)
   else r.2.count fun s=>(W (.eval (DM b ls).1 (PK vars none s).1) (PK vars none s).2).bind fun q=> .ok (some q.1,q.2)
def aR (W:Rq→NS→Out (NV×NS)) (n:Nat) (v:NV) (x:Nat) (s:NS):Out (NV×NS):=match v with
 | .fn a=>s.count fun s=>match s.get a with
  | some (.func d b)=>W (.body b x) s
  | _=> .stuck
 | .pr a=>match s.get a with
  | some (.pair d p q)=> .ok (.st s.next,s.new (.stuck ⟨8,0,BN,[d,p,q],none⟩ [x]))
  | _=> .stuck
 | .st a=>match s.get a with
  | some (.stuck h args) =>
   if args.length≥4096 then .fail
   else
    let s1:=s.new (.stuck h (args++[x]))
    if h.kind≠3 then .ok (.st s.next,s1)
    else match JY E h.node with
     | none=> .ok (.st s.next,s1)
     | some e =>
      (if e.kind=5 then bW E W (CH E e.decl) h.node.levels (args++[x]) s1
       else if e.kind=6 then a9 E W n (G2 (CH E e.decl) e.item) h.node.levels (args++[x]) s1
       else .ok (none,s1)).bind fun r=>match r.1 with
        | some v=> .ok (v,r.2)
        | none=> .ok (.st s.next,r.2)
  | _=> .stuck
def eO (W:Rq→NS→Out (NV×NS)) (n:Nat) (t:Tm) (ρ:Option Nat) (s:NS):Out (NV×NS):=match t.kids with
 | [p]=>if t.kind=9∨t.kind=10 then (W (.eval p ρ) s).bind fun r=>Y5 W t.kind r.1 r.2 else .stuck
 | [a,b] =>
  if t.kind=4 then (W (.eval a ρ) s).bind fun r=>W (.apply r.1 r.2.next) (r.2.thunk b ρ)
  else if t.kind=5 then .ok (.fn (s.next+1),(s.thunk a ρ).new (.func s.next ⟨b,ρ⟩))
  else if t.kind=6∨t.kind=7 then .ok (.st (s.next+1),(s.thunk a ρ).new (.stuck ⟨t.kind,0,BN,[s.next],some ⟨b,ρ⟩⟩ []))
  else .stuck
 | [a,b,c] =>
  if t.kind=11 then s.count fun s=>W (.eval c (some (s.next+1))) ((s.thunk b ρ).new (.scope s.next ρ))
  else if t.kind=8 then .ok (.pr (s.next+3),(((s.thunk a ρ).thunk b ρ).thunk c ρ).new (.pair s.next (s.next+1) (s.next+2)))
  else .stuck
 | [] =>
  if t.kind=0 then V7 W s n t.index ρ
  else if t.kind=3 then match Xh E t.name t.levels with
   | some v=>s.count fun s=>W (.eval v none) s
   | none=> .ok (.st s.next,s.new (.stuck (.plain t.kind t) []))
  else .ok (.st s.next,s.new (.stuck (.plain t.kind t) []))
 | _=> .stuck
def XL:Nat→Rq→NS→Out (NV×NS)
 | 0,_,_=> .stuck
 | n+1,.eval t ρ,s=>eO E (XL n) n t ρ s
 | n+1,.force a,s=>match s.get a with
  | some (.thunk t ρ (some v))=> .ok (v,s)
  | some (.thunk t ρ none)=>(XL n (.eval t ρ) s).bind fun r=> .ok (r.1,r.2.set a (.thunk t none (some r.1)))
  | _=> .stuck
 | n+1,.apply v x,s=>aR E (XL n) n v x s
 | n+1,.body b x,s=>XL n (.eval b.t (some s.next)) (s.new (.scope x b.vars))
def MN (Q:NS→Nat→Int→Out (Tm×NS)) (d:Int):List Nat→NS→Out (List Tm×NS)
 | [],s=> .ok ([],s)
 | x::xs,s=>(Q s x d).bind fun r=>(MN Q d xs r.2).bind fun q=> .ok (r.1::q.1,q.2)
def Xz (Q:NS→Nat→Int→Out (Tm×NS)) (d:Int):List Nat→Tm→NS→Out (Tm×NS)
 | [],t,s=> .ok (t,s)
 | x::xs,t,s=>s.node d fun s=>(Q s x d).bind fun r=>Xz Q d xs (DT t r.1) r.2
mutual
def cC:Nat→NS→NV→Int→Out (Tm×NS)
 | 0,_,_,_=> .stuck
 | n+1,s,.fn a,d=>match s.get a with
  | some (.func x b)=>s.node d fun s=>(Zx n s x d).bind fun r=>(dI n r.2 b d).bind fun q=> .ok (.mk 5 0 ⟨#[]⟩ [] [r.1,q.1],q.2)
  | _=> .stuck
 | n+1,s,.pr a,d=>match s.get a with
  | some (.pair x y z)=>s.node d fun s=>(MN (Zx n) d [x,y,z] s).bind fun r=> .ok (.mk 8 0 ⟨#[]⟩ [] r.1,r.2)
  | _=> .stuck
 | n+1,s,.st a,d=>match s.get a with
  | some (.stuck h args)=>s.node d fun s =>
   (if h.kind=0 then .ok (Bm (d - 1 - h.level),s)
    else if h.kids.length > 0 then (MN (Zx n) d h.kids s).bind fun r=>match h.body with
     | none=> .ok (.mk h.kind 0 ⟨#[]⟩ [] r.1,r.2)
     | some b=>(dI n r.2 b d).bind fun q=> .ok (.mk h.kind 0 ⟨#[]⟩ [] (r.1++[q.1]),q.2)
    else .ok (h.node,s)).bind fun r=>Xz (Zx n) d args r.1 r.2
  | _=> .stuck
def Zx:Nat→NS→Nat→Int→Out (Tm×NS)
 | 0,_,_,_=> .stuck
 | n+1,s,x,d=>(XL E n (.force x) s).bind fun r=>cC n r.2 r.1 d
def dI:Nat→NS→NB→Int→Out (Tm×NS)
 | 0,_,_,_=> .stuck
 | n+1,s,b,d=>(XL E n (.body b (s.next+1)) ((s.var d).new (.thunk BN none (some (.st s.next))))).bind fun r=>cC n r.2 r.1 (d+1)
end
def dQ (n:Nat) (t:Tm):Out (Tm×NS):=(XL E n (.eval t none) ⟨[],20000,0⟩).bind fun r=>cC E n r.2 r.1 0
end
def JN (n:Nat):Option Nat→Bool
 | none=>true
 | some a=>decide (a<n)
def LJ (n:Nat):NV→Bool
 | .fn a | .pr a | .st a=>decide (a<n)
def Zp (n:Nat):Option NV→Bool
 | none=>true
 | some v=>LJ n v
def ZS (n:Nat):Option NB→Bool
 | none=>true
 | some b=>JN n b.vars
def K7 (n:Nat):NO→Bool
 | .thunk _ v k=>JN n v&&Zp n k
 | .scope x r=>decide (x<n)&&JN n r
 | .func d b=>decide (d<n)&&JN n b.vars
 | .pair x y z=>decide (x<n)&&decide (y<n)&&decide (z<n)
 | .stuck h args=>h.kids.all (fun a=>decide (a<n))&&ZS n h.body&&args.all (fun a=>decide (a<n))
def LN (s:NS):Bool:=s.objs.all (K7 s.objs.length)
def gd {α:Type}(b:Bool) (x:Out α):Out α:=if b=true then x else .stuck
def Wi (n:Nat):Rq→Bool
 | .eval _ ρ=>JN n ρ
 | .force a=>decide (a<n)
 | .apply v a=>LJ n v&&decide (a<n)
 | .body b a=>JN n b.vars&&decide (a<n)
def VK {α:Type}(s:NS) (o:NO) (k:NS→Out α):Out α:=gd (LN s&&K7 s.objs.length o) (k (s.new o))
def Wu {α:Type}(s:NS) (k:NS→Out α):Out α:=gd (decide (0<s.left)&&decide (s.left≤20000)) (k { s with left:=s.left - 1 })
def Vm {α:Type}(s:NS) (d:Int) (k:NS→Out α):Out α:=gd (decide (0≤s.nodes)&&decide (s.nodes<8000)&&decide (0≤d)&&decide (d<400)) (k { s with nodes:=s.nodes+1 })
def Gs (W:Rq→NS→Out (NV×NS)) (s:NS):Nat→Int→Option Nat→Out (NV×NS)
 | _,i,none=>gd (decide (-1000000≤i)&&decide (i≤1000000)) (VK s (.stuck ⟨0,-1 - i,BN,[],none⟩ []) fun s1=> .ok (.st s.next,s1))
 | 0,_,_=> .stuck
 | n+1,i,some b=>gd (decide (-1000000≤i)&&decide (i≤1000000)) (match s.get b with
  | some (.scope x r)=>if i=0 then W (.force x) s else Gs W s n (i - 1) r
  | _=> .stuck)
def WM {α:Type}(s:NS) (x:Out (α×NS)):Out (α×NS):=x.bind fun r=>gd (decide (s.objs.length≤r.2.objs.length)) (.ok r)
def Lr (v:NV) (s:NS):Out (NV×NS):=match v with
 | .pr _=> .stuck
 | v=>VK s (.thunk BN none (some v)) fun s1=>VK s1 (.stuck ⟨9,0,BN,[s.next],none⟩ []) fun s2=> .ok (.st s1.next,s2)
def Re (W:Rq→NS→Out (NV×NS)) (n:Nat) (t:Tm) (ρ:Option Nat) (s:NS):Out (NV×NS):=match t.kids with
 | []=>if t.kind=0 then Gs W s n t.index ρ else .stuck
 | [p]=>if t.kind=9 then (W (.eval p ρ) s).bind fun r=>Lr r.1 r.2 else .stuck
 | [a,b] =>
  if t.kind=4 then (W (.eval a ρ) s).bind fun r=>VK r.2 (.thunk b ρ none) fun s1=>W (.apply r.1 r.2.next) s1
  else if t.kind=5 then VK s (.thunk a ρ none) fun s1=>VK s1 (.func s.next ⟨b,ρ⟩) fun s2=> .ok (.fn s1.next,s2)
  else .stuck
 | _=> .stuck
def Th (W:Rq→NS→Out (NV×NS)) (v:NV) (x:Nat) (s:NS):Out (NV×NS):=match v with
 | .fn a=>match s.get a with
  | some (.func d b)=>Wu s fun s=>W (.body b x) s
  | _=> .stuck
 | .st a=>match s.get a with
  | some (.stuck h args)=>gd (decide (args.length<100)&& !decide (h.kind=3)&&h.body.isNone) (VK s (.stuck h (args++[x])) fun s1=> .ok (.st s.next,s1))
  | _=> .stuck
 | .pr _=> .stuck
def F4:Nat→Rq→NS→Out (NV×NS)
 | 0,_,_=> .stuck
 | n+1,r,s=>gd (LN s&&Wi s.objs.length r) ((WM s (match r with
  | .eval t ρ=>Re (F4 n) n t ρ s
  | .force a=>match s.get a with
   | some (.thunk t ρ (some v))=> .ok (v,s)
   | some (.thunk t ρ none)=>(F4 n (.eval t ρ) s).bind fun r=>match r.2.get a with
    | some (.thunk t' ρ' k')=> .ok (r.1,r.2.set a (.thunk t' none (some r.1)))
    | _=> .stuck
   | _=> .stuck
  | .apply v x=>Th (F4 n) v x s
  | .body b x=>VK s (.scope x b.vars) fun s1=>F4 n (.eval b.t (some s.next)) s1)).bind fun r=>gd (LJ r.2.objs.length r.1) (.ok r))
def LH (Q:NS→NV→Int→Out (Tm×NS)) (n:Nat) (s:NS) (x:Nat) (d:Int):Out (Tm×NS):=(F4 n (.force x) s).bind fun r=>Q r.2 r.1 d
def RS (Q:NS→Nat→Int→Out (Tm×NS)) (h:NH) (s:NS) (d:Int):Out (Tm×NS) :=
 if h.kind=0 then gd (decide (-1000000≤h.level)&&decide (h.level≤1000000)) (.ok (Bm (d - 1 - h.level),s))
 else gd (decide (0<h.kids.length)&&h.body.isNone) ((MN Q d h.kids s).bind fun r=> .ok (.mk h.kind 0 ⟨#[]⟩ [] r.1,r.2))
def OA (Q:NS→Nat→Int→Out (Tm×NS)) (d:Int):List Nat→Tm→NS→Out (Tm×NS)
 | [],t,s=> .ok (t,s)
 | x::xs,t,s=>Vm s d fun s=>(Q s x d).bind fun r=>OA Q d xs (DT t r.1) r.2
def Fx:Nat→NS→NV→Int→Out (Tm×NS)
 | 0,_,_,_=> .stuck
 | n+1,s,v,d=>match v with
  | .st a=>match s.get a with
   | some (.stuck h args)=>gd (LN s&&decide (h.kids.length<100)&&h.body.isNone) (WM s (Vm s d fun s=>(RS (LH (Fx n) n) h s d).bind fun r=>match r.2.get a with
    | some (.stuck h2 args2)=>gd (LN r.2&&decide (args2.length<100)) (OA (LH (Fx n) n) d args2 r.1 r.2)
    | _=> .stuck))
   | _=> .stuck
  | _=> .stuck
def S8 (n:Nat) (t:Tm):Out (Tm×NS):=(F4 n (.eval t none) ⟨[],20000,0⟩).bind fun r=>Fx n r.2 r.1 0
def cA:Tm:= .mk 3 0 ⟨#[65]⟩ [] []
def Z0:Tm:= .mk 5 0 ⟨#[]⟩ [] [cA,Bm 0]
def Zr:Tm:=DT (Bm 5) (DT Z0 (Bm 3))
def dY:Tm:= .mk 9 0 ⟨#[]⟩ [] [DT Z0 (Bm 2)]
theorem SI:∃s,S8 20 Zr= .ok (DT (Bm 5) (Bm 3),s):=⟨_,rfl⟩
theorem SV:∃s,S8 20 dY= .ok (.mk 9 0 ⟨#[]⟩ [] [Bm 2],s):=⟨_,rfl⟩
structure XT where
 fn:Nat
 st:Nat
 pr:Nat
 clo:Nat
def JD (mu:List Nat) (a:Nat):Nat:=mu.getD (mu.length - 1 - a) 0
def Gp (mu:List Nat) (a:Nat):PV:= .addr (JD mu a)
def Ka (mu:List Nat) (v:Option Nat):PV:= .optp (v.map (JD mu))
def NV.addr:NV→Nat
 | .fn a | .pr a | .st a=>a
def XT.ty (q:XT):NV→Nat
 | .fn _=>q.fn
 | .pr _=>q.pr
 | .st _=>q.st
def LA (mu:List Nat) (l:List Nat):List (List PV):=l.map fun a=>[Gp mu a]
section
variable (q:XT) (m:Nat) (mu:List Nat)
def Ob (v:NV):PV:= .iface (q.ty v) (Gp mu v.addr)
def Tf:Option NV→PV
 | none=> .nilIface
 | some v=>Ob q mu v
def Xu (b:NB):AV:= .fn (.func q.clo) [] [.ref [.addr m],.ref (BA b.t),.ref [Ka mu b.vars]]
def bA:Option NB→AV
 | none=> .p .nilFn
 | some b=>Xu q m mu b
def Eg (b:Nat):NO→Au
 | .thunk t v k=> .box b ((BA t).map .p++[.p (Ka mu v),.p (Tf q mu k)])
 | .scope x r=> .box b [.p (Gp mu x),.p (Ka mu r)]
 | .func d f=> .box b [.p (Gp mu d),Xu q m mu f]
 | .pair x y z=> .box b [.p (Gp mu x),.p (Gp mu y),.p (Gp mu z)]
 | .stuck h args=> .box b (.p (I h.kind):: .p (I h.level)::((BA h.node).map .p++[.p (.lst (LA mu h.kids)),bA q m mu h.body,.p (.lst (LA mu args))]))
def GG:List Nat→List NO→List Au
 | b::bs,o::os=>Eg q m mu b o::GG bs os
 | _,_=>[]
def HS (s:NS):List Au:= .box m [.p (.lst []),.p (I s.left),.p (I s.nodes)]::GG q m mu mu s.objs
def QW (nv:NV) (s':NS):CG→List Au→Prop
 | .val v,H'=>∃mu',mu'.length=s'.objs.length∧(∃new,mu'=new++mu)∧v= .p (Ob q mu' nv)∧H'=HS q m mu' s'
 | .panic _,_=>False
def ZY (t:Tm) (s':NS):CG→List Au→Prop
 | .val v,H'=>∃mu',mu'.length=s'.objs.length∧(∃new,mu'=new++mu)∧v= .agg ((BA t).map .p)∧H'=HS q m mu' s'
 | .panic _,_=>False
end
theorem HL {mu new:List Nat}{a:Nat}(h:a<mu.length):JD (new++mu) a=JD mu a:=by
 unfold JD;rw[List.length_append];simp only[List.getD_eq_getElem?_getD];rw[List.getElem?_append_right Ad];congr 2;omega
theorem Eo {mu new:List Nat}{a:Nat}(h:a<mu.length):Gp (new++mu) a=Gp mu a:=by rw[Gp,Gp,HL h]
theorem Kd {mu new:List Nat}{v:Option Nat}(h:JN mu.length v=true):Ka (new++mu) v=Ka mu v:=by
 cases v with
 | none=>rfl
 | some a=>simp only[Ka,Option.map_some,HL (by simpa [JN] using h)]
theorem Xn {q:XT}{mu new:List Nat}{v:NV}(h:LJ mu.length v=true):Ob q (new++mu) v=Ob q mu v:=by
 have:v.addr<mu.length:=by cases v<;>simpa [LJ,NV.addr] using h
 simp only[Ob,Eo this]
theorem XS {q:XT}{mu new:List Nat}{v:Option NV}(h:Zp mu.length v=true):Tf q (new++mu) v=Tf q mu v:=by
 cases v with
 | none=>rfl
 | some v=>exact Xn h
theorem R0 {q:XT}{m:Nat}{mu new:List Nat}{b:NB}(h:JN mu.length b.vars=true):Xu q m (new++mu) b=Xu q m mu b:=by simp only[Xu,Kd h]
theorem XE {q:XT}{m:Nat}{mu new:List Nat}{v:Option NB}(h:ZS mu.length v=true):bA q m (new++mu) v=bA q m mu v:=by
 cases v with
 | none=>rfl
 | some v=>exact R0 h
theorem Pa {mu new:List Nat}:∀{l:List Nat},(l.all fun a=>decide (a<mu.length))=true→LA (new++mu) l=LA mu l
 | [],_=>rfl
 | a::l,h=>by
  simp only[List.all_cons,Bool.and_eq_true,decide_eq_true_eq] at h;simp only[LA,List.map_cons,Eo h.1];exact congrArg _ (Pa h.2)
theorem Nh {q:XT}{m:Nat}{mu new:List Nat}{b:Nat}{o:NO}(h:K7 mu.length o=true):Eg q m (new++mu) b o=Eg q m mu b o:=by
 cases o with
 | thunk t v k=>simp only[K7,Bool.and_eq_true] at h;simp only[Eg,Kd h.1,XS h.2]
 | scope x r=>simp only[K7,Bool.and_eq_true,decide_eq_true_eq] at h;simp only[Eg,Eo h.1,Kd h.2]
 | func d f=>simp only[K7,Bool.and_eq_true,decide_eq_true_eq] at h;simp only[Eg,Eo h.1,R0 h.2]
 | pair x y z=>simp only[K7,Bool.and_eq_true,decide_eq_true_eq] at h;simp only[Eg,Eo h.1.1,Eo h.1.2,Eo h.2]
 | stuck h' args=>simp only[K7,Bool.and_eq_true] at h;simp only[Eg,Pa h.1.1,XE h.1.2,Pa h.2]
theorem Pl {q:XT}{m:Nat}{mu new:List Nat}:∀{bs:List Nat}{os:List NO},os.all (K7 mu.length)=true→GG q m (new++mu) bs os=GG q m mu bs os
 | [],os,_=>by cases os<;>rfl
 | b::bs,[],_=>rfl
 | b::bs,o::os,h=>by
  simp only[List.all_cons,Bool.and_eq_true] at h;simp only[GG,Nh h.1,Pl h.2]
theorem W9 {q:XT}{m b:Nat}{mu:List Nat}{s:NS}{o:NO}(hl:mu.length=s.objs.length) (h:(LN s&&K7 s.objs.length o)=true):HS q m (b::mu) (s.new o)= .box m [.p (.lst []),.p (I s.left),.p (I s.nodes)]::Eg q m mu b o::GG q m mu mu s.objs:=by
 simp only[Bool.and_eq_true,LN,←hl] at h;simp only[HS,NS.new,GG];rw[show b::mu=[b]++mu from rfl,Nh h.2,Pl h.1]
theorem Qb {q:XT}{m:Nat}{mu:List Nat}:∀{bs:List Nat}{os:List NO}{i b:Nat}{o:NO},bs[i]?=some b→os[i]?=some o→(GG q m mu bs os)[i]?=some (Eg q m mu b o)
 | [],_,i,b,o,h,_=>by simp at h
 | _::_,[],i,b,o,_,h=>by simp at h
 | b'::bs,o'::os,0,b,o,h,h'=>by
  simp only[List.getElem?_cons_zero,Option.some.injEq] at h h';subst h;subst h';rfl
 | b'::bs,o'::os,i+1,b,o,h,h'=>by
  simp only[List.getElem?_cons_succ] at h h';simp only[GG,List.getElem?_cons_succ];exact Qb h h'
theorem Pc {q:XT}{m:Nat}{mu:List Nat}:∀{bs:List Nat}{os:List NO}{i b:Nat}(o:NO),bs[i]?=some b→(GG q m mu bs os).set i (Eg q m mu b o)=GG q m mu bs (os.set i o)
 | [],_,i,b,o,h=>by simp at h
 | _::_,[],i,b,o,_=>rfl
 | b'::bs,o'::os,0,b,o,h=>by
  simp only[List.getElem?_cons_zero,Option.some.injEq] at h;subst h;rfl
 | b'::bs,o'::os,i+1,b,o,h=>by
  simp only[List.getElem?_cons_succ] at h;simp only[GG,List.set_cons_succ];exact congrArg _ (Pc o h)
def mB (m:Nat) (l k:Int):Au:= .box m [.p (.lst []),.p (I l),.p (I k)]
end Go.Eu
namespace Go.Abs
open Go.Eu
section
variable {P:Program}{r:Option Nat}{ops:Array Oper}{n:Nat}{τ₀ τ:Nat→AV}{D:List CN}{opn:Nat→Bool}{k:Nat}{H:List Au}{dst:Option Tmp}{op:Op}{ty:TypeId}{pos:String}{aft:Array Edge}
theorem GI {Q:Bq→A9→Prop}{R:CG→List Au→Prop}(ho:ops[k]?=some ⟨dst,op,ty,pos,aft,none⟩) (hd:De dst n=true) (h:B4 P ⟨dst,op,ty,pos,aft,none⟩ (ev τ) H R) (hno:∀v H',¬R (.panic v) H')
  (next:∀v H1,R (.val v) H1→∃H',H1.Perm H'∧AL P r ops (k+1) ⟨n,put τ dst v,H',D⟩ Q):AL P r ops k ⟨n,τ,H,D⟩ Q :=
 C3 (S:=⟨n,τ,H,D⟩) ho AX (D8 hd) h (fun v H1 hv=>by obtain⟨H',hp,hn⟩:=next v H1 hv;exact FK hp hn) (fun v H1 hv=>absurd hv (hno v H1))
theorem FG {Q:Bq→A9→Prop}{rd ef effs fx}{R:CG→List Au→Prop}(fx':List (Nat×Sp)) (ho:ops[k]?=some ⟨dst,op,ty,pos,aft,none⟩) (hn:opn k=true) (h:B4 P ⟨dst,op,ty,pos,aft,none⟩ (ev τ) H R) (haft:Ck ops k (fx'.map (·.1))=true) (hne:∃v H',R (.val v) H') (hno:∀v H',¬R (.panic v) H')
  (next:∀v H1,R (.val v) H1→∃H',H1.Perm H'∧FH ops k H H' rd∧Dy k (.eff v H') fx∧Dr P ops n τ₀ D Q opn (k+1) (put τ dst v) H' rd ((k,H,H')::ef) (true::effs) (fx'++fx)):Dr P ops n τ₀ D Q opn k τ H rd ef effs fx:=by
 refine Ge (R:=fun r H'=>match r with | .val v=>FH ops k H H' rd∧Dy k (.eff v H') fx∧Dr P ops n τ₀ D Q opn (k+1) (put τ dst v) H' rd ((k,H,H')::ef) (true::effs) (fx'++fx) | .panic _=>False) fx' ho hn (B4.permR h ?_) haft ?_ (fun _ _ h=>h) (fun v H' h=>h)
 ·intro r H1 hr;cases r with
  | val v=>exact next v H1 hr
  | panic v=>exact absurd hr (hno v H1)
 obtain⟨v,H1,hv⟩:=hne;obtain⟨H',_,h⟩:=next v H1 hv;exact⟨v,H',h⟩
end
theorem NI {n:Nat}{τ:Nat→AV}{H:List Au}{D:List CN}(t:Nat) {b:Nat}(h:τ t= .ptr b 0):Dz ⟨n,τ,H,D⟩ ⟨n,put τ (some t) (.p (.addr b)),H,D⟩:=Kh fun F w v hr=>by rw[h] at hr;exact QG b F w v hr
theorem Cb {P:Program}{dst:Option Tmp}{c:Call}{ty:TypeId}{pos:String}{aft:Array Edge}{g:Option (Nat×Bool)}{f:Operand}{fid:FuncId}{ρ:Operand→AV}{H Hs Hf:List Au}{A:List AV}{R:CG→List Au→Prop}
  (hc:c.callee= .value f) (hf:ρ f= .p (.fn fid)) (hp:H.Perm (Hs++Hf)) (h:BK P fid A Hs R) (hA:C5 (c.args.toList.map ρ) A) :
  B4 P ⟨dst,.call c,ty,pos,aft,g⟩ ρ H (fun r H'=>∃Hs',R r Hs'∧H'=Hs'++Hf):=Dw hc (.inl ⟨hf,rfl,rfl⟩) hp (h.args (by simpa using hA)) (.inl rfl)
theorem RG {P:Program}{dst:Option Tmp}{c:Call}{ty:TypeId}{pos:String}{aft:Array Edge}{g:Option (Nat×Bool)}{f:Operand}{fid:FuncId}{first caps:List AV}{ρ:Operand→AV}{H Hs Hf:List Au}{A:List AV}{R:CG→List Au→Prop}
  (hc:c.callee= .value f) (hf:ρ f= .fn (.func fid) first caps) (hp:H.Perm (Hs++Hf)) (h:BK P fid A Hs R) (hA:C5 (first++c.args.toList.map ρ++caps) A) :
  B4 P ⟨dst,.call c,ty,pos,aft,g⟩ ρ H (fun r H'=>∃Hs',R r Hs'∧H'=Hs'++Hf):=Dw hc (.inr hf) hp (h.args hA) (.inl rfl)
theorem Bc {P:Program}{dst:Option Tmp}{ty:TypeId}{pos:String}{aft:Array Edge}{g:Option (Nat×Bool)}{ρ:Operand→AV}{H:List Au}{x:Operand}{b:Nat}(hx:ρ x= .p (.addr b)):CK P ⟨dst,.nilCheck x,ty,pos,aft,g⟩ ρ H (.ptr b 0) H :=
 BS fun F w E hH hE=>by
  have h1:=hE x AT;rw[hx] at h1;simp only[BU,BY] at h1;exact⟨.pointer (some ⟨b,0,none⟩),by simp[execOp,h1,Sem.run_pure],by simp[BU]⟩
theorem Gt {P:Program}{dst:Option Tmp}{ty:TypeId}{pos:String}{aft:Array Edge}{g:Option (Nat×Bool)}{ρ:Operand→AV}{H:List Au}{x:Operand}{b:Nat}(hx:ρ x= .p (.optp (some b))):CK P ⟨dst,.nilCheck x,ty,pos,aft,g⟩ ρ H (.ptr b 0) H :=
 BS fun F w E hH hE=>by
  have h1:=hE x AT;rw[hx] at h1;simp only[BU,BY] at h1;exact⟨.pointer (some ⟨b,0,none⟩),by simp[execOp,h1,Sem.run_pure],by simp[BU]⟩
theorem Lf:Fz .nilp (.p (.optp none)):=fun F w v h=>by simp only[BU,BY] at h ⊢;exact h
theorem TC (b:Nat):Fz (.p (.addr b)) (.p (.optp (some b))):=fun F w v h=>by simp only[BU,BY] at h ⊢;exact h
theorem RP (b:Nat):Fz (.ptr b 0) (.p (.optp (some b))):=fun F w v h=>by simp only[BU,BY] at h ⊢;exact h
theorem bw {x y:AV}(h:Fz x y:=by first | exact we rfl | exact QG _ | exact Lf | exact TC _ | exact RP _ | exact Dl rfl | exact UN _ | exact KX _):Fz x y:=h
theorem Kx {xs ys:List AV}(h:C5 xs ys:=by repeat' first | exact Gy | refine aw bw ?_):C5 xs ys:=h
section
variable {q:XT}{m b:Nat}{mu:List Nat}{s s':NS}{nv:NV}{t:Tm}{o:NO}{fr:List Au}
theorem FL (fr:List Au):∀v H',¬∃Hs',QW q m mu nv s' (.panic v) Hs'∧H'=Hs'++fr:=fun _ _ h=>by obtain⟨_,h,_⟩:=h;exact h
theorem Jw (hl:mu.length=s.objs.length) (h:s.objs.length≤s'.objs.length) (fr:List Au):∃v H',∃Hs',QW q m mu nv s' (.val v) Hs'∧H'=Hs'++fr :=
 ⟨_,_,_,⟨List.replicate (s'.objs.length - s.objs.length) 0++mu,by simp;omega,⟨_,rfl⟩,rfl,rfl⟩,rfl⟩
theorem NX (fr:List Au):∀v H',¬∃Hs',ZY q m mu t s' (.panic v) Hs'∧H'=Hs'++fr:=fun _ _ h=>by obtain⟨_,h,_⟩:=h;exact h
theorem S6 (hl:mu.length=s.objs.length) (h:s.objs.length≤s'.objs.length) (fr:List Au):∃v H',∃Hs',ZY q m mu t s' (.val v) Hs'∧H'=Hs'++fr :=
 ⟨_,_,_,⟨List.replicate (s'.objs.length - s.objs.length) 0++mu,by simp;omega,⟨_,rfl⟩,rfl,rfl⟩,rfl⟩
theorem KZ (fr:List Au) (hl:mu.length=s.objs.length) (h:(LN s&&K7 s.objs.length o)=true):(Eg q m mu b o::(fr++HS q m mu s)).Perm (fr++HS q m (b::mu) (s.new o)):=by
 rw[W9 hl h];refine(List.perm_middle (a:=Eg q m mu b o) (l₁:=fr) (l₂:=HS q m mu s)).symm.trans (List.Perm.append_left fr ?_);exact List.Perm.swap _ _ _
theorem Rv (fr:List Au) (hl:mu.length=s.objs.length) (h:(LN s&&K7 s.objs.length o)=true):(Eg q m mu b o::(fr++HS q m mu s)).Perm (HS q m (b::mu) (s.new o)++fr):=(KZ fr hl h).trans List.perm_append_comm
theorem Cn {a:Nat}(hl:mu.length=s.objs.length) (hg:s.get a=some o):(HS q m mu s)[s.objs.length - 1 - a+1]?=some (Eg q m mu (JD mu a) o):=by
 unfold NS.get at hg;split at hg
 ·have hb:mu[s.objs.length - 1 - a]?=some (JD mu a):=by
   have:s.objs.length - 1 - a<mu.length:=by omega
   unfold JD;rw[List.getD_eq_getElem?_getD,hl,List.getElem?_eq_getElem this];rfl
  exact Qb hb hg
 cases hg
theorem QX {a c:Nat}(hl:mu.length=s.objs.length) (hg:s.get a=some o) (hc:JD mu a=c):(HS q m mu s)[s.objs.length - 1 - a+1]?=some (Eg q m mu c o):=hc▸Cn hl hg
theorem GX (mu l:List Nat):(LA mu l).length=l.length:=List.length_map _
theorem Tq (mu l:List Nat):∀r∈LA mu l,r.length=1:=by
 intro r hr;obtain⟨a,_,rfl⟩:=List.mem_map.1 hr;rfl
theorem Qg (mu l:List Nat):∀r∈LA mu l,Cd 1 r:=by
 intro r hr;obtain⟨a,_,rfl⟩:=List.mem_map.1 hr;exact⟨O,fun c hc=>by simp only[List.mem_singleton] at hc;subst hc;exact⟨by simp[Gp],by simp[Gp]⟩⟩
theorem Sa {a:Nat}(o':NO) (hl:mu.length=s.objs.length) (hg:s.get a=some o):(HS q m mu s).set (s.objs.length - 1 - a+1) (Eg q m mu (JD mu a) o')=HS q m mu (s.set a o'):=by
 unfold NS.get at hg;split at hg
 ·have hb:mu[s.objs.length - 1 - a]?=some (JD mu a):=by
   have:s.objs.length - 1 - a<mu.length:=by omega
   unfold JD;rw[List.getD_eq_getElem?_getD,hl,List.getElem?_eq_getElem this];rfl
  show _::(GG q m mu mu s.objs).set _ _=_;rw[Pc o' hb];rfl
 cases hg
theorem Ig {mu:List Nat}{s:NS}{b:Nat}(hl:mu.length=s.objs.length):Gp (b::mu) s.next= .addr b:=by
 unfold Gp JD NS.next;rw[←hl];simp
theorem Pk {mu:List Nat}{a b:Nat}(h:a<mu.length):Gp (b::mu) a=Gp mu a:=Eo (new:=[b]) h
theorem Tl {mu:List Nat}{b:Nat}{v:Option Nat}(h:JN mu.length v=true):Ka (b::mu) v=Ka mu v:=Kd (new:=[b]) h
theorem W0 {mu:List Nat}{s:NS}{b:Nat}(hl:mu.length=s.objs.length):Ka (b::mu) (some s.next)= .optp (some b):=by
 unfold Ka JD NS.next;rw[←hl];simp
theorem Rx {q:XT}{mu:List Nat}{s:NS}{b:Nat}(hl:mu.length=s.objs.length):AV.p (.iface q.st (.addr b))= .p (Ob q (b::mu) (.st s.next)):=by
 simp only[Ob,NV.addr,Ig hl];rfl
theorem Xx {q:XT}{mu:List Nat}{s:NS}{b:Nat}(hl:mu.length=s.objs.length):AV.p (.iface q.fn (.addr b))= .p (Ob q (b::mu) (.fn s.next)):=by
 simp only[Ob,NV.addr,Ig hl];rfl
theorem Cy {mu:List Nat}{s:NS}{b:Nat}{o:NO}(hl:mu.length=s.objs.length):(b::mu).length=(s.new o).objs.length:=by simp[NS.new,hl]
theorem QP {s:NS}{a:Nat}{o o':NO}(h:s.get a=some o):(s.set a o').get a=some o':=by
 unfold NS.get NS.set at *;simp only[List.length_set];split at h
 ·rename_i hlt;rw[if_pos hlt,List.getElem?_set_self Ad]
 cases h
theorem set_set {s:NS}{a:Nat}{o o':NO}:(s.set a o).set a o'=s.set a o':=by simp[NS.set]
end
theorem J1 {P:Program}{dst:Option Tmp}{ty:TypeId}{pos:String}{aft:Array Edge}{g:Option (Nat×Bool)}{ρ:Operand→AV}{H:List Au}{nm:String}{x:Operand} :
  CK P ⟨dst,.makeFunc (.method nm) #[x] #[],ty,pos,aft,g⟩ ρ H (.fn (.method nm) [ρ x] []) H:=CU rfl rfl
section
variable {P:Program}{dst:Option Tmp}{ty:TypeId}{pos:String}{aft:Array Edge}{g:Option (Nat×Bool)}{ρ:Operand→AV}{H:List Au}{x:Operand}
def aa (P:Program) (T:TypeId):Bool:=match P.underlying T with
 | some (.interface _)=>true
 | _=>false
theorem Sr {T:TypeId}(h:aa P T=true):∃ms,P.underlying T=some (.interface ms):=by
 unfold aa at h;split at h
 ·exact⟨_,by assumption⟩
 cases h
theorem IA {T U:TypeId}{X:PV}{b:Bool}(hu:aa P T=true) (hx:ρ x= .p X) (hy:ρ (.const .nilIface)= .p .nilIface) (hX:(match X with | .nilIface=>some true | .iface _ _=>some false | _=>none)=some b):CK P ⟨dst,.binOp .eql T x (.const .nilIface) U,ty,pos,aft,g⟩ ρ H (.p (.bool b)) H:=by
 obtain⟨ms,hu⟩:=Sr hu;exact OV hu hx hy hX
end
theorem RA {P:Program}{dst:Option Tmp}{ty:TypeId}{pos:String}{aft:Array Edge}{g:Option (Nat×Bool)}{ρ:Operand→AV}{H:List Au}{x y:Operand}{T U:TypeId}(hT:(match P.underlying T with | some (.func _ _ _)=>true | _=>false)=true) (hx:ρ x= .p .nilFn) (hy:ρ y= .p .nilFn):CK P ⟨dst,.binOp .neq T x y U,ty,pos,aft,g⟩ ρ H (.p (.bool false)) H :=
 BS fun F w E hH hE=>by
  have e1:=hE x AT;have e2:=hE y AT;rw[hy] at e2;rw[hx] at e1;simp only[BU,BY] at e1 e2;obtain⟨a1,a2,a3,hu⟩:∃a1 a2 a3,P.underlying T=some (.func a1 a2 a3):=by
   cases hd:P.underlying T with
   | none=>rw[hd] at hT;cases hT
   | some d =>
    rw[hd] at hT;cases d<;>first | exact⟨_,_,_,rfl⟩ | cases hT
  refine⟨.bool false,?_,by simp[BU,BY]⟩;have hg:(eqGuard .neq T x y .nilFunc .nilFunc).run P w= .ok () w:=by
   unfold eqGuard;rfl
  have hq:(Op.equal T .nilFunc .nilFunc).run P w= .ok true w:=by
   have h:∀d:Nat,(Op.equalIn (d+1) T .nilFunc .nilFunc).run P w= .ok true w:=fun d=>by simp[Op.equalIn,run_underlying hu]
   simp[Op.equal,Op.maxDepth,h 9999]
  simp[execOp,Sem.run_bind,hg,e1,e2,binOp,hq]
theorem Rn {P:Program}{dst:Option Tmp}{ty:TypeId}{pos:String}{aft:Array Edge}{g:Option (Nat×Bool)}{ρ:Operand→AV}{x y:Operand}{q:XT}{m a b:Nat}{mu:List Nat}{s:NS}{T:TypeId}{bl:Bool}{t:Tm}{v:Option Nat}{k:Option NV}{nv:NV}
  (hT:Cp P T=some (bl,1)) (hl:mu.length=s.objs.length) (hg:s.get a=some (.thunk t v k)) (hb:JD mu a=b) (hx:ρ x= .ptr b 6) (hy:ρ y= .p (Ob q mu nv)) :
  CK P ⟨dst,.store T x y,ty,pos,aft,g⟩ ρ (HS q m mu s) (.p .any) (HS q m mu (s.set a (.thunk t v (some nv)))):=by
 subst hb;obtain⟨tk,ti,tn,tl,ts⟩:=t;have h:=EB (P:=P) (dst:=dst) (ty:=ty) (pos:=pos) (aft:=aft) (g:=g) (us:=[.p (Ob q mu nv)]) hT hx (Cn (q:=q) (m:=m) hl hg) (by rw[hy];rfl) rfl rfl rfl;rw[←Sa (q:=q) (m:=m) (.thunk (.mk tk ti tn tl ts) v (some nv)) hl hg];exact h
theorem Tx {P:Program}{dst:Option Tmp}{ty:TypeId}{pos:String}{aft:Array Edge}{g:Option (Nat×Bool)}{ρ:Operand→AV}{x y:Operand}{q:XT}{m a b:Nat}{mu:List Nat}{s:NS}{T:TypeId}{bl:Bool}{t:Tm}{v:Option Nat}{k:Option NV}
  (hT:Cp P T=some (bl,1)) (hl:mu.length=s.objs.length) (hg:s.get a=some (.thunk t v k)) (hb:JD mu a=b) (hx:ρ x= .ptr b 5) (hy:ρ y= .nilp) :
  B4 P ⟨dst,.store T x y,ty,pos,aft,g⟩ ρ (HS q m mu s) (bQ (.p .any) ((HS q m mu s).set (s.objs.length - 1 - a+1) (.box b ((BA t).map .p++[.nilp,.p (Tf q mu k)])))):=by
 subst hb;obtain⟨tk,ti,tn,tl,ts⟩:=t;have h:=EB (P:=P) (dst:=dst) (ty:=ty) (pos:=pos) (aft:=aft) (g:=g) (us:=[.nilp]) hT hx (Cn (q:=q) (m:=m) hl hg) (by rw[hy];rfl) rfl rfl rfl;exact h
theorem Qt {n:Nat}{τ:Nat→AV}{D:List CN}{q:XT}{m a b:Nat}{mu:List Nat}{s:NS}{t:Tm}{v:Option Nat}{k:Option NV}(hl:mu.length=s.objs.length) (hg:s.get a=some (.thunk t v k)) (hb:JD mu a=b) :
  Dz ⟨n,τ,(HS q m mu s).set (s.objs.length - 1 - a+1) (.box b ((BA t).map .p++[.nilp,.p (Tf q mu k)])),D⟩ ⟨n,τ,HS q m mu (s.set a (.thunk t none k)),D⟩:=by
 subst hb;have hi:((HS q m mu s).set (s.objs.length - 1 - a+1) (.box (JD mu a) ((BA t).map .p++[.nilp,.p (Tf q mu k)])))[s.objs.length - 1 - a+1]?=some (.box (JD mu a) ((BA t).map .p++[.nilp,.p (Tf q mu k)])):=by
  rw[List.getElem?_set_self (List.getElem?_eq_some_iff.1 (Cn (q:=q) (m:=m) hl hg)).1]
 obtain⟨tk,ti,tn,tl,ts⟩:=t;have hw:C5 ((BA (.mk tk ti tn tl ts)).map .p++[.nilp,.p (Tf q mu k)]) ((BA (.mk tk ti tn tl ts)).map .p++[.p (Ka mu none),.p (Tf q mu k)]):=by
  simp only[BA,List.map_cons,List.map_nil,List.cons_append,List.nil_append];exact aw (we O) (aw (we O) (aw (we O) (aw (we O) (aw (we O) (aw Lf (aw (we O) Gy))))))
 have:=C9 (n:=n) (τ:=τ) (D:=D) (o':= .box (JD mu a) ((BA (.mk tk ti tn tl ts)).map .p++[.p (Ka mu none),.p (Tf q mu k)])) hi (SF hw);rw[List.set_set] at this;rw[←Sa (q:=q) (m:=m) (.thunk (.mk tk ti tn tl ts) none k) hl hg];exact this
end Go.Abs
namespace Go.Eu
open Go.Abs
theorem CO {α:Type}{b:Bool}{x:Out α}{y:α}(h:gd b x= .ok y):b=true∧x= .ok y:=by
 unfold gd at h;split at h
 ·rename_i hb;exact⟨hb,h⟩
 cases h
theorem E4 {α β:Type}{x:Out α}{k:α→Out β}{y:β}(h:x.bind k= .ok y):∃a,x= .ok a∧k a= .ok y:=by
 cases x with
 | stuck=>cases h
 | fail=>cases h
 | ok a=>exact⟨a,rfl,h⟩
theorem EX {α:Type}{s:NS}{x:Out (α×NS)}{y:α×NS}(h:WM s x= .ok y):x= .ok y∧s.objs.length≤y.2.objs.length:=by
 obtain⟨a,h1,h2⟩:=E4 h;obtain⟨h3,h4⟩:=CO h2;injection h4 with h4;subst h4;exact⟨h1,by simpa using h3⟩
section
variable {n:Nat}{s s':NS}{nv:NV}{t:Tm}{ρ:Option Nat}{a x:Nat}{W:Rq→NS→Out (NV×NS)}
theorem WN {x:Out (NV×NS)}{y:NV×NS}(h:(x.bind fun r=>gd (LJ r.2.objs.length r.1) (.ok r))= .ok y):x= .ok y∧LJ y.2.objs.length y.1=true:=by
 obtain⟨a,h1,h2⟩:=E4 h;obtain⟨h3,h4⟩:=CO h2;injection h4 with h4;subst h4;exact⟨h1,h3⟩
theorem Fo {r:Rq}(h:F4 n r s= .ok (nv,s')):LN s=true∧Wi s.objs.length r=true∧s.objs.length≤s'.objs.length∧LJ s'.objs.length nv=true:=by
 cases n with
 | zero=>cases h
 | succ n =>
  unfold F4 at h;obtain⟨h1,h2⟩:=CO h;obtain⟨h2,h5⟩:=WN h2;obtain⟨h3,h4⟩:=EX h2;simp only[Bool.and_eq_true] at h1;exact⟨h1.1,h1.2,h4,h5⟩
theorem VO (h:F4 (n+1) (.eval t ρ) s= .ok (nv,s')):Re (F4 n) n t ρ s= .ok (nv,s'):=by
 unfold F4 at h;exact(EX (WN (CO h).2).1).1
theorem Sx (h:F4 (n+1) (.force a) s= .ok (nv,s')):∃t ρ k,s.get a=some (.thunk t ρ k)∧((k=some nv∧s=s')∨(k=none∧∃s1 t' ρ' k',F4 n (.eval t ρ) s= .ok (nv,s1)∧s1.get a=some (.thunk t' ρ' k')∧s'=s1.set a (.thunk t' none (some nv)))):=by
 unfold F4 at h;have h:=(EX (WN (CO h).2).1).1;simp only at h;split at h
 ·rename_i t ρ v hg;injection h with h;simp only[Prod.mk.injEq] at h;obtain⟨rfl,rfl⟩:=h;exact⟨t,ρ,_,hg,.inl ⟨rfl,rfl⟩⟩
 ·rename_i t ρ hg;obtain⟨⟨v1,s1⟩,h1,h2⟩:=E4 h;simp only at h2;split at h2
  ·rename_i t' ρ' k' hg';injection h2 with h2;simp only[Prod.mk.injEq] at h2;obtain⟨rfl,rfl⟩:=h2;exact⟨t,ρ,_,hg,.inr ⟨O,s1,t',ρ',k',h1,hg',O⟩⟩
  cases h2
 cases h
theorem ZD (h:F4 (n+1) (.apply (.fn a) x) s= .ok (nv,s')):∃d b,s.get a=some (.func d b)∧0<s.left∧s.left≤20000∧F4 n (.body b x) { s with left:=s.left - 1 }= .ok (nv,s'):=by
 unfold F4 at h;have h:=(EX (WN (CO h).2).1).1;simp only[Th] at h;split at h
 ·rename_i d b hg;obtain⟨h1,h2⟩:=CO h;simp only[Bool.and_eq_true,decide_eq_true_eq] at h1;exact⟨d,b,hg,h1.1,h1.2,h2⟩
 cases h
theorem YK (h:F4 (n+1) (.apply (.st a) x) s= .ok (nv,s')):∃hd args,s.get a=some (.stuck hd args)∧args.length<100∧¬hd.kind=3∧hd.body=none∧(LN s&&K7 s.objs.length (.stuck hd (args++[x])))=true∧nv= .st s.next∧s'=s.new (.stuck hd (args++[x])):=by
 unfold F4 at h;have h:=(EX (WN (CO h).2).1).1;simp only[Th] at h;split at h
 ·rename_i hd args hg;obtain⟨h1,h2⟩:=CO h;simp only[Bool.and_eq_true,decide_eq_true_eq,Bool.not_eq_true',decide_eq_false_iff_not,Option.isNone_iff_eq_none] at h1;obtain⟨h3,h4⟩:=CO h2;injection h4 with h4;simp only[Prod.mk.injEq] at h4;obtain⟨rfl,rfl⟩:=h4;exact⟨hd,args,hg,h1.1.1,h1.1.2,h1.2,h3,O,O⟩
 cases h
theorem VN {b:NB}(h:F4 (n+1) (.body b x) s= .ok (nv,s')):(LN s&&K7 s.objs.length (.scope x b.vars))=true∧F4 n (.eval b.t (some s.next)) (s.new (.scope x b.vars))= .ok (nv,s'):=by
 unfold F4 at h;exact CO (EX (WN (CO h).2).1).1
variable {k i:Int}{nm:ByteArray}{l:List CE}{ts:List Tm}
theorem XM (h:Re W n (.mk k i nm l ts) ρ s= .ok (nv,s')) (hk:k=0):Gs W s n i ρ= .ok (nv,s'):=by
 subst hk;unfold Re at h;simp only[Tm.kids,Tm.kind,Tm.index] at h;split at h
 ·simpa using h
 ·simp at h
 ·simp at h
 cases h
theorem XB (h:Re W n (.mk k i nm l ts) ρ s= .ok (nv,s')) (hk:k=4):∃a b v1 s1,ts=[a,b]∧W (.eval a ρ) s= .ok (v1,s1)∧(LN s1&&K7 s1.objs.length (.thunk b ρ none))=true∧W (.apply v1 s1.next) (s1.new (.thunk b ρ none))= .ok (nv,s'):=by
 subst hk;unfold Re at h;simp only[Tm.kids,Tm.kind,Tm.index] at h;split at h
 ·simp at h
 ·simp at h
 ·rename_i a b;simp only[if_true] at h;obtain⟨⟨v1,s1⟩,h1,h2⟩:=E4 h;obtain⟨h3,h4⟩:=CO h2;exact⟨a,b,v1,s1,O,h1,h3,h4⟩
 cases h
theorem Wa (h:Re W n (.mk k i nm l ts) ρ s= .ok (nv,s')) (hk:k=5):∃a b,ts=[a,b]∧(LN s&&K7 s.objs.length (.thunk a ρ none))=true∧(LN (s.new (.thunk a ρ none))&&K7 (s.new (.thunk a ρ none)).objs.length (.func s.next ⟨b,ρ⟩))=true∧nv= .fn (s.new (.thunk a ρ none)).next∧s'=(s.new (.thunk a ρ none)).new (.func s.next ⟨b,ρ⟩):=by
 subst hk;unfold Re at h;simp only[Tm.kids,Tm.kind,Tm.index] at h;split at h
 ·simp at h
 ·simp at h
 ·rename_i a b;simp only[if_true] at h;rw[if_neg Ac] at h;obtain⟨h1,h2⟩:=CO h;obtain⟨h3,h4⟩:=CO h2;injection h4 with h4;simp only[Prod.mk.injEq] at h4;obtain⟨rfl,rfl⟩:=h4;exact⟨a,b,O,h1,h3,O,O⟩
 cases h
theorem Wy (h:Re W n (.mk k i nm l ts) ρ s= .ok (nv,s')) (hk:k=9):∃p v1 s1,ts=[p]∧W (.eval p ρ) s= .ok (v1,s1)∧Lr v1 s1= .ok (nv,s'):=by
 subst hk;unfold Re at h;simp only[Tm.kids,Tm.kind,Tm.index] at h;split at h
 ·simp at h
 ·rename_i p;simp only[if_true] at h;obtain⟨⟨v1,s1⟩,h1,h2⟩:=E4 h;exact⟨p,v1,s1,O,h1,h2⟩
 ·simp at h
 cases h
theorem S0 (h:Re W n (.mk k i nm l ts) ρ s= .ok (nv,s')):k=0∨k=4∨k=5∨k=9:=by
 by_cases h0:k=0
 ·exact .inl h0
 by_cases h4:k=4
 ·exact .inr (.inl h4)
 by_cases h5:k=5
 ·exact .inr (.inr (.inl h5))
 by_cases h9:k=9
 ·exact .inr (.inr (.inr h9))
 exfalso;unfold Re at h;split at h
 ·rw[if_neg (show ¬(Tm.mk k i nm l ts).kind=0 from h0)] at h;cases h
 ·rw[if_neg (show ¬(Tm.mk k i nm l ts).kind=9 from h9)] at h;cases h
 ·rw[if_neg (show ¬(Tm.mk k i nm l ts).kind=4 from h4),if_neg (show ¬(Tm.mk k i nm l ts).kind=5 from h5)] at h;cases h
 cases h
theorem OS {v:NV}(h:Lr v s= .ok (nv,s')):(∀a,v≠ .pr a)∧(LN s&&K7 s.objs.length (.thunk BN none (some v)))=true∧(LN (s.new (.thunk BN none (some v)))&&K7 (s.new (.thunk BN none (some v))).objs.length (.stuck ⟨9,0,BN,[s.next],none⟩ []))=true∧nv= .st (s.new (.thunk BN none (some v))).next∧s'=(s.new (.thunk BN none (some v))).new (.stuck ⟨9,0,BN,[s.next],none⟩ []):=by
 cases v with
 | pr a=>cases h
 | fn a =>
  simp only[Lr] at h;obtain⟨h1,h2⟩:=CO h;obtain⟨h3,h4⟩:=CO h2;injection h4 with h4;simp only[Prod.mk.injEq] at h4;obtain⟨rfl,rfl⟩:=h4;exact⟨fun _ h=>(by cases h),h1,h3,O,O⟩
 | st a =>
  simp only[Lr] at h;obtain⟨h1,h2⟩:=CO h;obtain⟨h3,h4⟩:=CO h2;injection h4 with h4;simp only[Prod.mk.injEq] at h4;obtain⟨rfl,rfl⟩:=h4;exact⟨fun _ h=>(by cases h),h1,h3,O,O⟩
theorem RF {j:Nat}(h:Gs W s j i none= .ok (nv,s')): -1000000≤i∧i≤1000000∧(LN s&&K7 s.objs.length (.stuck ⟨0,-1 - i,BN,[],none⟩ []))=true∧nv= .st s.next∧s'=s.new (.stuck ⟨0,-1 - i,BN,[],none⟩ []):=by
 have h:gd (decide (-1000000≤i)&&decide (i≤1000000)) (VK s (.stuck ⟨0,-1 - i,BN,[],none⟩ []) fun s1=>Out.ok (NV.st s.next,s1))= .ok (nv,s'):=by cases j<;>simpa only[Gs] using h
 obtain⟨h1,h2⟩:=CO h;simp only[Bool.and_eq_true,decide_eq_true_eq] at h1;obtain⟨h3,h4⟩:=CO h2;injection h4 with h4;simp only[Prod.mk.injEq] at h4;obtain⟨rfl,rfl⟩:=h4;exact⟨h1.1,h1.2,h3,O,O⟩
theorem RZ {j b:Nat}(h:Gs W s j i (some b)= .ok (nv,s')): -1000000≤i∧i≤1000000∧∃j' x r,j=j'+1∧s.get b=some (.scope x r)∧((i=0∧W (.force x) s= .ok (nv,s'))∨(i≠0∧Gs W s j' (i - 1) r= .ok (nv,s'))):=by
 cases j with
 | zero=>cases h
 | succ j =>
  simp only[Gs] at h;obtain⟨h1,h2⟩:=CO h;simp only[Bool.and_eq_true,decide_eq_true_eq] at h1;split at h2
  ·rename_i x r hg;refine⟨h1.1,h1.2,j,x,r,O,hg,?_⟩;split at h2
   ·exact .inl ⟨‹_›,h2⟩
   exact .inr ⟨‹_›,h2⟩
  cases h2
end
section
variable {n:Nat}{s s':NS}{t t':Tm}{a x:Nat}{d:Int}{Q:NS→Nat→Int→Out (Tm×NS)}
theorem O0 {v:NV}(h:Fx n s v d= .ok (t,s')):s.objs.length≤s'.objs.length∧∃a,v= .st a:=by
 cases n with
 | zero=>cases h
 | succ n =>
  simp only[Fx] at h;split at h
  ·split at h
   ·exact⟨(EX (CO h).2).2,_,O⟩
   cases h
  cases h
theorem Y7 (h:Fx (n+1) s (.st a) d= .ok (t,s')):∃hd args0,s.get a=some (.stuck hd args0)∧LN s=true∧hd.kids.length<100∧hd.body=none∧0≤s.nodes∧s.nodes<8000∧0≤d∧d<400 ∧
  ∃t1 s1 h2 args,RS (LH (Fx n) n) hd { s with nodes:=s.nodes+1 } d= .ok (t1,s1)∧s1.get a=some (.stuck h2 args)∧LN s1=true∧args.length<100∧OA (LH (Fx n) n) d args t1 s1= .ok (t,s'):=by
 simp only[Fx] at h;split at h
 ·rename_i hd args hg;obtain⟨h1,h2⟩:=CO h;obtain⟨h3,h4⟩:=CO (EX h2).1;obtain⟨⟨t1,s1⟩,h5,h6⟩:=E4 h4;simp only[Bool.and_eq_true,decide_eq_true_eq,Option.isNone_iff_eq_none] at h1 h3;simp only at h6;split at h6
  ·rename_i h2 args2 hg2;obtain⟨h7,h8⟩:=CO h6;simp only[Bool.and_eq_true,decide_eq_true_eq] at h7;exact⟨hd,args,hg,h1.1.1,h1.1.2,h1.2,h3.1.1.1,h3.1.1.2,h3.1.2,h3.2,t1,s1,h2,args2,h5,hg2,h7.1,h7.2,h8⟩
  cases h6
 cases h
theorem Wl {hd:NH}{t1:Tm}{s1:NS}(h:RS Q hd s d= .ok (t1,s1)) (hk:hd.kind=0): -1000000≤hd.level∧hd.level≤1000000∧t1=Bm (d - 1 - hd.level)∧s1=s:=by
 unfold RS at h;rw[if_pos hk] at h;obtain⟨h1,h2⟩:=CO h;simp only[Bool.and_eq_true,decide_eq_true_eq] at h1;injection h2 with h2;simp only[Prod.mk.injEq] at h2;exact⟨h1.1,h1.2,h2.1.symm,h2.2.symm⟩
theorem Uz {hd:NH}{t1:Tm}{s1:NS}(h:RS Q hd s d= .ok (t1,s1)) (hk:¬hd.kind=0):0<hd.kids.length∧hd.body=none∧∃ts,MN Q d hd.kids s= .ok (ts,s1)∧t1= .mk hd.kind 0 ⟨#[]⟩ [] ts:=by
 unfold RS at h;rw[if_neg hk] at h;obtain⟨h1,h2⟩:=CO h;simp only[Bool.and_eq_true,decide_eq_true_eq,Option.isNone_iff_eq_none] at h1;obtain⟨⟨ts,s2⟩,h3,h4⟩:=E4 h2;injection h4 with h4;simp only[Prod.mk.injEq] at h4;obtain⟨rfl,rfl⟩:=h4;exact⟨h1.1,h1.2,ts,h3,O⟩
theorem US {ts:List Tm}(h:MN Q d [] s= .ok (ts,s')):ts=[]∧s'=s:=by
 injection h with h;simp only[Prod.mk.injEq] at h;exact⟨h.1.symm,h.2.symm⟩
theorem R9 {xs:List Nat}{ts:List Tm}(h:MN Q d (x::xs) s= .ok (ts,s')):∃y sy ys,Q s x d= .ok (y,sy)∧MN Q d xs sy= .ok (ys,s')∧ts=y::ys:=by
 obtain⟨⟨y,sy⟩,h1,h2⟩:=E4 h;obtain⟨⟨ys,sz⟩,h3,h4⟩:=E4 h2;injection h4 with h4;simp only[Prod.mk.injEq] at h4;obtain⟨rfl,rfl⟩:=h4;exact⟨y,sy,ys,h1,h3,O⟩
theorem Pe (h:OA Q d [] t s= .ok (t',s')):t'=t∧s'=s:=by
 injection h with h;simp only[Prod.mk.injEq] at h;exact⟨h.1.symm,h.2.symm⟩
theorem Nc {xs:List Nat}(h:OA Q d (x::xs) t s= .ok (t',s')):0≤s.nodes∧s.nodes<8000∧0≤d∧d<400∧∃y sy,Q { s with nodes:=s.nodes+1 } x d= .ok (y,sy)∧OA Q d xs (DT t y) sy= .ok (t',s'):=by
 obtain⟨h1,h2⟩:=CO h;simp only[Bool.and_eq_true,decide_eq_true_eq] at h1;obtain⟨⟨y,sy⟩,h3,h4⟩:=E4 h2;exact⟨h1.1.1.1,h1.1.1.2,h1.1.2,h1.2,y,sy,h3,h4⟩
theorem TE (h:LH (Fx n) n s x d= .ok (t,s')):∃a s1,F4 n (.force x) s= .ok (.st a,s1)∧Fx n s1 (.st a) d= .ok (t,s'):=by
 obtain⟨⟨v,s1⟩,h1,h2⟩:=E4 h;obtain⟨_,a,e⟩:=O0 h2;simp only at e;subst e;exact⟨a,s1,h1,h2⟩
theorem Mo (h:LH (Fx n) n s x d= .ok (t,s')):s.objs.length≤s'.objs.length:=by
 obtain⟨a,s1,h1,h2⟩:=TE h;exact Nat.le_trans (Fo h1).2.2.1 (O0 h2).1
end
theorem MP {mu l:List Nat}{i x:Nat}(h:l[i]?=some x):(LA mu l)[i]?=some [Gp mu x]:=by simp[LA,h]
theorem WK {s:NS}{a:Nat}{o:NO}(hg:s.get a=some o):a<s.objs.length:=by
 unfold NS.get at hg;split at hg
 ·assumption
 cases hg
theorem XV {s:NS}{a:Nat}{o:NO}(hw:LN s=true) (hg:s.get a=some o):K7 s.objs.length o=true:=by
 unfold NS.get at hg;split at hg
 ·exact List.all_eq_true.1 hw _ (List.mem_of_getElem? hg)
 cases hg
theorem NC {s:NS}{a:Nat}{h:NH}{args:List Nat}(hw:LN s=true) (hg:s.get a=some (.stuck h args)):(∀x∈h.kids,x<s.objs.length)∧∀x∈args,x<s.objs.length:=by
 have:=XV hw hg;simp only[K7,Bool.and_eq_true,List.all_eq_true,decide_eq_true_eq] at this;exact⟨this.1.1,this.2⟩
end Go.Eu
namespace Go.Proofs.YtldfmjoncbjldaaGreat
open Go.Abs Go.Eu
def xq:XT:=⟨93,104,100,107⟩
theorem WV:∀(l:Int),BK Tryz.prog 106 [.p (I l)] [] (PJ (fun b=> .p (.iface 104 (.addr b))) [.p (I 0),.p (I l),.p (I 0),.p (I 0),.p (.str ⟨#[]⟩),.p (.lst []),.p (.lst []),.p (.lst []),.p .nilFn,.p (.lst [])]):=by
 intro l;exact Ar Tryz.func106 O ZO (n:=8) O O (Ah Al 1 [] O (Ao (Aq Al 3 [] O (A6 O (BF O) fun b6=>Aj O (Dn AZ O) (Ag Al 1 [] O (BO (C9 (i:=0) (o':= .box b6 ([.p (I 0),.p (I l),.p (I 0),.p (I 0),.p (.str ⟨#[]⟩),.p (.lst []),.p (.lst []),.p (.lst []),.p .nilFn,.p (.lst [])])) O (SF Kx)) (Am (⟨O,_,_,⟨_,_,O,O,O⟩,(Ca (is:=[0]) O),⟨_,O,O⟩⟩))))))))
theorem X2:∀(T b0:Nat),BK Tryz.prog 108 [.p (.iface T (.addr b0))] [] (PJ (fun b=> .p (.addr b)) [.p (I 0),.p (I 0),.p (.str ⟨#[]⟩),.p (.lst []),.p (.lst []),.p (.optp none),.p (.iface T (.addr b0))]):=by
 intro T b0;exact Ar Tryz.func108 O Xy (n:=6) O O (Ah Al 1 [] O (Ao (Aq Al 2 [] O (A6 O (BF O) fun b5=>Ag Al 1 [] O (BO (C9 (i:=0) (o':= .box b5 ([.p (I 0),.p (I 0),.p (.str ⟨#[]⟩),.p (.lst []),.p (.lst []),.p (.optp none),.p (.iface T (.addr b0))])) O (SF Kx)) (BO (NI 2 O) (Am (⟨O,_,_,⟨_,_,O,O,O⟩,(Ca (is:=[0]) O),⟨_,O,O⟩⟩))))))))
theorem Sn:∀(t:Tm) (p:Option Nat),BK Tryz.prog 56 [TV t,.p (.optp p)] [] (PJ (fun b=> .p (.addr b)) ((BA t).map .p++[.p (.optp p),.p .nilIface])):=by
 intro t p;obtain⟨tk,ti,tn,tl,ts⟩:=t;exact Ar Tryz.func56 O bK (n:=9) O O (Ao (A6 O (BF O) fun b2=>Ag Al 1 [] O (Ao (Aq Al 3 [0] O (A6 O (BF O) fun b8=>Ag Al 1 [] O (BO (C9 (i:=0) (o':= .box b8 ((BA (.mk tk ti tn tl ts)).map .p++[.p (.optp p),.p .nilIface])) O (SF Kx)) (BO (NI 4 O) (Am (⟨O,_,_,⟨_,_,O,O,O⟩,(Ca (is:=[0]) O),⟨_,O,O⟩⟩)))))))))
theorem Wq:∀(m:Nat) (t:Tm) (p:Option Nat),Dp Tryz.prog 57 [.p (.addr m),TV t,.p (.optp p)] (.fn (.func 107) [] [.ref [.addr m],.ref (BA t),.ref [.optp p]]):=by
 intro m t p;refine Ar Tryz.func57 O aG (n:=8) O O (Ao (A6 O (BF O) fun b3=>A6 O (BF O) fun b4=>A6 O (BF O) fun b5=>Ag Al 1 [] O (Ao (Bv (D9 (i:=0) (cs:=[(.optp p)]) [5] O (Cq ⟨O,Af⟩)) (Bv (D9 (i:=0) (cs:=BA t) [4] O (Cq ⟨O,Af⟩)) (Bv (D9 (i:=0) (cs:=[(.addr m)]) [3] O (Cq ⟨O,Af⟩)) (Ag Al 2 [] O (Am (⟨O,_,_,⟨_,_,O,O,O⟩,(List.nil_sublist _),?_⟩)))))))))
 all_goals exact⟨rfl,rfl⟩
theorem WW:∀(m:Nat) (l k:Int),(0<l)→(l≤20000)→BK Tryz.prog 58 [.p (.addr m)] [.box m [.p (.lst []),.p (I l),.p (I k)]] (GV (.tup []) [.box m [.p (.lst []),.p (I (l - 1)),.p (I k)]]):=by
 intro m l k h1 h2;refine Ar Tryz.func58 O ah (n:=16) O O (Ao (Ba O (Aj O (Bc O) (Aq Al 3 [0] O (Aj O (Bc O) (Ag Al 2 [0,0] O (Ao (Ba O (Aj O (Bc O) (Ag Al 3 [0] O (Ak O (fun c=>?_) (fun c=>?_))))))))))))
 ·(try simp only[sd,se] at c);exfalso;omega
 (try simp only[sd,se] at c);refine An ⟨O,_,_,O,(Ca (is:=[0]) O),?_⟩
 all_goals exact⟨rfl,rfl⟩
theorem PX:∀(m:Nat) (l k d:Int),(0≤k)→(k<8000)→(0≤d)→(d<400)→BK Tryz.prog 251 [.p (.addr m),.p (I d)] [.box m [.p (.lst []),.p (I l),.p (I k)]] (GV (.tup []) [.box m [.p (.lst []),.p (I l),.p (I (k+1))]]):=by
 intro m l k d h1 h2 h3 h4;refine Ar Tryz.func251 O YV (n:=22) O O (Ao (Ba O (Aj O (Bc O) (Aq Al 3 [0] O (Aj O (Bc O) (Ag Al 2 [0,0] O (Ai (BL [] 19 (fun y=>y= .p (.bool false)) ?_ ?_))))))))
 ·refine Ap (Ba O (Aj O (Bc O) (Aq Al 4 [0] O (A5 16 O (fun g=>?_) (fun g=>?_)))))
  ·(try simp only[sd,se] at g);exact Ag Al 3 [] O ⟨O,O,AH,(by refine pB ?_;simp;omega),Af⟩
  (try simp only[sd,se] at g);exact Ag Al 3 [] O ⟨O,O,AH,(by refine pB ?_;simp;omega),Af⟩
 rintro _ rfl;refine Ak O (fun c=>by cases c) (fun c=>?_);refine An ⟨O,_,_,O,(Ca (is:=[0]) O),?_⟩
 all_goals exact⟨rfl,rfl⟩
def XC (n:Nat):Prop:=∀(m:Nat) (mu:List Nat) (s s':NS) (nv:NV),mu.length=s.objs.length →
 (∀t ρ,F4 n (.eval t ρ) s= .ok (nv,s')→BK Tryz.prog 33 [.p (.addr m),TV t,.p (Ka mu ρ)] (HS xq m mu s) (QW xq m mu nv s')) ∧
 (∀a,F4 n (.force a) s= .ok (nv,s')→BK Tryz.prog 105 [.p (Gp mu a),.p (.addr m)] (HS xq m mu s) (QW xq m mu nv s')) ∧
 (∀a x,F4 n (.apply (.fn a) x) s= .ok (nv,s')→BK Tryz.prog 249 [.p (Gp mu a),.p (.addr m),.p (Gp mu x)] (HS xq m mu s) (QW xq m mu nv s')) ∧
 (∀a x,F4 n (.apply (.st a) x) s= .ok (nv,s')→BK Tryz.prog 255 [.p (Gp mu a),.p (.addr m),.p (Gp mu x)] (HS xq m mu s) (QW xq m mu nv s')) ∧
 (∀b x,F4 n (.body b x) s= .ok (nv,s')→BK Tryz.prog 107 [.p (Gp mu x),.ref [.addr m],.ref (BA b.t),.ref [Ka mu b.vars]] (HS xq m mu s) (QW xq m mu nv s'))
theorem Zg (t:Tm) (mu w:List Nat) (ρ:Option Nat) (h:JN mu.length ρ=true):BK Tryz.prog 56 [TV t,.p (Ka mu ρ)] [] (PJ (fun b=> .p (.addr b)) ((BA t).map .p++[.p (Ka (w++mu) ρ),.p .nilIface])):=by rw[Kd h];exact Sn t _
theorem VL:∀(n j:Nat),XC n→∀(m:Nat) (mu:List Nat) (s s':NS) (nv:NV) (i:Int) (ρ:Option Nat),mu.length=s.objs.length→Gs (F4 n) s j i ρ= .ok (nv,s')→BK Tryz.prog 55 [.p (.addr m),.p (I i),.p (Ka mu ρ)] (HS xq m mu s) (QW xq m mu nv s'):=by
 intro n j hX m mu s s' nv i ρ hl h;refine Ar Tryz.func55 O cc (n:=26) O O (Ah Al 1 [] O (Ai (Aw (BR (α:=Nat×Int×Option Nat) (fun(j1,i2,ρ2)=>⟨26,mk [(0,.p (.addr m)),(1,.p (I i2)),(2,.p (Ka mu ρ2))],(.box m [.p (.lst []),.p (I s.left),.p (I s.nodes)]::GG xq m mu mu s.objs),[]⟩) (fun(j1,i2,ρ2)=>j1) (fun(j1,i2,ρ2)=>Gs (F4 n) s j1 i2 ρ2= .ok (nv,s')) ⟨j,i,ρ⟩ (h) ?_ ?_))))
 ·exact BM ⟨we O,we O,we O,Af⟩ (Od [0] [_] (l':=[_]) O (wl (oe O) (Cv)))
 rintro⟨j1,i2,ρ2⟩ hC
 try simp only at hC
 refine Ai (Ao (Ba O (Aj O (Rc (e:=99) AZ O O) (Bb O (Ak O (fun c=>?_) (fun c=>?_))))))
 ·(try simp only[sd,se] at c);obtain⟨b,rfl⟩:∃b,ρ2=some b:=by cases ρ2 with | none=>simp at c | some b=>exact⟨b,rfl⟩
  obtain⟨r1,r2,j2,x,r,hj,hg,hc⟩:=RZ hC;refine An (Ai (Aw (Ai (Ah Al 2 [] O (Ak O (fun c1=>?_) (fun c1=>?_))))))
  ·(try simp only[sd,se] at c1);have hf:F4 n (.force x) s= .ok (nv,s'):=by rcases hc with ⟨_,e⟩ | ⟨e,_⟩;exact e;exact absurd c1 e
   refine Ao (Ba O (Aj O (Gt O) (Aj O (BH YH O O) (Aj O (BT (i:=s.objs.length - 1 - b+1) Z7 O (Cn hl hg) O) (Ba O (GI O O (Cb O O (List.perm_append_comm (l₁:=[])) ((hX m mu s s' nv hl).2.1 x hf) (Kx)) (FL _) ?_))))));rintro _ _ ⟨_,⟨_,hl1,⟨w,rfl⟩,rfl,rfl⟩,rfl⟩;refine⟨(.box m [.p (.lst []),.p (I s'.left),.p (I s'.nodes)]::GG xq m (w++mu) (w++mu) s'.objs),List.perm_append_comm,?_⟩;exact Ag Al 1 [] O (Am (⟨O,_,_,⟨_,_,O,O,O⟩,(Cu [] [] O),⟨_,hl1,⟨w,O⟩,O,O⟩⟩))
  (try simp only[sd,se] at c1);refine An (Ap (Ag Al 3 [] O (Ap (Ba O (Aj O (Gt O) (Aj O (BH YH O O) (Aj O (BT (i:=s.objs.length - 1 - b+1) XW O (Cn hl hg) O) (Ag Al 1 [] O ?_))))))));refine⟨⟨j2,i2 - 1,r⟩,AN,by rcases hc with ⟨e,_⟩ | ⟨_,e⟩;exact absurd e Aa;exact e,BM ⟨we rfl,we rfl,we rfl,trivial⟩ (Od [0] [_] (l':=[_]) rfl (wl (oe rfl) (Cv)))⟩
 (try simp only[sd,se] at c);obtain rfl:ρ2=none:=by cases ρ2 with | none=>rfl | some b=>simp at c
 obtain⟨r1,r2,hw,rfl,rfl⟩:=RF hC;exact BQ (Ao (Aq Al 2 [] O (QA O O O (.inl ⟨O,O,O⟩) (WV _) Kx fun b25=>Ag Al 1 [] O (Gk (KZ (q:=xq) (m:=m) (b:=b25) [] hl hw) (Am (⟨O,_,_,⟨_,_,O,O,O⟩,(List.Sublist.refl _),⟨_,Cy hl,⟨[_],O⟩,Rx (q:=xq) (b:=b25) hl,O⟩⟩))))))
theorem WX:∀(m:Nat) (mu:List Nat) (s s':NS) (nv v:NV),mu.length=s.objs.length→Lr v s= .ok (nv,s')→BK Tryz.prog 59 [.p (.addr m),.p (I 9),.p (Ob xq mu v)] (HS xq m mu s) (QW xq m mu nv s'):=by
 intro m mu s s' nv v hl h;obtain⟨hv,hw1,hw2,rfl,rfl⟩:=OS h;have hne:Nat.beq (xq.ty v) 100=false:=by cases v with | fn a=>rfl | st a=>rfl | pr a=>exact absurd rfl (hv a)
 refine Ar Tryz.func59 O bG (n:=37) O O (Ah Al 1 [] O (Ah Al 1 [] O (Aw (Ao (Aj O (Nb (e:=102) AZ AZ O hne) (Ag Al 2 [] O ?_))))));refine Ak O (fun c=>by cases c) (fun c=>?_);refine Ah Al 1 [] O (Ao (Aq Al 2 [] O (QA O O O (.inl ⟨O,O,O⟩) (X2 (xq.ty v) (JD mu v.addr)) Kx fun b12=>Aj O (Bi En XZ O O O O O) (Aq Al 2 [] O (A6 O (BF O) fun b16=>Aj O (Dn AZ O) (Ag Al 1 [] O (BO (C9 (i:=0) (o':= .box b16 [.p (I 9),.p (I 0),.p (I 0),.p (I 0),.p (.str ⟨#[]⟩),.p (.lst []),.p (.lst []),.p (.lst [[.addr b12]]),.p .nilFn,.p (.lst [])]) O (SF Kx)) (BO (C9 (i:=0) (o':=Eg xq m (b12::mu) b16 (.stuck ⟨9,0,BN,[s.next],none⟩ [])) O (oe (by simp only[Eg,LA,List.map_cons,List.map_nil,Ig hl];rfl))) (Gk (((KZ (q:=xq) (m:=m) (b:=b12) [] hl hw1).cons _).trans (KZ (q:=xq) (m:=m) (b:=b16) [] (Cy hl) hw2)) (Am ?_))))))))));exact⟨O,_,_,⟨_,_,O,O,O⟩,(List.Sublist.refl _),⟨_,Cy (Cy hl),⟨[_,_],O⟩,Rx (q:=xq) (b:=b16) (Cy hl),O⟩⟩
theorem ZQ:∀(n:Nat),XC n→∀(m:Nat) (mu:List Nat) (s s':NS) (nv:NV) (a x:Nat),mu.length=s.objs.length→F4 (n+1) (.apply (.fn a) x) s= .ok (nv,s')→BK Tryz.prog 249 [.p (Gp mu a),.p (.addr m),.p (Gp mu x)] (HS xq m mu s) (QW xq m mu nv s'):=by
 intro n hX m mu s s' nv a x hl h;obtain⟨d,b,hg,hl1,hl2,hb⟩:=ZD h;refine Ar Tryz.func249 O YE (n:=15) O O (Ah Al 1 [] O (Ao (Ba O (Aj O (CI [0] O (.inl ⟨O,O,O⟩) (WW m s.left s.nodes hl1 hl2) ⟨_,_,O,O,O⟩ Ac O (.inl O)) (Bb O (Ao (Ba O (Aj O (Bc O) (Aj O (BH cq O O) (Aj O (BT (i:=s.objs.length - 1 - a+1) bJ O (Cn (s:={ s with left:=s.left - 1 }) hl hg) O) (Ba O (GI O O (RG O O (List.perm_append_comm (l₁:=[])) ((hX m mu { s with left:=s.left - 1 } s' nv hl).2.2.2.2 b x hb) (Kx)) (FL _) ?_))))))))))));rintro _ _ ⟨_,⟨_,hl3,⟨w,rfl⟩,rfl,rfl⟩,rfl⟩;refine⟨(.box m [.p (.lst []),.p (I s'.left),.p (I s'.nodes)]::GG xq m (w++mu) (w++mu) s'.objs),List.perm_append_comm,?_⟩;exact Ag Al 1 [] O (Am (⟨O,_,_,⟨_,_,O,O,O⟩,(Cu [] [] O),⟨_,hl3,⟨w,O⟩,O,O⟩⟩))
theorem XR:∀(n:Nat),XC n→∀(m:Nat) (mu:List Nat) (s s':NS) (nv:NV) (b:NB) (x:Nat),mu.length=s.objs.length→F4 (n+1) (.body b x) s= .ok (nv,s')→BK Tryz.prog 107 [.p (Gp mu x),.ref [.addr m],.ref (BA b.t),.ref [Ka mu b.vars]] (HS xq m mu s) (QW xq m mu nv s'):=by
 intro n hX m mu s s' nv b x hl h;obtain⟨hw,hb⟩:=VN h;refine Ar Tryz.func107 O ZR (n:=13) O O (Ah Al 1 [] O (Ao (Aq Al 5 [] O (A6 O (BF O) fun b11=>GI O O (Cb O O (Rv [] hl hw) (by have h9:=(hX m (b11::mu) _ s' nv (Cy hl)).1 b.t (some s.next) hb;rw[W0 hl] at h9;exact h9) (Kx)) (FL _) ?_))));rintro _ _ ⟨_,⟨_,hl1,⟨w,rfl⟩,rfl,rfl⟩,rfl⟩;refine⟨(.box m [.p (.lst []),.p (I s'.left),.p (I s'.nodes)]::GG xq m (w++(b11::mu)) (w++(b11::mu)) s'.objs),List.perm_append_comm,?_⟩;refine Ag Al 1 [] O (Am ?_);exact⟨O,_,_,⟨_,_,O,O,O⟩,(Cu [] [] O),⟨_,hl1,⟨w++[b11],by simp⟩,rfl,rfl⟩⟩
set_option maxHeartbeats 2000000 in
theorem Yo:∀(n:Nat),XC n→∀(m:Nat) (mu:List Nat) (s s':NS) (nv:NV) (t:Tm) (ρ:Option Nat),mu.length=s.objs.length→F4 (n+1) (.eval t ρ) s= .ok (nv,s')→BK Tryz.prog 33 [.p (.addr m),TV t,.p (Ka mu ρ)] (HS xq m mu s) (QW xq m mu nv s'):=by
 intro n hX m mu s s' nv t ρ hl h;have he:=VO h;have hsc:JN mu.length ρ=true:=by rw[hl];exact(Fo h).2.1
 obtain⟨tk,ti,tn,tl,ts⟩:=t;refine Ar Tryz.func33 O bu (n:=162) O O (Ao (A6 O (BF O) fun b4=>Ag Al 1 [] O (Ai (Ah Al 2 [0] O (Aw (Ah Al 2 [] O (Ak O (fun c=>?_) (fun c=>?_))))))))
 ·(try simp only[sd,se] at c);have hlk:=XM he c;refine Ao (Aq Al 4 [0] O (GI O O (Cb O O (List.perm_append_comm (l₁:=[_])) (VL n n hX m mu s s' nv ti ρ hl hlk) (Kx)) (FL _) ?_));rintro _ _ ⟨_,⟨_,hl1,⟨w,rfl⟩,rfl,rfl⟩,rfl⟩;refine⟨(.box b4 [.p (I tk),.p (I ti),.p (.str tn),.p (.lst (List.map B0 tl)),.p (.lst (A1 ts))]:: .box m [.p (.lst []),.p (I s'.left),.p (I s'.nodes)]::GG xq m (w++mu) (w++mu) s'.objs),List.perm_append_comm,?_⟩;exact Ag Al 1 [] O (Am (⟨O,_,_,⟨_,_,O,O,O⟩,(Cu [] [_] O),⟨_,hl1,⟨w,O⟩,O,O⟩⟩))
 (try simp only[sd,se] at c);refine Ah Al 2 [] O (Ak O (fun c1=>?_) (fun c1=>?_))
 ·(try simp only[sd,se] at c1);obtain⟨a,b,v1,s1,rfl,h1,hw1,h2⟩:=XB he c1;have hle1:=(Fo h1).2.2.1;have hle2:=(Fo h2).2.2.1;refine Ai ?_;rcases v1 with fa | fa | fa
  ·have hnv1:fa<s1.objs.length:=by have:=(Fo h1).2.2.2;simpa [LJ] using this
   refine Bt (fun k=>Nat.beq k 6||Nat.beq k 13||Nat.beq k 17) EY (BE Al 3 [0] O (A7 O (fun _=>As BI O O Ad (BB O) (Ay _)) Af (BE Al 2 [] O (FG [(7,.free (.p (.addr m))),(8,.free (.ptr b4 4)),(9,.read [.box b4 [.p (I tk),.p (I ti),.p (.str tn),.p (.lst (List.map B0 tl)),.p (.lst (A1 [a,b]))]] (.p (.lst (A1 [a,b])))),(10,.free (.ref (BA b))),(11,.free (.agg ((BA b).map .p))),(12,.free (.p (Ka mu ρ)))] O O (Cb O O (List.perm_append_comm (l₁:=[_])) ((hX m mu s s1 (.fn fa) hl).1 a ρ h1) (Kx)) AZ (Jw hl hle1 _) (FL _) ?_))));rintro _ _ ⟨_,⟨_,hl1,⟨w,rfl⟩,rfl,rfl⟩,rfl⟩;refine⟨(.box b4 [.p (I tk),.p (I ti),.p (.str tn),.p (.lst (List.map B0 tl)),.p (.lst (A1 [a,b]))]:: .box m [.p (.lst []),.p (I s1.left),.p (I s1.nodes)]::GG xq m (w++mu) (w++mu) s1.objs),List.perm_append_comm,AB,Af,?_⟩;refine BE Al 3 [0] O (A7 O (fun _=>As BI O O Ad (BB O) (Ay _)) AJ (BE Al 2 [] O (ID [(14,.free (.fn (.method "euclid/nbe.apply") [.p (Ob xq (w++mu) (.fn fa))] [])),(15,.free (.p .any)),(16,.free (.p (Ob xq (w++mu) (.fn fa))))] O O O (.inl ⟨O,O,O⟩) (Zg b mu w ρ hsc) (.inl O) AZ fun b33=>⟨AB,AJ,?_⟩)));refine A7 O (fun _=>J1) AJ (A7 O (fun _=>K4 AZ O) AJ (BE Al 1 [] O ?_));refine FG [] O O (Fi O O AZ (Rv [_] hl1 hw1) (by have h9:=(hX m (b33::(w++mu)) _ s' nv (Cy hl1)).2.2.1 fa s1.next h2;rw[Pk (by rw[hl1];exact hnv1),Ig hl1] at h9;exact h9) (Kx)) AZ (Jw (mu:=b33::(w++mu)) (Cy hl1) hle2 _) (FL _) ?_;rintro _ _ ⟨_,⟨_,hl2,⟨w1,rfl⟩,rfl,rfl⟩,rfl⟩;refine⟨(.box b4 [.p (I tk),.p (I ti),.p (.str tn),.p (.lst (List.map B0 tl)),.p (.lst (A1 [a,b]))]:: .box m [.p (.lst []),.p (I s'.left),.p (I s'.nodes)]::GG xq m (w1++(b33::(w++mu))) (w1++(b33::(w++mu))) s'.objs),List.perm_append_comm,AB,AJ,?_⟩;refine Bl Al 1 [] O (Am ?_);exact⟨O,_,_,⟨_,_,O,O,O⟩,(Cu [] [_] O),⟨_,hl2,⟨w1++([b33]++w),by simp⟩,rfl,rfl⟩⟩
  ·exact absurd h2 (fun e=>by cases n with | zero=>cases e | succ n=>have:=(EX (WN (CO e).2).1).1;simp[Th] at this)
  have hnv1:fa<s1.objs.length:=by have:=(Fo h1).2.2.2;simpa [LJ] using this
  refine Bt (fun k=>Nat.beq k 6||Nat.beq k 13||Nat.beq k 17) EY (BE Al 3 [0] O (A7 O (fun _=>As BI O O Ad (BB O) (Ay _)) Af (BE Al 2 [] O (FG [(7,.free (.p (.addr m))),(8,.free (.ptr b4 4)),(9,.read [.box b4 [.p (I tk),.p (I ti),.p (.str tn),.p (.lst (List.map B0 tl)),.p (.lst (A1 [a,b]))]] (.p (.lst (A1 [a,b])))),(10,.free (.ref (BA b))),(11,.free (.agg ((BA b).map .p))),(12,.free (.p (Ka mu ρ)))] O O (Cb O O (List.perm_append_comm (l₁:=[_])) ((hX m mu s s1 (.st fa) hl).1 a ρ h1) (Kx)) AZ (Jw hl hle1 _) (FL _) ?_))));rintro _ _ ⟨_,⟨_,hl1,⟨w,rfl⟩,rfl,rfl⟩,rfl⟩;refine⟨(.box b4 [.p (I tk),.p (I ti),.p (.str tn),.p (.lst (List.map B0 tl)),.p (.lst (A1 [a,b]))]:: .box m [.p (.lst []),.p (I s1.left),.p (I s1.nodes)]::GG xq m (w++mu) (w++mu) s1.objs),List.perm_append_comm,AB,Af,?_⟩;refine BE Al 3 [0] O (A7 O (fun _=>As BI O O Ad (BB O) (Ay _)) AJ (BE Al 2 [] O (ID [(14,.free (.fn (.method "euclid/nbe.apply") [.p (Ob xq (w++mu) (.st fa))] [])),(15,.free (.p .any)),(16,.free (.p (Ob xq (w++mu) (.st fa))))] O O O (.inl ⟨O,O,O⟩) (Zg b mu w ρ hsc) (.inl O) AZ fun b33=>⟨AB,AJ,?_⟩)));refine A7 O (fun _=>J1) AJ (A7 O (fun _=>K4 AZ O) AJ (BE Al 1 [] O ?_));refine FG [] O O (Fi O O AZ (Rv [_] hl1 hw1) (by have h9:=(hX m (b33::(w++mu)) _ s' nv (Cy hl1)).2.2.2.1 fa s1.next h2;rw[Pk (by rw[hl1];exact hnv1),Ig hl1] at h9;exact h9) (Kx)) AZ (Jw (mu:=b33::(w++mu)) (Cy hl1) hle2 _) (FL _) ?_;rintro _ _ ⟨_,⟨_,hl2,⟨w1,rfl⟩,rfl,rfl⟩,rfl⟩;refine⟨(.box b4 [.p (I tk),.p (I ti),.p (.str tn),.p (.lst (List.map B0 tl)),.p (.lst (A1 [a,b]))]:: .box m [.p (.lst []),.p (I s'.left),.p (I s'.nodes)]::GG xq m (w1++(b33::(w++mu))) (w1++(b33::(w++mu))) s'.objs),List.perm_append_comm,AB,AJ,?_⟩;refine Bl Al 1 [] O (Am ?_);exact⟨O,_,_,⟨_,_,O,O,O⟩,(Cu [] [_] O),⟨_,hl2,⟨w1++([b33]++w),by simp⟩,rfl,rfl⟩⟩
 (try simp only[sd,se] at c1);refine Ah Al 2 [] O (Ak O (fun c2=>?_) (fun c2=>?_))
 ·(try simp only[sd,se] at c2);obtain⟨a,b,rfl,hw1,hw2,rfl,rfl⟩:=Wa he c2;refine Ai (Bt (fun k=>Nat.beq k 5||Nat.beq k 14) EY (BE Al 2 [0] O (A7 O (fun _=>As BI O O Ad (BB O) (Ay _)) Af (BE Al 2 [] O (ID [(6,.free (.p (.addr m))),(7,.free (.ptr b4 4)),(8,.read [.box b4 [.p (I tk),.p (I ti),.p (.str tn),.p (.lst (List.map B0 tl)),.p (.lst (A1 [a,b]))]] (.p (.lst (A1 [a,b])))),(9,.free (.ref (BA b))),(10,.free (.agg ((BA b).map .p))),(11,.free (.p (Ka mu ρ)))] O O O (.inl ⟨O,O,O⟩) (Sn a (ρ.map (JD mu))) (.inl O) AZ fun b45=>⟨AB,Af,?_⟩)))));refine BE Al 3 [1] O (A7 O (fun _=>As BI O O Ad (BB O) (Ay _)) AJ (BE Al 2 [] O (A7 O (fun _=>A0 O O (Wq m b (ρ.map (JD mu))) O) AJ (BE Al 1 [] O (Jy [] O O (BF O) AZ fun b54=>⟨AB,AJ,?_⟩)))));exact A7 O (fun _=>Dn AZ O) AJ (Bl Al 1 [] O (BO (C9 (i:=0) (o':=Eg xq m (b45::mu) b54 (.func s.next ⟨b,ρ⟩)) O (oe (by simp only[Eg,Xu,Ig hl,Tl hsc];rfl))) (Gk (((KZ (q:=xq) (m:=m) (b:=b45) [_] hl hw1).cons _).trans (KZ (q:=xq) (m:=m) (b:=b54) [_] (Cy hl) hw2)) (Am (⟨O,_,_,⟨_,_,O,O,O⟩,(Cu [] [_] O),⟨_,Cy (Cy hl),⟨[_,_],O⟩,Xx (q:=xq) (b:=b54) (Cy hl),O⟩⟩)))))
 (try simp only[sd,se] at c2);refine Ah Al 2 [] O (Ak O (fun c3=>?_) (fun c3=>?_))
 ·(try simp only[sd,se] at c3);exfalso;rcases S0 he with e | e | e | e<;>omega
 (try simp only[sd,se] at c3);refine Ah Al 2 [] O (Ak O (fun c4=>?_) (fun c4=>?_))
 ·(try simp only[sd,se] at c4);exfalso;rcases S0 he with e | e | e | e<;>omega
 (try simp only[sd,se] at c4);refine Ai (Ah Al 2 [] O (Ak O (fun c5=>?_) (fun c5=>?_)))
 ·(try simp only[sd,se] at c5);obtain⟨p,v1,s1,rfl,h1,hp⟩:=Wy he c5;have hle1:=(Fo h1).2.2.1;have hle2:s1.objs.length≤s'.objs.length:=by obtain⟨_,_,_,_,rfl⟩:=OS hp;simp[NS.new];omega
  refine An (Ak O (fun c6=>?_) (fun c6=>?_))
  ·(try simp only[sd,se] at c6);refine Ai (Bt (fun k=>Nat.beq k 9||Nat.beq k 10) EY (BE Al 6 [0,0] O (A7 O (fun _=>As BI O O Ad (BB O) (Ay _)) Af (BE Al 2 [] O (FG [] O O (Cb O O (List.perm_append_comm (l₁:=[_])) ((hX m mu s s1 v1 hl).1 p ρ h1) (Kx)) AZ (Jw hl hle1 _) (FL _) ?_)))));rintro _ _ ⟨_,⟨_,hl1,⟨w,rfl⟩,rfl,rfl⟩,rfl⟩;refine⟨(.box b4 [.p (I tk),.p (I ti),.p (.str tn),.p (.lst (List.map B0 tl)),.p (.lst (A1 [p]))]:: .box m [.p (.lst []),.p (I s1.left),.p (I s1.nodes)]::GG xq m (w++mu) (w++mu) s1.objs),List.perm_append_comm,AB,Af,?_⟩;refine FG [] O O (Cb O O (List.perm_append_comm (l₁:=[_])) (WX m (w++mu) s1 s' nv v1 hl1 hp) (aw bw (aw (we (by show AV.p (I tk)=_;rw[c5])) (aw bw Gy)))) AZ (Jw (mu:=(w++mu)) hl1 hle2 _) (FL _) ?_;rintro _ _ ⟨_,⟨_,hl2,⟨w1,rfl⟩,rfl,rfl⟩,rfl⟩;refine⟨(.box b4 [.p (I tk),.p (I ti),.p (.str tn),.p (.lst (List.map B0 tl)),.p (.lst (A1 [p]))]:: .box m [.p (.lst []),.p (I s'.left),.p (I s'.nodes)]::GG xq m (w1++(w++mu)) (w1++(w++mu)) s'.objs),List.perm_append_comm,AB,Af,?_⟩;refine Bl Al 1 [] O (Am ?_);exact⟨O,_,_,⟨_,_,O,O,O⟩,(Cu [] [_] O),⟨_,hl2,⟨w1++w,by simp⟩,rfl,rfl⟩⟩
  (try simp only[sd,se] at c6);exfalso;omega
 (try simp only[sd,se] at c5);exfalso;rcases S0 he with e | e | e | e<;>omega
theorem W5:∀(n:Nat),XC n→∀(m:Nat) (mu:List Nat) (s s':NS) (nv:NV) (a:Nat),mu.length=s.objs.length→F4 (n+1) (.force a) s= .ok (nv,s')→BK Tryz.prog 105 [.p (Gp mu a),.p (.addr m)] (HS xq m mu s) (QW xq m mu nv s'):=by
 intro n hX m mu s s' nv a hl h;have hlt:a<mu.length:=by have:=(Fo h).2.1;rw[hl];simpa [Wi] using this
 obtain⟨t,ρ,k,hg,hk⟩:=Sx h;refine Ar Tryz.func105 O YI (n:=30) O O (Ah Al 1 [] O (Ai (Ai ?_)));rcases hk with ⟨rfl,rfl⟩ | ⟨rfl,s1,t2,ρ2,k2,h1,hg1,rfl⟩
 ·obtain⟨tk,ti,tn,tl,ts⟩:=t;refine Ap (Ba O (Aj O (Bc O) (Aj O (BH I9 O O) (Aj O (BT (i:=s.objs.length - 1 - a+1) SU O (Cn hl hg) O) (Aj O (IA AZ O O O) (Bb O ?_))))));refine Ak O (fun c=>by cases c) (fun c=>?_);exact An (Ao (Ba O (Aj O (Bc O) (Aj O (BH I9 O O) (Aj O (BT (i:=s.objs.length - 1 - a+1) SU O (Cn hl hg) O) (Ag Al 1 [] O (Am (⟨O,_,_,⟨_,_,O,O,O⟩,(Cu [] [] O),⟨_,hl,⟨[],O⟩,O,O⟩⟩))))))))
 obtain⟨tk,ti,tn,tl,ts⟩:=t;obtain⟨uk,ui,un,ul,us⟩:=t2;have hle1:=(Fo h1).2.2.1;refine Ap (Ba O (Aj O (Bc O) (Aj O (BH I9 O O) (Aj O (BT (i:=s.objs.length - 1 - a+1) SU O (Cn hl hg) O) (Aj O (IA AZ O O O) (Bb O ?_))))));refine Ak O (fun c=>?_) (fun c=>by cases c);refine Ai (Bt (fun k=>Nat.beq k 10) EY (BE Al 3 [] O (A7 O (fun _=>Bc O) Af (A7 O (fun _=>BH I9 O O) Af (Gl (j:=s.objs.length - 1 - a+1) O O (Cn hl hg) (fun H i hi=>C4 (i:=i) Be O hi O O) AB Af (A7 O (fun _=>B8 O) Af (A7 O (fun _=>Bc O) Af (A7 O (fun _=>BH I9 O O) Af (Gl (j:=s.objs.length - 1 - a+1) O O (Cn hl hg) (fun H i hi=>BT (i:=i) XW O hi O) AB Af (FG [] O O (Cb O O (List.perm_append_comm (l₁:=[])) ((hX m mu s s1 nv hl).1 (.mk tk ti tn tl ts) ρ h1) (Kx)) AZ (Jw hl hle1 _) (FL _) ?_))))))))));rintro _ _ ⟨_,⟨_,hl1,⟨w,rfl⟩,rfl,rfl⟩,rfl⟩;refine⟨(.box m [.p (.lst []),.p (I s1.left),.p (I s1.nodes)]::GG xq m (w++mu) (w++mu) s1.objs),List.perm_append_comm,AB,Af,?_⟩;refine A7 O (fun _=>Bc O) Af (A7 O (fun _=>BH I9 O O) Af (HF O O (Rn (q:=xq) (m:=m) (nv:=nv) SU hl1 hg1 (HL hlt) O O) (by repeat' first | exact trivial | refine And.intro ?_ ?_ | exact Or.inl AZ) Af ?_));refine F5 O AZ (Ap (Ba O (Aj O (Bc O) (Aj O (BH I9 O O) ?_))));have hl2:(w++mu).length=(s1.set a (.thunk (.mk uk ui un ul us) ρ2 (some nv))).objs.length:=by simp only[NS.set,List.length_set];exact hl1
 have hg2:=QP (o':= .thunk (.mk uk ui un ul us) ρ2 (some nv)) hg1;refine Aj O (Tx (q:=xq) (m:=m) XW hl2 hg2 (HL hlt) O O) (Bv (Qt hl2 hg2 (HL hlt)) ?_);rw[set_set];have hl3:(w++mu).length=(s1.set a (.thunk (.mk uk ui un ul us) none (some nv))).objs.length:=by simp only[NS.set,List.length_set];exact hl1
 have hg3:=QP (o':= .thunk (.mk uk ui un ul us) none (some nv)) hg1;exact Bb O (Ao (Ba O (Aj O (Bc O) (Aj O (BH I9 O O) (Aj O (BT (i:=(s1.set a (.thunk (.mk uk ui un ul us) none (some nv))).objs.length - 1 - a+1) SU O (QX hl3 hg3 (HL hlt)) O) (Ag Al 1 [] O (Am (⟨O,_,_,⟨_,_,O,O,O⟩,(Cu [] [] O),⟨_,hl3,⟨w,O⟩,O,O⟩⟩))))))))
theorem Up:∀(rows:List (List PV)),Dp Tryz.prog 257 [.p (.lst rows)] (.p (.lstc rows)):=by
 intro rows;refine Ar Tryz.func257 O Yp (n:=9) O O (Ah Al 1 [] O (Ao (Aq Al 2 [] O (Aj O (A8 En O O) (Ba O (Aj O (A8 En O O) (Aj O (R3 En O O O O) (Ag Al 1 [] O (Am (⟨O,_,_,⟨_,_,O,O,O⟩,(List.nil_sublist _),?_⟩))))))))))
 all_goals exact⟨rfl,rfl⟩
theorem Yn:∀(n m:Nat) (mu:List Nat) (s s':NS) (nv:NV) (a x:Nat),mu.length=s.objs.length→F4 (n+1) (.apply (.st a) x) s= .ok (nv,s')→BK Tryz.prog 255 [.p (Gp mu a),.p (.addr m),.p (Gp mu x)] (HS xq m mu s) (QW xq m mu nv s'):=by
 intro n m mu s s' nv a x hl h;obtain⟨hd,args,hg,hal,hk3,hbn,hw,rfl,rfl⟩:=YK h;obtain⟨hk,hv,⟨ok,oi,on,ol,os⟩,hks,hb⟩:=hd;simp only at hk3 hbn;subst hbn;refine Ar Tryz.func255 O YW (n:=123) O O (Ah Al 1 [] O (Ai (Ao (Ba O (Aj O (Bc O) (Aj O (BH K6 O O) (Aj O (BT (i:=s.objs.length - 1 - a+1) QU O (Cn hl hg) O) (Aj O (A8 En O (GX _ _)) (Ag Al 1 [] O (Ak O (fun c=>?_) (fun c=>?_)))))))))))
 ·(try simp only[sd,se] at c);exfalso;omega
 (try simp only[sd,se] at c);refine An (Ai (Bt (fun k=>Nat.beq k 11||Nat.beq k 13) EY (A7 O (fun _=>B8 O) Af (A7 O (fun _=>Bc O) Af (A7 O (fun _=>BH K6 O O) Af (Gl (j:=s.objs.length - 1 - a+1) O O (Cn hl hg) (fun H i hi=>C4 (i:=i) Vx O hi O O) AB Af (A7 O (fun _=>B8 O) Af (A7 O (fun _=>Bc O) Af (A7 O (fun _=>BH K6 O O) Af (Gl (j:=s.objs.length - 1 - a+1) O O (Cn hl hg) (fun H i hi=>BT (i:=i) QU O hi O) AB Af (A7 O (fun _=>A0 O O (Up (LA mu args)) O) Af (A7 O (fun _=>B8 O) Af (A7 O (fun _=>Bi En XZ O O O O O) Af ?_)))))))))))));refine Xf [] O O (JL En En XZ O O O (Tq _ _) O (Qg mu [x]) (Nat.succ_pos 0) (by rw[GX];show 2*(args.length+1)*8≤_;omega)) AZ fun b32 cp=>⟨(by repeat' first | exact trivial | refine And.intro ?_ ?_ | exact Or.inr ⟨List.mem_of_getElem? (Cn hl hg),List.mem_cons_of_mem _ (List.mem_of_getElem? (Cn hl hg))⟩),Af,?_⟩;refine A7 O (fun _=>D7 K6 X1 O) Af (Jy [] O O (BF O) AZ fun b34=>⟨AB,Af,?_⟩);refine Bl Al 1 [] O (Ai (Ao (Bv (Bz (i:=1) (j:=0) (q:=9) [32] O O O (Cq ⟨O,Af⟩)) (Ba O (Aj O (Bc O) (Aq Al 2 [] O (Aj O (BT (i:=s.objs.length - 1 - a+1+1) VV O (Cn hl hg) O) (Ag Al 1 [] O (Ak O (fun c1=>?_) (fun c1=>?_))))))))))
 ·(try simp only[sd,se] at c1);exact Ao (Ba O (Aj O (Dn AZ O) (Ag Al 1 [] O (BO (C9 (i:=0) (o':=Eg xq m mu b34 (.stuck ⟨hk,hv,.mk ok oi on ol os,hks,none⟩ (args++[x]))) O (oe (by simp only[Eg,LA,List.map_append];rfl))) (Gk (KZ (q:=xq) (m:=m) (b:=b34) [] hl hw) (Am (⟨O,_,_,⟨_,_,O,O,O⟩,(List.Sublist.refl _),⟨_,Cy hl,⟨[_],O⟩,Rx (q:=xq) (b:=b34) hl,O⟩⟩)))))))
 (try simp only[sd,se] at c1);exfalso;omega
theorem MA:∀n,XC n
 | 0=>fun m mu s s' nv hl=>⟨fun _ _ h=>(by cases h),fun _ h=>(by cases h),fun _ _ h=>(by cases h),fun _ _ h=>(by cases h),fun _ _ h=>(by cases h)⟩
 | n+1=>fun m mu s s' nv hl=>⟨fun t ρ h=>Yo n (MA n) m mu s s' nv t ρ hl h,fun a h=>W5 n (MA n) m mu s s' nv a hl h,fun a x h=>ZQ n (MA n) m mu s s' nv a x hl h,fun a x h=>Yn n m mu s s' nv a x hl h,fun b x h=>XR n (MA n) m mu s s' nv b x hl h⟩
def QC (n:Nat):Prop:=∀(m:Nat) (mu:List Nat) (s s':NS) (t:Tm) (a:Nat) (d:Int),mu.length=s.objs.length→Fx n s (.st a) d= .ok (t,s')→BK Tryz.prog 256 [.p (Gp mu a),.p (.addr m),.p (I d)] (HS xq m mu s) (ZY xq m mu t s')
theorem O4:∀(n:Nat),QC n→∀(m:Nat) (mu:List Nat) (s s':NS) (t:Tm) (x:Nat) (d:Int),mu.length=s.objs.length→LH (Fx n) n s x d= .ok (t,s')→BK Tryz.prog 248 [.p (Gp mu x),.p (.addr m),.p (I d)] (HS xq m mu s) (ZY xq m mu t s'):=by
 intro n hQ m mu s s' t x d hl h;obtain⟨a,s1,hf,hq⟩:=TE h;refine Ar Tryz.func248 O Zn (n:=13) O O (Ao (A6 O (Ax Bh O) fun b6=>Bb O (Ao (Aq Al 2 [] O (GI O O (Cb O O (List.perm_append_comm (l₁:=[_])) ((MA n m mu s s1 (.st a) hl).2.1 x hf) (Kx)) (FL _) ?_)))));rintro _ _ ⟨_,⟨_,hl1,⟨w,rfl⟩,rfl,rfl⟩,rfl⟩;refine⟨(.box b6 [.p (I 0),.p (I 0),.p (.str ⟨#[]⟩),.p (.nils),.p (.nils)]:: .box m [.p (.lst []),.p (I s1.left),.p (I s1.nodes)]::GG xq m (w++mu) (w++mu) s1.objs),List.perm_append_comm,?_⟩;refine Aq Al 2 [] O (GI O O (Fi O O AZ (List.perm_append_comm (l₁:=[_])) (hQ m (w++mu) s1 s' t a d hl1 hq) (Kx)) (NX _) ?_);rintro _ _ ⟨_,⟨_,hl2,⟨w1,rfl⟩,rfl,rfl⟩,rfl⟩;refine⟨(.box b6 [.p (I 0),.p (I 0),.p (.str ⟨#[]⟩),.p (.nils),.p (.nils)]:: .box m [.p (.lst []),.p (I s'.left),.p (I s'.nodes)]::GG xq m (w1++(w++mu)) (w1++(w++mu)) s'.objs),List.perm_append_comm,?_⟩;refine Ag Al 1 [0,1] O (Am ?_);exact⟨O,_,_,⟨_,_,O,(BD (i:=0) Be O O AW),O⟩,(Cu [] [_] O),⟨_,hl2,⟨w1++w,by simp⟩,rfl,rfl⟩⟩
theorem di (t:Tm):∀c∈BA t,c≠ .nils:=by obtain⟨k,i,n,l,s⟩:=t;simp[BA]
theorem Dm (l:List Tm):∀r∈A1 l,∀c∈r,c≠ .nils:=by
 intro r hr;rw[DA] at hr;obtain⟨t,_,rfl⟩:=List.mem_map.1 hr;exact di t
end Go.Proofs.YtldfmjoncbjldaaGreat
namespace Go.Eu
open Go.Abs
theorem LB {vs:List Tm}(h:∀v∈vs,okB v=true):IX vs∧K8 vs∧Oc vs:=HT vs (FN.2 fun t ht=>Vl (h t ht))
theorem LF.zero:LF E1:=LF.num (n:=0) Ad
theorem JR (l:List Tm) (k:Nat):A4 (l.take k)+A4 (l.drop k)=A4 l:=by rw[←HZ,List.take_append_drop]
theorem G7:∀(t:Tm),size (A3 t).1+A4 (A3 t).2+(A3 t).2.length=size t
 | .mk k i n l [f,a]=>by
  unfold A3;split
  ·have:=G7 f;simp only[HZ,A4,size,List.length_append,List.length_cons,List.length_nil];omega
  ·simp[A4]
 | .mk k i n l []=>by simp[A3,A4]
 | .mk k i n l [_]=>by simp[A3,A4]
 | .mk k i n l (_::_::_::_)=>by simp[A3,A4]
mutual
def HA:FX→Nat
 | .mk _ _ _ l=>1+JZ l
def Rr:HY→Nat
 | .mk _ _ t=>HA t
def JZ:List HY→Nat
 | []=>0
 | b::l=>max (Rr b) (JZ l)
end
structure SW (E:List Cg):Prop where
 g:Xl E
 vl:∀d∈E,size d.value≤400
 ru:∀d∈E,∀t∈d.recs.rules,size t≤400
 fu:∀d∈E,∀f∈d.funs,HA f.tree≤50
theorem Nn {nm:ByteArray}:∀{l:List HY}{t:FX},DO nm l=some t→MZ l→Kz t∧HA t≤JZ l
 | .mk c a q::l,t,h,ho=>by
  simp only[MZ,Vw] at ho;rw[DO] at h;simp only[JZ,Rr];split at h
  ·split at h
   ·cases h
   cases h;exact⟨ho.1,by simp only[HY.tree];omega⟩
  obtain⟨h1,h2⟩:=Nn h ho.2;exact⟨h1,by omega⟩
theorem WD {nm:ByteArray}{t t':FX}(h:DO nm t.branches=some t') (ho:Kz t):Kz t'∧HA t' < HA t:=by
 obtain⟨k,b,v,l⟩:=t;simp only[Kz] at ho;obtain⟨h1,h2⟩:=Nn h ho.2;exact⟨h1,by simp only[HA,FX.branches] at *;omega⟩
theorem Rd {E:List Cg}{nm:ByteArray}{d:Cg}{j:Int}(h:Hp E nm=some (d,j)):d∈E∧(0≤j→j<d.ctors.length):=by
 unfold Hp at h;split at h
 ·cases h
 rename_i h0;obtain⟨i,d',h1,h2⟩:=TB (Decidable.not_not.1 h0);have hd:CH E (DJ E nm).1.decl=d':=Pv (by rw[h2.decl];simpa using h1);have hm:=List.mem_of_getElem? h1;rw[hd] at h;split at h
 ·cases h;exact⟨hm,fun q=>by omega⟩
 split at h
 ·rename_i h4;obtain⟨k,c,h5,h6⟩:=h2.ctor h4;cases h;exact⟨hm,fun _=>by have:=(List.getElem?_eq_some_iff.1 h5).1;omega⟩
 split at h
 ·cases h;exact⟨hm,fun q=>by omega⟩
 cases h
structure Wn (E:List Cg) (t:Tm) (d:Cg) (j:Int) (f:List Tm):Prop where
 mem:d∈E
 lo:0≤j
 hi:j<d.ctors.length
 fs:f=(A3 t).2.drop d.fixed.toNat
 len:((A3 t).2.length:Int)=d.fixed+Jm d j
 kind:(A3 t).1.kind=3
theorem KP {E:List Cg}{t:Tm}{d:Cg}{j:Int}{f:List Tm}(h:F8 E t=some (d,j,f)):Wn E t d j f:=by
 unfold F8 at h;split at h
 ·cases h
 rename_i hk;split at h
 ·cases h
 rename_i d' j' hf;obtain⟨h1,h2⟩:=Rd hf;split at h
 ·cases h
 split at h
 ·cases h
 rename_i h3 h4;cases h;exact⟨h1,by omega,h2 Ad,rfl,Decidable.not_not.1 h4,Decidable.not_not.1 hk⟩
theorem OI {E:List Cg}{t:Tm}{d:Cg}{j:Int}{f:List Tm}(h:F8 E t=some (d,j,f)) (ho:okB t=true):(∀x∈f,okB x=true∧size x<size t)∧A4 f+f.length<size t:=by
 have c:=KP h;have hs:=G7 t;have hp:=size_pos (A3 t).1;have hd:=JR (A3 t).2 d.fixed.toNat;rw[c.fs];refine⟨fun x hx=>⟨(Ir ho).2 x (List.mem_of_mem_drop hx),?_⟩,by rw[List.length_drop];omega⟩;have:=Q7 (List.mem_of_mem_drop hx);omega
theorem S9 {E:List Cg}{t:Tm}{d:Cg}{j:Int}{f:List Tm}(hE:Xl E) (h:F8 E t=some (d,j,f)):f.length≤1000000:=by
 have c:=KP h;have hd:=hE.all d c.mem;have hlo:=c.lo;have hhi:=c.hi;have hlt:j.toNat<d.ctors.length:=by omega
 have hx:=List.getElem?_eq_getElem hlt;have hs:=(hd.din.cs _ (List.getElem_mem hlt)).ty.sz;have hl:=Nk d.ctors[j.toNat].type;have hfx:=hd.fx;have hlen:=c.len;rw[c.fs,List.length_drop];unfold Jm XJ Im at hlen;rw[Pv hx] at hlen;omega
def Es {α:Type}(o:Out α) (p:α→Prop):Prop:=match o with
 | .stuck=>False
 | .fail=>True
 | .ok a=>p a
section
variable {α β σ:Type}
theorem Es.ok {a:α}{p:α→Prop}(h:p a):Es (.ok a) p:=h
theorem Es.ns {o:Out α}{p:α→Prop}(h:Es o p):o≠ .stuck:=fun e=>by rw[e] at h;exact h
theorem Es.get {o:Out α}{p:α→Prop}{a:α}(h:Es o p) (e:o= .ok a):p a:=by rw[e] at h;exact h
theorem Es.mono {o:Out α}{p q:α→Prop}(h:Es o p) (hpq:∀a,p a→q a):Es o q:=by
 cases o with
 | stuck=>exact h
 | fail=>trivial
 | ok a=>exact hpq a h
theorem Es.bind {o:Out α}{k:α→Out β}{p:α→Prop}{q:β→Prop}(h:Es o p) (hk:∀a,p a→Es (k a) q):Es (o.bind k) q:=by
 cases o with
 | stuck=>exact h
 | fail=>trivial
 | ok a=>exact hk a h
theorem Es.chk {o:Out (Tm×σ)}{k:Tm×σ→Out β}{p:Tm×σ→Prop}{q:β→Prop}(h:Es o p) (hk:∀a,p a→okB a.1=true∧Es (k a) q):Es (o.chk k) q :=
 Es.bind h fun a ha=>by rw[if_pos (hk a ha).1];exact(hk a ha).2
theorem Es.put {S:Sys σ}{s:σ}{x:Tm×Int}{k:Tm→σ→Out β}{q:β→Prop}(ho:okB x.1=true) (hk:∀s',S.res s x.1 x.2=some s'→Es (k x.1 s') q):Es (S.put s x k) q:=by
 unfold Sys.put;rw[if_pos ho];cases h:S.res s x.1 x.2 with
 | none=>trivial
 | some s'=>exact hk s' h
end
structure TU {σ:Type} (S:Sys σ) (J:σ→Prop) (cnt:σ→Nat) (C:Nat):Prop where
 nov:∀s,J s→S.over s=false→cnt s≤C
 res:∀s t e s',J s→cnt s<1152921504606846976→okB t=true→S.res s t e=some s'→J s'∧cnt s'=cnt s+1
 hC:C≤20000
section
variable {σ:Type}(S:Sys σ) (J:σ→Prop) (cnt:σ→Nat) (C:Nat)
structure Y1 (s:σ) (t:Tm) (r:Tm×σ):Prop where
 j:J r.2
 ok:okB r.1=true
 le:cnt s≤cnt r.2
 sz:size r.1≤size t+(cnt r.2 - cnt s)*4500
 ub:S.over s=false→cnt r.2≤C+1+size t+(C - cnt s)*4500
 st:S.over s=true→r.2=s
structure aE (n:Nat) (s:σ) (t:Tm):Prop where
 j:J s
 ok:okB t=true
 pm:S.over s=false→size t+(C - cnt s)*4500≤90100000
 fu:S.over s=false→size t+(C - cnt s)*4501+100≤n
 n1:1≤n
def ZB (n:Nat) (W:σ→Tm→Out (Tm×σ)):Prop:=∀s t,aE S J cnt C n s t→Es (W s t) (Y1 S J cnt C s t)
end
section
variable {σ:Type}{S:Sys σ}{J:σ→Prop}{cnt:σ→Nat}{C:Nat}{E:List Cg}{n:Nat}{W:σ→Tm→Out (Tm×σ)}
variable (hS:TU S J cnt C) (hE:SW E) (hW:ZB S J cnt C n W)
structure dy (S:Sys σ) (J:σ→Prop) (cnt:σ→Nat) (C n V Z:Nat) (s:σ) (vars:List Tm) (last:Tm):Prop where
 j:J s
 ok:∀v∈vars,okB v=true
 lok:okB last=true
 pm:S.over s=false→∀v∈vars,size v+(C - cnt s)*4500≤V
 fu:S.over s=false→∀v∈vars,size v+(C - cnt s)*4501+100≤n
 lm:S.over s=false→size last+(C - cnt s)*4500≤V∧size last+(C - cnt s)*4501+100≤n
 zs:∀v∈vars,size v≤Z
 lz:size last≤Z
structure dX (S:Sys σ) (J:σ→Prop) (cnt:σ→Nat) (C n V L Z:Nat) (s:σ) (q:(Option (Tm×List Tm)×Tm)×σ):Prop where
 j:J q.2
 le:cnt s≤cnt q.2
 ub:S.over s=false→cnt q.2≤C+1+V
 st:S.over s=true→q.2=s
 ok:∀b vars,q.1.1=some (b,vars)→okB b=true∧∀v∈vars,okB v=true
 vl:∀b vars,q.1.1=some (b,vars)→vars.length≤L∧A4 vars<1125899906842624
 lok:okB q.1.2=true
 lz:q.1.1=none→size q.1.2≤Z+(cnt q.2 - cnt s)*4500
 lm:S.over q.2=false→q.1.1=none→size q.1.2+(C - cnt q.2)*4500≤V∧size q.1.2+(C - cnt q.2)*4501+100≤n
include hS hE hW
end
section
variable {σ:Type}{S:Sys σ}{J:σ→Prop}{cnt:σ→Nat}{C:Nat}{E:List Cg}{n:Nat}{W:σ→Tm→Out (Tm×σ)}
structure dM (S:Sys σ) (J:σ→Prop) (cnt:σ→Nat) (C:Nat) (s:σ) (z:Nat) (r:Option Tm×σ):Prop where
 j:J r.2
 le:cnt s≤cnt r.2
 ub:cnt r.2≤C+1+z+(C - cnt s)*4500
 ok:∀x,r.1=some x→okB x=true∧cnt s+1≤cnt r.2∧size x≤z+(cnt r.2 - cnt s)*4500
variable (hS:TU S J cnt C)
include hS
variable (hE:SW E)
include hE
variable (hW:ZB S J cnt C n W)
include hW
end
section
variable {σ:Type}{S:Sys σ}{J:σ→Prop}{cnt:σ→Nat}{C:Nat}{E:List Cg}
variable (hS:TU S J cnt C) (hE:SW E)
include hS
include hE
end
def My:Tm→List Int→Tm→Prop
 | t,[],v=>t=v
 | t,p::ps,v=>∃y,(A3 t).2[p.toNat]?=some y∧My y ps v
theorem MJ {k:Int}{w:Tm}:∀{ps:List Int}{t v:Tm},My t ps v→(A3 v).2[k.toNat]?=some w→My t (ps++[k]) w
 | [],t,v,h,hw=>by cases h;exact⟨w,hw,rfl⟩
 | p::ps,t,v,⟨y,h1,h2⟩,hw=>⟨y,h1,MJ h2 hw⟩
structure We (a vars:List Tm) (pl:List (Int×List Int)):Prop where
 len:pl.length=vars.length
 at_:∀(i:Nat) v,vars[i]?=some v→∃j path y,pl[i]?=some (j,path)∧a[j.toNat]?=some y∧My y path v
theorem PB (p:Int×List Int) (fx:Int) (n:Nat):(Hq p fx n).length=n:=by simp[Hq]
theorem We.more {a vars:List Tm}{pl:List (Int×List Int)}(h:We a vars pl) {i:Nat}{v:Tm}{p:Int×List Int}(hv:vars[i]?=some v) (hp:pl[i]?=some p) {fx:Int}(hfx:0≤fx):We a (vars++(A3 v).2.drop fx.toNat) (pl++Hq p fx ((A3 v).2.drop fx.toNat).length):=by
 refine⟨by rw[List.length_append,List.length_append,h.len,PB],fun q w hw=>?_⟩;by_cases hq:q<vars.length
 ·rw[List.getElem?_append_left hq] at hw;rw[List.getElem?_append_left (by rw[h.len];exact hq)];exact h.at_ q w hw
 rw[List.getElem?_append_right Ad] at hw;rw[List.getElem?_append_right (by rw[h.len];omega),h.len];obtain⟨j,path,y,h1,h2,h3⟩:=h.at_ i v hv;rw[hp] at h1;cases h1;have hlt:=(List.getElem?_eq_some_iff.1 hw).1;rw[List.getElem?_drop] at hw;refine⟨j,path++[fx+((q - vars.length:Nat):Int)],y,?_,h2,MJ h3 (by rw[show (fx+((q - vars.length:Nat):Int)).toNat=fx.toNat+(q - vars.length) by omega];exact hw)⟩;rw[Hq,List.getElem?_map,List.getElem?_range hlt];rfl
section
variable {σ:Type}{S:Sys σ}{J:σ→Prop}{cnt:σ→Nat}{C:Nat}{E:List Cg}
structure dP (S:Sys σ) (J:σ→Prop) (cnt:σ→Nat) (s:σ) (z:Nat) (r:Option Tm×σ):Prop where
 j:J r.2
 le:cnt s≤cnt r.2
 ub:cnt r.2≤cnt s+1
 ok:∀x,r.1=some x→okB x=true∧size x≤z+4500
variable (hS:TU S J cnt C) (hE:SW E)
omit hS hE in
include hS
include hE
end
section
variable {σ:Type}{S:Sys σ}{J:σ→Prop}{cnt:σ→Nat}{C:Nat}{E:List Cg}
variable (hS:TU S J cnt C) (hE:SW E)
include hS hE
end
def eB (c:Gw):Prop:=c.limit=1000∧0≤c.steps∧(c.over=false→c.steps≤1000)
def eM (n:Int):Prop:=0≤n∧n≤20000
section
variable {E:List Cg}{t:Tm}{k i:Int}{n:ByteArray}{ls:List CE}{ks:List Tm}
end
section
variable {E:List Cg}{t:Tm}{k i:Int}{n:ByteArray}{ls:List CE}{ks:List Tm}
end
def dD (E:List Cg) (t:Tm):Cg×Int×List Tm×Bool:=match F8 E t with
 | some (d,j,l)=>(d,j,l,true)
 | none=>(WB,0,[],false)
end Go.Eu
namespace Go.Eu
def bV (nm:ByteArray):List HY→Int→Int
 | [],_=> -1
 | b::l,i=>if b.ctor=nm then i else bV nm l (i+1)
end Go.Eu
namespace Go.Eu
open Go.Abs
theorem SG {nm:ByteArray}:∀{l:List HY}{t:FX},DO nm l=some t→Kq l→FI t
 | .mk c a q::l,t,h,ho=>by
  simp only[Kq,QV] at ho;rw[DO] at h;split at h
  ·split at h
   ·cases h
   cases h;exact ho.1.2
  exact SG h ho.2
theorem Y2 {nm:ByteArray}{t t':FX}(h:DO nm t.branches=some t') (ho:FI t):FI t':=SG h ho.bs
def e7 (q:Option (Tm×List Tm)×Tm):Tm:=match q.1 with
 | some (b,_)=>b
 | none=>BN
def ep (q:Option (Tm×List Tm)×Tm):List Tm:=match q.1 with
 | some (_,v)=>v
 | none=>[]
structure WZ (y:FX) (us:List Tm):Prop where
 tin:FI y
 tok:Kz y
 len:us.length+HA y*1000000≤100000000
 ok:∀v∈us,okB v=true
theorem WZ.next {E:List Cg}{y q:FX}{us f:List Tm}{x:Tm}{nm:ByteArray}{d:Cg}{j:Int}(h:WZ y us) (hE:Xl E) (hx:okB x=true) (hc:F8 E x=some (d,j,f)) (hb:DO nm y.branches=some q):WZ q (us++f):=by
 obtain⟨h1,h2⟩:=WD hb h.tok;have h3:=S9 hE hc;have h4:=h.len;refine⟨Y2 hb h.tin,h1,by rw[List.length_append];omega,fun v hv=>?_⟩;rcases List.mem_append.1 hv with hv | hv
 ·exact h.ok v hv
 exact((OI hc hx).1 v hv).1
def Sg:FX:= .mk 0 BN 0 []
def ea (nm:ByteArray):List HY→FX×Bool
 | []=>(Sg,false)
 | b::l=>if b.ctor=nm then (b.tree,!b.absurd) else ea nm l
def ez (nm:ByteArray) (l:List HY):FX×Bool:=match DO nm l with
 | some q=>(q,true)
 | none=>(Sg,false)
section
variable {E:List Cg}{σ:Type}{S:Sys σ}{W:σ→Tm→Out (Tm×σ)}{n:Nat}{h m:Tm}{a:List Tm}{s:σ}{d:Cg}{x:HW}
end
section
variable {E:List Cg}{σ:Type}{S:Sys σ}{W:σ→Tm→Out (Tm×σ)}{n:Nat}{h m:Tm}{a:List Tm}{s:σ}{d:Cg}{x:HW}
end
section
variable {E:List Cg}{σ:Type}{S:Sys σ}{n:Nat}{t:Tm}{s:σ}
end
structure cG (w:Tm):Prop where
 ok:okB w=true
 nd:Nd w
 sz:size w<549755813888
 len:(A3 w).2.length<549755813888
 head:okB (A3 w).1=true
 args:∀x∈(A3 w).2,okB x=true
 asz:A4 (A3 w).2+(A3 w).2.length<size w
theorem Vh {w:Tm}(h:okB w=true):cG w:=by
 have h1:=PY h;have h2:=G7 w;have h3:=size_pos (A3 w).1;exact⟨h,(Jd.1 h).nd,h1,by omega,(Ir h).1,(Ir h).2,by omega⟩
def Ld (L:List (List Tm)):List (List PV):=L.map fun l=>[.lst (A1 l)]
theorem MD {L:List (List Tm)}{i:Nat}{l:List Tm}(h:L[i]?=some l):(Ld L)[i]?=some [.lst (A1 l)]:=by simp[Ld,h]
theorem Lq {L:List (List Tm)}{i:Nat}{l:List Tm}(h:L[i]?=some l):((L.take (i+1)).map List.length).sum=((L.take i).map List.length).sum+l.length:=by
 simp[List.take_add_one,h]
theorem HU {L:List (List Tm)}{i:Nat}{l:List Tm}(h:L[i]?=some l):(L.take (i+1)).flatten=(L.take i).flatten++l:=by
 simp[List.take_add_one,h]
def J0 (t:Tm):Out (Option Tm) :=
 if (A3 t).1.kind=0∨(A3 t).1.kind=3 then .ok none
 else if (A3 t).1.kind=5 then match (A3 t).2,(A3 t).1.kids with
  | [],_=> .ok none
  | x::xs,[d,b]=>gd (decide ((Cs b [x] 0).2=0)) (.ok (some (apply (Cs b [x] 0).1 xs)))
  | _,_=> .stuck
 else .stuck
def PG (W:Tm→Out Bool):List Tm→Out Bool
 | []=> .ok true
 | x::xs=>(W x).bind fun b=>if b=true then PG W xs else .ok false
def OJ:Nat→Tm→Out Bool
 | 0,_=> .stuck
 | n+1,t=>gd (okB t) ((J0 t).bind fun q=>if q.isSome=true then gd (okB (q.getD BN)&&decide (size (q.getD BN)≤4096)&&decide (Dc (q.getD BN)≤200)) (.ok false) else gd (decide ((A3 t).1.kids.length<1000)&&decide ((A3 t).2.length<1000)) (PG (OJ n) ((A3 t).1.kids++(A3 t).2)))
theorem UK:OJ 9 Zr= .ok false:=rfl
theorem Tv:OJ 9 Z0= .ok true:=rfl
theorem UR {t:Tm}{q:Option Tm}(h:J0 t= .ok q):(A3 t).1.kind=0∨(A3 t).1.kind=3∨(A3 t).1.kind=5:=by
 unfold J0 at h;split at h
 ·rename_i e;rcases e with e | e
  ·exact .inl e
  exact .inr (.inl e)
 split at h
 ·rename_i e;exact .inr (.inr e)
 cases h
theorem L5 {t:Tm}{q:Option Tm}(h:J0 t= .ok q) (hk:(A3 t).1.kind=0∨(A3 t).1.kind=3):q=none:=by
 unfold J0 at h;rw[if_pos hk] at h;injection h with h;exact h.symm
theorem NL {t:Tm}{q:Option Tm}(h:J0 t= .ok q) (hk:(A3 t).1.kind=5):((A3 t).2=[]∧q=none)∨∃x xs d b,(A3 t).2=x::xs∧(A3 t).1.kids=[d,b]∧(Cs b [x] 0).2=0∧q=some (apply (Cs b [x] 0).1 xs):=by
 unfold J0 at h;rw[if_neg Ad,if_pos hk] at h;split at h
 ·rename_i e;injection h with h;exact .inl ⟨e,h.symm⟩
 ·rename_i x xs d b e1 e2;obtain⟨h1,h2⟩:=CO h;injection h2 with h2;exact .inr ⟨x,xs,d,b,e1,e2,by simpa using h1,h2.symm⟩
 cases h
theorem VE {n:Nat}{t:Tm}{b:Bool}(h:OJ n t= .ok b):∃m q,n=m+1∧okB t=true∧J0 t= .ok q∧((q.isSome=true∧(okB (q.getD BN)=true∧size (q.getD BN)≤4096∧Dc (q.getD BN)≤200)∧b=false)∨(q=none∧(A3 t).1.kids.length<1000∧(A3 t).2.length<1000∧PG (OJ m) ((A3 t).1.kids++(A3 t).2)= .ok b)):=by
 cases n with
 | zero=>cases h
 | succ m =>
  obtain⟨h1,h2⟩:=CO h;obtain⟨q,h3,h4⟩:=E4 h2;refine⟨m,q,O,h1,h3,?_⟩;split at h4
  ·rename_i e;obtain⟨h5,h6⟩:=CO h4;simp only[Bool.and_eq_true,decide_eq_true_eq] at h5;injection h6 with h6;exact .inl ⟨e,⟨h5.1.1,h5.1.2,h5.2⟩,h6.symm⟩
  rename_i e;obtain⟨h5,h6⟩:=CO h4;simp only[Bool.and_eq_true,decide_eq_true_eq] at h5;exact .inr ⟨by cases q<;>simp_all,h5.1,h5.2,h6⟩
theorem Q6 {W:Tm→Out Bool}{x:Tm}{xs:List Tm}{b:Bool}(h:PG W (x::xs)= .ok b):∃c,W x= .ok c∧((c=true∧PG W xs= .ok b)∨(c=false∧b=false)):=by
 obtain⟨c,h1,h2⟩:=E4 h;refine⟨c,h1,?_⟩;cases c with
 | true=>exact .inl ⟨rfl,h2⟩
 | false=>injection h2 with h2;exact .inr ⟨rfl,h2.symm⟩
end Go.Eu
namespace Go.Abs
section
variable {P:Program}{dst:Option Tmp}{ty:TypeId}{pos:String}{aft:Array Edge}{g:Option (Nat×Bool)}{ρ:Operand→AV}{H:List Au}{x y z:Operand}{v:AV}
theorem I2 {a:Operand}{T e:TypeId}{n1 n2:Nat}(hT:C6 P T=some (e,n1,n2)) (hx:ρ a= .p .nils) :
  CK P ⟨dst,.call { callee:= .builtin .cap,args:=#[a],argTypes:=#[T] },ty,pos,aft,g⟩ ρ H (.p (.int .i64 0)) H :=
 BS fun F w E hH hE=>by
  have h1:=hE a AO;obtain⟨hu,_⟩:=CJ hT;rw[hx] at h1;simp only[BU,BY] at h1;refine⟨.int .i64 0,?_,by simp[BU,BY]⟩;simp[execOp,resolve,invoke,builtin,Builtin.cap_,h1,Sem.run_bind,run_underlying hu,goInt]
theorem Ki {T e:TypeId}{sz bytes:Nat}(hT:C6 P T=some (e,sz,bytes)) (hx:ρ x= .p .nils) (hy:ρ y= .p (.int .i64 0)):CK P ⟨dst,.slice T x none (some y) none,ty,pos,aft,g⟩ ρ H (.p .nils) H :=
 BS fun F w E hH hE=>by
  obtain⟨hu,j,hj,hs,_⟩:=CJ hT;have h:=hE x AT;have h1:=hE y AT;rw[hx] at h;rw[hy] at h1;simp only[BU,BY] at h h1;have hszr:(sizeOf e).run P w= .ok sz w:=by simp[sizeOf,typeInfo,hj,hs]
  refine⟨.slice none 0 0,?_,by simp only[BU,BY]⟩;simp[execOp,Instr.sliceAt,Sem.run_bind,run_underlying hu,h,h1,Instr.slice,Instr.sliceBounds,Instr.sliceBound,asIntOf,hszr]
theorem LP {T e:TypeId}{sz bytes b n c:Nat}(hT:C6 P T=some (e,sz,bytes)) (hx:ρ x= .vs (some b) n c) (hy:ρ y= .p (.int .i64 0)):CK P ⟨dst,.slice T x none (some y) none,ty,pos,aft,g⟩ ρ H (.vs (some b) 0 c) H :=
 BS fun F w E hH hE=>by
  obtain⟨hu,j,hj,hs,_⟩:=CJ hT;have h:=hE x AT;have h1:=hE y AT;rw[hx] at h;rw[hy] at h1;simp only[BU,BY] at h h1;have hszr:(sizeOf e).run P w= .ok sz w:=by simp[sizeOf,typeInfo,hj,hs]
  refine⟨.slice (some ⟨b,0,none⟩) 0 c,?_,by simp only[BU]⟩;simp[execOp,Instr.sliceAt,Sem.run_bind,run_underlying hu,h,h1,Instr.slice,Instr.sliceBounds,Instr.sliceBound,asIntOf,hszr,Addr.add_mid]
def SC (sz n:Nat) (H:List Au):CG→List Au→Prop
 | .val v,H'=>∃b c,v= .vs (some b) n c∧H'= .vec (some b) sz [] c::H
 | .panic _,_=>False
theorem TI {T T2 e:TypeId}{sz bytes:Nat}{n:Nat}{zv:Value}(hT:C6 P T=some (e,sz,bytes)) (hT2:P.underlying T2=some (.int .i64)) (hz:zeroOf P e=some zv) (hzs:zv.cells.size=sz) (hb0:(Nat.blt 0 sz&&Nat.blt 0 bytes)=true)
  (hx:ρ x= .p .nils) (hy:ρ y= .p (.int .i64 n)) (hn:0<n) (hroom:2*n*bytes≤281474976710656) :
  B4 P ⟨dst,.call { callee:= .builtin .append,args:=#[x,y],argTypes:=#[T,T2] },ty,pos,aft,g⟩ ρ H (SC sz n H) :=
 Er fun F w E hH hE=>by
  simp only[Bool.and_eq_true,Nat.blt_eq] at hb0;obtain⟨hu,inf,hinf,hs,hby⟩:=CJ hT;have h1:=hE x AO;have h2:=hE y AO;rw[hx] at h1;rw[hy] at h2;simp only[BU,BY] at h1 h2;unfold zeroOf at hz;have hz':∃j,P.info? e=some j∧j.zero=some zv:=by
   cases hq:P.info? e with
   | none=>simp[hq] at hz
   | some j=>exact⟨j,rfl,by simpa [hq] using hz⟩
  obtain⟨j,hj,hz'⟩:=hz';have hzv:∀w,(zeroValue e).run P w= .ok zv w:=fun w=>by simp[zeroValue,typeInfo,hj,hz',Sem.run_bind]
  have hti:∀w,(typeInfo e).run P w= .ok inf w:=fun w=>by simp[typeInfo,hinf]
  have hszr:∀w,(sizeOf e).run P w= .ok sz w:=fun w=>by simp[sizeOf,typeInfo,hinf,hs]
  have hcap':(0:Nat)<0+n:=by omega
  have hcap:¬(0+n≤0):=by omega
  have hnext:=HO hcap';generalize hnc:Question.cut (.appendCap (0+n) 0 e) (w.tape w.drawn (.appendCap (0+n) 0 e))=newCap;have hncge:0+n≤newCap:=by rw[←hnc];simp only[Question.cut];omega
  have hask:∀(b:Nat) w,(askRoom b).run P w= .ok () w:=by intro b w;unfold askRoom;split<;>rfl
  let w1:World:={ w with drawn:=w.drawn+1 }
  have same:CA F w F w1:=⟨Nat.le_refl _,fun _ _ _=>rfl,fun _ h _=>h⟩
  let vs:List Value:=(Builtin.zeroCells zv.cells n).toList++(Builtin.zeroCells zv.cells (newCap - (0+n))).toList
  have hbn:bytes*n≤281474976710656:=by
   have:2*n*bytes=2*(bytes*n):=by rw[Nat.mul_assoc,Nat.mul_comm n bytes]
   omega
  have hnn:(n:Int)≤281474976710656:=by
   have:n≤bytes*n:=Nat.le_mul_of_pos_left n hb0.2;omega
  have hwr:IntKind.i64.wrap (n:Int)=n:=Jc (by simp[IntKind.min,IntKind.signed,IntKind.bits]) (by simp[IntKind.max,IntKind.signed,IntKind.bits];omega);have hai:∀w,(asIntOf (.int .i64 (n:Int))).run P w= .ok (.i64,(n:Int)) w:=fun w=>rfl;have hbi:¬((n:Int)*(bytes:Int) > 281474976710656):=by
   have:((n*bytes:Nat):Int)≤281474976710656:=by rw[Nat.mul_comm];omega
   rw[Int.natCast_mul] at this;omega
  have hne:¬(n*sz=0):=Nat.ne_of_gt (Nat.mul_pos hn hb0.1);have hrun:(execOp E ⟨dst,.call { callee:= .builtin .append,args:=#[x,y],argTypes:=#[T,T2] },ty,pos,aft,g⟩).run P w= .ok (.value (.slice (some ⟨w.heap.size,0,none⟩) (0+n) newCap)) (World.push w1 (.cells ⟨vs⟩ e (0,0))):=by
   simp only[execOp,resolve,invoke,builtin,Builtin.append_,h1,h2,Sem.run_bind,Sem.run_pure,Result.andThen_ok,List.map_toArray,List.map_cons,List.map_nil,List.getElem?_toArray,List.getElem?_cons_zero,List.getElem?_cons_succ,run_underlying hu,run_underlying hT2,hszr,pure_bind,if_true,asInt,hai,hwr];rw[if_neg Ad];simp only[Sem.run_bind,Sem.run_pure,Result.andThen_ok,hti,hby,pure_bind];rw[if_neg (by simpa using hbi)];simp only[Sem.run_bind,Sem.run_pure,Result.andThen_ok,hti,hby,pure_bind,Int.toNat_natCast];rw[if_neg hcap];simp only[Sem.run_bind,hti,Result.andThen_ok,hby];rw[if_neg (by simp[IntKind.max,IntKind.signed,IntKind.bits];omega)];simp only[Sem.run_bind,Sem.run_pure,Result.andThen_ok,hti,hby,pure_bind];rw[if_neg (by
    have:Builtin.nextslicecap (0+n) 0*bytes≤2*(0+n)*bytes:=Nat.mul_le_mul_right bytes hnext;rw[Nat.zero_add] at this ⊢;simp;omega)]
   have hch:(choose (.appendCap (0+n) 0 e)).run P w= .ok newCap w1:=by
    simp only[choose,Sem.run,Question.forced,Bool.false_eq_true,if_false,hnc];rfl
   have hf0:∀w,(Builtin.firstCells sz 0 (.slice none 0 0)).run P w= .ok #[] w:=fun w=>rfl;have evs:(#[]++Builtin.zeroCells zv.cells n++Builtin.zeroCells zv.cells (newCap - (0+n)):Array Value)=⟨vs⟩:=by
    apply Array.ext';simp[vs]
   simp only[Sem.run_bind,Sem.run_pure,Result.andThen_ok,pure_bind,hch,hti,hask,hf0,hzv,Bool.not_true,Bool.false_eq_true,if_false,if_neg hne,newRow,newObj,Sem.run,Result.andThen];rw[evs];rfl
  have hvl:vs.length=newCap*sz:=by
   simp only[vs,List.length_append,Array.length_toList,FA,hzs];rw[←Nat.add_mul];congr 1;omega
  have hH1:HRel F H w1:=hH.stable' same (fun _ h=>h) (fun _ _ _ _=>rfl) hH.bd;have t1:Trans F H w F H w1:=⟨Nat.le_refl _,fun _ _ _=>rfl,fun _ h _=>h,fun _ h=> .inl h,fun o ho b hb=> .inl ⟨o,ho,hb⟩,rfl,rfl,rfl⟩;obtain⟨v',H',F',⟨b',c',hv',hH'⟩,ht,hHr,hrep⟩:=IH (T:=e) (c:=newCap) (vs:=vs) (rows:=[]) (sz:=sz) (H:=H) hH1 Ae (by simp[BG]) (by rw[hvl];exact Nat.le_refl _) Ae;subst hv';subst hH';simp only[BU,List.length_nil] at hrep;injection hrep with e1 e2 e3;injection e1 with e1;injection e1 with e1;subst e1;subst e3;exact⟨_,_,.vs (some w.heap.size) n newCap,_,F',hrun,⟨_,_,O,O⟩,t1.trans hH.bd ht,hHr,by simp[BU]⟩
end
section
variable {P:Program}{r:Option Nat}{ops:Array Oper}{n k:Nat}{τ:Nat→AV}{H:List Au}{D:List CN}{Q:Bq→A9→Prop}{dst:Option Tmp}{op:Op}{ty:TypeId}{pos:String}{aft:Array Edge}
theorem Ui {sz m:Nat}(ho:ops[k]?=some ⟨dst,op,ty,pos,aft,none⟩) (hd:De dst n=true) (h:B4 P ⟨dst,op,ty,pos,aft,none⟩ (ev τ) H (SC sz m H))
  (next:∀b c,AL P r ops (k+1) ⟨n,put τ dst (.vs (some b) m c),.vec (some b) sz [] c::H,D⟩ Q):AL P r ops k ⟨n,τ,H,D⟩ Q :=
 C3 (S:=⟨n,τ,H,D⟩) ho AX (D8 hd) h (fun v H' ⟨b,c,h1,h2⟩=>by subst h1;subst h2;exact next b c) (fun _ _ h=>h.elim)
end
end Go.Abs
namespace Go.Proofs.YtldfmjoncbjldaaGreat
open Go.Abs Go.Eu
theorem UG:∀(n:Int),(0≤n)→(n≤1000000000)→BK Tryz.prog 71 [.p (.nils),.p (I n)] [] (Wp (fun v=>v) 5 (A1 [])):=by
 intro n h1 h2;refine Ar Tryz.func71 O cx (n:=27) O O (Ah Al 1 [] O (Ai (Ah Al 2 [] O (Ak O (fun c=>?_) (fun c=>?_)))))
 ·(try simp only[sd,se] at c);exfalso;omega
 (try simp only[sd,se] at c);refine An (Ai (Ao (Aq Al 2 [] O (Aj O (I2 BI O) (Ba O (Aj O (Iy BI O) (Ag Al 3 [] O (Ah Al 2 [] O (Ak O (fun c1=>?_) (fun c1=>?_))))))))))
 ·(try simp only[sd,se] at c1);refine Ap (Aq Al 2 [] O (Aj O (I2 BI O) (Aj O (Ki BI O O) (Ba O (Bv (Dx (t:=21) (x:= .p (I ((n.toNat:Nat):Int))) (congrArg (fun z=>AV.p (.int .i64 z)) Ad)) (Ui O O (TI (n:=n.toNat) BI dh Bh O O O O Ad Ad) fun b cp=>Ba O (Aj O (Iy BI O) (Aj O (LP BI O O) (Ag Al 1 [] O (Ah Al 2 [] O (Am (⟨O,_,_,⟨_,_,O,O,O⟩,(Ca (is:=[0]) O),?_⟩))))))))))))
  all_goals exact⟨_,_,rfl,rfl⟩
 (try simp only[sd,se] at c1);refine An (Ah Al 2 [] O (BO (FV (t:=4) (sz:=5) O) (Am (⟨O,_,_,⟨_,_,O,O,O⟩,(Ca (is:=[0]) O),?_⟩))))
 all_goals exact⟨_,_,rfl,rfl⟩
theorem T9:∀(L:List (List Tm)),(L.length<100)→(∀l∈L,l.length<1000000)→BK Tryz.prog 39 [.p (.lst (Ld L))] [] (Wp (fun v=>v) 5 (A1 L.flatten)):=by
 intro L h1 h2;refine Ar Tryz.func39 O cF (n:=36) O O (Ah Al 1 [] O (Ah Al 1 [] O (Ai (Ao (Ba O (Aj O (A8 Na O (List.length_map _)) (Ag Al 1 [] O (Aw ?_))))))));refine BR (α:=Nat) (fun i=>⟨36,mk [(0,.p (.lst (Ld L))),(3,.p (I ((((L.take i).map List.length).sum:Nat):Int))),(9,.p (.lst (Ld L))),(10,.p (I (L.length:Nat))),(11,.p (I (i:Int)))],[],[]⟩) (fun i=>L.length - i) (fun i=>i≤L.length∧(((L.take i).map List.length).sum≤i*1000000)) 0 (⟨by omega,by simp⟩) ?_ ?_
 ·exact BM ⟨we O,we O,we O,we O,we O,Af⟩ (leH (is:=[]) O (Cv))
 rintro i hC
 try simp only at hC
 obtain⟨hi,hC⟩:=hC;refine Ah Al 1 [] O (Ai (Ak O (fun c=>?_) (fun c=>?_)))
 ·(try simp only[sd,se] at c);refine An (Ai (Aw (Ao ?_)));obtain⟨x,hx⟩:=Av (l:=L) (i:=i) Ad;refine Aj O (As Na O O Ad (MD hx) O) (Ag Al 2 [] O (Ao (Aq Al 2 [] O (Aj O (A8 BI O (A2 _)) (Aj O (Gh O O (by have:=h2 x (List.mem_of_getElem? hx);omega) (by have:=h2 x (List.mem_of_getElem? hx);omega)) (Ag Al 1 [] O (Ah Al 2 [] O (Ak O (fun c1=>?_) (fun c1=>?_)))))))))
  ·(try simp only[sd,se] at c1);exfalso;omega
  (try simp only[sd,se] at c1);refine An (Ap (Ag Al 2 [] O ?_));refine⟨(i+1),AN,⟨by omega,by rw[Lq hx];have:=h2 x (List.mem_of_getElem? hx);omega⟩,BM ⟨we rfl,we (by show AV.p (.int .i64 _)=_;rw[Lq hx];rfl),we rfl,we rfl,we rfl,trivial⟩ (leH (is:=[]) rfl (Cv))⟩
 (try simp only[sd,se] at c);refine BQ (Ao (Ba O (TT O O O (.inl ⟨O,O,O⟩) (UG ((((L.take i).map List.length).sum:Nat):Int) (by first | assumption | omega) (by first | assumption | omega)) (.inl O) fun o cp=>Ag Al 1 [] O (Ai (Ao (Ba O (Aj O (A8 Na O (List.length_map _)) (Ag Al 1 [] O (Aw ?_)))))))));refine BR (α:=Nat×Option Nat×Nat) (fun(i,o1,cp1)=>⟨36,mk [(6,.vs o1 (A1 ((L.take i).flatten)).length cp1),(25,.p (.lst (Ld L))),(26,.p (I (L.length:Nat))),(27,.p (I (i:Int)))],[.vec o1 5 (A1 ((L.take i).flatten)) cp1],[]⟩) (fun(i,o1,cp1)=>L.length - i) (fun(i,o1,cp1)=>i≤L.length∧((L.take i).flatten.length≤i*1000000)) ⟨0,o,cp⟩ (⟨by omega,by simp⟩) ?_ ?_
 ·exact BM ⟨we O,we O,we O,we O,Af⟩ (leH (is:=[0]) O (wl (oe O) (Cv)))
 rintro⟨i,o1,cp1⟩ hC1
 try simp only at hC1
 obtain⟨hi,hC⟩:=hC1;refine Ah Al 1 [] O (Ai (Ak O (fun c1=>?_) (fun c1=>?_)))
 ·(try simp only[sd,se] at c1);refine An (Ai (Aw (Ao ?_)));obtain⟨x,hx⟩:=Av (l:=L) (i:=i) Ad;refine Aj O (As Na O O Ad (MD hx) O) (Ag Al 2 [] O (Ap (Aq Al 2 [] O (G8 O O (CZ (i:=0) (rows':=A1 x) BI BI Bh O O O O O O (Bu _) (by have:=h2 x (List.mem_of_getElem? hx);simp only[A2];omega) (Ni ((L.take i).flatten) x)) fun o2 cp2=>Ag Al 1 [] O (Ap (Ag Al 2 [] O ?_))))));refine⟨⟨i+1,o2,cp2⟩,AN,⟨by omega,by rw[HU hx,List.length_append];have:=h2 x (List.mem_of_getElem? hx);omega⟩,BM ⟨we (M9 ((L.take i).flatten++x) (by rw[HU hx])),we rfl,we rfl,we rfl,trivial⟩ (leH (is:=[0]) rfl (wl (HB ((L.take i).flatten++x) (by rw[HU hx])) (Cv)))⟩
 (try simp only[sd,se] at c1);refine BQ (Ah Al 2 [] O (Am (⟨O,_,_,⟨_,_,O,O,O⟩,(Ca (is:=[0]) O),?_⟩)));rw[List.take_of_length_le Ad]
 all_goals exact⟨_,_,rfl,rfl⟩
theorem XF:∀(l:List Int) (n:Int),(l.length<1000000)→D1 Tryz.prog 164 [.p (.lst (List.map DD l)),.p (I n)] (fun v=>∃l2:List Int,v= .p (.lst (List.map DD l2))∧Qx l n l2):=by
 intro l n h1;refine Ar Tryz.func164 O ZU (n:=49) O O (Ah Al 1 [] O (Ah Al 1 [] O (Ah Al 1 [] O (Ai (Ah Al 1 [] O (Aw (BO (FV (t:=5) (sz:=1) O) (BR (α:=Nat×Bool×List Int×Option Nat×Nat) (fun(i,f,ys,o,cp)=>⟨49,mk [(0,.p (.lst (List.map DD l))),(1,.p (I n)),(5,.vs o (List.map DD ys).length cp),(6,.p (.bool f)),(7,.p (I (i:Int)))],[.vec o 1 (List.map DD ys) cp],[]⟩) (fun(i,f,ys,o,cp)=>l.length - i) (fun(i,f,ys,o,cp)=>i≤l.length∧(JM l n i f ys)) ⟨0,false,[],none,0⟩ (⟨by omega,JM.zero _ _⟩) ?_ ?_))))))))
 ·exact BM ⟨we O,we O,we O,we O,we O,Af⟩ (leH (is:=[0]) O (wl (oe O) (Cv)))
 rintro⟨i,f,ys,o,cp⟩ hC
 try simp only at hC
 obtain⟨hi,hC⟩:=hC;refine Ai (Ao (Aq Al 2 [] O (Aj O (A8 DS O (List.length_map _)) (Ag Al 1 [] O (Ak O (fun c=>?_) (fun c=>?_))))))
 ·(try simp only[sd,se] at c);refine An (Ai (Aw (Ai (Ao (Aq Al 2 [] O ?_)))));obtain⟨x,hx⟩:=Av (l:=l) (i:=i) Ad;refine Aj O (As DS O O Ad (FJ hx) (O)) (Ag Al 3 [] O (Ak O (fun c1=>?_) (fun c1=>?_)))
  ·(try simp only[sd,se] at c1);have hin:n∈l:=by have:=List.mem_of_getElem? hx;rw[c1] at this;exact this
   refine Ah Al 2 [] O (Am (⟨O,_,_,⟨_,_,O,O,O⟩,(List.nil_sublist _),?_⟩))
   all_goals exact⟨⟨_,rfl,Qx.same hin⟩,rfl⟩
  (try simp only[sd,se] at c1);refine An (Ai (Ai (BL [0,1,5,6,7] 30 (fun y=>y= .p (.bool (decide (x > n)&& !f))) ?_ ?_)))
  ·refine Ap (Aq Al 2 [] O (Aj O (As DS O O Ad (FJ hx) (O)) (Aq Al 4 [] O (A5 27 O (fun g=>?_) (fun g=>?_)))))
   ·(try simp only[sd,se] at g);refine Ag Al 3 [] O ?_;exact⟨rfl,rfl,AH,(by refine pB ?_;cases f<;>simp_all<;>omega),⟨rfl,rfl,rfl,rfl,rfl,trivial⟩⟩
   (try simp only[sd,se] at g);refine Ag Al 3 [] O ?_;exact⟨rfl,rfl,AH,(by refine pB ?_;cases f<;>simp_all<;>omega),⟨rfl,rfl,rfl,rfl,rfl,trivial⟩⟩
  rintro _ rfl;refine Ak O (fun c2=>?_) (fun c2=>?_)
  ·(try simp only[sd,se] at c2);obtain rfl:f=false:=by simp_all
   have hst:=hC.put.step hx;refine Ao (Aq Al 2 [] O (Aj O (Bi DS Td O O O O O) ?_));refine G8 rfl rfl (CZ (i:=0) (rows':=List.map DD [n]) DS DS Td rfl rfl rfl rfl rfl rfl (Gf _) (by have:=hC.len;simp only[List.length_map,List.length_append,List.length_cons,List.length_nil];split at this<;>omega) (KO (f:=DD) ys [n])) fun o1 cp1=>?_;refine Ag Al 1 [] O (Ap (Ag Al 1 [] O (Ap (Aq Al 3 [] O (Aj O (As DS O O Ad (FJ hx) (O)) (Aj O (EA VV O) (Aj O (Bi DS Td O O O O O) ?_)))))));refine G8 rfl rfl (CZ (i:=0) (rows':=List.map DD [x]) DS DS Td rfl rfl rfl rfl rfl rfl (Gf _) (by have:=hC.len;simp only[List.length_map,List.length_append,List.length_cons,List.length_nil];split at this<;>omega) (KO (f:=DD) (ys++[n]) [x])) fun o2 cp2=>?_;refine Ag Al 1 [] O (Ap (Ag Al 3 [] O (⟨⟨i+1,true,(ys++[n]++[x]),o2,cp2⟩,AN,⟨by omega,hst⟩,BM ⟨we rfl,we rfl,we rfl,we rfl,we rfl,trivial⟩ (leH (is:=[0]) rfl (wl (oe rfl) (Cv)))⟩)))
  (try simp only[sd,se] at c2);have hst:=hC.step hx;refine An (Ap (Aq Al 3 [] O (Aj O (As DS O O Ad (FJ hx) (O)) (Aj O (EA VV O) (Aj O (Bi DS Td O O O O O) ?_)))));refine G8 rfl rfl (CZ (i:=0) (rows':=List.map DD [x]) DS DS Td rfl rfl rfl rfl rfl rfl (Gf _) (by have:=hC.len;simp only[List.length_map,List.length_append,List.length_cons,List.length_nil];split at this<;>omega) (KO (f:=DD) ys [x])) fun o1 cp1=>?_;refine Ag Al 1 [] O (Ap (Ag Al 3 [] O (⟨⟨i+1,f,(ys++[x]),o1,cp1⟩,AN,⟨by omega,hst⟩,BM ⟨we rfl,we rfl,we rfl,we rfl,we rfl,trivial⟩ (leH (is:=[0]) rfl (wl (oe rfl) (Cv)))⟩)))
 (try simp only[sd,se] at c);refine BQ (Ai (Ah Al 2 [] O (Ak O (fun c1=>?_) (fun c1=>?_))))
 ·(try simp only[sd,se] at c1);obtain rfl:f=false:=by simpa using c1
  have hdn:=hC.put.done Ad hi;refine Ap (Aq Al 2 [] O (Aj O (Bi DS Td O O O O O) ?_));refine G8 rfl rfl (CZ (i:=0) (rows':=List.map DD [n]) DS DS Td rfl rfl rfl rfl rfl rfl (Gf _) (by have:=hC.len;simp only[List.length_map,List.length_append,List.length_cons,List.length_nil];split at this<;>omega) (KO (f:=DD) ys [n])) fun o1 cp1=>?_;refine Ag Al 1 [] O (Ah Al 2 [] O (BO (Cm (i:=0) [5,47,48,4] O (Cq ⟨O,O,O,O,Af⟩)) (Am (⟨O,_,_,⟨_,_,O,O,O⟩,(List.nil_sublist _),?_⟩))))
  all_goals exact⟨⟨_,rfl,hdn⟩,rfl⟩
 (try simp only[sd,se] at c1);obtain rfl:f=true:=by simpa using c1
 have hdn:=hC.done Ad hi;refine An (Ah Al 2 [] O (BO (Cm (i:=0) [5,48,4] O (Cq ⟨O,O,O,Af⟩)) (Am (⟨O,_,_,⟨_,_,O,O,O⟩,(List.nil_sublist _),?_⟩))))
 all_goals exact⟨⟨_,rfl,hdn⟩,rfl⟩
theorem Tk:∀(n:Nat) (l:List Int) (t:Tm) (d:Int),(size t≤n)→(Nd t)→(0≤d∧d+size t≤2000000)→(l.length+size t≤1000000)→D1 Tryz.prog 131 [.p (.lst (List.map DD l)),.agg ((BA t).map .p),.p (I d)] (fun v=>∃l2:List Int,v= .p (.lst (List.map DD l2))∧Te l d t l2):=by
 intro n
 induction n with
 | zero=>intro l t d h1;cases t;simp[size] at h1
 | succ n ih =>
  intro l t d h1 h2 h3 h5;obtain⟨tk,ti,tn,tl,ts⟩:=t;simp only[size] at h1 h3 h5;simp only[Nd,HD,Ci] at h2;refine Ar Tryz.func131 O Yh (n:=44) O O (Ao (A6 O (BF O) fun b4=>Ag Al 1 [] O (Ai (Ai (BL [0,2,4] 16 (fun y=>y= .p (.bool (decide (tk=0∧d≤ti)))) ?_ ?_)))))
  ·refine Ap (Aq Al 4 [0] O (A5 11 O (fun g=>?_) (fun g=>?_)))
   ·(try simp only[sd,se] at g);exact Ag Al 5 [0] O (⟨O,O,AH,(by refine pB ?_;simp_all),⟨O,O,O,Af⟩⟩)
   (try simp only[sd,se] at g);exact Ag Al 5 [] O (⟨O,O,AH,(by refine pB ?_;simp_all),⟨O,O,O,Af⟩⟩)
  rintro _ rfl;refine Ak O (fun c=>?_) (fun c=>?_)
  ·(try simp only[sd,se] at c);have hkc:tk=0∧d≤ti:=by simpa using c
   refine Ap (Aq Al 5 [0] O (DB O O (Bo O O (XF l ((ti:Int) - (d:Int)) Ad) (.inl O)) ?_));rintro _ ⟨l2,rfl,hl2⟩;refine Ag Al 1 [] O (Ai (Ao ?_));have hs0:=RT.startA (ts:=ts) hkc Aa;refine Ag Al 1 [] O (Aw (BR (α:=Nat×List Int) (fun(i,l3)=>⟨44,mk [(0,.p (.lst (List.map DD l3))),(2,.p (I d)),(4,.ptr b4 0),(7,.p (I (i:Int)))],[.box b4 [.p (I tk),.p (I ti),.p (.str tn),.p (.lst (List.map B0 tl)),.p (.lst (A1 ts))]],[]⟩) (fun(i,l3)=>ts.length - i) (fun(i,l3)=>i≤ts.length∧(RT l d tk ti ts i l3)) ⟨0,l2⟩ (⟨by omega,hs0⟩) ?_ ?_))
   ·exact BM ⟨we O,we O,we O,we O,Af⟩ (leH (is:=[0]) O (wl (oe O) (Cv)))
   rintro⟨i,l3⟩ hC
   try simp only at hC
   obtain⟨hi,hC⟩:=hC;refine Ai (Ao (Aq Al 3 [0] O (Aj O (A8 BI O (A2 _)) (Ag Al 1 [] O (Ak O (fun c1=>?_) (fun c1=>?_))))))
   ·(try simp only[sd,se] at c1);refine An (Ai (Aw (Bt (fun k=>Nat.beq k 12) EY (BE Al 4 [0] O ?_))));obtain⟨x,hx⟩:=Av (l:=ts) (i:=i) Ad;refine A7 O (fun _=>As BI O O Ad (BB hx) (Ay _)) Af (BE Al 5 [0] O (A7 O (fun _=>A0 O O (Jo tk (i:Int)) O) Af (A7 O (fun _=>Gh O O (by have:=Bp tk i;omega) (by have:=Bp tk i;omega)) Af (On [] O O (Bo O O (ih l3 x ((d:Int)+(below tk (i:Int):Int)) (by have:=Bg hx;omega) (B2 h2.2.2.2.2.1 hx) (by have:=Bp tk i;have:=Bg hx;omega) (by have:=hC.len;have:=SH hx;omega)) (.inl O)) AZ (⟨_,_,O,Te.ex l3 ((d:Int)+(below tk (i:Int):Int)) x⟩) AB ?_))));rintro _ ⟨l21,rfl,hl21⟩;refine⟨Af,?_⟩;refine Bl Al 1 [] O (Ap (Ag Al 3 [] O (⟨⟨i+1,l21⟩,AN,⟨by omega,hC.step hx Aa⟩,BM ⟨we rfl,we rfl,we rfl,we rfl,trivial⟩ (leH (is:=[0]) rfl (wl (oe rfl) (Cv)))⟩)))
   (try simp only[sd,se] at c1);refine BQ (Ah Al 2 [] O (Am (⟨O,_,_,⟨_,_,O,O,O⟩,(List.nil_sublist _),?_⟩)))
   all_goals exact⟨⟨_,rfl,hC.done Ad⟩,rfl⟩
  (try simp only[sd,se] at c);have hs0:=RT.start (ts:=ts) (l:=l) (d:=d) (k:=tk) (i:=ti) (by simpa using c);refine An (Ai (Ah Al 1 [] O (Aw (BR (α:=Nat×List Int) (fun(i,l3)=>⟨44,mk [(0,.p (.lst (List.map DD l3))),(2,.p (I d)),(4,.ptr b4 0),(7,.p (I (i:Int)))],[.box b4 [.p (I tk),.p (I ti),.p (.str tn),.p (.lst (List.map B0 tl)),.p (.lst (A1 ts))]],[]⟩) (fun(i,l3)=>ts.length - i) (fun(i,l3)=>i≤ts.length∧(RT l d tk ti ts i l3)) ⟨0,l⟩ (⟨by omega,hs0⟩) ?_ ?_))))
  ·exact BM ⟨we O,we O,we O,we O,Af⟩ (leH (is:=[0]) O (wl (oe O) (Cv)))
  rintro⟨i,l3⟩ hC
  try simp only at hC
  obtain⟨hi,hC⟩:=hC;refine Ai (Ao (Aq Al 3 [0] O (Aj O (A8 BI O (A2 _)) (Ag Al 1 [] O (Ak O (fun c1=>?_) (fun c1=>?_))))))
  ·(try simp only[sd,se] at c1);refine An (Ai (Aw (Bt (fun k=>Nat.beq k 12) EY (BE Al 4 [0] O ?_))));obtain⟨x,hx⟩:=Av (l:=ts) (i:=i) Ad;refine A7 O (fun _=>As BI O O Ad (BB hx) (Ay _)) Af (BE Al 5 [0] O (A7 O (fun _=>A0 O O (Jo tk (i:Int)) O) Af (A7 O (fun _=>Gh O O (by have:=Bp tk i;omega) (by have:=Bp tk i;omega)) Af (On [] O O (Bo O O (ih l3 x ((d:Int)+(below tk (i:Int):Int)) (by have:=Bg hx;omega) (B2 h2.2.2.2.2.1 hx) (by have:=Bp tk i;have:=Bg hx;omega) (by have:=hC.len;have:=SH hx;omega)) (.inl O)) AZ (⟨_,_,O,Te.ex l3 ((d:Int)+(below tk (i:Int):Int)) x⟩) AB ?_))));rintro _ ⟨l2,rfl,hl2⟩;refine⟨Af,?_⟩;refine Bl Al 1 [] O (Ap (Ag Al 3 [] O (⟨⟨i+1,l2⟩,AN,⟨by omega,hC.step hx Aa⟩,BM ⟨we rfl,we rfl,we rfl,we rfl,trivial⟩ (leH (is:=[0]) rfl (wl (oe rfl) (Cv)))⟩)))
  (try simp only[sd,se] at c1);refine BQ (Ah Al 2 [] O (Am (⟨O,_,_,⟨_,_,O,O,O⟩,(List.nil_sublist _),?_⟩)))
  all_goals exact⟨⟨_,rfl,hC.done Ad⟩,rfl⟩
theorem UP:∀(t:Tm),(Nd t)→(size t≤1000000)→D1 Tryz.prog 85 [.agg ((BA t).map .p)] (fun v=>∃l2:List Int,v= .p (.lst (List.map DD l2))∧Te [] 0 t l2):=by
 intro t h1 h2;refine Ar Tryz.func85 O cD (n:=5) O O (Ao (A6 O (BF O) fun b1=>Ag Al 1 [] O (Ao (Aj O (Bf (i:=0) Be O O AW) (DB O O (Bo O O (BK.args (Tk (size t) [] t 0 (Nat.le_refl _) h1 Ad AY) (aw (Dl O) (aw (we O) (aw (we O) (Gy))))) (.inl O)) ?_)))));rintro _ ⟨l2,rfl,hl2⟩;refine Ag Al 1 [] O (Am (⟨O,_,_,⟨_,_,O,O,O⟩,(List.nil_sublist _),?_⟩))
 all_goals exact⟨⟨_,rfl,by assumption⟩,rfl⟩
theorem Wf:∀(t:Tm) (v0:Int),(Nd t)→(size t≤1000000)→Dp Tryz.prog 46 [.agg ((BA t).map .p),.p (I v0)] (.p (.bool (MT v0 0 t))):=by
 intro t v0 h1 h2;refine Ar Tryz.func46 O cH (n:=21) O O (Ao (A6 O (BF O) fun b2=>Ag Al 1 [] O (Ao (Aj O (Bf (i:=0) Be O O AW) (DB O O (Bo O O (UP t h1 h2) (.inl O)) ?_)))));rintro _ ⟨l2,rfl,hl2⟩;refine Ag Al 1 [] O (Ai (Ah Al 1 [] O (Aw ?_)));refine BR (α:=Nat) (fun i=>⟨21,mk [(1,.p (I v0)),(5,.p (.lst (List.map DD l2))),(6,.p (I (i:Int)))],[],[]⟩) (fun i=>l2.length - i) (fun i=>i≤l2.length∧(v0 ∉ l2.take i)) 0 (⟨by omega,by simp⟩) ?_ ?_
 ·exact BM ⟨we O,we O,we O,Af⟩ (leH (is:=[]) O (Cv))
 rintro i hC
 try simp only at hC
 obtain⟨hi,hC⟩:=hC;refine Ai (Ao (Aq Al 2 [] O (Aj O (A8 DS O (List.length_map _)) (Ag Al 1 [] O (Ak O (fun c=>?_) (fun c=>?_))))))
 ·(try simp only[sd,se] at c);refine An (Ai (Aw (Ao (Aq Al 2 [] O ?_))));obtain⟨x,hx⟩:=Av (l:=l2) (i:=i) Ad;refine Aj O (As DS O O Ad (FJ hx) (O)) (Ag Al 3 [] O (Ak O (fun c1=>?_) (fun c1=>?_)))
  ·(try simp only[sd,se] at c1);have hin:=List.mem_of_getElem? hx;rw[c1] at hin;refine Ah Al 1 [] O (Am (⟨O,_,_,⟨_,_,O,O,O⟩,(List.nil_sublist _),?_⟩))
   all_goals exact⟨by show (.p (.bool true):AV)=_;rw[Uj hl2 hin],rfl⟩
  (try simp only[sd,se] at c1);have hne:=c1;refine An (Ap (Ba O (Aj O (Gh O O Ad (by have h9:=hl2.2;simp only[List.length_nil] at h9;omega)) (Ag Al 1 [] O ?_))));refine⟨(i+1),AN,⟨by omega,by rw[List.take_add_one,hx];simp only[List.mem_append,Option.toList_some,List.mem_singleton];rintro(e | e);exact hC e;exact hne e.symm⟩,BM ⟨we rfl,we rfl,we rfl,trivial⟩ (leH (is:=[]) rfl (Cv))⟩
 (try simp only[sd,se] at c);refine BQ (Ah Al 1 [] O (Am (⟨O,_,_,⟨_,_,O,O,O⟩,(List.nil_sublist _),?_⟩)))
 all_goals exact⟨by show (.p (.bool false):AV)=_;rw[W3 hl2 (by have h9:=hC;rwa [List.take_of_length_le Ad] at h9)],rfl⟩
theorem XK:∀(m:Nat) (l:Int),(0<l)→(l≤20000)→BK Tryz.prog 148 [.ptr m 0] [.box m [.p (.lst []),.p (I l)]] (GV (.tup []) [.box m [.p (.lst []),.p (I (l - 1))]]):=by
 intro m l h1 h2;refine Ar Tryz.func148 O Y4 (n:=16) O O (Ah Al 8 [0,0,0] O (Ah Al 5 [0] O (Ak O (fun c=>?_) (fun c=>?_))))
 ·(try simp only[sd,se] at c);exfalso;omega
 (try simp only[sd,se] at c);refine An ⟨O,_,_,O,(Ca (is:=[0]) O),?_⟩
 all_goals exact⟨rfl,rfl⟩
theorem Wz:∀(m:Nat) (n:Int) (t:Tm) (vs:List Tm),(0<n)→(n≤20000)→(okB t=true)→(∀v∈vs,okB v=true)→(vs.length<549755813888)→((Cs t vs 0).2=0)→BK Tryz.prog 113 [.ptr m 0,.agg ((BA t).map .p),.p (.lst (A1 vs))] [.box m [.p (.lst []),.p (I n)]] (GV (.agg ((BA ((Cs t vs 0).1)).map .p)) [.box m [.p (.lst []),.p (I (n - 1))]]):=by
 intro m n t vs h1 h2 h3 h4 h5 h6;have hto:=Jd.1 h3;have hts:=hto.sz;have hvo:=LB h4;refine Ar Tryz.func113 O Yk (n:=22) O O (Ao (A6 O (BF O) fun b4=>A6 O (Ax Bh O) fun b6=>Bb O (Ao (Ba O (Aj O (CI [2] O (.inl ⟨O,O,O⟩) (XK m n h1 h2) ⟨_,_,O,O,O⟩ Ac O (.inl O)) (Bb O (Ao (Aq Al 2 [1] O ?_))))))));refine Aj rfl (A0 rfl rfl (Qm t vs hto.nd hto.vp Ad hvo.1 hvo.2.2 (fun v hv=>by have:=PY (h4 v hv);simp only[Ci];omega) AS) rfl) ?_;refine Aq Al 3 [] O (A6 O (Ax Bh O) fun b7=>Ag Al 2 [0,1] O (Ai (Ah Al 2 [] O (Ak O (fun c=>?_) (fun c=>?_)))))
 ·(try simp only[sd,se] at c);exact absurd h6 (by simpa using c)
 (try simp only[sd,se] at c);refine An (Ah Al 2 [0,1,1] O (Am (⟨O,_,_,⟨_,_,O,(BD (i:=1) Be O O AW),O⟩,(Ca (is:=[3]) O),?_⟩)))
 all_goals exact⟨rfl,rfl⟩
theorem Tt:∀(nm:ByteArray),Dp Tryz.prog 109 [.p (.lst []),.p (.str nm)] (.tup [.agg [.p (I 0),.p (I 0),.p (I 0),.p (I 0),.p (I 0),.p (I 0),.p (.str ⟨#[]⟩),.p (.lst []),.p (.lst [])],.p (I 9)]):=by
 intro nm;refine Cr Tryz.func109 O YG (n:=28) O O (Ao (A6 O (BF O) fun b3=>A6 O (Ax QY O) fun b4=>A6 O (Ax Sl O) fun b5=>Bb O (Ai (Ao (Ba O (Aj O (A8 SR O O) (Ag Al 1 [] O (Aw (BR (α:=Nat) (fun i=>⟨28,mk [(3,.ptr b3 0),(4,.ptr b4 0),(5,.ptr b5 0),(10,.p (.lst [])),(11,.p (I (0:Nat))),(12,.p (I (i:Int)))],[.box b5 [.p (I 0)],.box b4 [.p (I 0),.p (I 0),.p (I 0),.p (I 0),.p (I 0),.p (I 0),.p (.str ⟨#[]⟩),.p (.nils),.p (.nils)],.box b3 [.p (.str nm)]],[]⟩) (fun i=>0 - i) (fun i=>i≤0) 0 AM ?_ ?_)))))))))
 ·exact BM ⟨we O,we O,we O,we O,we O,we O,Af⟩ (leH (is:=[0,1,2]) O (wl (oe O) (wl (oe O) (wl (oe O) (Cv)))))
 rintro i hC
 try simp only at hC
 have hi:=hC;refine Ah Al 1 [] O (Ai (Ak O (fun c=>?_) (fun c=>?_)))
 ·(try simp only[sd,se] at c);exfalso;omega
 (try simp only[sd,se] at c);refine BQ (Ah Al 3 [1,0,0,0] O (BO (By (i:=1) O) (Am (⟨_,_,⟨_,_,O,(BD (i:=1) VX O O O),⟨_,_,O,(Dq (i:=0) Mi O O),O⟩⟩,(List.nil_sublist _),?_⟩))))
 all_goals exact⟨rfl,rfl⟩
theorem Ut:∀(m:Nat) (l:Int) (h:Tm),BK Tryz.prog 149 [.ptr m 0,.agg ((BA h).map .p)] [.box m [.p (.lst []),.p (I l)]] (GV (.tup [.agg [.p (I 0),.p (I 0),.p (I 0),.p (I 0),.p (I 0),.p (I 0),.p (.str ⟨#[]⟩),.p (.lst []),.p (.lst [])],.p (.bool false)]) [.box m [.p (.lst []),.p (I l)]]):=by
 intro m l h;obtain⟨hk,hi,hn,hl,hs⟩:=h;refine Ar Tryz.func149 O X4 (n:=29) O O (Ao (A6 O (BF O) fun b3=>A6 O (Ax QY O) fun b4=>Ag Al 1 [] O (Ai (Bt (fun k=>Nat.beq k 10) EY (BE Al 6 [2,1] O (A7 O (fun _=>A0 O O (Tt hn) O) Af (BE Al 3 [] O (Jy [] O O (Ax QY O) AZ fun b6=>⟨AB,Af,?_⟩))))))));refine Bl Al 2 [0,0] O (Ai (Bt (fun k=>false) EY (Bl Al 13 [0,1,0] O (Am (⟨O,_,_,⟨_,_,O,(BD (i:=1) VX O O O),⟨_,_,O,O,O⟩⟩,(Ca (is:=[3]) O),?_⟩)))))
 all_goals exact⟨rfl,rfl⟩
theorem Xc:∀(m:Nat) (l:Int) (h:Tm) (a:List Tm),BK Tryz.prog 115 [.ptr m 0,.agg ((BA h).map .p),.p (.lst (A1 a))] [.box m [.p (.lst []),.p (I l)]] (GV (.tup [.agg ((BA BN).map .p),.p (.bool false)]) [.box m [.p (.lst []),.p (I l)]]):=by
 intro m l h a;refine Ar Tryz.func115 O YB (n:=122) O O (Ao (A6 O (BF O) fun b4=>A6 O (Ax Bh O) fun b6=>Ag Al 1 [] O (Ao (Aq Al 2 [1] O (Aj O (CI [2] O (.inl ⟨O,O,O⟩) (Ut m l h) ⟨_,_,O,O,O⟩ Ac O (.inl O)) (Aq Al 3 [] O (A6 O (Ax QY O) fun b8=>Ag Al 2 [0,0] O (Ai (Ah Al 2 [] O ?_)))))))));refine Ak O (fun c=>?_) (fun c=>by cases c);refine Ah Al 3 [1,0] O (BO (By (i:=1) O) (Am (⟨O,_,_,⟨_,_,O,(BD (i:=1) Be O O O),⟨_,_,O,O,O⟩⟩,(Ca (is:=[3]) O),?_⟩)))
 all_goals exact⟨rfl,rfl⟩
set_option maxHeartbeats 2000000 in
theorem T7:∀(m:Nat) (t:Tm) (q:Option Tm),(okB t=true)→(J0 t= .ok q)→BK Tryz.prog 67 [.ptr m 0,.agg ((BA t).map .p)] [.box m [.p (.lst []),.p (I 20000)]] (GV (.tup [.agg ((BA (q.getD BN)).map .p),.p (.bool q.isSome)]) [.box m [.p (.lst []),.p (I (if q.isSome=true then 19999 else 20000))]]):=by
 intro m t q h1 h2;have hsp:=Vh h1;have hsl:=hsp.len;have hss:=hsp.sz;have hsa:=hsp.asz;have hkk:=UR h2;refine Ar Tryz.func67 O ax (n:=90) O O (Ao (A6 O (BF O) fun b3=>A6 O (Ax Bh O) fun b4=>Ag Al 1 [] O (Ao (Aj O (Bf (i:=1) Be O O AW) (Aj O (A0 O O (NZ t hsp.nd AS) O) (Aq Al 3 [] O (A6 O (Ax Bh O) fun b6=>Ag Al 2 [0,1] O (Ai (Ao (Aj O (BH HE O O) ?_))))))))));generalize hz:(A3 t).1=z;obtain⟨zk,zi,zn,zl,zs⟩:=z;have hzo:okB (.mk zk zi zn zl zs)=true:=hz▸hsp.head;rw[hz] at hkk;simp only[Tm.kind] at hkk;refine Ag Al 1 [0] O (Aw (Ah Al 2 [] O (Ak O (fun c=>?_) (fun c=>?_))))
 ·(try simp only[sd,se] at c);refine Ao (Ba O (Aj O (A8 BI O (A2 _)) (Ag Al 1 [] O (Ak O (fun c1=>?_) (fun c1=>?_)))))
  ·(try simp only[sd,se] at c1);rcases NL h2 (by rw[hz];exact c) with ⟨e,_⟩ | ⟨x,xs,d,b,e1,e2,e3,rfl⟩
   ·rw[e] at c1;simp at c1
   rw[hz] at e2;simp only[Tm.kids] at e2;subst e2;have hx0:(A3 t).2[0]?=some x:=by rw[e1];rfl
   have hbo:=UE hzo (i:=1) (x:=b) rfl;have hxo:=hsp.args x (List.mem_of_getElem? hx0);refine Ai (Bt (fun k=>false) EY (BE Al 3 [0] O (A7 O (fun _=>As BI O O Ad (BB O) (Ay _)) Af (BE Al 2 [] O (A7 O (fun _=>As BI O O Ad (BB hx0) (Ay _)) Af (A7 O (fun _=>BC Be O (Ay _)) Af (A7 O (fun _=>BZ (rows:=A1 [x]) BI Bh O O O O (CL (Bu _)) (Dm _)) Af ?_)))))));refine HF O O (CI [3] O (.inl ⟨O,O,O⟩) (Wz m 20000 b [x] Ac Ac hbo (fun v hv=>by simp only[List.mem_singleton] at hv;subst hv;exact hxo) (by simp only[List.length_cons,List.length_nil];decide) e3) ⟨_,_,rfl,rfl,rfl⟩ Ac rfl (.inl rfl)) AB trivial ?_;refine A7 O (fun _=>B8 O) Af (A7 O (fun _=>PS (lo:=1) BI O (CL (Bu _)) ⟨_,O⟩ O (by simp only[A2,List.length_map];omega) (Nat.le_refl _) (Yc ((A3 t).2) 1)) Af (A7 O (fun _=>A0 O O (Jz ((Cs b [x] 0).1) (((A3 t).2).drop 1) (by simp only[Ci,List.length_drop];omega)) O) Af (Bl Al 2 [1,1] O (Am (⟨O,_,_,⟨_,_,O,(BD (i:=1) Be O O AW),⟨_,_,O,O,O⟩⟩,(Ca (is:=[3]) O),?_⟩)))))
   all_goals exact⟨by show (.tup [.agg ((BA (apply ((Cs b [x] 0).1) (((A3 t).2).drop 1))).map .p),.p (.bool true)]:AV)=_;rw[e1];rfl,rfl⟩
  (try simp only[sd,se] at c1);rcases NL h2 (by rw[hz];exact c) with ⟨_,rfl⟩ | ⟨x,xs,d,b,e1,e2,e3,rfl⟩
  rotate_left
  ·rw[e1] at c1;simp at c1;omega
  refine An (Ah Al 3 [1,0] O (BO (By (i:=1) O) (Am (⟨O,_,_,⟨_,_,O,(BD (i:=1) Be O O O),⟨_,_,O,O,O⟩⟩,(Ca (is:=[3]) O),?_⟩))))
  all_goals exact⟨rfl,rfl⟩
 (try simp only[sd,se] at c);refine Ah Al 2 [] O (Ak O (fun c1=>?_) (fun c1=>?_))
 ·(try simp only[sd,se] at c1);exfalso;omega
 (try simp only[sd,se] at c1);refine Ai (Ah Al 2 [] O (Ak O (fun c2=>?_) (fun c2=>?_)))
 ·(try simp only[sd,se] at c2);exfalso;omega
 (try simp only[sd,se] at c2);refine Ap (Ag Al 2 [] O (Ak O (fun c3=>?_) (fun c3=>?_)))
 ·(try simp only[sd,se] at c3);exfalso;omega
 (try simp only[sd,se] at c3);refine Ah Al 2 [] O (Ak O (fun c4=>?_) (fun c4=>?_))
 ·(try simp only[sd,se] at c4);obtain rfl:=L5 h2 (by rw[hz];exact .inr c4);refine Ao (Aq Al 3 [0] O (Aj O (CI [3] O (.inl ⟨O,O,O⟩) (Xc m 20000 (.mk zk zi zn zl zs:Tm) ((A3 t).2)) ⟨_,_,O,O,O⟩ Ac O (.inl O)) (Ag Al 4 [1,1] O (Am (⟨O,_,_,⟨_,_,O,(BD (i:=1) Be O O AW),⟨_,_,O,O,O⟩⟩,(Ca (is:=[3]) O),?_⟩)))))
  all_goals exact⟨rfl,rfl⟩
 (try simp only[sd,se] at c4);obtain rfl:=L5 h2 (by rw[hz];left;show zk=0;omega);refine An (Ah Al 3 [1,0] O (BO (By (i:=1) O) (Am (⟨O,_,_,⟨_,_,O,(BD (i:=1) Be O O O),⟨_,_,O,O,O⟩⟩,(Ca (is:=[3]) O),?_⟩))))
 all_goals exact⟨rfl,rfl⟩
end Go.Proofs.YtldfmjoncbjldaaGreat
