/- Part of the proofs: an abstract program logic, plain models and contracts of functions. -/
import Derived.Test.YtifphifongokcaaGreatPe
import Derived.Test.YtifphifongokcaaGreatPb
import Derived.Test.YtifphifongokcaaGreatPd
import Derived.Test.YtifphifongokcaaGreatPc
set_option linter.unusedVariables false
set_option linter.unusedSimpArgs false
set_option maxRecDepth 100000
namespace Go.Abs
section
variable {P:Program}{dst:Option Tmp}{ty:TypeId}{pos:String}{aft:Array Edge}{g:Option (Nat×Bool)}{ρ:Operand→AV}{H:List Ax}{x y z:Operand}{v:AV}
theorem TH (rows:List (List PV)):Lr (.p (.lstc rows)) (.p (.lst rows)):=fun F w v h=>by
 simp only[Bl,Bt] at h ⊢;rcases h with ⟨rfl,o,h⟩ | ⟨b,o,sz,h,hF,hb,hr⟩
 ·exact .inl ⟨O,o,0,h⟩
 exact .inr ⟨b,o,_,sz,h,hF,hb,Nat.le_refl _,hr⟩
theorem LF {T T2 e e2:TypeId}{sz bytes n2 n3:Nat}{rows rows':List (List PV)}{zv:Value}(hT:DY P T=some (e,sz,bytes)) (hT2:DY P T2=some (e2,n2,n3)) (hz:zeroOf P e=some zv) (hzs:zv.cells.size=sz) (hb0:(Nat.blt 0 sz&&Nat.blt 0 bytes)=true)
  (hx:ρ x= .p (.lstc rows)) (hr:∀r∈rows,r.length=sz) (hy:norm (ρ y)= .p (.lst rows')) (hsol:∀r∈rows',Cl sz r) (hne:0<rows'.length) (hroom:2*(rows.length+rows'.length)*bytes≤281474976710656) :
  CW P ⟨dst,.call { callee:= .builtin .append,args:=#[x,y],argTypes:=#[T,T2] },ty,pos,aft,g⟩ ρ H (Ga sz (rows++rows') H) :=
 F3 fun F w E hH hE=>by
  have hr':∀r∈rows',r.length=sz:=fun r hr=>(hsol r hr).1;simp only[Bool.and_eq_true,Nat.blt_eq] at hb0;obtain⟨hu,inf,hinf,hs,hby⟩:=DF hT;obtain⟨hu2,_⟩:=DF hT2;have h1:=hE x AO;have h2:=(hE y AO).norm;rw[hx] at h1;rw[hy] at h2;obtain⟨ns,oy,cy,hEy,hns,hnsl,hnsr⟩:=Dp (P:=P) h2 hr';have hEx:∃base,E x= .slice base rows.length rows.length:=by
   have:=h1;simp only[Bl,Bt] at this;rcases this with ⟨rfl,o,h⟩ | ⟨b,o,sz',h,_⟩
   ·exact⟨o,h⟩
   exact⟨_,h⟩
  obtain⟨base,hEx⟩:=hEx;unfold zeroOf at hz;have hz':∃j,P.info? e=some j∧j.zero=some zv:=by
   cases hq:P.info? e with
   | none=>simp[hq] at hz
   | some j=>exact⟨j,rfl,by simpa [hq] using hz⟩
  obtain⟨j,hj,hz'⟩:=hz';have hzv:∀w,(zeroValue e).run P w= .ok zv w:=fun w=>by simp[zeroValue,typeInfo,hj,hz',Sem.run_bind]
  have hti:∀w,(typeInfo e).run P w= .ok inf w:=fun w=>by simp[typeInfo,hinf]
  have hszr:∀w,(sizeOf e).run P w= .ok sz w:=fun w=>by simp[sizeOf,typeInfo,hinf,hs]
  have hlall:∀r∈rows++rows',r.length=sz:=by
   intro r hq;rcases List.mem_append.1 hq with hq | hq
   ·exact hr r hq
   exact hr' r hq
  have hlen:(rows++rows').length=rows.length+rows'.length:=by simp
  have hlenof:∀w,(Builtin.lenOf (E y)).run P w= .ok rows'.length w:=fun w=>by rw[hEy];rfl
  have hcap':rows.length<rows.length+rows'.length:=by omega
  have hcap:¬(rows.length+rows'.length≤rows.length):=by omega
  generalize hnc:Question.cut (.appendCap (rows.length+rows'.length) rows.length e) (w.tape w.drawn (.appendCap (rows.length+rows'.length) rows.length e))=newCap;have hncge:rows.length+rows'.length≤newCap:=by rw[←hnc];simp only[Question.cut];omega
  have hnext:=L9 hcap';have hask:∀(b:Nat) w,(askRoom b).run P w= .ok () w:=by intro b w;unfold askRoom;split<;>rfl
  let w1:World:={ w with drawn:=w.drawn+1 }
  have same:Cd F w F w1:=⟨Nat.le_refl _,fun _ _ _=>rfl,fun _ h _=>h⟩;obtain⟨ns',oy',cy',hEy',hns',hnsl',hnsr'⟩:=Dp (P:=P) (Bl.mono same _ _ h2) hr';obtain⟨os',oz',cz',hEz',hos',hosl',hosr'⟩:=Dp (P:=P) (Bl.mono same _ _ (TH rows _ _ _ h1)) hr
  let vs:List Value:=os'++ns'++(Builtin.zeroCells zv.cells (newCap - (rows.length+rows'.length))).toList
  have hrun:(execOp E ⟨dst,.call { callee:= .builtin .append,args:=#[x,y],argTypes:=#[T,T2] },ty,pos,aft,g⟩).run P w= .ok (.value (.slice (some ⟨w.heap.size,0,none⟩) (rows.length+rows'.length) newCap)) (World.push w1 (.cells ⟨vs⟩ e (0,0))):=by
   have hos2:=hos';rw[hEx] at hos2;simp only[execOp,resolve,invoke,builtin,Builtin.append_,hEx,Sem.run_bind,Sem.run_pure,Result.andThen_ok,List.map_toArray,List.map_cons,List.map_nil,List.getElem?_toArray,List.getElem?_cons_zero,List.getElem?_cons_succ,run_underlying hu,run_underlying hu2,hszr,pure_bind,
    Bool.false_eq_true,if_false,hlenof,Bool.not_false,if_true]
   rw[if_neg hcap];simp only[Sem.run_bind,hti,Result.andThen_ok,hby];rw[if_neg Ac];simp only[Sem.run_bind,Sem.run_pure,Result.andThen_ok,hti,hby,pure_bind];rw[if_neg (by
    have:Builtin.nextslicecap (rows.length+rows'.length) rows.length*bytes≤2*(rows.length+rows'.length)*bytes:=Nat.mul_le_mul_right bytes hnext;simp;omega)]
   have hch:(choose (.appendCap (rows.length+rows'.length) rows.length e)).run P w= .ok newCap w1:=by
    simp only[choose,Sem.run,Question.forced,Bool.false_eq_true,if_false,hnc];rfl
   simp only[Sem.run_bind,Sem.run_pure,Result.andThen_ok,pure_bind,hch,hti,hask,hos2,hns',hzv,newRow,newObj,Sem.run,Result.andThen];have evs:(⟨os'⟩++⟨ns'⟩++Builtin.zeroCells zv.cells (newCap - (rows.length+rows'.length)):Array Value)=⟨vs⟩:=by
    apply Array.ext';simp[vs]
   rw[evs];rfl
  have hvl:vs.length=newCap*sz:=by
   simp only[vs,List.length_append,hosl',hnsl',Array.length_toList,Iu,hzs];rw[←Nat.add_mul,←Nat.add_mul];congr 1;omega
  have hlen2:(rows++rows').flatten.length=(rows.length+rows'.length)*sz:=by rw[VB hlall,hlen]
  have hpre:BY F w1 ((rows++rows').flatten.map .p) (vs.take ((rows++rows').flatten.length)):=by
   have e1:vs.take ((rows++rows').flatten.length)=os'++ns':=by
    rw[hlen2];have:(os'++ns').length=(rows.length+rows'.length)*sz:=by rw[List.length_append,hosl',hnsl',Nat.add_mul]
    rw[←this];exact List.take_left
   rw[e1,List.flatten_append,List.map_append];exact hosr'.append hnsr'
  have hH1:HRel F H w1:=hH.stable' same (fun _ h=>h) (fun _ _ _ _=>rfl) hH.bd;have t1:Trans F H w F H w1:=⟨Nat.le_refl _,fun _ _ _=>rfl,fun _ h _=>h,fun _ h=> .inl h,fun o ho b hb=> .inl ⟨o,ho,hb⟩,rfl,rfl,rfl⟩;obtain⟨v',H',F',hnv,ht,hHr,hrep⟩:=M0 (T:=e) (c:=newCap) (vs:=vs) (H:=H) hH1 hlall hpre (by rw[hvl];exact Nat.le_refl _) (by rw[hlen];exact hncge);exact⟨_,_,v',H',F',hrun,hnv,t1.trans hH.bd ht,hHr,by rw[←hlen];exact hrep⟩
def gF:AV→Option Bool
 | .p (.addr _)=>some false
 | .p (.optp o)=>some o.isNone
 | .ptr _ _=>some false
 | .nilp=>some true
 | .ref _=>some false
 | _=>none
end
section
variable {P:Program}{dst:Option Tmp}{ty:TypeId}{pos:String}{aft:Array Edge}{g:Option (Nat×Bool)}{ρ:Operand→AV}{H:List Ax}{x:Operand}
end
end Go.Abs
namespace Go.Eu
open Go.Abs
def ft {α:Type}(p:α→Bool):List α→Int→Int
 | [],_=> -1
 | x::l,i=>if p x=true then i else ft p l (i+1)
section
variable {l:List B9}{i j:Nat}{x u:B9}
end
def jc (m:List (Int×Int)):List (Int×AV):=m.map fun p=>(p.1,.p (I p.2))
theorem TR (M:List (Int×Int)):(Nr M).length=M.length:=by simp[Nr,Tf]
def jd (M:List (Int×Int)) (k:Int):B9:=⟨k,(mg k M).getD 0⟩
theorem Pd.len {m:List (Int×Int)}(h:Pd m) (hr:∀k∈m.map Prod.fst,-65536≤k∧k<8):m.length≤65544:=by
 have ha:=TZ h;have:=PN (lo:= -65536) ha (fun v hv=>by
  simp only[Nr,List.mem_map] at hv;obtain⟨k,hk,rfl⟩:=hv;exact hr k ((MH _).mem_iff.1 hk)) Ah
 rw[TR] at this;omega
structure Zt (S:List (Int×Int)×Int):Prop where
 m:Pd S.1
 r:∀k∈S.1.map Prod.fst,-65536≤k∧k<8
theorem Zt.len {S:List (Int×Int)×Int}(h:Zt S):S.1.length≤65544:=h.m.len h.r
theorem L0 {m:List (Int×Int)}{i p:Int}{Q:Int→Prop}(h:∀k∈m.map Prod.fst,Q k) (hi:Q i):∀k∈(Hu m i p).map Prod.fst,Q k:=by
 have hs:∀k∈(ms i p m).map Prod.fst,Q k:=by
  rw[PZ];split
  ·exact h
  intro k hk;rcases List.mem_append.1 hk with hk | hk
  ·exact h k hk
  rw[List.mem_singleton.1 hk];exact hi
 unfold Hu;split
 ·split
  ·exact hs
  exact h
 exact hs
theorem Oc {n:Int}{Q:Int→Prop}:∀(vs:List B9) (m:List (Int×Int)),(∀k∈m.map Prod.fst,Q k)→(∀v∈vs,Q v.index)→∀k∈(vs.foldl (He n) m).map Prod.fst,Q k
 | [],m,h,_=>h
 | v::vs,m,h,hv=>Oc vs (He n m v) (L0 h (hv v Ai)) fun w hw=>hv w (by simp[hw])
theorem Zt.step {ps:List CB}{S:List (Int×Int)×Int}{x:B9}(hps:∀l∈ps,DB l=true) (h:Zt S) (hx:(0≤x.plus∧x.plus≤100)∧ -65536≤x.index∧x.index<8) (hi:x.index<ps.length):Zt (MJ ps S x):=by
 refine⟨(VL hps h.m hx.1.1 hi).1,?_⟩;unfold MJ;split
 ·exact L0 h.r hx.2
 rename_i q;refine Oc _ _ h.r fun v hv=>?_;have hlt:x.index.toNat<ps.length:=by omega
 rw[List.getD_eq_getElem?_getD,List.getElem?_eq_getElem hlt] at hv;exact((Pz.of (hps _ (List.getElem_mem hlt))).rg v hv).2
theorem Zt.zero (c:Int):Zt ([],c):=⟨Pd.nil,by simp⟩
def X0 (ps:List CB):List CB→Except Int (List CB)
 | []=> .ok []
 | l::ls=>if (KE l ps).2≠0 then .error (KE l ps).2 else match X0 ps ls with
  | .ok zs=> .ok ((KE l ps).1::zs)
  | .error e=> .error e
def jE (ys:List CB):Except Int (List CB)→Except Int (List CB)
 | .ok zs=> .ok (ys++zs)
 | .error e=> .error e
def j2 (ps:List CB) (_:Unit) (t:Tm) (_:Int):Except Int ((Tm×Bool)×Unit):=match X0 ps t.levels with
 | .ok ls=> .ok ((.mk t.kind t.index t.name ls [],false),())
 | .error e=> .error e
section
variable {ps:List CB}
end
def Lc {α:Type}(a b:Out α):Prop:=a= .stuck∨a=b
section
variable {α β:Type}
theorem Lc.refl (a:Out α):Lc a a:= .inr rfl
theorem Lc.bind {a b:Out α}{k k':α→Out β}(h:Lc a b) (hk:∀x,Lc (k x) (k' x)):Lc (a.bind k) (b.bind k'):=by
 rcases h with rfl | rfl
 ·exact .inl O
 cases a with
 | stuck=>exact .inl rfl
 | fail=>exact .inr rfl
 | ok x=>exact hk x
theorem Lc.ite {c:Prop} [Decidable c] {a a' b b':Out α}(h1:Lc a a') (h2:Lc b b'):Lc (if c then a else b) (if c then a' else b'):=by
 split
 ·exact h1
 exact h2
theorem Lc.chk {σ:Type}{a b:Out (Tm×σ)}{k k':Tm×σ→Out β}(h:Lc a b) (hk:∀x,Lc (k x) (k' x)):Lc (a.chk k) (b.chk k'):=Lc.bind h fun x=>Lc.ite (hk x) (Lc.refl _)
variable {σ:Type}{E:List Bx}{S:Sys σ}
theorem Lc.put {s:σ}{x:Tm×Int}{k k':Tm→σ→Out β}(hk:∀t s',Lc (k t s') (k' t s')):Lc (S.put s x k) (S.put s x k'):=by
 unfold Sys.put;refine Lc.ite ?_ (Lc.refl _);cases S.res s x.1 x.2 with
 | none=>exact Lc.refl _
 | some s'=>exact hk _ _
variable {W W':σ→Tm→Out (Tm×σ)}(hW:∀s t,Lc (W s t) (W' s t))
include hW
end
section
variable {σ:Type}{E:List Bx}{S:Sys σ}
end
theorem Xo {k i:Int}{n:ByteArray}{l:List CB}{ts:List Tm}{x y:Tm}(h:k=6∧((ts.length:Nat):Int)=2) (hx:ts[0]?=some x) (hy:ts[1]?=some y):BS (.mk k i n l ts)=(x::(BS y).1,(BS y).2):=by
 obtain⟨rfl,h2⟩:=h;rw[Vo h2 hx hy,BS,if_pos rfl]
theorem XX {k i:Int}{n:ByteArray}{l:List CB}{ts:List Tm}(h:k≠6∨((ts.length:Nat):Int)≠2):BS (.mk k i n l ts)=([],.mk k i n l ts):=by
 unfold BS;split
 ·rename_i k' i' n' l' a b e;injection e with e1 e2 e3 e4 e5;subst e1 e2 e3 e4 e5;simp at h;rw[if_neg h]
 rfl
theorem Te {k i:Int}{n:ByteArray}{ls:List CB}{ts l:List Tm}{x y:Tm}{X:List Tm×Tm}(h:k=6∧((ts.length:Nat):Int)=2) (hx:ts[0]?=some x) (hy:ts[1]?=some y) (hX:(l++(BS (.mk k i n ls ts)).1,(BS (.mk k i n ls ts)).2)=X):((l++[x])++(BS y).1,(BS y).2)=X:=by
 rw[←hX,Xo h hx hy];simp
theorem U3 {k i:Int}{n:ByteArray}{ls:List CB}{ts l:List Tm}{X:List Tm×Tm}(h:k≠6∨((ts.length:Nat):Int)≠2) (hX:(l++(BS (.mk k i n ls ts)).1,(BS (.mk k i n ls ts)).2)=X):X=(l,.mk k i n ls ts):=by
 rw[←hX,XX h];simp
theorem Dn:∀(t:Tm),(BS t).1.length<size t
 | .mk k i n l [a,b]=>by
  unfold BS;split
  ·have:=Dn b;have:=size_pos a;simp only[List.length_cons,size,BC];omega
  ·simp[size,BC];omega
 | .mk k i n l []=>by simp[BS,size,BC]
 | .mk k i n l [_]=>by simp[BS,size,BC];omega
 | .mk k i n l (_::_::_::_)=>by simp[BS,size,BC];omega
mutual
def Jm:F4→Prop
 | .mk k b v l=>okB b=true∧Ou l
def YJ:JK→Prop
 | .mk c a t=>Jm t
def Ou:List JK→Prop
 | []=>True
 | b::l=>YJ b∧Ou l
end
structure DG (d:Bx):Prop where
 din:bN d
 fx:0≤d.fixed∧d.fixed≤1000000
 vl:okB d.value=true
 ru:∀t∈d.recs.rules,okB t=true
 fu:∀f∈d.funs,1≤f.arity∧f.arity≤16∧Jm f.tree
structure XP (E:List Bx):Prop where
 env:C3 E
 all:∀d∈E,DG d
theorem G5 (x:Bx):At (Br x) 0 [I x.kind]:=At.one
theorem D3 (x:Bx):At (Br x) 1 [.str x.name]:=At.cons (At.one)
theorem Dy (x:Bx):At (Br x) 2 [I x.params]:=At.cons (At.cons (At.one))
theorem JW (x:Bx):At (Br x) 3 (BQ x.type):=At.cons (At.cons (At.cons (At.front)))
theorem Dd (x:Bx):At (Br x) 13 [I x.fixed]:=At.cons (At.cons (At.cons (At.app (A7 _) (At.app (A7 _) (At.one)))))
theorem E3 (x:Bx):At (Br x) 14 [.lst (x.ctors.map Ec)]:=At.cons (At.cons (At.cons (At.app (A7 _) (At.app (A7 _) (At.cons (At.one))))))
theorem Ji (x:Bx):At (Br x) 15 (Q5 x.recs):=At.cons (At.cons (At.cons (At.app (A7 _) (At.app (A7 _) (At.cons (At.cons (At.front)))))))
theorem PI (x:Bx):At (Br x) 22 [.lst (x.funs.map MY)]:=At.cons (At.cons (At.cons (At.app (A7 _) (At.app (A7 _) (At.cons (At.cons (At.app (Hn _) (At.one))))))))
theorem Mo (x:Nv):At (Q5 x) 0 [I x.params]:=At.one
theorem PY (x:Nv):At (Q5 x) 1 (BQ x.type):=At.cons (At.front)
theorem Jj (x:Dk):At (Ec x) 0 [.str x.name]:=At.one
theorem HE (x:Dk):At (Ec x) 1 (BQ x.type):=At.cons (At.all)
theorem Oo (x:J5):At (MY x) 0 [.str x.name]:=At.one
theorem On (x:J5):At (MY x) 1 (BQ x.type):=At.cons (At.front)
theorem J0 (x:Ff):At (FG x) 0 [I x.kind]:=At.one
theorem G9 (x:Ff):At (FG x) 1 [I x.decl]:=At.cons (At.one)
theorem PA (x:Ff):At (FG x) 2 [I x.item]:=At.cons (At.cons (At.one))
theorem MF (x:Ff):At (FG x) 3 [I x.params]:=At.cons (At.cons (At.cons (At.one)))
theorem IZ (x:Bx):At (Br x) 15 [I x.recs.params]:=(Ji x).sub (Mo _) (by simp[Hn])
theorem JP (x:Bx):At (Br x) 16 (BQ x.recs.type):=(Ji x).sub (PY _) (by simp[Hn])
theorem Gu.body:∀{t:F4},Gu t→VQ t.body
 | .mk _ _ _ _,h=>h.1
theorem Gu.bl:∀{t:F4},Gu t→t.branches.length<2000000
 | .mk _ _ _ _,h=>h.2.1
theorem Gu.bs:∀{t:F4},Gu t→L5 t.branches
 | .mk _ _ _ _,h=>h.2.2
theorem SL.tr:∀{b:JK},SL b→Gu b.tree
 | .mk _ _ _,h=>h.2
section
variable {f:Nat→Option (Nat×Nat)}{k a i p:Int}{t:Tm}
theorem Yx (h1:f 1=some (1,1)) (h3:f 3=some (3,1)) (h4:f 4=some (4,5)):ES f [.p (I 0),.p (I 0),.p (I 0),.p (I 0),.p (I 0),.p (I 0),.p (.str ⟨#[]⟩),.p .nils,.p .nils] [(1,.p (I a)),(3,.p (I p)),(4,TV t)]=some ((FG ⟨0,a,0,p,t⟩).map .p):=by
 obtain⟨tk,ti,tn,tl,ts⟩:=t;simp[ES,h1,h3,h4,DM,splice,BQ,FG]
theorem Wv (h0:f 0=some (0,1)) (h1:f 1=some (1,1)) (h3:f 3=some (3,1)) (h4:f 4=some (4,5)):ES f [.p (I 0),.p (I 0),.p (I 0),.p (I 0),.p (I 0),.p (I 0),.p (.str ⟨#[]⟩),.p .nils,.p .nils] [(0,.p (I k)),(1,.p (I a)),(3,.p (I p)),(4,TV t)]=some ((FG ⟨k,a,0,p,t⟩).map .p):=by
 obtain⟨tk,ti,tn,tl,ts⟩:=t;simp[ES,h0,h1,h3,h4,DM,splice,BQ,FG]
theorem Pt (h0:f 0=some (0,1)) (h1:f 1=some (1,1)) (h2:f 2=some (2,1)) (h3:f 3=some (3,1)) (h4:f 4=some (4,5)):ES f [.p (I 0),.p (I 0),.p (I 0),.p (I 0),.p (I 0),.p (I 0),.p (.str ⟨#[]⟩),.p .nils,.p .nils] [(0,.p (I k)),(1,.p (I a)),(2,.p (I i)),(3,.p (I p)),(4,TV t)]=some ((FG ⟨k,a,i,p,t⟩).map .p):=by
 obtain⟨tk,ti,tn,tl,ts⟩:=t;simp[ES,h0,h1,h2,h3,h4,DM,splice,BQ,FG]
end
def FV (TA:Ff→List Ax) (T0:List Ax) (nm:ByteArray) (l:List (ByteArray×Ff)):List Ax:=match CV nm l with
 | some e=>TA e
 | none=>T0
section
variable {TA:Ff→List Ax}{T0:List Ax}{nm:ByteArray}{d:Bx}{i:Int}{j:Nat}
theorem Qt (h:d.kind=0∨d.kind=1∨d.kind=2):FV TA T0 nm (Db d i)=if d.name=nm then TA ⟨d.kind,i,0,d.params,d.type⟩ else T0:=by
 unfold FV Db;rw[if_pos h];simp only[CV];by_cases e:d.name=nm<;>simp[e]
theorem Tz (h:d.kind=3) (hn:d.name=nm):FV TA T0 nm (Db d i)=TA ⟨3,i,0,d.params,d.type⟩:=by
 unfold FV Db;rw[if_neg Ah,if_pos h];simp only[CV,if_pos hn]
theorem RV (h:d.kind=3) (hn:¬d.name=nm) {c:Dk}(hx:d.ctors[j]?=some c) (he:c.name=nm) (hb:∀q,q<j→∀y,d.ctors[q]?=some y→y.name≠nm):FV TA T0 nm (Db d i)=TA ⟨4,i,j,d.params,c.type⟩:=by
 unfold FV Db;rw[if_neg Ah,if_pos h];simp only[CV,if_neg hn,JA,Ny hx he hb,Int.zero_add]
theorem TG (h:d.kind=3) (hn:¬d.name=nm) (hb:∀q:Nat,q<d.ctors.length→∀y,d.ctors[q]?=some y→y.name≠nm):FV TA T0 nm (Db d i)=if Vi d.name=nm then TA ⟨5,i,0,d.recs.params,d.recs.type⟩ else T0:=by
 unfold FV Db;rw[if_neg Ah,if_pos h];simp only[CV,if_neg hn,JA,Lj hb];by_cases e:Vi d.name=nm<;>simp[e]
theorem Tb (h:d.kind=4) {c:J5}(hx:d.funs[j]?=some c) (he:c.name=nm) (hb:∀q,q<j→∀y,d.funs[q]?=some y→y.name≠nm):FV TA T0 nm (Db d i)=TA ⟨6,i,j,d.params,c.type⟩:=by
 unfold FV Db;rw[if_neg Ah,if_neg Ah,if_pos h];simp only[Pl hx he hb,Int.zero_add]
theorem Ri (h:d.kind=4) (hb:∀q:Nat,q<d.funs.length→∀y,d.funs[q]?=some y→y.name≠nm):FV TA T0 nm (Db d i)=T0:=by
 unfold FV Db;rw[if_neg Ah,if_neg Ah,if_pos h];simp only[OT hb]
theorem RH (h:¬(d.kind=0∨d.kind=1∨d.kind=2)) (h3:¬d.kind=3) (h4:¬d.kind=4):FV TA T0 nm (Db d i)=T0:=by
 unfold FV Db;rw[if_neg h,if_neg h3,if_neg h4];rfl
theorem Up (h:d.kind=0∨d.kind=1∨d.kind=2):(d.name,(⟨d.kind,i,0,d.params,d.type⟩:Ff))∈Db d i:=by
 unfold Db;rw[if_pos h];simp
theorem XC (h:d.kind=3):(d.name,(⟨3,i,0,d.params,d.type⟩:Ff))∈Db d i:=by
 unfold Db;rw[if_neg Ah,if_pos h];simp
theorem Uv (h:d.kind=3) {c:Dk}(hx:d.ctors[j]?=some c):(c.name,(⟨4,i,j,d.params,c.type⟩:Ff))∈Db d i:=by
 unfold Db;rw[if_neg Ah,if_pos h];have:=Ns (i:=i) (p:=d.params) (k:=0) hx;rw[Int.zero_add] at this;simp[this]
theorem Xa (h:d.kind=3):(Vi d.name,(⟨5,i,0,d.recs.params,d.recs.type⟩:Ff))∈Db d i:=by
 unfold Db;rw[if_neg Ah,if_pos h];simp
theorem XL (h:d.kind=4) {c:J5}(hx:d.funs[j]?=some c):(c.name,(⟨6,i,j,d.params,c.type⟩:Ff))∈Db d i:=by
 unfold Db;rw[if_neg Ah,if_neg Ah,if_pos h];have:=QS (i:=i) (p:=d.params) (k:=0) hx
 rwa [Int.zero_add] at this
end
theorem QB {nm:ByteArray}{e:Ff}:∀{ds:List Bx}{i:Nat}{k:Int}{d:Bx},ds[i]?=some d→(∀j,j<i→∀y,ds[j]?=some y→CV nm (Db y (k+j))=none)→CV nm (Db d (k+i))=some e→findF nm ds k=some e
 | [],i,k,d,h,_,_=>by simp at h
 | a::ds,0,k,d,h,_,hn=>by
  simp at h;subst h;rw[findF];rw[show k+((0:Nat):Int)=k by omega] at hn;rw[hn]
 | a::ds,i+1,k,d,h,hb,hn=>by
  have h0:=hb 0 Ah a rfl;rw[show k+((0:Nat):Int)=k by omega] at h0;rw[findF,h0];exact QB (by simpa using h) (fun j hj y hy=>by have:=hb (j+1) Ah y (by simpa using hy);rwa [show k+((j+1:Nat):Int)=k+1+j by omega] at this) (by rwa [show k+((i+1:Nat):Int)=k+1+i by omega] at hn)
theorem Pq {nm:ByteArray}:∀{ds:List Bx}{k:Int},(∀j,j<ds.length→∀y,ds[j]?=some y→CV nm (Db y (k+j))=none)→findF nm ds k=none
 | [],k,_=>rfl
 | a::ds,k,hb=>by
  have h0:=hb 0 Ai a rfl;rw[show k+((0:Nat):Int)=k by omega] at h0;rw[findF,h0];exact Pq fun j hj y hy=>by have:=hb (j+1) (by simpa using hj) y (by simpa using hy);rwa [show k+((j+1:Nat):Int)=k+1+j by omega] at this
theorem Vr {nm:ByteArray}{e:Ff}{ds:List Bx}{i:Nat}{d:Bx}(hx:ds[i]?=some d) (hb:∀j,j<i→∀y,ds[j]?=some y→CV nm (Db y j)=none) (he:CV nm (Db d i)=some e):B2 ds nm=(e,0):=by
 rw[B2,QB hx (fun j hj y hy=>by rw[Int.zero_add];exact hb j hj y hy) (by rwa [Int.zero_add])]
theorem UA {nm:ByteArray}{ds:List Bx}(hb:∀j,j<ds.length→∀y,ds[j]?=some y→CV nm (Db y j)=none):B2 ds nm=(YY,9):=by
 rw[B2,Pq fun j hj y hy=>by rw[Int.zero_add];exact hb j hj y hy]
def gm (ds:List Bx):Prop:=∀d∈ds,d.kind=0∨bN d
theorem Lg {nm:ByteArray}:∀{l:List (ByteArray×Ff)}{e:Ff},CV nm l=some e→∃s,(s,e)∈l
 | (s,x)::l,e,h=>by
  simp only[CV] at h;split at h
  ·cases h;exact⟨s,by simp⟩
  obtain⟨s',h'⟩:=Lg h;exact⟨s',List.mem_cons_of_mem _ h'⟩
theorem Qc {i p:Int}{s:ByteArray}{e:Ff}:∀{cs:List Dk}{k:Int},(s,e)∈HR i p cs k→∃(j:Nat) (c:Dk),cs[j]?=some c∧e=⟨4,i,k+j,p,c.type⟩
 | c::cs,k,h=>by
  simp only[HR,List.mem_cons] at h;rcases h with h | h
  ·cases h;exact⟨0,c,rfl,by simp⟩
  obtain⟨j,c',h1,h2⟩:=Qc h;exact⟨j+1,c',by simpa using h1,by rw[h2];congr 1;omega⟩
theorem R6 {i p:Int}{s:ByteArray}{e:Ff}:∀{cs:List J5}{k:Int},(s,e)∈K9 i p cs k→∃(j:Nat) (c:J5),cs[j]?=some c∧e=⟨6,i,k+j,p,c.type⟩
 | c::cs,k,h=>by
  simp only[K9,List.mem_cons] at h;rcases h with h | h
  ·cases h;exact⟨0,c,rfl,by simp⟩
  obtain⟨j,c',h1,h2⟩:=R6 h;exact⟨j+1,c',by simpa using h1,by rw[h2];congr 1;omega⟩
structure V6 (d:Bx) (i:Int) (e:Ff):Prop where
 decl:e.decl=i
 kind:0≤e.kind∧e.kind≤6
 ctor:e.kind=4→∃(j:Nat) (c:Dk),d.ctors[j]?=some c∧e.item=j
 func:e.kind=6→∃(j:Nat) (c:J5),d.funs[j]?=some c∧e.item=j
theorem aH {d:Bx}{i:Int}{s:ByteArray}{e:Ff}(h:(s,e)∈Db d i):V6 d i e:=by
 unfold Db at h;split at h
 ·rename_i hk;simp only[List.mem_singleton,Prod.mk.injEq] at h;obtain⟨_,rfl⟩:=h;exact⟨O,by simp only;omega,fun q=>by simp only at q;omega,fun q=>by simp only at q;omega⟩
 split at h
 ·simp only[List.mem_cons,List.mem_append,List.mem_singleton,Prod.mk.injEq,List.not_mem_nil,or_false] at h;rcases h with ⟨_,rfl⟩ | h | ⟨_,rfl⟩
  ·exact⟨O,by simp,fun q=>by simp at q,fun q=>by simp at q⟩
  ·obtain⟨j,c,h1,rfl⟩:=Qc h;exact⟨O,by simp,fun _=>⟨j,c,h1,by simp⟩,fun q=>by simp at q⟩
  exact⟨O,by simp,fun q=>by simp at q,fun q=>by simp at q⟩
 split at h
 ·obtain⟨j,c,h1,rfl⟩:=R6 h;exact⟨O,by simp,fun q=>by simp at q,fun _=>⟨j,c,h1,by simp⟩⟩
 cases h
theorem Qf {nm:ByteArray}:∀{ds:List Bx}{k:Int}{e:Ff},findF nm ds k=some e→∃(i:Nat) (d:Bx),ds[i]?=some d∧V6 d (k+i) e
 | d::ds,k,e,h=>by
  simp only[findF] at h;split at h
  ·rename_i x hx;cases h;obtain⟨s,hs⟩:=Lg hx;exact⟨0,d,O,by simpa using aH hs⟩
  obtain⟨i,d',h1,h2⟩:=Qf h;refine⟨i+1,d',by simpa using h1,?_⟩;rw[show k+((i+1:Nat):Int)=k+1+i by omega];exact h2
theorem MG {ds:List Bx}{nm:ByteArray}(h:(B2 ds nm).2=0):∃(i:Nat) (d:Bx),ds[i]?=some d∧V6 d i (B2 ds nm).1:=by
 unfold B2 at h ⊢;cases e:findF nm ds 0 with
 | none=>rw[e] at h;simp at h
 | some x =>
  obtain⟨i,d,h1,h2⟩:=Qf e;exact⟨i,d,h1,by simpa using h2⟩
def Sb:Bx:=⟨0,⟨#[]⟩,0,BH,BH,0,[],⟨0,BH,[]⟩,[]⟩
def Ca (E:List Bx) (nm:ByteArray):Bx×Int×Bool:=match Eb E nm with
 | some (d,j)=>(d,j,true)
 | none=>(Sb,0,false)
section
variable {E:List Bx}{nm:ByteArray}{x:Bx}
theorem WH (h:(B2 E nm).2≠0):Ca E nm=(Sb,0,false):=by simp[Ca,Eb,h]
theorem KC (hx:E[(B2 E nm).1.decl.toNat]?=some x):B3 E (B2 E nm).1.decl=x:=JU hx
theorem aZ (h:(B2 E nm).2=0) (h3:(B2 E nm).1.kind=3) (hx:E[(B2 E nm).1.decl.toNat]?=some x):Ca E nm=(x,-1,true):=by
 simp[Ca,Eb,h,h3,KC hx]
theorem ed (h:(B2 E nm).2=0) (h3:(B2 E nm).1.kind=4) (hx:E[(B2 E nm).1.decl.toNat]?=some x):Ca E nm=(x,(B2 E nm).1.item,true):=by
 simp[Ca,Eb,h,h3,KC hx]
theorem cx (h:(B2 E nm).2=0) (h3:(B2 E nm).1.kind=5) (hx:E[(B2 E nm).1.decl.toNat]?=some x):Ca E nm=(x,-2,true):=by
 simp[Ca,Eb,h,h3,KC hx]
theorem Yu (h3:(B2 E nm).1.kind≠3) (h4:(B2 E nm).1.kind≠4) (h5:(B2 E nm).1.kind≠5):Ca E nm=(Sb,0,false):=by
 simp[Ca,Eb,h3,h4,h5]
end
def V9 (E:List Bx) (h:Tm):Bool:=decide ((B2 E h.name).2=0)&&decide ((h.levels.length:Int)=(B2 E h.name).1.params)
theorem Zu {E:List Bx}{k i:Int}{n:ByteArray}{ls:List CB}{ks:List Tm}(h:(B2 E n).2=0):(((ls.length:Nat):Int)==(B2 E n).1.params)=V9 E (.mk k i n ls ks):=by
 simp only[V9,Tm.name,Tm.levels,h,decide_true,Bool.true_and];rw[Bool.eq_iff_iff,beq_iff_eq];exact⟨fun q=>decide_eq_true q,fun q=>of_decide_eq_true q⟩
theorem eA {E:List Bx}{k i:Int}{n:ByteArray}{ls:List CB}{ks:List Tm}(h:(B2 E n).2≠0):false=V9 E (.mk k i n ls ks):=by
 simp[V9,Tm.name,h]
def Out.ex {α:Type}:Out α→Except Int α
 | .ok a=> .ok a
 | .stuck=> .error 0
 | .fail=> .error 0
section
variable {α β σ:Type}
end
section
variable {E:List Bx}{σ:Type}{S:Sys σ}{W:σ→Tm→Out (Tm×σ)}{n:Nat}{t:F4}{v:List Tm}{l:Tm}{s:σ}{x:Tm}
def jU (E:List Bx) (S:Sys σ) (W:σ→Tm→Out (Tm×σ)) (n:Nat) (t:F4) (v:List Tm) (r:Tm×σ):Out ((Option (Tm×List Tm)×Tm)×σ):=match Gj E r.1 with
 | none=> .ok ((none,r.1),r.2)
 | some (d,j,fields)=>match Di (Gd d j).name t.branches with
  | none=> .ok ((none,r.1),r.2)
  | some t'=>Nb E S W n t' (v++fields) r.1 r.2
end
section
variable {E:List Bx}{σ:Type}{S:Sys σ}{W:σ→Tm→Out (Tm×σ)}{n:Nat}{h m:Tm}{a:List Tm}{s:σ}{d:Bx}{x:Ff}
def fR (S:Sys σ) (f:J5) (h:Tm) (a:List Tm) (q:(Option (Tm×List Tm)×Tm)×σ):Out (Option Tm×σ):=match q.1.1 with
 | none=> .ok (none,q.2)
 | some (b,vars)=>if S.over q.2=true then .ok (none,q.2) else Vq S h b vars (a.drop f.arity.toNat) q.2
section
variable (hu:V9 E h=true) (hd:E[(B2 E h.name).1.decl.toNat]?=some d)
include hu hd
omit hd
end
end
section
variable {E:List Bx}{σ:Type}{S:Sys σ}{n:Nat}{t:Tm}{s:σ}{X:Out (Tm×σ)}
section
variable (ho:okB t=true) (h:S.over s=false) (hm:S.many (A4 t).2.length=false)
include ho h hm
def jG (E:List Bx) (S:Sys σ) (n:Nat) (h:Tm) (a:List Tm) (r:Tm×σ):Out (Tm×σ) :=
 if r.1.kind≠8 then .ok (apply (P8 h.kind r.1) a,r.2) else Uo S h r.1 a r.2 fun x s'=>SA E S n s' x
def jI (E:List Bx) (S:Sys σ) (n:Nat) (t:Tm) (r:Option Tm×σ):Out (Tm×σ):=match r.1 with
 | none=> .ok (t,r.2)
 | some x=>SA E S n r.2 x
end
end
inductive NV where
 | fn (a:Nat)
 | pr (a:Nat)
 | st (a:Nat)
 deriving DecidableEq,Inhabited
structure NB where
 t:Tm
 vars:Option Nat
 deriving Inhabited
structure NH where
 kind:Int
 level:Int
 node:Tm
 kids:List Nat
 body:Option NB
 deriving Inhabited
inductive NO where
 | thunk (t:Tm) (vars:Option Nat) (known:Option NV)
 | scope (first:Nat) (rest:Option Nat)
 | func (domain:Nat) (body:NB)
 | pair (domain first second:Nat)
 | stuck (h:NH) (args:List Nat)
 deriving Inhabited
structure NS where
 objs:List NO
 left:Int
 nodes:Int
def NS.get (s:NS) (a:Nat):Option NO:=if a<s.objs.length then s.objs[s.objs.length - 1 - a]? else none
def NS.set (s:NS) (a:Nat) (o:NO):NS:={ s with objs:=s.objs.set (s.objs.length - 1 - a) o }
def NS.new (s:NS) (o:NO):NS:={ s with objs:=o::s.objs }
def NS.next (s:NS):Nat:=s.objs.length
def NS.count (s:NS) {α:Type}(k:NS→Out α):Out α:=if s.left - 1<0 then .fail else k { s with left:=s.left - 1 }
def NS.node (s:NS) (d:Int) {α:Type}(k:NS→Out α):Out α:=if s.nodes+1 > 8192∨d > 400 then .fail else k { s with nodes:=s.nodes+1 }
def NS.thunk (s:NS) (t:Tm) (vars:Option Nat):NS:=s.new (.thunk t vars none)
def NH.plain (k:Int) (node:Tm):NH:=⟨k,0,node,[],none⟩
def NS.var (s:NS) (level:Int):NS:=s.new (.stuck ⟨0,level,BH,[],none⟩ [])
section
variable (E:List Bx)
def Zh (nm:ByteArray) (ls:List CB):Option Tm :=
 if (B2 E nm).2≠0∨(B2 E nm).1.kind≠1∨(ls.length:Int)≠(B2 E nm).1.params then none
 else if (D2 (B3 E (B2 E nm).1.decl).value ls).2≠0 then none else some (D2 (B3 E (B2 E nm).1.decl).value ls).1
def X9 (s:NS):NV→Option (Bx×Int×List Nat)
 | .st a=>match s.get a with
  | some (.stuck h args) =>
   if h.kind≠3 then none
   else match Eb E h.node.name with
    | none=>none
    | some (d,j)=>if j<0 then none else if (args.length:Int)≠d.fixed+LY d j then none else some (d,j,args.drop d.fixed.toNat)
  | _=>none
 | _=>none
inductive Rq where
 | eval (t:Tm) (vars:Option Nat)
 | force (a:Nat)
 | apply (v:NV) (a:Nat)
 | body (b:NB) (a:Nat)
def YC (W:Rq→NS→Out (NV×NS)) (s:NS):Nat→Int→Option Nat→Out (NV×NS)
 | _,i,none=> .ok (.st s.next,s.var (-1 - i))
 | 0,_,_=> .stuck
 | n+1,i,some b=>match s.get b with
  | some (.scope x r)=>if i=0 then W (.force x) s else YC W s n (i - 1) r
  | _=> .stuck
def cZ (W:Rq→NS→Out (NV×NS)) (k:Int) (v:NV) (s:NS):Out (NV×NS):=match v with
 | .pr a=>s.count fun s=>match s.get a with
  | some (.pair d x y)=>W (.force (if k=9 then x else y)) s
  | _=> .stuck
 | v=> .ok (.st (s.next+1),(s.new (.thunk BH none (some v))).new (.stuck ⟨k,0,BH,[s.next],none⟩ []))
def YZ (W:Rq→NS→Out (NV×NS)):List Nat→NV→NS→Out (NV×NS)
 | [],v,s=> .ok (v,s)
 | x::xs,v,s=>(W (.apply v x) s).bind fun r=>YZ W xs r.1 r.2
def gh (W:Rq→NS→Out (NV×NS)) (d:Bx) (ls:List CB) (args:List Nat) (s:NS):Out (Option NV×NS) :=
 if (args.length:Int)≠Ee d+1 then .ok (none,s)
 else match args[(Ee d).toNat]? with
  | none=> .stuck
  | some x=>(W (.force x) s).bind fun r=>match X9 E r.2 r.1 with
   | none=> .ok (none,r.2)
   | some (e,j,fields) =>
    if e.name≠d.name∨j≥(d.recs.rules.length:Int) then .ok (none,r.2)
    else if (D2 (O5 d j) ls).2≠0 then .ok (none,r.2)
    else r.2.count fun s=>(W (.eval (D2 (O5 d j) ls).1 none) s).bind fun q =>
     (YZ W (args.take (d.fixed+1+d.ctors.length).toNat++fields) q.1 q.2).bind fun q=> .ok (some q.1,q.2)
def Yl (W:Rq→NS→Out (NV×NS)):Nat→F4→List Nat→NS→Out (Option (Tm×List Nat)×NS)
 | 0,_,_,_=> .stuck
 | n+1,t,vars,s =>
  if t.kind=1 then
   if t.var<0∨t.var≥(vars.length:Int) then .ok (none,s)
   else (W (.force (vars.getD t.var.toNat 0)) s).bind fun r=>match X9 E r.2 r.1 with
    | none=> .ok (none,r.2)
    | some (d,j,fields)=>match Di (Gd d j).name t.branches with
     | none=> .ok (none,r.2)
     | some t'=>Yl W n t' (vars++fields) r.2
  else .ok (some (t.body,vars),s)
def Rc:List Nat→Option Nat→NS→Option Nat×NS
 | [],r,s=>(r,s)
 | x::xs,r,s=>Rc xs (some s.next) (s.new (.scope x r))
def gU (W:Rq→NS→Out (NV×NS)) (n:Nat) (f:J5) (ls:List CB) (args:List Nat) (s:NS):Out (Option NV×NS) :=
 if (args.length:Int)≠f.arity then .ok (none,s)
 else (Yl E W n f.tree args s).bind fun r=>match r.1 with
  | none=> .ok (none,r.2)
  | some (b,vars) =>
   if (D2 b ls).2≠0 then .ok (none,r.2)
   else r.2.count fun s=>(W (.eval (D2 b ls).1 (Rc vars none s).1) (Rc vars none s).2).bind fun q=> .ok (some q.1,q.2)
def gB (W:Rq→NS→Out (NV×NS)) (n:Nat) (v:NV) (x:Nat) (s:NS):Out (NV×NS):=match v with
 | .fn a=>s.count fun s=>match s.get a with
  | some (.func d b)=>W (.body b x) s
  | _=> .stuck
 | .pr a=>match s.get a with
  | some (.pair d p q)=> .ok (.st s.next,s.new (.stuck ⟨8,0,BH,[d,p,q],none⟩ [x]))
  | _=> .stuck
 | .st a=>match s.get a with
  | some (.stuck h args) =>
   if args.length≥4096 then .fail
   else
    let s1:=s.new (.stuck h (args++[x]))
    if h.kind≠3 then .ok (.st s.next,s1)
    else match IN E h.node with
     | none=> .ok (.st s.next,s1)
     | some e =>
      (if e.kind=5 then gh E W (B3 E e.decl) h.node.levels (args++[x]) s1
       else if e.kind=6 then gU E W n (Ek (B3 E e.decl) e.item) h.node.levels (args++[x]) s1
       else .ok (none,s1)).bind fun r=>match r.1 with
        | some v=> .ok (v,r.2)
        | none=> .ok (.st s.next,r.2)
  | _=> .stuck
def jl (W:Rq→NS→Out (NV×NS)) (n:Nat) (t:Tm) (ρ:Option Nat) (s:NS):Out (NV×NS):=match t.kids with
 | [p]=>if t.kind=9∨t.kind=10 then (W (.eval p ρ) s).bind fun r=>cZ W t.kind r.1 r.2 else .stuck
 | [a,b] =>
  if t.kind=4 then (W (.eval a ρ) s).bind fun r=>W (.apply r.1 r.2.next) (r.2.thunk b ρ)
  else if t.kind=5 then .ok (.fn (s.next+1),(s.thunk a ρ).new (.func s.next ⟨b,ρ⟩))
  else if t.kind=6∨t.kind=7 then .ok (.st (s.next+1),(s.thunk a ρ).new (.stuck ⟨t.kind,0,BH,[s.next],some ⟨b,ρ⟩⟩ []))
  else .stuck
 | [a,b,c] =>
  if t.kind=11 then s.count fun s=>W (.eval c (some (s.next+1))) ((s.thunk b ρ).new (.scope s.next ρ))
  else if t.kind=8 then .ok (.pr (s.next+3),(((s.thunk a ρ).thunk b ρ).thunk c ρ).new (.pair s.next (s.next+1) (s.next+2)))
  else .stuck
 | [] =>
  if t.kind=0 then YC W s n t.index ρ
  else if t.kind=3 then match Zh E t.name t.levels with
   | some v=>s.count fun s=>W (.eval v none) s
   | none=> .ok (.st s.next,s.new (.stuck (.plain t.kind t) []))
  else .ok (.st s.next,s.new (.stuck (.plain t.kind t) []))
 | _=> .stuck
def Zb:Nat→Rq→NS→Out (NV×NS)
 | 0,_,_=> .stuck
 | n+1,.eval t ρ,s=>jl E (Zb n) n t ρ s
 | n+1,.force a,s=>match s.get a with
  | some (.thunk t ρ (some v))=> .ok (v,s)
  | some (.thunk t ρ none)=>(Zb n (.eval t ρ) s).bind fun r=> .ok (r.1,r.2.set a (.thunk t none (some r.1)))
  | _=> .stuck
 | n+1,.apply v x,s=>gB E (Zb n) n v x s
 | n+1,.body b x,s=>Zb n (.eval b.t (some s.next)) (s.new (.scope x b.vars))
def XI (Q:NS→Nat→Int→Out (Tm×NS)) (d:Int):List Nat→NS→Out (List Tm×NS)
 | [],s=> .ok ([],s)
 | x::xs,s=>(Q s x d).bind fun r=>(XI Q d xs r.2).bind fun q=> .ok (r.1::q.1,q.2)
def dt (Q:NS→Nat→Int→Out (Tm×NS)) (d:Int):List Nat→Tm→NS→Out (Tm×NS)
 | [],t,s=> .ok (t,s)
 | x::xs,t,s=>s.node d fun s=>(Q s x d).bind fun r=>dt Q d xs (Pb t r.1) r.2
mutual
def gC:Nat→NS→NV→Int→Out (Tm×NS)
 | 0,_,_,_=> .stuck
 | n+1,s,.fn a,d=>match s.get a with
  | some (.func x b)=>s.node d fun s=>(eh n s x d).bind fun r=>(im n r.2 b d).bind fun q=> .ok (.mk 5 0 ⟨#[]⟩ [] [r.1,q.1],q.2)
  | _=> .stuck
 | n+1,s,.pr a,d=>match s.get a with
  | some (.pair x y z)=>s.node d fun s=>(XI (eh n) d [x,y,z] s).bind fun r=> .ok (.mk 8 0 ⟨#[]⟩ [] r.1,r.2)
  | _=> .stuck
 | n+1,s,.st a,d=>match s.get a with
  | some (.stuck h args)=>s.node d fun s =>
   (if h.kind=0 then .ok (Cn (d - 1 - h.level),s)
    else if h.kids.length > 0 then (XI (eh n) d h.kids s).bind fun r=>match h.body with
     | none=> .ok (.mk h.kind 0 ⟨#[]⟩ [] r.1,r.2)
     | some b=>(im n r.2 b d).bind fun q=> .ok (.mk h.kind 0 ⟨#[]⟩ [] (r.1++[q.1]),q.2)
    else .ok (h.node,s)).bind fun r=>dt (eh n) d args r.1 r.2
  | _=> .stuck
def eh:Nat→NS→Nat→Int→Out (Tm×NS)
 | 0,_,_,_=> .stuck
 | n+1,s,x,d=>(Zb E n (.force x) s).bind fun r=>gC n r.2 r.1 d
def im:Nat→NS→NB→Int→Out (Tm×NS)
 | 0,_,_,_=> .stuck
 | n+1,s,b,d=>(Zb E n (.body b (s.next+1)) ((s.var d).new (.thunk BH none (some (.st s.next))))).bind fun r=>gC n r.2 r.1 (d+1)
end
def iY (n:Nat) (t:Tm):Out (Tm×NS):=(Zb E n (.eval t none) ⟨[],20000,0⟩).bind fun r=>gC E n r.2 r.1 0
end
def Tr (n:Nat):Option Nat→Bool
 | none=>true
 | some a=>decide (a<n)
def Zi (n:Nat):NV→Bool
 | .fn a | .pr a | .st a=>decide (a<n)
def iK (n:Nat):Option NV→Bool
 | none=>true
 | some v=>Zi n v
def gr (n:Nat):Option NB→Bool
 | none=>true
 | some b=>Tr n b.vars
def iV (n:Nat):NO→Bool
 | .thunk _ v k=>Tr n v&&iK n k
 | .scope x r=>decide (x<n)&&Tr n r
 | .func d b=>decide (d<n)&&Tr n b.vars
 | .pair x y z=>decide (x<n)&&decide (y<n)&&decide (z<n)
 | .stuck h args=>h.kids.all (fun a=>decide (a<n))&&gr n h.body&&args.all (fun a=>decide (a<n))
def ep (s:NS):Bool:=s.objs.all (iV s.objs.length)
def gd {α:Type}(b:Bool) (x:Out α):Out α:=if b=true then x else .stuck
def fD (n:Nat):Rq→Bool
 | .eval _ ρ=>Tr n ρ
 | .force a=>decide (a<n)
 | .apply v a=>Zi n v&&decide (a<n)
 | .body b a=>Tr n b.vars&&decide (a<n)
def YI {α:Type}(s:NS) (o:NO) (k:NS→Out α):Out α:=gd (ep s&&iV s.objs.length o) (k (s.new o))
def aO {α:Type}(s:NS) (k:NS→Out α):Out α:=gd (decide (0<s.left)&&decide (s.left≤20000)) (k { s with left:=s.left - 1 })
def X7 {α:Type}(s:NS) (d:Int) (k:NS→Out α):Out α:=gd (decide (0≤s.nodes)&&decide (s.nodes<8000)&&decide (0≤d)&&decide (d<400)) (k { s with nodes:=s.nodes+1 })
def YL (W:Rq→NS→Out (NV×NS)) (s:NS):Nat→Int→Option Nat→Out (NV×NS)
 | _,i,none=>gd (decide (-1000000≤i)&&decide (i≤1000000)) (YI s (.stuck ⟨0,-1 - i,BH,[],none⟩ []) fun s1=> .ok (.st s.next,s1))
 | 0,_,_=> .stuck
 | n+1,i,some b=>gd (decide (-1000000≤i)&&decide (i≤1000000)) (match s.get b with
  | some (.scope x r)=>if i=0 then W (.force x) s else YL W s n (i - 1) r
  | _=> .stuck)
def dG {α:Type}(s:NS) (x:Out (α×NS)):Out (α×NS):=x.bind fun r=>gd (decide (s.objs.length≤r.2.objs.length)) (.ok r)
def dD (v:NV) (s:NS):Out (NV×NS):=match v with
 | .pr _=> .stuck
 | v=>YI s (.thunk BH none (some v)) fun s1=>YI s1 (.stuck ⟨9,0,BH,[s.next],none⟩ []) fun s2=> .ok (.st s1.next,s2)
def j6 (W:Rq→NS→Out (NV×NS)) (n:Nat) (t:Tm) (ρ:Option Nat) (s:NS):Out (NV×NS):=match t.kids with
 | []=>if t.kind=0 then YL W s n t.index ρ else .stuck
 | [p]=>if t.kind=9 then (W (.eval p ρ) s).bind fun r=>dD r.1 r.2 else .stuck
 | [a,b] =>
  if t.kind=4 then (W (.eval a ρ) s).bind fun r=>YI r.2 (.thunk b ρ none) fun s1=>W (.apply r.1 r.2.next) s1
  else if t.kind=5 then YI s (.thunk a ρ none) fun s1=>YI s1 (.func s.next ⟨b,ρ⟩) fun s2=> .ok (.fn s1.next,s2)
  else .stuck
 | _=> .stuck
def iF (W:Rq→NS→Out (NV×NS)) (v:NV) (x:Nat) (s:NS):Out (NV×NS):=match v with
 | .fn a=>match s.get a with
  | some (.func d b)=>aO s fun s=>W (.body b x) s
  | _=> .stuck
 | .st a=>match s.get a with
  | some (.stuck h args)=>gd (decide (args.length<100)&& !decide (h.kind=3)&&h.body.isNone) (YI s (.stuck h (args++[x])) fun s1=> .ok (.st s.next,s1))
  | _=> .stuck
 | .pr _=> .stuck
def aT:Nat→Rq→NS→Out (NV×NS)
 | 0,_,_=> .stuck
 | n+1,r,s=>gd (ep s&&fD s.objs.length r) ((dG s (match r with
  | .eval t ρ=>j6 (aT n) n t ρ s
  | .force a=>match s.get a with
   | some (.thunk t ρ (some v))=> .ok (v,s)
   | some (.thunk t ρ none)=>(aT n (.eval t ρ) s).bind fun r=>match r.2.get a with
    | some (.thunk t' ρ' k')=> .ok (r.1,r.2.set a (.thunk t' none (some r.1)))
    | _=> .stuck
   | _=> .stuck
  | .apply v x=>iF (aT n) v x s
  | .body b x=>YI s (.scope x b.vars) fun s1=>aT n (.eval b.t (some s.next)) s1)).bind fun r=>gd (Zi r.2.objs.length r.1) (.ok r))
def dc (Q:NS→NV→Int→Out (Tm×NS)) (n:Nat) (s:NS) (x:Nat) (d:Int):Out (Tm×NS):=(aT n (.force x) s).bind fun r=>Q r.2 r.1 d
def fU (Q:NS→Nat→Int→Out (Tm×NS)) (h:NH) (s:NS) (d:Int):Out (Tm×NS) :=
 if h.kind=0 then gd (decide (-1000000≤h.level)&&decide (h.level≤1000000)) (.ok (Cn (d - 1 - h.level),s))
 else gd (decide (0<h.kids.length)&&h.body.isNone) ((XI Q d h.kids s).bind fun r=> .ok (.mk h.kind 0 ⟨#[]⟩ [] r.1,r.2))
def dP (Q:NS→Nat→Int→Out (Tm×NS)) (d:Int):List Nat→Tm→NS→Out (Tm×NS)
 | [],t,s=> .ok (t,s)
 | x::xs,t,s=>X7 s d fun s=>(Q s x d).bind fun r=>dP Q d xs (Pb t r.1) r.2
def aF:Nat→NS→NV→Int→Out (Tm×NS)
 | 0,_,_,_=> .stuck
 | n+1,s,v,d=>match v with
  | .st a=>match s.get a with
   | some (.stuck h args)=>gd (ep s&&decide (h.kids.length<100)&&h.body.isNone) (dG s (X7 s d fun s=>(fU (dc (aF n) n) h s d).bind fun r=>match r.2.get a with
    | some (.stuck h2 args2)=>gd (ep r.2&&decide (args2.length<100)) (dP (dc (aF n) n) d args2 r.1 r.2)
    | _=> .stuck))
   | _=> .stuck
  | _=> .stuck
def jQ (n:Nat) (t:Tm):Out (Tm×NS):=(aT n (.eval t none) ⟨[],20000,0⟩).bind fun r=>aF n r.2 r.1 0
def cA:Tm:= .mk 3 0 ⟨#[65]⟩ [] []
def ik:Tm:= .mk 5 0 ⟨#[]⟩ [] [cA,Cn 0]
def kj:Tm:=Pb (Cn 5) (Pb ik (Cn 3))
def kf:Tm:= .mk 9 0 ⟨#[]⟩ [] [Pb ik (Cn 2)]
structure XT where
 fn:Nat
 st:Nat
 pr:Nat
 clo:Nat
def jN (mu:List Nat) (a:Nat):Nat:=mu.getD (mu.length - 1 - a) 0
def ZJ (mu:List Nat) (a:Nat):PV:= .addr (jN mu a)
def gQ (mu:List Nat) (v:Option Nat):PV:= .optp (v.map (jN mu))
def NV.addr:NV→Nat
 | .fn a | .pr a | .st a=>a
def XT.ty (q:XT):NV→Nat
 | .fn _=>q.fn
 | .pr _=>q.pr
 | .st _=>q.st
def jP (mu:List Nat) (l:List Nat):List (List PV):=l.map fun a=>[ZJ mu a]
section
variable (q:XT) (m:Nat) (mu:List Nat)
def ie (v:NV):PV:= .iface (q.ty v) (ZJ mu v.addr)
def kX:Option NV→PV
 | none=> .nilIface
 | some v=>ie q mu v
def iz (b:NB):AV:= .fn (.func q.clo) [] [.ref [.addr m],.ref (BQ b.t),.ref [gQ mu b.vars]]
def kE:Option NB→AV
 | none=> .p .nilFn
 | some b=>iz q m mu b
def fA (b:Nat):NO→Ax
 | .thunk t v k=> .box b ((BQ t).map .p++[.p (gQ mu v),.p (kX q mu k)])
 | .scope x r=> .box b [.p (ZJ mu x),.p (gQ mu r)]
 | .func d f=> .box b [.p (ZJ mu d),iz q m mu f]
 | .pair x y z=> .box b [.p (ZJ mu x),.p (ZJ mu y),.p (ZJ mu z)]
 | .stuck h args=> .box b (.p (I h.kind):: .p (I h.level)::((BQ h.node).map .p++[.p (.lst (jP mu h.kids)),kE q m mu h.body,.p (.lst (jP mu args))]))
def iU:List Nat→List NO→List Ax
 | b::bs,o::os=>fA q m mu b o::iU bs os
 | _,_=>[]
def HS (s:NS):List Ax:= .box m [.p (.lst []),.p (I s.left),.p (I s.nodes)]::iU q m mu mu s.objs
def ky (nv:NV) (s':NS):Ct→List Ax→Prop
 | .val v,H'=>∃mu',mu'.length=s'.objs.length∧(∃new,mu'=new++mu)∧v= .p (ie q mu' nv)∧H'=HS q m mu' s'
 | .panic _,_=>False
def ka (t:Tm) (s':NS):Ct→List Ax→Prop
 | .val v,H'=>∃mu',mu'.length=s'.objs.length∧(∃new,mu'=new++mu)∧v= .agg ((BQ t).map .p)∧H'=HS q m mu' s'
 | .panic _,_=>False
end
def mB (m:Nat) (l k:Int):Ax:= .box m [.p (.lst []),.p (I l),.p (I k)]
end Go.Eu
namespace Go.Abs
open Go.Eu
section
variable {P:Program}{r:Option Nat}{ops:Array Oper}{n:Nat}{τ₀ τ:Nat→AV}{D:List Cu}{opn:Nat→Bool}{k:Nat}{H:List Ax}{dst:Option Tmp}{op:Op}{ty:TypeId}{pos:String}{aft:Array Edge}
end
section
variable {q:XT}{m b:Nat}{mu:List Nat}{s s':NS}{nv:NV}{t:Tm}{o:NO}{fr:List Ax}
theorem set_set {s:NS}{a:Nat}{o o':NO}:(s.set a o).set a o'=s.set a o':=by simp[NS.set]
end
section
variable {P:Program}{dst:Option Tmp}{ty:TypeId}{pos:String}{aft:Array Edge}{g:Option (Nat×Bool)}{ρ:Operand→AV}{H:List Ax}{x:Operand}
def kh (P:Program) (T:TypeId):Bool:=match P.underlying T with
 | some (.interface _)=>true
 | _=>false
end
end Go.Abs
namespace Go.Eu
open Go.Abs
section
variable {n:Nat}{s s':NS}{nv:NV}{t:Tm}{ρ:Option Nat}{a x:Nat}{W:Rq→NS→Out (NV×NS)}
variable {k i:Int}{nm:ByteArray}{l:List CB}{ts:List Tm}
end
section
variable {n:Nat}{s s':NS}{t t':Tm}{a x:Nat}{d:Int}{Q:NS→Nat→Int→Out (Tm×NS)}
end
theorem Pz.zero:Pz GI:=Pz.num (n:=0) Ah
theorem LC (l:List Tm) (k:Nat):BC (l.take k)+BC (l.drop k)=BC l:=by rw[←JL,List.take_append_drop]
theorem I8:∀(t:Tm),size (A4 t).1+BC (A4 t).2+(A4 t).2.length=size t
 | .mk k i n l [f,a]=>by
  unfold A4;split
  ·have:=I8 f;simp only[JL,BC,size,List.length_append,List.length_cons,List.length_nil];omega
  ·simp[BC]
 | .mk k i n l []=>by simp[A4,BC]
 | .mk k i n l [_]=>by simp[A4,BC]
 | .mk k i n l (_::_::_::_)=>by simp[A4,BC]
mutual
def HF:F4→Nat
 | .mk _ _ _ l=>1+LS l
def VH:JK→Nat
 | .mk _ _ t=>HF t
def LS:List JK→Nat
 | []=>0
 | b::l=>max (VH b) (LS l)
end
structure S5 (E:List Bx):Prop where
 g:XP E
 vl:∀d∈E,size d.value≤400
 ru:∀d∈E,∀t∈d.recs.rules,size t≤400
 fu:∀d∈E,∀f∈d.funs,HF f.tree≤50
theorem QM {nm:ByteArray}:∀{l:List JK}{t:F4},Di nm l=some t→Ou l→Jm t∧HF t≤LS l
 | .mk c a q::l,t,h,ho=>by
  simp only[Ou,YJ] at ho;rw[Di] at h;simp only[LS,VH];split at h
  ·split at h
   ·cases h
   cases h;exact⟨ho.1,by simp only[JK.tree];omega⟩
  obtain⟨h1,h2⟩:=QM h ho.2;exact⟨h1,by omega⟩
theorem Vy {nm:ByteArray}{t t':F4}(h:Di nm t.branches=some t') (ho:Jm t):Jm t'∧HF t' < HF t:=by
 obtain⟨k,b,v,l⟩:=t;simp only[Jm] at ho;obtain⟨h1,h2⟩:=QM h ho.2;exact⟨h1,by simp only[HF,F4.branches] at *;omega⟩
theorem TI {E:List Bx}{nm:ByteArray}{d:Bx}{j:Int}(h:Eb E nm=some (d,j)):d∈E∧(0≤j→j<d.ctors.length):=by
 unfold Eb at h;split at h
 ·cases h
 rename_i h0;obtain⟨i,d',h1,h2⟩:=MG (Decidable.not_not.1 h0);have hd:B3 E (B2 E nm).1.decl=d':=JU (by rw[h2.decl];simpa using h1);have hm:=List.mem_of_getElem? h1;rw[hd] at h;split at h
 ·cases h;exact⟨hm,fun q=>by omega⟩
 split at h
 ·rename_i h4;obtain⟨k,c,h5,h6⟩:=h2.ctor h4;cases h;exact⟨hm,fun _=>by have:=(List.getElem?_eq_some_iff.1 h5).1;omega⟩
 split at h
 ·cases h;exact⟨hm,fun q=>by omega⟩
 cases h
structure Za (E:List Bx) (t:Tm) (d:Bx) (j:Int) (f:List Tm):Prop where
 mem:d∈E
 lo:0≤j
 hi:j<d.ctors.length
 fs:f=(A4 t).2.drop d.fixed.toNat
 len:((A4 t).2.length:Int)=d.fixed+LY d j
 kind:(A4 t).1.kind=3
theorem I7 {E:List Bx}{t:Tm}{d:Bx}{j:Int}{f:List Tm}(h:Gj E t=some (d,j,f)):Za E t d j f:=by
 unfold Gj at h;split at h
 ·cases h
 rename_i hk;split at h
 ·cases h
 rename_i d' j' hf;obtain⟨h1,h2⟩:=TI hf;split at h
 ·cases h
 split at h
 ·cases h
 rename_i h3 h4;cases h;exact⟨h1,by omega,h2 Ah,rfl,Decidable.not_not.1 h4,Decidable.not_not.1 hk⟩
theorem Ps {E:List Bx}{t:Tm}{d:Bx}{j:Int}{f:List Tm}(h:Gj E t=some (d,j,f)) (ho:okB t=true):(∀x∈f,okB x=true∧size x<size t)∧BC f+f.length<size t:=by
 have c:=I7 h;have hs:=I8 t;have hp:=size_pos (A4 t).1;have hd:=LC (A4 t).2 d.fixed.toNat;rw[c.fs];refine⟨fun x hx=>⟨(Kc ho).2 x (List.mem_of_mem_drop hx),?_⟩,by rw[List.length_drop];omega⟩;have:=TL (List.mem_of_mem_drop hx);omega
theorem V7 {E:List Bx}{t:Tm}{d:Bx}{j:Int}{f:List Tm}(hE:XP E) (h:Gj E t=some (d,j,f)):f.length≤1000000:=by
 have c:=I7 h;have hd:=hE.all d c.mem;have hlo:=c.lo;have hhi:=c.hi;have hlt:j.toNat<d.ctors.length:=by omega
 have hx:=List.getElem?_eq_getElem hlt;have hs:=(hd.din.cs _ (List.getElem_mem hlt)).ty.sz;have hl:=Dn d.ctors[j.toNat].type;have hfx:=hd.fx;have hlen:=c.len;rw[c.fs,List.length_drop];unfold LY Zj Gd at hlen;rw[JU hx] at hlen;omega
def GF {α:Type}(o:Out α) (p:α→Prop):Prop:=match o with
 | .stuck=>False
 | .fail=>True
 | .ok a=>p a
section
variable {α β σ:Type}
theorem GF.ok {a:α}{p:α→Prop}(h:p a):GF (.ok a) p:=h
theorem GF.ns {o:Out α}{p:α→Prop}(h:GF o p):o≠ .stuck:=fun e=>by rw[e] at h;exact h
theorem GF.get {o:Out α}{p:α→Prop}{a:α}(h:GF o p) (e:o= .ok a):p a:=by rw[e] at h;exact h
theorem GF.mono {o:Out α}{p q:α→Prop}(h:GF o p) (hpq:∀a,p a→q a):GF o q:=by
 cases o with
 | stuck=>exact h
 | fail=>trivial
 | ok a=>exact hpq a h
theorem GF.bind {o:Out α}{k:α→Out β}{p:α→Prop}{q:β→Prop}(h:GF o p) (hk:∀a,p a→GF (k a) q):GF (o.bind k) q:=by
 cases o with
 | stuck=>exact h
 | fail=>trivial
 | ok a=>exact hk a h
theorem GF.chk {o:Out (Tm×σ)}{k:Tm×σ→Out β}{p:Tm×σ→Prop}{q:β→Prop}(h:GF o p) (hk:∀a,p a→okB a.1=true∧GF (k a) q):GF (o.chk k) q :=
 GF.bind h fun a ha=>by rw[if_pos (hk a ha).1];exact(hk a ha).2
theorem GF.put {S:Sys σ}{s:σ}{x:Tm×Int}{k:Tm→σ→Out β}{q:β→Prop}(ho:okB x.1=true) (hk:∀s',S.res s x.1 x.2=some s'→GF (k x.1 s') q):GF (S.put s x k) q:=by
 unfold Sys.put;rw[if_pos ho];cases h:S.res s x.1 x.2 with
 | none=>trivial
 | some s'=>exact hk s' h
end
structure U5 {σ:Type} (S:Sys σ) (J:σ→Prop) (cnt:σ→Nat) (C:Nat):Prop where
 nov:∀s,J s→S.over s=false→cnt s≤C
 res:∀s t e s',J s→cnt s<1152921504606846976→okB t=true→S.res s t e=some s'→J s'∧cnt s'=cnt s+1
 hC:C≤20000
section
variable {σ:Type}(S:Sys σ) (J:σ→Prop) (cnt:σ→Nat) (C:Nat)
structure dM (s:σ) (t:Tm) (r:Tm×σ):Prop where
 j:J r.2
 ok:okB r.1=true
 le:cnt s≤cnt r.2
 sz:size r.1≤size t+(cnt r.2 - cnt s)*4500
 ub:S.over s=false→cnt r.2≤C+1+size t+(C - cnt s)*4500
 st:S.over s=true→r.2=s
structure ga (n:Nat) (s:σ) (t:Tm):Prop where
 j:J s
 ok:okB t=true
 pm:S.over s=false→size t+(C - cnt s)*4500≤90100000
 fu:S.over s=false→size t+(C - cnt s)*4501+100≤n
 n1:1≤n
def dT (n:Nat) (W:σ→Tm→Out (Tm×σ)):Prop:=∀s t,ga S J cnt C n s t→GF (W s t) (dM S J cnt C s t)
end
section
variable {σ:Type}{S:Sys σ}{J:σ→Prop}{cnt:σ→Nat}{C:Nat}{E:List Bx}{n:Nat}{W:σ→Tm→Out (Tm×σ)}
variable (hS:U5 S J cnt C) (hE:S5 E) (hW:dT S J cnt C n W)
structure jh (S:Sys σ) (J:σ→Prop) (cnt:σ→Nat) (C n V Z:Nat) (s:σ) (vars:List Tm) (last:Tm):Prop where
 j:J s
 ok:∀v∈vars,okB v=true
 lok:okB last=true
 pm:S.over s=false→∀v∈vars,size v+(C - cnt s)*4500≤V
 fu:S.over s=false→∀v∈vars,size v+(C - cnt s)*4501+100≤n
 lm:S.over s=false→size last+(C - cnt s)*4500≤V∧size last+(C - cnt s)*4501+100≤n
 zs:∀v∈vars,size v≤Z
 lz:size last≤Z
structure jK (S:Sys σ) (J:σ→Prop) (cnt:σ→Nat) (C n V L Z:Nat) (s:σ) (q:(Option (Tm×List Tm)×Tm)×σ):Prop where
 j:J q.2
 le:cnt s≤cnt q.2
 ub:S.over s=false→cnt q.2≤C+1+V
 st:S.over s=true→q.2=s
 ok:∀b vars,q.1.1=some (b,vars)→okB b=true∧∀v∈vars,okB v=true
 vl:∀b vars,q.1.1=some (b,vars)→vars.length≤L∧BC vars<1125899906842624
 lok:okB q.1.2=true
 lz:q.1.1=none→size q.1.2≤Z+(cnt q.2 - cnt s)*4500
 lm:S.over q.2=false→q.1.1=none→size q.1.2+(C - cnt q.2)*4500≤V∧size q.1.2+(C - cnt q.2)*4501+100≤n
include hS hE hW
end
section
variable {σ:Type}{S:Sys σ}{J:σ→Prop}{cnt:σ→Nat}{C:Nat}{E:List Bx}{n:Nat}{W:σ→Tm→Out (Tm×σ)}
structure iy (S:Sys σ) (J:σ→Prop) (cnt:σ→Nat) (C:Nat) (s:σ) (z:Nat) (r:Option Tm×σ):Prop where
 j:J r.2
 le:cnt s≤cnt r.2
 ub:cnt r.2≤C+1+z+(C - cnt s)*4500
 ok:∀x,r.1=some x→okB x=true∧cnt s+1≤cnt r.2∧size x≤z+(cnt r.2 - cnt s)*4500
variable (hS:U5 S J cnt C)
include hS
variable (hE:S5 E)
include hE
variable (hW:dT S J cnt C n W)
include hW
end
section
variable {σ:Type}{S:Sys σ}{J:σ→Prop}{cnt:σ→Nat}{C:Nat}{E:List Bx}
variable (hS:U5 S J cnt C) (hE:S5 E)
include hS
include hE
end
def PE:Tm→List Int→Tm→Prop
 | t,[],v=>t=v
 | t,p::ps,v=>∃y,(A4 t).2[p.toNat]?=some y∧PE y ps v
theorem OA {k:Int}{w:Tm}:∀{ps:List Int}{t v:Tm},PE t ps v→(A4 v).2[k.toNat]?=some w→PE t (ps++[k]) w
 | [],t,v,h,hw=>by cases h;exact⟨w,hw,rfl⟩
 | p::ps,t,v,⟨y,h1,h2⟩,hw=>⟨y,h1,OA h2 hw⟩
structure Xy (a vars:List Tm) (pl:List (Int×List Int)):Prop where
 len:pl.length=vars.length
 at_:∀(i:Nat) v,vars[i]?=some v→∃j path y,pl[i]?=some (j,path)∧a[j.toNat]?=some y∧PE y path v
theorem Rh (p:Int×List Int) (fx:Int) (n:Nat):(IG p fx n).length=n:=by simp[IG]
theorem Xy.more {a vars:List Tm}{pl:List (Int×List Int)}(h:Xy a vars pl) {i:Nat}{v:Tm}{p:Int×List Int}(hv:vars[i]?=some v) (hp:pl[i]?=some p) {fx:Int}(hfx:0≤fx):Xy a (vars++(A4 v).2.drop fx.toNat) (pl++IG p fx ((A4 v).2.drop fx.toNat).length):=by
 refine⟨by rw[List.length_append,List.length_append,h.len,Rh],fun q w hw=>?_⟩;by_cases hq:q<vars.length
 ·rw[List.getElem?_append_left hq] at hw;rw[List.getElem?_append_left (by rw[h.len];exact hq)];exact h.at_ q w hw
 rw[List.getElem?_append_right Ah] at hw;rw[List.getElem?_append_right (by rw[h.len];omega),h.len];obtain⟨j,path,y,h1,h2,h3⟩:=h.at_ i v hv;rw[hp] at h1;cases h1;have hlt:=(List.getElem?_eq_some_iff.1 hw).1;rw[List.getElem?_drop] at hw;refine⟨j,path++[fx+((q - vars.length:Nat):Int)],y,?_,h2,OA h3 (by rw[show (fx+((q - vars.length:Nat):Int)).toNat=fx.toNat+(q - vars.length) by omega];exact hw)⟩;rw[IG,List.getElem?_map,List.getElem?_range hlt];rfl
section
variable {σ:Type}{S:Sys σ}{J:σ→Prop}{cnt:σ→Nat}{C:Nat}{E:List Bx}
structure jC (S:Sys σ) (J:σ→Prop) (cnt:σ→Nat) (s:σ) (z:Nat) (r:Option Tm×σ):Prop where
 j:J r.2
 le:cnt s≤cnt r.2
 ub:cnt r.2≤cnt s+1
 ok:∀x,r.1=some x→okB x=true∧size x≤z+4500
variable (hS:U5 S J cnt C) (hE:S5 E)
omit hS hE in
include hS
include hE
end
section
variable {σ:Type}{S:Sys σ}{J:σ→Prop}{cnt:σ→Nat}{C:Nat}{E:List Bx}
variable (hS:U5 S J cnt C) (hE:S5 E)
include hS hE
end
def js (c:Gz):Prop:=c.limit=1000∧0≤c.steps∧(c.over=false→c.steps≤1000)
def jm (n:Int):Prop:=0≤n∧n≤20000
section
variable {E:List Bx}{t:Tm}{k i:Int}{n:ByteArray}{ls:List CB}{ks:List Tm}
end
section
variable {E:List Bx}{t:Tm}{k i:Int}{n:ByteArray}{ls:List CB}{ks:List Tm}
end
def jL (E:List Bx) (t:Tm):Bx×Int×List Tm×Bool:=match Gj E t with
 | some (d,j,l)=>(d,j,l,true)
 | none=>(Sb,0,[],false)
end Go.Eu
namespace Go.Eu
def gT (nm:ByteArray):List JK→Int→Int
 | [],_=> -1
 | b::l,i=>if b.ctor=nm then i else gT nm l (i+1)
end Go.Eu
namespace Go.Eu
open Go.Abs
theorem Uz {nm:ByteArray}:∀{l:List JK}{t:F4},Di nm l=some t→L5 l→Gu t
 | .mk c a q::l,t,h,ho=>by
  simp only[L5,SL] at ho;rw[Di] at h;split at h
  ·split at h
   ·cases h
   cases h;exact ho.1.2
  exact Uz h ho.2
theorem cK {nm:ByteArray}{t t':F4}(h:Di nm t.branches=some t') (ho:Gu t):Gu t':=Uz h ho.bs
def kr (q:Option (Tm×List Tm)×Tm):Tm:=match q.1 with
 | some (b,_)=>b
 | none=>BH
def km (q:Option (Tm×List Tm)×Tm):List Tm:=match q.1 with
 | some (_,v)=>v
 | none=>[]
structure aA (y:F4) (us:List Tm):Prop where
 tin:Gu y
 tok:Jm y
 len:us.length+HF y*1000000≤100000000
 ok:∀v∈us,okB v=true
theorem aA.next {E:List Bx}{y q:F4}{us f:List Tm}{x:Tm}{nm:ByteArray}{d:Bx}{j:Int}(h:aA y us) (hE:XP E) (hx:okB x=true) (hc:Gj E x=some (d,j,f)) (hb:Di nm y.branches=some q):aA q (us++f):=by
 obtain⟨h1,h2⟩:=Vy hb h.tok;have h3:=V7 hE hc;have h4:=h.len;refine⟨cK hb h.tin,h1,by rw[List.length_append];omega,fun v hv=>?_⟩;rcases List.mem_append.1 hv with hv | hv
 ·exact h.ok v hv
 exact((Ps hc hx).1 v hv).1
def V3:F4:= .mk 0 BH 0 []
def kT (nm:ByteArray):List JK→F4×Bool
 | []=>(V3,false)
 | b::l=>if b.ctor=nm then (b.tree,!b.absurd) else kT nm l
def kb (nm:ByteArray) (l:List JK):F4×Bool:=match Di nm l with
 | some q=>(q,true)
 | none=>(V3,false)
section
variable {E:List Bx}{σ:Type}{S:Sys σ}{W:σ→Tm→Out (Tm×σ)}{n:Nat}{h m:Tm}{a:List Tm}{s:σ}{d:Bx}{x:Ff}
end
section
variable {E:List Bx}{σ:Type}{S:Sys σ}{W:σ→Tm→Out (Tm×σ)}{n:Nat}{h m:Tm}{a:List Tm}{s:σ}{d:Bx}{x:Ff}
end
section
variable {E:List Bx}{σ:Type}{S:Sys σ}{n:Nat}{t:Tm}{s:σ}
end
structure iC (w:Tm):Prop where
 ok:okB w=true
 nd:Nd w
 sz:size w<549755813888
 len:(A4 w).2.length<549755813888
 head:okB (A4 w).1=true
 args:∀x∈(A4 w).2,okB x=true
 asz:BC (A4 w).2+(A4 w).2.length<size w
theorem X1 {w:Tm}(h:okB w=true):iC w:=by
 have h1:=Ke h;have h2:=I8 w;have h3:=size_pos (A4 w).1;exact⟨h,(Da.1 h).nd,h1,by omega,(Kc h).1,(Kc h).2,by omega⟩
def jM (L:List (List Tm)):List (List PV):=L.map fun l=>[.lst (Ay l)]
def fy (t:Tm):Out (Option Tm) :=
 if (A4 t).1.kind=0∨(A4 t).1.kind=3 then .ok none
 else if (A4 t).1.kind=5 then match (A4 t).2,(A4 t).1.kids with
  | [],_=> .ok none
  | x::xs,[d,b]=>gd (decide ((CZ b [x] 0).2=0)) (.ok (some (apply (CZ b [x] 0).1 xs)))
  | _,_=> .stuck
 else .stuck
def eb (W:Tm→Out Bool):List Tm→Out Bool
 | []=> .ok true
 | x::xs=>(W x).bind fun b=>if b=true then eb W xs else .ok false
def fO:Nat→Tm→Out Bool
 | 0,_=> .stuck
 | n+1,t=>gd (okB t) ((fy t).bind fun q=>if q.isSome=true then gd (okB (q.getD BH)&&decide (size (q.getD BH)≤4096)&&decide (De (q.getD BH)≤200)) (.ok false) else gd (decide ((A4 t).1.kids.length<1000)&&decide ((A4 t).2.length<1000)) (eb (fO n) ((A4 t).1.kids++(A4 t).2)))
def gO (b:Int) (t:Tm):Tm×Int:=if (B4 b 0 0 0 t).2≠0 then (BH,(B4 b 0 0 0 t).2) else ((B4 b 0 0 0 t).1,0)
def eP (b:Int) (t:Tm):Tm×Int:=match Ge b 0 t with
 | .ok z=>(z,0)
 | .error e=>(BH,e)
def YA:Tm:= .mk 1 0 ⟨#[]⟩ [] []
def fC (b:Tm):Bool:=decide (b.kind=4)&&decide (b.kids.length=2)&&decide ((b.kids.getD 1 default).kind=0)&&decide ((b.kids.getD 1 default).index=0)
noncomputable def fW (a b:Tm):Bool:=decide (a.kind=9)&&decide (b.kind=10)&&decide (a.kids.length=1)&&decide (b.kids.length=1)&&E9 (a.kids.getD 0 default) (b.kids.getD 0 default)
noncomputable def jn (oc:Tm→Bool) (sh:Tm→Tm) (k i:Int) (n:ByteArray) (l:List CB) (ks:List Tm):Tm :=
 if k=5∧ks.length=2 then
  if (fC (ks.getD 1 default)&& !oc ((ks.getD 1 default).kids.getD 0 default))=true then sh ((ks.getD 1 default).kids.getD 0 default) else .mk k i n l (ks.set 0 YA)
 else if k=8∧ks.length=3 then
  if fW (ks.getD 1 default) (ks.getD 2 default)=true then (ks.getD 1 default).kids.getD 0 default else .mk k i n l (ks.set 0 YA)
 else .mk k i n l ks
section
variable (oc:Tm→Bool) (sh:Tm→Tm)
mutual
noncomputable def aQ:Tm→Tm
 | .mk k i n l ks=>jn oc sh k i n l (YF ks)
noncomputable def YF:List Tm→List Tm
 | []=>[]
 | t::ts=>aQ t::YF ts
end
end
noncomputable def ko:Tm→Tm:=aQ (fun f=>aU 0 0 f) (fun f=>(gO (-1) f).1)
noncomputable def ke:Tm→Tm:=aQ (fun f=>decide ((eP (-1) f).2≠0)) (fun f=>(eP (-1) f).1)
section
variable {oc:Tm→Bool}{sh:Tm→Tm}{k i:Int}{n:ByteArray}{l:List CB}{ks:List Tm}{a b c x y:Tm}
end
theorem Xm {ts:List Tm}{t:Tm}(h:t∈ts):size t≤BC ts:=by
 obtain⟨i,hi⟩:=List.mem_iff_getElem?.1 h;exact Bw hi
theorem jJ {P:Tm→Prop}(h:∀k i n l ks,(∀t∈ks,P t)→P (.mk k i n l ks)):∀t,P t:=by
 have:∀m t,size t≤m→P t:=by
  intro m
  induction m with
  | zero=>intro t ht;have:=size_pos t;omega
  | succ m ih =>
   intro t ht;obtain⟨k,i,n,l,ks⟩:=t;exact h k i n l ks fun x hx=>ih x (by have:=Xm hx;simp only[size] at ht;omega)
 exact fun t=>this _ t (Nat.le_refl _)
mutual
def Vb:Tm→Prop
 | .mk k i _ _ ks=>(k=0→0≤i∧i≤65535)∧e9 ks
def e9:List Tm→Prop
 | []=>True
 | t::ts=>Vb t∧e9 ts
end
theorem WS {ts:List Tm}(h:e9 ts):∀t∈ts,Vb t:=by
 induction ts with
 | nil=>intro t ht;cases ht
 | cons a ts ih=>intro t ht;rcases List.mem_cons.1 ht with rfl | ht;exact h.1;exact ih h.2 t ht
theorem aG {ts:List Tm}(h:∀t∈ts,Vb t):e9 ts:=by
 induction ts with
 | nil=>trivial
 | cons t ts ih=>exact⟨h t Ai,ih fun x hx=>h x (by simp[hx])⟩
theorem SB {ts:List Tm}(h:∀t∈ts,Vp t):Pf ts:=by
 induction ts with
 | nil=>trivial
 | cons t ts ih=>exact⟨h t Ai,ih fun x hx=>h x (by simp[hx])⟩
theorem Vb.vp:∀{t:Tm},Vb t→Vp t:= @(jJ (P:=fun t=>Vb t→Vp t) fun k i n l ks ih h=>⟨fun e=>by have:=h.1 e;omega,SB fun t ht=>ih t ht (WS h.2 t ht)⟩)
theorem PX {α:Type}{a b:List α}(hl:a.length=b.length) (h:∀j,j<a.length→∀x,a[j]?=some x→b[j]?=some x):a=b:=by
 refine List.ext_getElem? fun j=>?_;rcases Nat.lt_or_ge j a.length with q | q
 ·rw[List.getElem?_eq_getElem q];exact(h j q _ (List.getElem?_eq_getElem q)).symm
 rw[List.getElem?_eq_none q,List.getElem?_eq_none Ah]
theorem SX {c d:Int}{u v:List B9}:E9 (CB.mk c u) (CB.mk d v)=((c==d)&&E9 u v):=by
 rw[Bool.eq_iff_iff,EE];simp[EE]
theorem M6 {k i k' i':Int}{n n':ByteArray}{l l':List CB}{s s':List Tm}:E9 (Tm.mk k i n l s) (Tm.mk k' i' n' l' s')=(((((k==k')&&(i==i'))&&(n.toList==n'.toList))&&E9 l l')&&E9 s s'):=by
 rw[Bool.eq_iff_iff,EE];simp only[Tm.mk.injEq,Bool.and_eq_true,EE,beq_iff_eq];constructor
 ·rintro⟨rfl,rfl,rfl,rfl,rfl⟩;exact⟨⟨⟨⟨rfl,rfl⟩,rfl⟩,rfl⟩,rfl⟩
 rintro⟨⟨⟨⟨rfl,rfl⟩,e⟩,rfl⟩,rfl⟩;exact⟨rfl,rfl,Gl e,rfl,rfl⟩
mutual
def Lw:Tm→Prop
 | .mk _ i _ _ ks=>i≤60000∧gW ks
def gW:List Tm→Prop
 | []=>True
 | t::ts=>Lw t∧gW ts
end
theorem XN {ts:List Tm}(h:gW ts):∀t∈ts,Lw t:=by
 induction ts with
 | nil=>intro t ht;cases ht
 | cons a ts ih=>intro t ht;rcases List.mem_cons.1 ht with rfl | ht;exact h.1;exact ih h.2 t ht
theorem Wb {ts:List Tm}(h:Pf ts):∀t∈ts,Vp t:=by
 induction ts with
 | nil=>intro t ht;cases ht
 | cons a ts ih=>intro t ht;rcases List.mem_cons.1 ht with rfl | ht;exact h.1;exact ih h.2 t ht
theorem Lw.vb:∀{t:Tm},Lw t→Vp t→Vb t:= @(jJ (P:=fun t=>Lw t→Vp t→Vb t) fun k i n l ks ih h v =>
 ⟨fun e=>by have:=v.1 e;have:=h.1;omega,aG fun t ht=>ih t ht (XN h.2 t ht) (Wb v.2 t ht)⟩)
structure hP (l:List Tm):Prop where
 sz:BC l≤60
 ok:∀t∈l,Nd t∧Wt t∧Vp t
theorem Vh {l:List Tm}(h:PL l):l.length<1000000:=by
 have:=h.sz;have:=DK l;omega
theorem Tj {l:List Tm}(h:PL l):∀x∈l,Nd x∧size x<1000000:=fun x hx =>
 ⟨(Gn h hx).1,by have:=(Gn h hx).2;omega⟩
structure jT (t:Tm):Prop where
 nd:Nd t
 wt:Wt t
 vb:Vb t
 sz:size t≤60
def kq:Tm:= .mk 5 0 ⟨#[]⟩ [] [cA,Pb (Cn 4) (Cn 0)]
def kx:Tm:= .mk 5 0 ⟨#[]⟩ [] [cA,Pb (Cn 0) (Cn 0)]
def kp:Tm:= .mk 8 0 ⟨#[]⟩ [] [cA,.mk 9 0 ⟨#[]⟩ [] [Cn 1],.mk 10 0 ⟨#[]⟩ [] [Cn 1]]
def kg (t:Tm):Bool:=WC t
mutual
def jr:Tm→Bool
 | .mk k i _ _ ks=>(decide (k≠0)||(decide (0≤i)&&decide (i≤65535)))&&bU ks
def bU:List Tm→Bool
 | []=>true
 | t::ts=>jr t&&bU ts
end
def PK (kn:List Bool) (vs:List Tm) (i:Nat):Tm:=if kn.getD (kn.length - 1 - i) false=true then vs.getD (kn.length - 1 - i) BH else Cn i
def CN (kn:List Bool) (vs:List Tm):List Tm:=(List.range kn.length).map (PK kn vs)
def F8 (kn:List Bool) (vs:List Tm) (t:Tm):Tm:=if (CZ t (CN kn vs) 0).2=0 then (CZ t (CN kn vs) 0).1 else BH
theorem D9 (kn:List Bool) (vs:List Tm):(CN kn vs).length=kn.length:=by simp[CN]
theorem QE {kn:List Bool}{vs:List Tm}{i:Nat}(h:i<kn.length):(CN kn vs)[i]?=some (PK kn vs i):=by
 simp[CN,List.getElem?_map,List.getElem?_range h]
theorem JR {kn:List Bool}{vs:List Tm}{P:Tm→Prop}(h:∀v∈vs,P v) (h0:P BH) (hv:∀i<kn.length,P (Cn i)):∀v∈CN kn vs,P v:=by
 intro v hm;obtain⟨i,hi,rfl⟩:=List.mem_map.1 hm;have hi:=List.mem_range.1 hi;unfold PK;split
 ·rw[List.getD_eq_getElem?_getD];cases q:vs[kn.length - 1 - i]? with
  | none=>exact h0
  | some x=>exact h x (List.mem_of_getElem? q)
 exact hv i hi
theorem EP {kn:List Bool}{vs:List Tm}{i:Nat}(h:i<kn.length):((CN kn vs).take i++List.replicate (kn.length - i) BH).set i (PK kn vs i)=(CN kn vs).take (i+1)++List.replicate (kn.length - (i+1)) BH:=by
 rw[M7 (by rw[List.length_take,D9];omega) Ah,List.take_add_one,QE h];rfl
theorem MS {kn:List Bool}{vs:List Tm}{i j:Nat}{y:Tm}(hj:kn.length - 1 - i=j) (c:kn.getD j false=true) (hy:vs[j]?=some y):PK kn vs i=y:=by
 unfold PK;rw[hj,if_pos c,List.getD_eq_getElem?_getD,hy];rfl
theorem O6 {kn:List Bool}{vs:List Tm}{i j:Nat}(hj:kn.length - 1 - i=j) (c:¬kn.getD j false=true):PK kn vs i= .mk 0 i ⟨#[]⟩ [] []:=by
 unfold PK;rw[hj,if_neg c];rfl
theorem EN {kn:List Bool}{vs:List Tm}{m:Nat}(h1:0<m) (h2:m≤kn.length):(CN kn vs).take (kn.length - m)++[PK kn vs (kn.length - m)]=(CN kn vs).take (kn.length - (m - 1)):=by
 rw[show kn.length - (m - 1)=kn.length - m+1 by omega,List.take_add_one,QE Ah];rfl
structure KH (kn:List Bool) (vs:List Tm) (t:Tm):Prop where
 len:kn.length=vs.length
 few:kn.length≤1000
 nd:Nd t
 wt:Wt t
 vp:Vp t
 sz:size t<1000000
 nds:∀v∈vs,Nd v
 wts:∀v∈vs,Wt v
 vps:∀v∈vs,Vp v
 szs:∀v∈vs,size v<1000000
namespace KH
variable {kn:List Bool}{vs:List Tm}{t:Tm}(h:KH kn vs t)
include h
theorem snd:Ej (CN kn vs):=RS (JR h.nds GU fun i hi=>⟨by simp only[Cr];decide,by simp only[Cr];decide,by simp,by simp only[Cr];decide,trivial,⟨by decide,by decide⟩,⟨by have:=h.few;unfold Gy at *;omega,by have:=h.few;omega⟩⟩)
theorem swt:Pm (CN kn vs):=by
 have:∀v∈CN kn vs,Wt v:=JR h.wts ⟨rfl,fun e=>absurd e Ag,trivial⟩ fun i hi=>⟨rfl,fun e=>absurd e Ag,trivial⟩;revert this;generalize CN kn vs=l;intro this
 induction l with
 | nil=>trivial
 | cons a l ih=>exact⟨this a Ai,ih fun x hx=>this x (by simp[hx])⟩
theorem svp:Pf (CN kn vs):=SB (JR h.vps ⟨fun _=>by omega,trivial⟩ fun i hi=>⟨fun _=>by have:=h.few;omega,trivial⟩)
theorem ssz:∀v∈CN kn vs,size v<1000000:=JR h.szs Ag fun i hi=>by simp[Cn,size,BC]
theorem slen:(CN kn vs).length≤1000:=by rw[D9];exact h.few
theorem szz:BC (CN kn vs)<1152921504606846976:=by
 have q:∀l:List Tm,(∀v∈l,size v<1000000)→BC l≤l.length*1000000:=by
  intro l
  induction l with
  | nil=>intro _;simp[BC]
  | cons a l ih=>intro q;have:=q a Ai;have:=ih fun x hx=>q x (by simp[hx]);simp only[BC,List.length_cons];omega
 have:=q _ h.ssz;have:=h.slen;omega
theorem ref:CZ t (CN kn vs) 0=Cz t (CN kn vs) 0:=Tg ⟨h.swt,h.svp,fun x hx=>by have:=h.ssz x hx;omega,by have:=h.slen;omega,by omega,by omega⟩ h.wt h.vp (by have:=h.sz;omega)
end KH
theorem Ly {kn:List Bool}{vs:List Tm}{t:Tm}(h:KH kn vs t):F8 kn vs t=if (Cz t (CN kn vs) 0).2=0 then (Cz t (CN kn vs) 0).1 else BH:=by
 unfold F8;rw[h.ref]
theorem WL {kn:List Bool}{vs:List Tm}{t:Tm}(h:KH kn vs t):Nd (F8 kn vs t):=by
 rw[Ly h];split
 ·exact TB t _ 0 h.nd h.snd
 exact GU
theorem XE {kn:List Bool}{vs:List Tm}{t:Tm}(h1:kn.length≤8) (h2:vs.length=kn.length) (h3:PL vs) (h4:PL [t]) (h5:wf (max (kn.length:Int) 0) 0 0 t) (h6:∀x∈vs,wf (max (kn.length:Int) 0) 0 0 x):KH kn vs t:=by
 have q:=Gn h4 (t:=t) Ai;have a:∀x∈vs,Nd x∧size x≤200:=fun x hx=>Gn h3 hx;exact⟨h2.symm,by omega,q.1,Vl t 0 h5,U8 Ah t 0 h5 Ah Ah,by omega,fun x hx=>(a x hx).1,fun x hx=>Vl x 0 (h6 x hx),fun x hx=>U8 Ah x 0 (h6 x hx) Ah (by have:=(a x hx).2;omega),fun x hx=>by have:=(a x hx).2;omega⟩
end Go.Eu
namespace Go.Abs
section
variable {P:Program}{dst:Option Tmp}{ty:TypeId}{pos:String}{aft:Array Edge}{g:Option (Nat×Bool)}{ρ:Operand→AV}{H:List Ax}{x y z:Operand}{v:AV}
def gg (sz n:Nat) (H:List Ax):Ct→List Ax→Prop
 | .val v,H'=>∃b c,v= .vs (some b) n c∧H'= .vec (some b) sz [] c::H
 | .panic _,_=>False
end
section
variable {P:Program}{r:Option Nat}{ops:Array Oper}{n k:Nat}{τ:Nat→AV}{H:List Ax}{D:List Cu}{Q:B7→BJ→Prop}{dst:Option Tmp}{op:Op}{ty:TypeId}{pos:String}{aft:Array Edge}
end
variable {P:Program}{H:List Ax}{dst:Option Tmp}{ty:TypeId}{pos:String}{aft:Array Edge}{g:Option (Nat×Bool)}
theorem S9 {c:Call}{f:Operand}{fid:FuncId}{ρ:Operand→AV}{first caps A:List AV}{R:AV→Prop}(hc:c.callee= .value f) (hf:ρ f= .fn (.func fid) first caps) (h:IW P fid A R) (hA:first++c.args.toList.map ρ++caps=A∨(first++c.args.toList.map ρ++caps).map norm=A) :
  CW P ⟨dst,.call c,ty,pos,aft,g⟩ ρ H (Nt R H):=by
 refine(EX (H:=H) (Hs:=[]) (Hf:=H) (first:=first) (caps:=caps) hc (.inr hf) (A:=A) Ai h hA).mono ?_;rintro r H' ⟨Hs',h1,rfl⟩;cases r with
 | val v'=>obtain⟨h1,rfl⟩:=h1;exact⟨h1,rfl⟩
 | panic v'=>exact h1
end Go.Abs
namespace Go.Proofs.YtifphifongokcaaGreat
open Go.Abs Go.Eu
theorem il (t:Tm):∀c∈BQ t,c≠ .nils:=by obtain⟨k,i,n,l,s⟩:=t;simp[BQ]
theorem Gk (l:List Tm):∀r∈Ay l,∀c∈r,c≠ .nils:=by
 intro r hr;rw[DE] at hr;obtain⟨t,_,rfl⟩:=List.mem_map.1 hr;exact il t
theorem _root_.Go.AP {α:Prop}(h:α:=by simp[A8,D9];omega):α:=h
theorem RC:∀(kn:List Bool) (vs:List Tm) (t:Tm),(KH kn vs t)→Df Tryz.prog 58 [.p (.lst (List.map Bp kn)),.p (.lst (Ay vs)),.agg ((BQ t).map .p)] (.tup [.agg ((BQ (F8 kn vs t)).map .p),.p (.bool (decide ((CZ t (CN kn vs) 0).2=0)))]):=by
 intro kn vs t h1;have hl1:=h1.len;have hl2:=h1.few;refine Aw Tryz.func58 O bK (n:=60) O O (Ar (A5 O (BF O) fun b5=>A5 O (Az Bj O) fun b6=>Ak As 1 [] O (Ar (Bu O (Al O (BB FC O (List.length_map _)) (Ak As 1 [] O (Ar (Bu O (Mk O O (Cf BP Bj O O Ag O O O Ah Ah Ah (OP (((kn.length:Nat):Int).toNat) (.mk 0 0 ⟨#[]⟩ [] []:Tm))) fun b17 cp=>Ak As 1 [] O (Am (Ar (Bu O (Al O (DP BP O (A8 _)) (Ak As 1 [] O (A1 ?_)))))))))))))));refine BZ (α:=Nat×Option Nat×Nat) (fun(i,o,cp1)=>⟨60,mk [(0,.p (.lst (List.map Bp kn))),(1,.p (.lst (Ay vs))),(5,.ptr b5 0),(6,.ptr b6 0),(8,.p (I (kn.length:Nat))),(9,.vs o (Ay ((CN kn vs).take i++List.replicate (kn.length - i) BH)).length cp1),(19,.p (I ((List.replicate (((kn.length:Nat):Int).toNat) (.mk 0 0 ⟨#[]⟩ [] []:Tm)).length:Nat))),(20,.p (I (i:Int)))],[.vec o 5 (Ay ((CN kn vs).take i++List.replicate (kn.length - i) BH)) cp1,.box b6 [.p (I 0),.p (I 0),.p (.str ⟨#[]⟩),.p (.nils),.p (.nils)],.box b5 ((BQ t).map .p)],[]⟩) (fun(i,o,cp1)=>kn.length - i) (fun(i,o,cp1)=>i≤kn.length) ⟨0,(some b17),cp⟩ AK ?_ ?_
 ·exact BM ⟨we O,we O,we O,we O,we O,we (H6 (List.replicate (((kn.length:Nat):Int).toNat) (.mk 0 0 ⟨#[]⟩ [] []:Tm)) (by simp[BH])),we O,we O,Aj⟩ (leH (is:=[0,1,2]) O (wl (EI (List.replicate (((kn.length:Nat):Int).toNat) (.mk 0 0 ⟨#[]⟩ [] []:Tm)) (by simp[BH])) (wl (oe O) (wl (oe O) (C8)))))
 rintro⟨i,o,cp1⟩ hC
 try simp only at hC
 have hi:=hC;refine An As 1 [] O (Am (Ao O (fun c=>?_) (fun c=>?_)))
 ·(try simp only[sd,se] at c);refine Aq (Am (A1 (An As 2 [] O (Ar (Ap As 4 [] O (GO (i:=0) O AT fun b hb=>?_))))));subst hb;refine Al O (B0 BP O O Ah AP) (Al O (CA (i:=0) (j:=i) Bf O O O AP O O O O (Iv ((CN kn vs).take i++List.replicate (kn.length - i) BH) i (.mk 0 (i:Int) ⟨#[]⟩ [] []:Tm))) (BR O (An As 5 [] O (Am ?_))));obtain⟨j,hj⟩:∃j:Nat,(((kn.length:Nat):Int) - (1:Int):Int) - ((i:Int):Int)=(j:Int):=⟨kn.length - 1 - i,by omega⟩;rw[hj];have hj2:kn.length - 1 - i=j:=by omega
  have hin:i<kn.length:=by omega
  refine BO [0,1,5,6,8,9,10,11,19,20] 41 (fun y=>y= .p (.bool (kn.getD j false))) ?_ ?_
  ·refine Au (Ap As 2 [] O ?_);obtain⟨x,hx⟩:=A0 (l:=kn) (i:=j) Ah;refine Al O (A3 FC O O Ah (Gh hx) (O)) (Ap As 2 [] O (BE 36 O (fun g=>?_) (fun g=>?_)))
   ·(try simp only[sd,se] at g);refine Ap As 2 [] O (BI O (BB BP O (A8 _)) (Ak As 2 [] O ?_));exact⟨rfl,rfl,AG,(by refine pB ?_;rw[List.getD_eq_getElem?_getD,hx];simp_all<;>omega),⟨rfl,rfl,rfl,rfl,rfl,rfl,rfl,rfl,rfl,rfl,trivial⟩⟩
   (try simp only[sd,se] at g);refine Ak As 5 [] O ?_;exact⟨rfl,rfl,AG,(by refine pB ?_;rw[List.getD_eq_getElem?_getD,hx];simp_all<;>omega),⟨rfl,rfl,rfl,rfl,rfl,rfl,rfl,rfl,rfl,rfl,trivial⟩⟩
  rintro _ rfl;refine Ao O (fun c1=>?_) (fun c1=>?_)
  ·(try simp only[sd,se] at c1);have hyes:=fun {y}=>MS (vs:=vs) (y:=y) hj2 c1;refine Au (Ap As 4 [] O ?_);obtain⟨x,hx⟩:=A0 (l:=vs) (i:=j) Ah;refine Al O (A3 BP O O Ah (Be hx) (A7 _)) (Al O (BL Bf O (A7 _)) (Al O (B0 BP O O Ah AP) (Al O (CA (i:=0) (j:=i) Bf O O O AP O (F5 _) (A7 _) (Gf _) (Iv (((CN kn vs).take i++List.replicate (kn.length - i) BH).set i (.mk 0 (i:Int) ⟨#[]⟩ [] []:Tm)) i x)) (BR O (Au (Ak As 2 [] O ?_))))));refine⟨⟨i+1,(some b),cp1⟩,AN,by omega,BM ⟨we rfl,we rfl,we rfl,we rfl,we rfl,we (DU ((CN kn vs).take i++List.replicate (kn.length - i) BH) (by simp[D9];omega)),we rfl,we rfl,trivial⟩ (leH (is:=[0,1,2]) rfl (wl (EI ((((CN kn vs).take i++List.replicate (kn.length - i) BH).set i (.mk 0 (i:Int) ⟨#[]⟩ [] []:Tm)).set i x) (by first | (rw[List.set_set,←hyes hx];exact EP hin) | (rw[←hno];exact EP hin))) (wl (oe rfl) (wl (oe rfl) (C8)))))⟩
  (try simp only[sd,se] at c1);have hno:=O6 (vs:=vs) hj2 (by simpa using c1);refine Aq (Au (Ak As 2 [] O ?_));refine⟨⟨i+1,(some b),cp1⟩,AN,by omega,BM ⟨we rfl,we rfl,we rfl,we rfl,we rfl,we (DU ((CN kn vs).take i++List.replicate (kn.length - i) BH) (by simp[D9];omega)),we rfl,we rfl,trivial⟩ (leH (is:=[0,1,2]) rfl (wl (EI (((CN kn vs).take i++List.replicate (kn.length - i) BH).set i (.mk 0 (i:Int) ⟨#[]⟩ [] []:Tm)) (by first | (rw[List.set_set,←hyes hx];exact EP hin) | (rw[←hno];exact EP hin))) (wl (oe rfl) (wl (oe rfl) (C8)))))⟩
 (try simp only[sd,se] at c);generalize hK:(CN kn vs).take i++List.replicate (kn.length - i) BH=K;obtain rfl:K=CN kn vs:=by rw[←hK,List.take_of_length_le (by rw[D9];omega),show kn.length - i=0 by omega,List.replicate_zero,List.append_nil]
 refine Bc (Ar (CJ (CX (i:=0) [9] O (DV ⟨O,Aj⟩)) (Ap As 2 [1] O ?_)));refine Al O (BA O O (N2 t (CN kn vs) h1.nd h1.vp (by have:=h1.sz;omega) h1.snd h1.svp (fun v hv=>by have:=h1.ssz v hv;simp only[Cr];omega) (by have:=h1.slen;simp only[Cr];omega)) rfl) ?_;refine Ap As 3 [] O (A5 O (Az Bj O) fun b12=>Ak As 2 [0,1] O (Am (An As 2 [] O (Ao O (fun c1=>?_) (fun c1=>?_)))))
 ·(try simp only[sd,se] at c1);have hce:=c1;refine An As 3 [1,0] O (BK (Bm (i:=1) O) (Av (⟨O,_,_,⟨_,_,O,(BD (i:=1) Bf O O O),⟨_,_,O,O,O⟩⟩,(List.nil_sublist _),?_⟩)))
  all_goals exact⟨by show (.tup [.agg [.p (I 0),.p (I 0),.p (.str ⟨#[]⟩),.p (.lst []),.p (.lst [])],.p (.bool false)]:AV)=_;unfold F8;rw[if_neg hce,decide_eq_false hce];rfl,rfl⟩
 (try simp only[sd,se] at c1);have hce:=c1;refine Aq (An As 3 [0,1,1] O (Av (⟨O,_,_,⟨_,_,O,(BD (i:=1) Bf O O Aa),⟨_,_,O,O,O⟩⟩,(List.nil_sublist _),?_⟩)))
 all_goals exact⟨by show (.tup [.agg ((BQ ((CZ t (CN kn vs) 0).1)).map .p),.p (.bool true)]:AV)=_;unfold F8;rw[if_pos hce,decide_eq_true hce],rfl⟩
theorem Lk:∀(kn:List Bool) (vs:List Tm) (t:Tm),(KH kn vs t)→Df Tryz.prog 18 [.p (.lst (List.map Bp kn)),.p (.lst (Ay vs)),.agg ((BQ t).map .p)] (.agg ((BQ (F8 kn vs t)).map .p)):=by
 intro kn vs t h1;refine Aw Tryz.func18 O gH (n:=17) O O (Ar (A5 O (BF O) fun b5=>A5 O (Az Bj O) fun b6=>BR O (Ar (Ap As 3 [1] O (Al O (BA O O (RC kn vs t h1) O) (Ap As 3 [] O (A5 O (Az Bj O) fun b7=>Ak As 2 [0,1] O (An As 2 [0,1,1] O (Av (⟨O,_,_,⟨_,_,O,(BD (i:=1) Bf O O Aa),O⟩,(List.nil_sublist _),?_⟩))))))))))
 all_goals exact⟨rfl,rfl⟩
theorem RQ:∀(kn:List Bool) (vs:List Tm),(kn.length=vs.length)→(kn.length≤1000)→Df Tryz.prog 60 [.p (.lst (List.map Bp kn)),.p (.lst (Ay vs))] (.p (.lst (Ay (CN kn vs)))):=by
 intro kn vs h1 h2;refine Aw Tryz.func60 O gx (n:=35) O O (An As 1 [] O (An As 1 [] O (Am (Ar (Bu O (Al O (BB FC O (List.length_map _)) (Ak As 2 [] O (A1 (BK (EM (t:=5) (sz:=5) O) (BZ (α:=Nat×Option Nat×Nat) (fun(m,o,cp)=>⟨35,mk [(0,.p (.lst (List.map Bp kn))),(1,.p (.lst (Ay vs))),(5,.vs o (Ay ((CN kn vs).take (kn.length - m))).length cp),(6,.p (I ((m:Int) - 1)))],[.vec o 5 (Ay ((CN kn vs).take (kn.length - m))) cp],[]⟩) (fun(m,o,cp)=>m) (fun(m,o,cp)=>m≤kn.length) ⟨kn.length,none,0⟩ AK ?_ ?_))))))))))
 ·exact BM ⟨we O,we O,we (H6 [] Ai),we (pI Ah),Aj⟩ (leH (is:=[0]) O (wl (EI [] Ai) (C8)))
 rintro⟨m,o,cp⟩ hC
 try simp only at hC
 refine Am (An As 2 [] O (Ao O (fun c=>?_) (fun c=>?_)))
 ·(try simp only[sd,se] at c);refine Aq (Am (A1 (Ar (Ap As 2 [] O ?_))));obtain⟨x,hx⟩:=A0 (l:=kn) (i:=((m:Int) - 1:Int).toNat) Ah;refine Al O (A3 FC O O Ah (Gh hx) (O)) (Ak As 1 [] O (Ao O (fun c1=>?_) (fun c1=>?_)))
  ·(try simp only[sd,se] at c1);have hm:kn.length - 1 - (kn.length - m)=((m:Int) - 1).toNat:=by omega
   have hyes:=fun {y}=>MS (vs:=vs) (y:=y) hm (by rw[List.getD_eq_getElem?_getD,hx,c1];rfl);refine Au (Ap As 3 [] O ?_);obtain⟨x1,hx1⟩:=A0 (l:=vs) (i:=((m:Int) - 1:Int).toNat) Ah;refine Al O (A3 BP O O Ah (Be hx1) (A7 _)) (Al O (BL Bf O (A7 _)) (Al O (Bi (rows:=Ay [x1]) BP Bj O O O O (CP (CD _)) (Gk _)) (JB O O (Cb (i:=0) (rows':=Ay [x1]) BP BP Bj O O O O O O (CD _) AP (Nn ((CN kn vs).take (kn.length - m)) [x1])) fun o1 cp1=>Ak As 1 [] O (Au (Ak As 3 [] O ?_)))));refine⟨⟨m - 1,o1,cp1⟩,AN,by first | trivial | omega | (simp only;omega) | (simp;omega),BM ⟨we rfl,we rfl,we (H6 ((CN kn vs).take (kn.length - m)++[x1]) (by first | (rw[←hyes hx1];exact EN Ah hC) | (rw[←EN Ah hC,hno];congr<;>omega))),we (pI Ah),trivial⟩ (leH (is:=[0]) rfl (wl (EI ((CN kn vs).take (kn.length - m)++[x1]) (by first | (rw[←hyes hx1];exact EN Ah hC) | (rw[←EN Ah hC,hno];congr<;>omega))) (C8)))⟩
  (try simp only[sd,se] at c1);have hm:kn.length - 1 - (kn.length - m)=((m:Int) - 1).toNat:=by omega
  have hno:=O6 (vs:=vs) hm (by rw[List.getD_eq_getElem?_getD,hx];simpa using c1);refine Au (Ap As 2 [] O (Al O (BB FC O (List.length_map _)) (Ap As 4 [] O (Al O (BT BP Bj O O O O O) (JB O O (Cb (i:=0) (rows':=Ay ([(.mk 0 ((((kn.length:Nat):Int) - (1:Int):Int) - ((m:Int) - 1:Int)) ⟨#[]⟩ [] []:Tm)])) BP BP Bj O O O O O O (CD _) AP (Nn ((CN kn vs).take (kn.length - m)) ([(.mk 0 ((((kn.length:Nat):Int) - (1:Int):Int) - ((m:Int) - 1:Int)) ⟨#[]⟩ [] []:Tm)]))) fun o1 cp1=>Ak As 1 [] O (Au (Ak As 3 [] O ?_)))))));refine⟨⟨m - 1,o1,cp1⟩,AN,by first | trivial | omega | (simp only;omega) | (simp;omega),BM ⟨we rfl,we rfl,we (H6 ((CN kn vs).take (kn.length - m)++([(.mk 0 ((((kn.length:Nat):Int) - (1:Int):Int) - ((m:Int) - 1:Int)) ⟨#[]⟩ [] []:Tm)])) (by first | (rw[←hyes hx1];exact EN Ah hC) | (rw[←EN Ah hC,hno];congr<;>omega))),we (pI Ah),trivial⟩ (leH (is:=[0]) rfl (wl (EI ((CN kn vs).take (kn.length - m)++([(.mk 0 ((((kn.length:Nat):Int) - (1:Int):Int) - ((m:Int) - 1:Int)) ⟨#[]⟩ [] []:Tm)])) (by first | (rw[←hyes hx1];exact EN Ah hC) | (rw[←EN Ah hC,hno];congr<;>omega))) (C8)))⟩
 (try simp only[sd,se] at c);refine Bc (An As 2 [] O (BK (CX (i:=0) [5,34,4] O (DV ⟨O,O,O,Aj⟩)) (Av (⟨O,_,_,⟨_,_,O,O,O⟩,(List.nil_sublist _),?_⟩))))
 all_goals exact⟨by show (.p (.lst (Ay ((CN kn vs).take (kn.length - m)))):AV)=_;rw[show kn.length - m=kn.length by omega,List.take_of_length_le (by rw[D9];omega)],rfl⟩
theorem RR:∀(kn:List Bool) (vs:List Tm) (t:Tm),(KH kn vs t)→Df Tryz.prog 19 [.p (.lst (List.map Bp kn)),.p (.lst (Ay vs)),.agg ((BQ t).map .p)] (.agg ((BQ (F8 kn vs t)).map .p)):=by
 intro kn vs t h1;refine Aw Tryz.func19 O fF (n:=21) O O (Ar (A5 O (BF O) fun b5=>A5 O (Az Bj O) fun b6=>BR O (Am (By (fun k=>Nat.beq k 8) Eg (BU As 3 [1] O (BG O (fun _=>BA O O (RQ kn vs h1.len h1.few) O) Aj (BG O (fun _=>BA O O (V4 t (CN kn vs) (by have:=h1.sz;omega) h1.nd h1.snd (by have:=h1.szz;omega)) O) Aj (BU As 3 [] O (PU [] O O (Az Bj O) Ad fun b7=>⟨AB,Aj,?_⟩)))))))));refine B1 As 2 [0,1] O (Am (An As 2 [] O (Ao O (fun c=>?_) (fun c=>?_))))
 ·(try simp only[sd,se] at c);have hce:=c;refine An As 2 [1,0] O (BK (Bm (i:=1) O) (Av (⟨O,_,_,⟨_,_,O,(BD (i:=1) Bf O O O),O⟩,(List.nil_sublist _),?_⟩)))
  all_goals exact⟨by show (.agg [.p (I 0),.p (I 0),.p (.str ⟨#[]⟩),.p (.lst []),.p (.lst [])]:AV)=_;rw[Ly h1,if_neg hce];rfl,rfl⟩
 (try simp only[sd,se] at c);have hce:=c;refine Aq (An As 2 [0,1,1] O (Av (⟨O,_,_,⟨_,_,O,(BD (i:=1) Bf O O Aa),O⟩,(List.nil_sublist _),?_⟩)))
 all_goals exact⟨by show (.agg ((BQ ((Cz t (CN kn vs) 0).1)).map .p):AV)=_;rw[Ly h1,if_pos hce],rfl⟩
theorem Vt:∀(n:Nat) (l:List Tm) (most:Int),BC l≤n→WB l→l.length<wide→Df Tryz.prog 46 [.p (I most),K8 l] (.p (I (DA l most 0))):=by
 intro n
 induction n using Nat.strongRecOn with
 | ind n ih =>
  intro l most hs hnd hlen;simp only[wide] at hlen;refine Aw Tryz.func46 O hG (n:=29) O O (An As 1 [] O (An As 1 [] O (Am (Ar (Bu O (Al O (CS BP O) (Ak As 1 [] O (A1 (BZ (α:=Nat×Int) (fun s=>⟨29,mk [(0,.p (I most)),(5,.p (I s.2)),(8,K8 l),(9,.p (I (Ay l).length)),(10,.p (I s.1))],[],[]⟩) (fun s=>l.length - s.1) (fun s=>s.1≤l.length∧DA (l.drop s.1) most s.2=DA l most 0) ((0,0)) Ai ?_ ?_)))))))))
  ·exact DL ⟨O,O,O,O,O,Aj⟩ AA
  rintro⟨i,m⟩ ⟨hi,hC⟩;simp only at hi hC;refine An As 1 [] O (Am (Ao O (fun c1=>?_) (fun c1=>?_)))
  ·(try simp only[sd] at c1);have hi2:i<l.length:=by rw[A8] at c1;omega
   obtain⟨t,hk⟩:=A0 hi2;have hks:=Bw hk;obtain⟨kd,ix,nm,ls,ks⟩:=t;have hnt:=Lf hnd hk;simp only[Wd] at hnt;simp only[size] at hks;refine Aq (Am (A1 (Ar (Al O (A3 BP O O Ah (Be hk) (A7 _)) (Al O (BL Bf O (A7 _)) (A5 O (Az Bj O) fun b7=>Ak As 1 [0,0] O (Am (An As 3 [] O (Ao O (fun c2=>?_) (fun c2=>?_))))))))))
   ·(try simp only[sd] at c2);refine An As 2 [] O (Av ⟨O,_,[],CQ O,List.nil_sublist _,?_⟩);exact⟨pI (by rw[←hC,OY hk,if_pos Ah]),O⟩
   (try simp only[sd] at c2);refine Aq (Au (Ap As 3 [] O (Al O (FF O O) (Ap As 2 [0] O (Al O (BA O O (ih (BC ks) Ah ks _ (Nat.le_refl _) hnt.2.2.2.2.1 hnt.2.2.2.1) O) (Al O (DJ O O) (Al O (DJ O O) (Ak As 1 [] O (Au (Ak As 2 [] O ?_))))))))));exact⟨(i+1,wr (m+wr (1+DA ks (wr (most - m)) 0))),Ac,⟨by omega,by rw[←hC,OY hk,if_neg Ah,C5]⟩,DL ⟨rfl,rfl,rfl,rfl,rfl,trivial⟩ AA⟩
  (try simp only[sd] at c1);have hi2:i=l.length:=by rw[A8] at c1;omega
  refine Bc (An As 2 [] O (Av ⟨O,_,[],CQ O,List.nil_sublist _,?_⟩));exact⟨pI (by rw[←hC,hi2,List.drop_length];rfl),O⟩
theorem ZF:∀(x:CB),(aW x)→Df Tryz.prog 48 [.agg ((Bz x).map .p)] (.p (.bool (decide ((x.vars.length:Int) > 20)))):=by
 intro x h1;refine Aw Tryz.func48 O gR (n:=7) O O (Ar (A5 O (BF O) fun b1=>Ak As 1 [] O (Ar (Ap As 2 [0] O (Al O (BB Fv O (List.length_map _)) (Ak As 2 [] O (Av (⟨O,_,_,⟨_,_,O,O,O⟩,(List.nil_sublist _),?_⟩))))))))
 all_goals exact⟨rfl,rfl⟩
theorem ZE:∀(l:List CB),(l.length<wide)→(∀x∈l,aW x)→IW Tryz.prog 97 [.p (.lst (List.map Bz l)),.p (.fn 48)] (fun v=>∃r:Int,v= .p (I r)∧(r<0→∀x∈l,x.vars.length≤20)):=by
 intro l h1 h2;simp only[wide] at h1;refine Aw Tryz.func97 O gA (n:=19) O O (An As 1 [] O (Am (Ar (Bu O (Al O (BB Eh O (List.length_map _)) (Ak As 1 [] O (A1 ?_)))))));refine BZ (α:=Nat) (fun i=>⟨19,mk [(0,.p (.lst (List.map Bz l))),(1,.p (.fn 48)),(7,.p (I (l.length:Nat))),(8,.p (I (i:Int)))],[],[]⟩) (fun i=>l.length - i) (fun i=>i≤l.length∧(∀j,j<i→∀x,l[j]?=some x→x.vars.length≤20)) 0 (⟨by omega,fun j h=>by omega⟩) ?_ ?_
 ·exact BM ⟨we O,we O,we O,we O,Aj⟩ (leH (is:=[]) O (C8))
 rintro i hC
 try simp only at hC
 obtain⟨hi,hC⟩:=hC;refine An As 1 [] O (Am (Ao O (fun c=>?_) (fun c=>?_)))
 ·(try simp only[sd,se] at c);refine Aq (Am (A1 (An As 2 [] O (Ar (Ap As 3 [] O ?_)))));obtain⟨x,hx⟩:=A0 (l:=l) (i:=i) Ah;refine Al O (A3 Eh O O Ah (F6 hx) (DT _)) (Al O (BL S6 O (DT _)) (Al O (BA O O (ZF x (h2 x (List.mem_of_getElem? hx))) O) (BR O (Ao O (fun c1=>?_) (fun c1=>?_)))))
  ·(try simp only[sd,se] at c1);refine An As 2 [] O (Av (⟨O,_,[],CQ O,List.nil_sublist _,⟨⟨_,O,?_⟩,O⟩⟩));exact fun h=>by omega
  (try simp only[sd,se] at c1);refine Aq (Au (Ak As 2 [] O (⟨(i+1),AN,⟨by omega,DQ hC hx Ah⟩,BM ⟨we rfl,we rfl,we rfl,we rfl,trivial⟩ (leH (is:=[]) rfl (C8))⟩)))
 (try simp only[sd,se] at c);refine Bc (An As 1 [] O (Av (⟨O,_,[],CQ O,List.nil_sublist _,⟨⟨_,O,?_⟩,O⟩⟩)));exact fun _ x hx=>by obtain⟨j,hj⟩:=Fx hx;exact hC j (by have:=(List.getElem?_eq_some_iff.1 hj).1;omega) x hj
theorem Xj:∀(l:List CB),(l.length<wide)→(∀x∈l,aW x)→IW Tryz.prog 47 [.p (.lst (List.map Bz l)),.p (.fn 48)] (fun v=>∃b:Bool,v= .p (.bool b)∧(b=false→∀x∈l,x.vars.length≤20)):=by
 intro l h1 h2;refine Aw Tryz.func47 O iO (n:=9) O O (An As 1 [] O (Ar (Ap As 2 [] O (Gb O O (C4 O O (ZE l h1 h2) (.inl O)) ?_))));rintro _ ⟨r,rfl,hr⟩;refine Ak As 2 [] O (Av (⟨O,_,[],CQ O,List.nil_sublist _,⟨⟨_,O,?_⟩,O⟩⟩));exact fun h=>hr (by simp at h;omega)
theorem YQ:∀(n:Nat) (l:List Tm),(BC l≤n)→(WB l)→(l.length<wide)→IW Tryz.prog 13 [.p (.lst (Ay l))] (fun v=>∃b:Bool,v= .p (.bool b)∧(b=true→PL l)):=by
 intro n
 induction n using Nat.strongRecOn with
 | ind n ih =>
  intro l h1 h2 h3;have h3b:=h3;simp only[wide] at h3b;refine Aw Tryz.func13 O gD (n:=36) O O (An As 1 [] O (Am (Ar (Bu O (Al O (BA O O (Vt _ l 200 (Nat.le_refl _) h2 h3) O) (Ak As 1 [] O (Ao O (fun c=>?_) (fun c=>?_))))))))
  ·have cR:=c;(try simp only[sd,se] at c);refine An As 1 [] O (Av (⟨O,_,[],CQ O,List.nil_sublist _,⟨⟨_,O,?_⟩,O⟩⟩));exact fun h=>absurd h Ag
  have cR:=c;(try simp only[sd,se] at c);refine Aq (Am (Ar (Bu O (Al O (BB BP O (A8 _)) (Ak As 1 [] O (A1 ?_))))));refine BZ (α:=Nat) (fun i=>⟨36,mk [(8,.p (.lst (Ay l))),(9,.p (I (l.length:Nat))),(10,.p (I (i:Int)))],[],[]⟩) (fun i=>l.length - i) (fun i=>i≤l.length∧(∀j,j<i→∀x,l[j]?=some x→Tk x)) 0 (⟨by omega,fun j h=>by omega⟩) ?_ ?_
  ·exact BM ⟨we O,we O,we O,Aj⟩ (leH (is:=[]) O (C8))
  rintro i hC
  try simp only at hC
  obtain⟨hi,hC⟩:=hC;refine An As 1 [] O (Am (Ao O (fun c1=>?_) (fun c1=>?_)))
  ·have c1R:=c1;(try simp only[sd,se] at c1);refine Aq (Am (A1 (Ar ?_)));obtain⟨t,ht⟩:=A0 (l:=l) (i:=i) Ah;refine Al O (A3 BP O O Ah (Be ht) (A7 _)) (Al O (BL Bf O (A7 _)) (A5 O (Az Bj O) fun b4=>Ak As 1 [0,1] O (Am ?_)));obtain⟨tk,ti,tn,tl,ts⟩:=t;have hnt:=Lf h2 ht;simp only[Wd] at hnt;have hks:=Bw ht;simp only[size] at hks;refine BO [8,9,10] 34 (fun y=>∃b:Bool,y= .p (.bool b)∧(b=false→Tk (.mk tk ti tn tl ts))) ?_ ?_
   ·refine Au (Ap As 2 [0] O (Al O (Hw eu O) (Ap As 2 [] O (BE 18 O (fun g=>?_) (fun g=>?_)))))
    ·(try simp only[sd,se] at g);refine Ak As 16 [] O ?_;exact⟨O,O,AG,(by first | exact⟨_,rfl,fun h=>absurd h Ag⟩ | exact⟨_,rfl,fun h=>by simp only[Bool.not_eq_false'] at h;exact⟨by omega,by omega,hb Ae,(hb1 h).sz,(hb1 h).nd,(hb1 h).fw⟩⟩),⟨O,O,O,Aj⟩⟩
    (try simp only[sd,se] at g);refine Ap As 2 [0] O (BI O (BB Eh O (List.length_map _)) (Ap As 3 [] O (BE 24 O (fun g1=>?_) (fun g1=>?_))))
    ·(try simp only[sd,se] at g1);refine Ak As 10 [] O ?_;exact⟨O,O,AG,(by first | exact⟨_,rfl,fun h=>absurd h Ag⟩ | exact⟨_,rfl,fun h=>by simp only[Bool.not_eq_false'] at h;exact⟨by omega,by omega,hb Ae,(hb1 h).sz,(hb1 h).nd,(hb1 h).fw⟩⟩),⟨O,O,O,Aj⟩⟩
    (try simp only[sd,se] at g1);refine Ap As 2 [0] O (IE O O O O (C4 O O (Xj tl hnt.2.1 hnt.2.2.1) (.inl O)) ?_);rintro _ ⟨b,rfl,hb⟩;refine Ap As 2 [] O (BE 29 O (fun g2=>?_) (fun g2=>?_))
    ·(try simp only[sd,se] at g2);refine Ak As 5 [] O ?_;exact⟨O,O,AG,(by first | exact⟨_,rfl,fun h=>absurd h Ag⟩ | exact⟨_,rfl,fun h=>by simp only[Bool.not_eq_false'] at h;exact⟨by omega,by omega,hb Ae,(hb1 h).sz,(hb1 h).nd,(hb1 h).fw⟩⟩),⟨O,O,O,Aj⟩⟩
    (try simp only[sd,se] at g2);refine Ap As 2 [0] O (IE O O O O (C4 O O (ih (BC ts) Ah ts (Nat.le_refl _) hnt.2.2.2.2.1 hnt.2.2.2.1) (.inl O)) ?_);rintro _ ⟨b1,rfl,hb1⟩;refine Ak As 2 [] O ?_;exact⟨O,O,AG,(by first | exact⟨_,rfl,fun h=>absurd h Ag⟩ | exact⟨_,rfl,fun h=>by simp only[Bool.not_eq_false'] at h;exact⟨by omega,by omega,hb Ae,(hb1 h).sz,(hb1 h).nd,(hb1 h).fw⟩⟩),⟨O,O,O,Aj⟩⟩
   rintro _ ⟨q,rfl,hq⟩;refine Ao O (fun c2=>?_) (fun c2=>?_)
   ·have c2R:=c2;(try simp only[sd,se] at c2);refine An As 1 [] O (Av (⟨O,_,[],CQ O,List.nil_sublist _,⟨⟨_,O,?_⟩,O⟩⟩));exact fun h=>absurd h Ag
   have c2R:=c2;(try simp only[sd,se] at c2);refine Aq (Au (Ak As 2 [] O (⟨(i+1),AN,⟨by omega,DQ hC ht (hq (by simpa using c2))⟩,BM ⟨we rfl,we rfl,we rfl,trivial⟩ (leH (is:=[]) rfl (C8))⟩)))
  have c1R:=c1;(try simp only[sd,se] at c1);refine Bc (An As 1 [] O (Av (⟨O,_,[],CQ O,List.nil_sublist _,⟨⟨_,O,?_⟩,O⟩⟩)));exact fun _=>Xx (m:=i) Ah h2 h3 Ah hC
theorem OU:∀(t:Tm) (vars params metas levels:Int),(Nd t)→(size t<1000000)→IW Tryz.prog 14 [.agg ((BQ t).map .p),.p (I vars),.p (I params),.p (I metas),.p (I levels)] (fun v=>∃e:Int,v= .p (I e)∧(e=0→wf (max vars 0) metas 0 t)):=by
 intro t vars params metas levels h1 h2;refine Aw Tryz.func14 O fH (n:=28) O O (Ar (A5 O (BF O) fun b5=>Ak As 1 [] O (Am (Ar (Ap As 2 [0] O (Al O (LN O O) (Ap As 3 [] O (Gb O O (C4 O O (Ws _ t 0 (max (vars:Int) (0:Int)) params metas levels (Nat.le_refl _) h1 Ah AU) (.inl O)) ?_))))))));rintro _ ⟨e,rfl,he⟩;refine Ak As 1 [] O (An As 2 [] O (Ao O (fun c=>?_) (fun c=>?_)))
 ·(try simp only[sd,se] at c);refine An As 2 [] O (Av (⟨O,_,[],CQ O,List.nil_sublist _,⟨⟨_,O,?_⟩,O⟩⟩));exact fun h=>absurd h Ae
 (try simp only[sd,se] at c);refine Aq (Am (Ar (Al O (Ba (i:=0) Bf O O Aa) (Al O (BA O O (ZG _ t (Nat.le_refl _) Ah) O) (Ak As 1 [] O (Ao O (fun c1=>?_) (fun c1=>?_)))))))
 ·(try simp only[sd,se] at c1);refine An As 1 [] O (Av (⟨O,_,[],CQ O,List.nil_sublist _,⟨⟨_,O,?_⟩,O⟩⟩));exact fun h=>absurd h Ag
 (try simp only[sd,se] at c1);refine Aq (Am (Ar (Al O (Ba (i:=0) Bf O O Aa) (Al O (BA O O (W2 _ t (Nat.le_refl _) Ah) O) (Ak As 1 [] O (Ao O (fun c2=>?_) (fun c2=>?_)))))))
 ·(try simp only[sd,se] at c2);refine An As 1 [] O (Av (⟨O,_,[],CQ O,List.nil_sublist _,⟨⟨_,O,?_⟩,O⟩⟩));exact fun h=>absurd h Ag
 (try simp only[sd,se] at c2);refine Aq (An As 1 [] O (Av (⟨O,_,[],CQ O,List.nil_sublist _,⟨⟨_,O,?_⟩,O⟩⟩)));exact fun _=>(he Ah).1
theorem Xt:∀(kn:List Bool) (x:Tm),(Nd x)→(size x<1000000)→IW Tryz.prog 17 [.agg ((BQ x).map .p),.ref [.lst (List.map Bp kn)]] (fun v=>∃bb:Bool,v= .p (.bool bb)∧(bb=false→wf (max (kn.length:Int) 0) 0 0 x)):=by
 intro kn x h1 h2;refine Aw Tryz.func17 O iI (n:=9) O O (Ar (A5 O (BF O) fun b2=>Ak As 1 [] O (Ar (Ap As 2 [0] O (Al O (BB FC O (List.length_map _)) (Gb O O (C4 O O (OU x (kn.length:Nat) 8 0 0 h1 h2) (.inl O)) ?_))))));rintro _ ⟨e,rfl,he⟩;refine Ak As 2 [] O (Av (⟨O,_,[],CQ O,List.nil_sublist _,⟨⟨_,O,?_⟩,O⟩⟩));exact fun h=>he (by simpa using h)
theorem XF:∀(kn:List Bool) (l:List Tm),(l.length<1000000)→(∀x∈l,Nd x∧size x<1000000)→IW Tryz.prog 57 [.p (.lst (Ay l)),.fn (.func 17) [] [.ref [.lst (List.map Bp kn)]]] (fun v=>∃r:Int,v= .p (I r)∧(r<0→∀x∈l,wf (max (kn.length:Int) 0) 0 0 x)):=by
 intro kn l h1 h2;refine Aw Tryz.func57 O fp (n:=19) O O (An As 1 [] O (Am (Ar (Bu O (Al O (BB BP O (A8 _)) (Ak As 1 [] O (A1 ?_)))))));refine BZ (α:=Nat) (fun i=>⟨19,mk [(0,.p (.lst (Ay l))),(1,.fn (.func 17) [] [.ref [.lst (List.map Bp kn)]]),(7,.p (I (l.length:Nat))),(8,.p (I (i:Int)))],[],[]⟩) (fun i=>l.length - i) (fun i=>i≤l.length∧(∀j,j<i→∀x,l[j]?=some x→wf (max (kn.length:Int) 0) 0 0 x)) 0 (⟨by omega,fun j h=>by omega⟩) ?_ ?_
 ·exact BM ⟨we O,we O,we O,we O,Aj⟩ (leH (is:=[]) O (C8))
 rintro i hC
 try simp only at hC
 obtain⟨hi,hC⟩:=hC;refine An As 1 [] O (Am (Ao O (fun c=>?_) (fun c=>?_)))
 ·(try simp only[sd,se] at c);refine Aq (Am (A1 (An As 2 [] O (Ar (Ap As 3 [] O ?_)))));obtain⟨x,hx⟩:=A0 (l:=l) (i:=i) Ah;refine Al O (A3 BP O O Ah (Be hx) (A7 _)) (Al O (BL Bf O (A7 _)) (Gb O O (S9 O O (Xt kn x (h2 _ (List.mem_of_getElem? hx)).1 (h2 _ (List.mem_of_getElem? hx)).2) (.inl O)) ?_));rintro _ ⟨b,rfl,hb⟩;refine BR O (Ao O (fun c1=>?_) (fun c1=>?_))
  ·(try simp only[sd,se] at c1);refine An As 2 [] O (Av (⟨O,_,[],CQ O,List.nil_sublist _,⟨⟨_,O,?_⟩,O⟩⟩));exact fun h=>by omega
  (try simp only[sd,se] at c1);have hq1:=hb (by simpa using c1);refine Aq (Au (Ak As 2 [] O (⟨(i+1),AN,⟨by omega,DQ (p:=fun j x=>wf (max (kn.length:Int) 0) 0 0 x) hC hx hq1⟩,BM ⟨we rfl,we rfl,we rfl,we rfl,trivial⟩ (leH (is:=[]) rfl (C8))⟩)))
 (try simp only[sd,se] at c);refine Bc (An As 1 [] O (Av (⟨O,_,[],CQ O,List.nil_sublist _,⟨⟨_,O,?_⟩,O⟩⟩)));exact fun _ x hx=>by obtain⟨j,hj⟩:=Fx hx;exact hC j (by have:=(List.getElem?_eq_some_iff.1 hj).1;omega) x hj
theorem VW:∀(kn:List Bool) (l:List Tm),(l.length<1000000)→(∀x∈l,Nd x∧size x<1000000)→IW Tryz.prog 16 [.p (.lst (Ay l)),.fn (.func 17) [] [.ref [.lst (List.map Bp kn)]]] (fun v=>∃bb:Bool,v= .p (.bool bb)∧(bb=false→∀x∈l,wf (max (kn.length:Int) 0) 0 0 x)):=by
 intro kn l h1 h2;refine Aw Tryz.func16 O fP (n:=9) O O (An As 1 [] O (Ar (Ap As 2 [] O (Gb O O (C4 O O (XF kn l h1 h2) (.inl O)) ?_))));rintro _ ⟨r,rfl,hr⟩;refine Ak As 2 [] O (Av (⟨O,_,[],CQ O,List.nil_sublist _,⟨⟨_,O,?_⟩,O⟩⟩));exact fun h=>hr (by simp at h;omega)
theorem XG (a b:Tm) (h1:Nd a) (h2:a=b):Df Tryz.prog 10 [TV a,TV b] (.p (.bool true)):=by
 have:=Vd (size a) a b (Nat.le_refl _) h1
 rwa [CR h2] at this
theorem Pc:∀(kn:List Bool) (vs:List Tm) (t:Tm),(kn.length<wide)→(WB vs)→(vs.length<wide)→(Wd t)→(Df Tryz.prog 15 [] (.p (.bool true)))→Df Tryz.prog 4 [.p (.lst (List.map Bp kn)),.p (.lst (Ay vs)),.agg ((BQ t).map .p)] (.p (.bool true)):=by
 intro kn vs t h1 h2 h3 h4 h5;have h1b:=h1;have h3b:=h3;simp only[wide] at h1b h3b;refine Aw Tryz.func4 O kC (n:=52) O O (Ar (A5 O (BF O) fun b3=>A5 O (BF O) fun b5=>Ak As 1 [] O (Am (Am (BO [1,3,5] 34 (fun y=>∃b:Bool,y= .p (.bool b)∧(b=false→kn.length≤8∧vs.length=kn.length∧PL vs∧PL [t]∧wf (max (kn.length:Int) 0) 0 0 t)) ?_ ?_)))))
 ·refine Au (Al O (Bd (i:=1) VZ O O O) (Al O (BB FC O (List.length_map _)) (Ap As 2 [] O (BE 10 O (fun g=>?_) (fun g=>?_)))))
  ·(try simp only[sd,se] at g);refine Ak As 24 [] O ?_;exact⟨O,O,AG,(by refine⟨_,rfl,fun h=>?_⟩;first | (exact absurd h Ag) | exact⟨by omega,by omega,hb Ae,hb1 Ae,he (by simpa using h)⟩),⟨O,O,O,Aj⟩⟩
  (try simp only[sd,se] at g);refine BI O (CF O) (BI O (BB BP O (A8 _)) (BI O (Bd (i:=1) VZ O O O) (BI O (BB FC O (List.length_map _)) (Ap As 3 [] O (BE 17 O (fun g1=>?_) (fun g1=>?_))))))
  ·(try simp only[sd,se] at g1);refine Ak As 17 [] O ?_;exact⟨O,O,AG,(by refine⟨_,rfl,fun h=>?_⟩;first | (exact absurd h Ag) | exact⟨by omega,by omega,hb Ae,hb1 Ae,he (by simpa using h)⟩),⟨O,O,O,Aj⟩⟩
  (try simp only[sd,se] at g1);refine BI O (CF O) (IE O O O O (C4 O O (YQ _ vs (Nat.le_refl _) h2 h3) (.inl O)) ?_);rintro _ ⟨b,rfl,hb⟩;refine Ap As 3 [] O (BE 22 O (fun g2=>?_) (fun g2=>?_))
  ·(try simp only[sd,se] at g2);refine Ak As 12 [] O ?_;exact⟨O,O,AG,(by refine⟨_,rfl,fun h=>?_⟩;first | (exact absurd h Ag) | exact⟨by omega,by omega,hb Ae,hb1 Ae,he (by simpa using h)⟩),⟨O,O,O,Aj⟩⟩
  (try simp only[sd,se] at g2);refine BI O (Ba (i:=0) Bf O O Aa) (BI O (Bi (rows:=Ay [t]) BP Bj O O O O (CP (CD _)) (Gk _)) (IE O O O O (C4 O O (YQ _ [t] (Nat.le_refl _) ⟨h4,Aj⟩ (by simp[wide])) (.inl O)) ?_));rintro _ ⟨b1,rfl,hb1⟩;refine Ap As 3 [] O (BE 28 O (fun g3=>?_) (fun g3=>?_))
  ·(try simp only[sd,se] at g3);refine Ak As 6 [] O ?_;exact⟨O,O,AG,(by refine⟨_,rfl,fun h=>?_⟩;first | (exact absurd h Ag) | exact⟨by omega,by omega,hb Ae,hb1 Ae,he (by simpa using h)⟩),⟨O,O,O,Aj⟩⟩
  (try simp only[sd,se] at g3);refine Ap As 2 [0,1] O (BI O (BB FC O (List.length_map _)) (IE O O O O (C4 O O (OU t (kn.length:Nat) 8 0 0 (Gn (hb1 Ae) Ai).1 (by have:=(Gn (hb1 Ae) (t:=t) Ai).2;omega)) (.inl O)) ?_));rintro _ ⟨e,rfl,he⟩;refine Ak As 2 [] O ?_;exact⟨O,O,AG,(by refine⟨_,rfl,fun h=>?_⟩;first | (exact absurd h Ag) | exact⟨by omega,by omega,hb Ae,hb1 Ae,he (by simpa using h)⟩),⟨O,O,O,Aj⟩⟩
 rintro _ ⟨r,rfl,hr⟩;refine Ao O (fun c=>?_) (fun c=>?_)
 ·(try simp only[sd,se] at c);refine Ar (Al O (BA O O (h5 ) O) (Ak As 1 [] O (Av (⟨O,_,_,⟨_,_,O,O,O⟩,(List.nil_sublist _),?_⟩))))
  all_goals exact⟨rfl,rfl⟩
 (try simp only[sd,se] at c);have hg:=hr (by simpa using c);refine Aq (Am (Ar (CJ (KF (i:=1) (cs:=[.lst (List.map Bp kn)]) [3] O (DV ⟨O,Aj⟩)) (Ap As 2 [] O (Gb O O (C4 O O (VW kn vs (Vh hg.2.2.1) (Tj hg.2.2.1)) (.inl O)) ?_)))));rintro _ ⟨q1,rfl,hq⟩;refine BR O (Ao O (fun c1=>?_) (fun c1=>?_))
 ·(try simp only[sd,se] at c1);refine Ar (Al O (BA O O (h5 ) O) (Ak As 1 [] O (Av (⟨O,_,_,⟨_,_,O,O,O⟩,(List.nil_sublist _),?_⟩))))
  all_goals exact⟨rfl,rfl⟩
 (try simp only[sd,se] at c1);have hR:=XE hg.1 hg.2.1 hg.2.2.1 hg.2.2.2.1 hg.2.2.2.2 (hq (by simpa using c1));refine Aq (Am (By (fun k=>false) Eg (BU As 3 [0] O (BG O (fun _=>BA O O (Lk kn vs t hR) O) Aj (BU As 3 [0] O (BG O (fun _=>BA O O (RR kn vs t hR) O) Aj (BG O (fun _=>BA O O (XG (F8 kn vs t) (F8 kn vs t) (WL hR) O) O) Aj (BG O (fun _=>CF O) Aj (B8 O (fun _=>BA O O (h5 ) O) Aj (B1 As 2 [] O (Av (⟨O,_,_,⟨_,_,O,O,O⟩,(List.nil_sublist _),?_⟩))))))))))))
 all_goals exact⟨rfl,rfl⟩
end Go.Proofs.YtifphifongokcaaGreat
