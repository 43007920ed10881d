/- Part of the proofs: an abstract program logic, plain models and contracts of functions. -/
import Derived.Test.YtifphifongokcaaGreatPe
import Derived.Test.YtifphifongokcaaGreatPb
import Derived.Test.YtifphifongokcaaGreatPc
import Derived.Test.YtifphifongokcaaGreatPd
set_option linter.unusedVariables false
set_option linter.unusedSimpArgs false
set_option maxRecDepth 100000
namespace Go.Abs
section
variable {P:Program}{dst:Option Tmp}{ty:TypeId}{pos:String}{aft:Array Edge}{g:Option (Nat×Bool)}{ρ:Operand→AV}{H:List A8}{x y z:Operand}{v:AV}
theorem PM (rows:List (List PV)):Ma (.p (.lstc rows)) (.p (.lst rows)):=fun F w v h=>by
 simp only[B2,CI] at h ⊢;rcases h with ⟨rfl,o,h⟩ | ⟨b,o,sz,h,hF,hb,hr⟩
 ·exact .inl ⟨O,o,0,h⟩
 exact .inr ⟨b,o,_,sz,h,hF,hb,Nat.le_refl _,hr⟩
theorem MX {T T2 e e2:TypeId}{sz bytes n2 n3:Nat}{rows rows':List (List PV)}{zv:Value}(hT:Ds P T=some (e,sz,bytes)) (hT2:Ds P T2=some (e2,n2,n3)) (hz:zeroOf P e=some zv) (hzs:zv.cells.size=sz) (hb0:(Nat.blt 0 sz&&Nat.blt 0 bytes)=true)
  (hx:ρ x= .p (.lstc rows)) (hr:∀r∈rows,r.length=sz) (hy:norm (ρ y)= .p (.lst rows')) (hsol:∀r∈rows',DC sz r) (hne:0<rows'.length) (hroom:2*(rows.length+rows'.length)*bytes≤281474976710656) :
  Cc P ⟨dst,.call { callee:= .builtin .append,args:=#[x,y],argTypes:=#[T,T2] },ty,pos,aft,g⟩ ρ H (Gp sz (rows++rows') H) :=
 FI fun F w E hH hE=>by
  have hr':∀r∈rows',r.length=sz:=fun r hr=>(hsol r hr).1;simp only[Bool.and_eq_true,Nat.blt_eq] at hb0;obtain⟨hu,inf,hinf,hs,hby⟩:=DP hT;obtain⟨hu2,_⟩:=DP hT2;have h1:=hE x AR;have h2:=(hE y AR).norm;rw[hx] at h1;rw[hy] at h2;obtain⟨ns,oy,cy,hEy,hns,hnsl,hnsr⟩:=Ev (P:=P) h2 hr';have hEx:∃base,E x= .slice base rows.length rows.length:=by
   have:=h1;simp only[B2,CI] at this;rcases this with ⟨rfl,o,h⟩ | ⟨b,o,sz',h,_⟩
   ·exact⟨o,h⟩
   exact⟨_,h⟩
  obtain⟨base,hEx⟩:=hEx;unfold zeroOf at hz;have hz':∃j,P.info? e=some j∧j.zero=some zv:=by
   cases hq:P.info? e with
   | none=>simp[hq] at hz
   | some j=>exact⟨j,rfl,by simpa [hq] using hz⟩
  obtain⟨j,hj,hz'⟩:=hz';have hzv:∀w,(zeroValue e).run P w= .ok zv w:=fun w=>by simp[zeroValue,typeInfo,hj,hz',Sem.run_bind]
  have hti:∀w,(typeInfo e).run P w= .ok inf w:=fun w=>by simp[typeInfo,hinf]
  have hszr:∀w,(sizeOf e).run P w= .ok sz w:=fun w=>by simp[sizeOf,typeInfo,hinf,hs]
  have hlall:∀r∈rows++rows',r.length=sz:=by
   intro r hq;rcases List.mem_append.1 hq with hq | hq
   ·exact hr r hq
   exact hr' r hq
  have hlen:(rows++rows').length=rows.length+rows'.length:=by simp
  have hlenof:∀w,(Builtin.lenOf (E y)).run P w= .ok rows'.length w:=fun w=>by rw[hEy];rfl
  have hcap':rows.length<rows.length+rows'.length:=by omega
  have hcap:¬(rows.length+rows'.length≤rows.length):=by omega
  generalize hnc:Question.cut (.appendCap (rows.length+rows'.length) rows.length e) (w.tape w.drawn (.appendCap (rows.length+rows'.length) rows.length e))=newCap;have hncge:rows.length+rows'.length≤newCap:=by rw[←hnc];simp only[Question.cut];omega
  have hnext:=KW hcap';have hask:∀(b:Nat) w,(askRoom b).run P w= .ok () w:=by intro b w;unfold askRoom;split<;>rfl
  let w1:World:={ w with drawn:=w.drawn+1 }
  have same:Cs F w F w1:=⟨Nat.le_refl _,fun _ _ _=>rfl,fun _ h _=>h⟩;obtain⟨ns',oy',cy',hEy',hns',hnsl',hnsr'⟩:=Ev (P:=P) (B2.mono same _ _ h2) hr';obtain⟨os',oz',cz',hEz',hos',hosl',hosr'⟩:=Ev (P:=P) (B2.mono same _ _ (PM rows _ _ _ h1)) hr
  let vs:List Value:=os'++ns'++(Builtin.zeroCells zv.cells (newCap - (rows.length+rows'.length))).toList
  have hrun:(execOp E ⟨dst,.call { callee:= .builtin .append,args:=#[x,y],argTypes:=#[T,T2] },ty,pos,aft,g⟩).run P w= .ok (.value (.slice (some ⟨w.heap.size,0,none⟩) (rows.length+rows'.length) newCap)) (World.push w1 (.cells ⟨vs⟩ e (0,0))):=by
   have hos2:=hos';rw[hEx] at hos2;simp only[execOp,resolve,invoke,builtin,Builtin.append_,hEx,Sem.run_bind,Sem.run_pure,Result.andThen_ok,List.map_toArray,List.map_cons,List.map_nil,List.getElem?_toArray,List.getElem?_cons_zero,List.getElem?_cons_succ,run_underlying hu,run_underlying hu2,hszr,pure_bind,
    Bool.false_eq_true,if_false,hlenof,Bool.not_false,if_true]
   rw[if_neg hcap];simp only[Sem.run_bind,hti,Result.andThen_ok,hby];rw[if_neg Ah];simp only[Sem.run_bind,Sem.run_pure,Result.andThen_ok,hti,hby,pure_bind];rw[if_neg (by
    have:Builtin.nextslicecap (rows.length+rows'.length) rows.length*bytes≤2*(rows.length+rows'.length)*bytes:=Nat.mul_le_mul_right bytes hnext;simp;omega)]
   have hch:(choose (.appendCap (rows.length+rows'.length) rows.length e)).run P w= .ok newCap w1:=by
    simp only[choose,Sem.run,Question.forced,Bool.false_eq_true,if_false,hnc];rfl
   simp only[Sem.run_bind,Sem.run_pure,Result.andThen_ok,pure_bind,hch,hti,hask,hos2,hns',hzv,newRow,newObj,Sem.run,Result.andThen];have evs:(⟨os'⟩++⟨ns'⟩++Builtin.zeroCells zv.cells (newCap - (rows.length+rows'.length)):Array Value)=⟨vs⟩:=by
    apply Array.ext';simp[vs]
   rw[evs];rfl
  have hvl:vs.length=newCap*sz:=by
   simp only[vs,List.length_append,hosl',hnsl',Array.length_toList,Hw,hzs];rw[←Nat.add_mul,←Nat.add_mul];congr 1;omega
  have hlen2:(rows++rows').flatten.length=(rows.length+rows'.length)*sz:=by rw[S9 hlall,hlen]
  have hpre:Bl F w1 ((rows++rows').flatten.map .p) (vs.take ((rows++rows').flatten.length)):=by
   have e1:vs.take ((rows++rows').flatten.length)=os'++ns':=by
    rw[hlen2];have:(os'++ns').length=(rows.length+rows'.length)*sz:=by rw[List.length_append,hosl',hnsl',Nat.add_mul]
    rw[←this];exact List.take_left
   rw[e1,List.flatten_append,List.map_append];exact hosr'.append hnsr'
  have hH1:HRel F H w1:=hH.stable' same (fun _ h=>h) (fun _ _ _ _=>rfl) hH.bd;have t1:Trans F H w F H w1:=⟨Nat.le_refl _,fun _ _ _=>rfl,fun _ h _=>h,fun _ h=> .inl h,fun o ho b hb=> .inl ⟨o,ho,hb⟩,rfl,rfl,rfl⟩;obtain⟨v',H',F',hnv,ht,hHr,hrep⟩:=H8 (T:=e) (c:=newCap) (vs:=vs) (H:=H) hH1 hlall hpre (by rw[hvl];exact Nat.le_refl _) (by rw[hlen];exact hncge);exact⟨_,_,v',H',F',hrun,hnv,t1.trans hH.bd ht,hHr,by rw[←hlen];exact hrep⟩
def lR:AV→Option Bool
 | .p (.addr _)=>some false
 | .p (.optp o)=>some o.isNone
 | .ptr _ _=>some false
 | .nilp=>some true
 | .ref _=>some false
 | _=>none
end
section
variable {P:Program}{dst:Option Tmp}{ty:TypeId}{pos:String}{aft:Array Edge}{g:Option (Nat×Bool)}{ρ:Operand→AV}{H:List A8}{x:Operand}
end
end Go.Abs
namespace Go.Eu
open Go.Abs
def lJ {α:Type}(p:α→Bool):List α→Int→Int
 | [],_=> -1
 | x::l,i=>if p x=true then i else lJ p l (i+1)
section
variable {l:List Bv}{i j:Nat}{x u:Bv}
end
def n6 (m:List (Int×Int)):List (Int×AV):=m.map fun p=>(p.1,.p (I p.2))
theorem VK (M:List (Int×Int)):(PK M).length=M.length:=by simp[PK,Vc]
def mi (M:List (Int×Int)) (k:Int):Bv:=⟨k,(mg k M).getD 0⟩
theorem RF.len {m:List (Int×Int)}(h:RF m) (hr:∀k∈m.map Prod.fst,-65536≤k∧k<8):m.length≤65544:=by
 have ha:=VS h;have:=Q0 (lo:= -65536) ha (fun v hv=>by
  simp only[PK,List.mem_map] at hv;obtain⟨k,hk,rfl⟩:=hv;exact hr k ((OA _).mem_iff.1 hk)) An
 rw[VK] at this;omega
structure ca (S:List (Int×Int)×Int):Prop where
 m:RF S.1
 r:∀k∈S.1.map Prod.fst,-65536≤k∧k<8
theorem ca.len {S:List (Int×Int)×Int}(h:ca S):S.1.length≤65544:=h.m.len h.r
theorem NR {m:List (Int×Int)}{i p:Int}{Q:Int→Prop}(h:∀k∈m.map Prod.fst,Q k) (hi:Q i):∀k∈(JH m i p).map Prod.fst,Q k:=by
 have hs:∀k∈(ms i p m).map Prod.fst,Q k:=by
  rw[Qh];split
  ·exact h
  intro k hk;rcases List.mem_append.1 hk with hk | hk
  ·exact h k hk
  rw[List.mem_singleton.1 hk];exact hi
 unfold JH;split
 ·split
  ·exact hs
  exact h
 exact hs
theorem Pd {n:Int}{Q:Int→Prop}:∀(vs:List Bv) (m:List (Int×Int)),(∀k∈m.map Prod.fst,Q k)→(∀v∈vs,Q v.index)→∀k∈(vs.foldl (JJ n) m).map Prod.fst,Q k
 | [],m,h,_=>h
 | v::vs,m,h,hv=>Pd vs (JJ n m v) (NR h (hv v Ao)) fun w hw=>hv w (by simp[hw])
theorem ca.step {ps:List CN}{S:List (Int×Int)×Int}{x:Bv}(hps:∀l∈ps,Dm l=true) (h:ca S) (hx:(0≤x.plus∧x.plus≤100)∧ -65536≤x.index∧x.index<8) (hi:x.index<ps.length):ca (OF ps S x):=by
 refine⟨(W8 hps h.m hx.1.1 hi).1,?_⟩;unfold OF;split
 ·exact NR h.r hx.2
 rename_i q;refine Pd _ _ h.r fun v hv=>?_;have hlt:x.index.toNat<ps.length:=by omega
 rw[List.getD_eq_getElem?_getD,List.getElem?_eq_getElem hlt] at hv;exact((R3.of (hps _ (List.getElem_mem hlt))).rg v hv).2
theorem ca.zero (c:Int):ca ([],c):=⟨RF.nil,by simp⟩
def ao (ps:List CN):List CN→Except Int (List CN)
 | []=> .ok []
 | l::ls=>if (Lo l ps).2≠0 then .error (Lo l ps).2 else match ao ps ls with
  | .ok zs=> .ok ((Lo l ps).1::zs)
  | .error e=> .error e
def lj (ys:List CN):Except Int (List CN)→Except Int (List CN)
 | .ok zs=> .ok (ys++zs)
 | .error e=> .error e
def nb (ps:List CN) (_:Unit) (t:Tm) (_:Int):Except Int ((Tm×Bool)×Unit):=match ao ps t.levels with
 | .ok ls=> .ok ((.mk t.kind t.index t.name ls [],false),())
 | .error e=> .error e
section
variable {ps:List CN}
end
def Mr {α:Type}(a b:Out α):Prop:=a= .stuck∨a=b
section
variable {α β:Type}
theorem Mr.refl (a:Out α):Mr a a:= .inr rfl
theorem Mr.bind {a b:Out α}{k k':α→Out β}(h:Mr a b) (hk:∀x,Mr (k x) (k' x)):Mr (a.bind k) (b.bind k'):=by
 rcases h with rfl | rfl
 ·exact .inl O
 cases a with
 | stuck=>exact .inl rfl
 | fail=>exact .inr rfl
 | ok x=>exact hk x
theorem Mr.ite {c:Prop} [Decidable c] {a a' b b':Out α}(h1:Mr a a') (h2:Mr b b'):Mr (if c then a else b) (if c then a' else b'):=by
 split
 ·exact h1
 exact h2
theorem Mr.chk {σ:Type}{a b:Out (Tm×σ)}{k k':Tm×σ→Out β}(h:Mr a b) (hk:∀x,Mr (k x) (k' x)):Mr (a.chk k) (b.chk k'):=Mr.bind h fun x=>Mr.ite (hk x) (Mr.refl _)
variable {σ:Type}{E:List Ck}{S:Sys σ}
theorem Mr.put {s:σ}{x:Tm×Int}{k k':Tm→σ→Out β}(hk:∀t s',Mr (k t s') (k' t s')):Mr (S.put s x k) (S.put s x k'):=by
 unfold Sys.put;refine Mr.ite ?_ (Mr.refl _);cases S.res s x.1 x.2 with
 | none=>exact Mr.refl _
 | some s'=>exact hk _ _
variable {W W':σ→Tm→Out (Tm×σ)}(hW:∀s t,Mr (W s t) (W' s t))
include hW
end
section
variable {σ:Type}{E:List Ck}{S:Sys σ}
end
theorem aX {k i:Int}{n:ByteArray}{l:List CN}{ts:List Tm}{x y:Tm}(h:k=6∧((ts.length:Nat):Int)=2) (hx:ts[0]?=some x) (hy:ts[1]?=some y):BM (.mk k i n l ts)=(x::(BM y).1,(BM y).2):=by
 obtain⟨rfl,h2⟩:=h;rw[WU h2 hx hy,BM,if_pos rfl]
theorem Zq {k i:Int}{n:ByteArray}{l:List CN}{ts:List Tm}(h:k≠6∨((ts.length:Nat):Int)≠2):BM (.mk k i n l ts)=([],.mk k i n l ts):=by
 unfold BM;split
 ·rename_i k' i' n' l' a b e;injection e with e1 e2 e3 e4 e5;subst e1 e2 e3 e4 e5;simp at h;rw[if_neg h]
 rfl
theorem PO {k i:Int}{n:ByteArray}{ls:List CN}{ts l:List Tm}{x y:Tm}{X:List Tm×Tm}(h:k=6∧((ts.length:Nat):Int)=2) (hx:ts[0]?=some x) (hy:ts[1]?=some y) (hX:(l++(BM (.mk k i n ls ts)).1,(BM (.mk k i n ls ts)).2)=X):((l++[x])++(BM y).1,(BM y).2)=X:=by
 rw[←hX,aX h hx hy];simp
theorem RO {k i:Int}{n:ByteArray}{ls:List CN}{ts l:List Tm}{X:List Tm×Tm}(h:k≠6∨((ts.length:Nat):Int)≠2) (hX:(l++(BM (.mk k i n ls ts)).1,(BM (.mk k i n ls ts)).2)=X):X=(l,.mk k i n ls ts):=by
 rw[←hX,Zq h];simp
theorem Cr:∀(t:Tm),(BM t).1.length<size t
 | .mk k i n l [a,b]=>by
  unfold BM;split
  ·have:=Cr b;have:=size_pos a;simp only[List.length_cons,size,Bb];omega
  ·simp[size,Bb];omega
 | .mk k i n l []=>by simp[BM,size,Bb]
 | .mk k i n l [_]=>by simp[BM,size,Bb];omega
 | .mk k i n l (_::_::_::_)=>by simp[BM,size,Bb];omega
mutual
def Kc:Ge→Prop
 | .mk k b v l=>okB b=true∧Qc l
def bz:Hx→Prop
 | .mk c a t=>Kc t
def Qc:List Hx→Prop
 | []=>True
 | b::l=>bz b∧Qc l
end
structure DG (d:Ck):Prop where
 din:XR d
 fx:0≤d.fixed∧d.fixed≤1000000
 vl:okB d.value=true
 ru:∀t∈d.recs.rules,okB t=true
 fu:∀f∈d.funs,1≤f.arity∧f.arity≤16∧Kc f.tree
structure ZG (E:List Ck):Prop where
 env:Uv E
 all:∀d∈E,DG d
def lW (TA:Ka→List A8) (T0:List A8) (nm:ByteArray) (l:List (ByteArray×Ka)):List A8:=match NP nm l with
 | some e=>TA e
 | none=>T0
section
variable {TA:Ka→List A8}{T0:List A8}{nm:ByteArray}{d:Ck}{i:Int}{j:Nat}
end
def mr (ds:List Ck):Prop:=∀d∈ds,d.kind=0∨XR d
theorem N6 {nm:ByteArray}:∀{l:List (ByteArray×Ka)}{e:Ka},NP nm l=some e→∃s,(s,e)∈l
 | (s,x)::l,e,h=>by
  simp only[NP] at h;split at h
  ·cases h;exact⟨s,by simp⟩
  obtain⟨s',h'⟩:=N6 h;exact⟨s',List.mem_cons_of_mem _ h'⟩
theorem RZ {i p:Int}{s:ByteArray}{e:Ka}:∀{cs:List HZ}{k:Int},(s,e)∈UC i p cs k→∃(j:Nat) (c:HZ),cs[j]?=some c∧e=⟨4,i,k+j,p,c.type⟩
 | c::cs,k,h=>by
  simp only[UC,List.mem_cons] at h;rcases h with h | h
  ·cases h;exact⟨0,c,rfl,by simp⟩
  obtain⟨j,c',h1,h2⟩:=RZ h;exact⟨j+1,c',by simpa using h1,by rw[h2];congr 1;omega⟩
theorem T4 {i p:Int}{s:ByteArray}{e:Ka}:∀{cs:List OY}{k:Int},(s,e)∈Y7 i p cs k→∃(j:Nat) (c:OY),cs[j]?=some c∧e=⟨6,i,k+j,p,c.type⟩
 | c::cs,k,h=>by
  simp only[Y7,List.mem_cons] at h;rcases h with h | h
  ·cases h;exact⟨0,c,rfl,by simp⟩
  obtain⟨j,c',h1,h2⟩:=T4 h;exact⟨j+1,c',by simpa using h1,by rw[h2];congr 1;omega⟩
structure Xu (d:Ck) (i:Int) (e:Ka):Prop where
 decl:e.decl=i
 kind:0≤e.kind∧e.kind≤6
 ctor:e.kind=4→∃(j:Nat) (c:HZ),d.ctors[j]?=some c∧e.item=j
 func:e.kind=6→∃(j:Nat) (c:OY),d.funs[j]?=some c∧e.item=j
theorem dJ {d:Ck}{i:Int}{s:ByteArray}{e:Ka}(h:(s,e)∈de d i):Xu d i e:=by
 unfold de at h;split at h
 ·rename_i hk;simp only[List.mem_singleton,Prod.mk.injEq] at h;obtain⟨_,rfl⟩:=h;exact⟨O,by simp only;omega,fun q=>by simp only at q;omega,fun q=>by simp only at q;omega⟩
 split at h
 ·simp only[List.mem_cons,List.mem_append,List.mem_singleton,Prod.mk.injEq,List.not_mem_nil,or_false] at h;rcases h with ⟨_,rfl⟩ | h | ⟨_,rfl⟩
  ·exact⟨O,by simp,fun q=>by simp at q,fun q=>by simp at q⟩
  ·obtain⟨j,c,h1,rfl⟩:=RZ h;exact⟨O,by simp,fun _=>⟨j,c,h1,by simp⟩,fun q=>by simp at q⟩
  exact⟨O,by simp,fun q=>by simp at q,fun q=>by simp at q⟩
 split at h
 ·obtain⟨j,c,h1,rfl⟩:=T4 h;exact⟨O,by simp,fun q=>by simp at q,fun _=>⟨j,c,h1,by simp⟩⟩
 cases h
theorem SO {nm:ByteArray}:∀{ds:List Ck}{k:Int}{e:Ka},findF nm ds k=some e→∃(i:Nat) (d:Ck),ds[i]?=some d∧Xu d (k+i) e
 | d::ds,k,e,h=>by
  simp only[findF] at h;split at h
  ·rename_i x hx;cases h;obtain⟨s,hs⟩:=N6 hx;exact⟨0,d,O,by simpa using dJ hs⟩
  obtain⟨i,d',h1,h2⟩:=SO h;refine⟨i+1,d',by simpa using h1,?_⟩;rw[show k+((i+1:Nat):Int)=k+1+i by omega];exact h2
theorem Xo {ds:List Ck}{nm:ByteArray}(h:(EF ds nm).2=0):∃(i:Nat) (d:Ck),ds[i]?=some d∧Xu d i (EF ds nm).1:=by
 unfold EF at h ⊢;cases e:findF nm ds 0 with
 | none=>rw[e] at h;simp at h
 | some x =>
  obtain⟨i,d,h1,h2⟩:=SO e;exact⟨i,d,h1,by simpa using h2⟩
def ba:Ck:=⟨0,⟨#[]⟩,0,Bi,Bi,0,[],⟨0,Bi,[]⟩,[]⟩
def oE (E:List Ck) (nm:ByteArray):Ck×Int×Bool:=match Ko E nm with
 | some (d,j)=>(d,j,true)
 | none=>(ba,0,false)
section
variable {E:List Ck}{nm:ByteArray}{x:Ck}
end
def iz (E:List Ck) (h:Tm):Bool:=decide ((EF E h.name).2=0)&&decide ((h.levels.length:Int)=(EF E h.name).1.params)
def Out.ex {α:Type}:Out α→Except Int α
 | .ok a=> .ok a
 | .stuck=> .error 0
 | .fail=> .error 0
section
variable {α β σ:Type}
end
section
variable {E:List Ck}{σ:Type}{S:Sys σ}{W:σ→Tm→Out (Tm×σ)}{n:Nat}{t:Ge}{v:List Tm}{l:Tm}{s:σ}{x:Tm}
def ma (E:List Ck) (S:Sys σ) (W:σ→Tm→Out (Tm×σ)) (n:Nat) (t:Ge) (v:List Tm) (r:Tm×σ):Out ((Option (Tm×List Tm)×Tm)×σ):=match II E r.1 with
 | none=> .ok ((none,r.1),r.2)
 | some (d,j,fields)=>match Ec (Ln d j).name t.branches with
  | none=> .ok ((none,r.1),r.2)
  | some t'=>Pn E S W n t' (v++fields) r.1 r.2
end
section
variable {E:List Ck}{σ:Type}{S:Sys σ}{W:σ→Tm→Out (Tm×σ)}{n:Nat}{h m:Tm}{a:List Tm}{s:σ}{d:Ck}{x:Ka}
def jh (S:Sys σ) (f:OY) (h:Tm) (a:List Tm) (q:(Option (Tm×List Tm)×Tm)×σ):Out (Option Tm×σ):=match q.1.1 with
 | none=> .ok (none,q.2)
 | some (b,vars)=>if S.over q.2=true then .ok (none,q.2) else XS S h b vars (a.drop f.arity.toNat) q.2
section
variable (hu:iz E h=true) (hd:E[(EF E h.name).1.decl.toNat]?=some d)
include hu hd
omit hd
end
end
section
variable {E:List Ck}{σ:Type}{S:Sys σ}{n:Nat}{t:Tm}{s:σ}{X:Out (Tm×σ)}
section
variable (ho:okB t=true) (h:S.over s=false) (hm:S.many (BI t).2.length=false)
include ho h hm
def l7 (E:List Ck) (S:Sys σ) (n:Nat) (h:Tm) (a:List Tm) (r:Tm×σ):Out (Tm×σ) :=
 if r.1.kind≠8 then .ok (apply (RX h.kind r.1) a,r.2) else WX S h r.1 a r.2 fun x s'=>Uo E S n s' x
def l6 (E:List Ck) (S:Sys σ) (n:Nat) (t:Tm) (r:Option Tm×σ):Out (Tm×σ):=match r.1 with
 | none=> .ok (t,r.2)
 | some x=>Uo E S n r.2 x
end
end
inductive NV where
 | fn (a:Nat)
 | pr (a:Nat)
 | st (a:Nat)
 deriving DecidableEq,Inhabited
structure NB where
 t:Tm
 vars:Option Nat
 deriving Inhabited
structure NH where
 kind:Int
 level:Int
 node:Tm
 kids:List Nat
 body:Option NB
 deriving Inhabited
inductive NO where
 | thunk (t:Tm) (vars:Option Nat) (known:Option NV)
 | scope (first:Nat) (rest:Option Nat)
 | func (domain:Nat) (body:NB)
 | pair (domain first second:Nat)
 | stuck (h:NH) (args:List Nat)
 deriving Inhabited
structure NS where
 objs:List NO
 left:Int
 nodes:Int
def NS.get (s:NS) (a:Nat):Option NO:=if a<s.objs.length then s.objs[s.objs.length - 1 - a]? else none
def NS.set (s:NS) (a:Nat) (o:NO):NS:={ s with objs:=s.objs.set (s.objs.length - 1 - a) o }
def NS.new (s:NS) (o:NO):NS:={ s with objs:=o::s.objs }
def NS.next (s:NS):Nat:=s.objs.length
def NS.count (s:NS) {α:Type}(k:NS→Out α):Out α:=if s.left - 1<0 then .fail else k { s with left:=s.left - 1 }
def NS.node (s:NS) (d:Int) {α:Type}(k:NS→Out α):Out α:=if s.nodes+1 > 8192∨d > 400 then .fail else k { s with nodes:=s.nodes+1 }
def NS.thunk (s:NS) (t:Tm) (vars:Option Nat):NS:=s.new (.thunk t vars none)
def NH.plain (k:Int) (node:Tm):NH:=⟨k,0,node,[],none⟩
def NS.var (s:NS) (level:Int):NS:=s.new (.stuck ⟨0,level,Bi,[],none⟩ [])
section
variable (E:List Ck)
def eD (nm:ByteArray) (ls:List CN):Option Tm :=
 if (EF E nm).2≠0∨(EF E nm).1.kind≠1∨(ls.length:Int)≠(EF E nm).1.params then none
 else if (E0 (CT E (EF E nm).1.decl).value ls).2≠0 then none else some (E0 (CT E (EF E nm).1.decl).value ls).1
def ah (s:NS):NV→Option (Ck×Int×List Nat)
 | .st a=>match s.get a with
  | some (.stuck h args) =>
   if h.kind≠3 then none
   else match Ko E h.node.name with
    | none=>none
    | some (d,j)=>if j<0 then none else if (args.length:Int)≠d.fixed+Mz d j then none else some (d,j,args.drop d.fixed.toNat)
  | _=>none
 | _=>none
inductive Rq where
 | eval (t:Tm) (vars:Option Nat)
 | force (a:Nat)
 | apply (v:NV) (a:Nat)
 | body (b:NB) (a:Nat)
def bg (W:Rq→NS→Out (NV×NS)) (s:NS):Nat→Int→Option Nat→Out (NV×NS)
 | _,i,none=> .ok (.st s.next,s.var (-1 - i))
 | 0,_,_=> .stuck
 | n+1,i,some b=>match s.get b with
  | some (.scope x r)=>if i=0 then W (.force x) s else bg W s n (i - 1) r
  | _=> .stuck
def gT (W:Rq→NS→Out (NV×NS)) (k:Int) (v:NV) (s:NS):Out (NV×NS):=match v with
 | .pr a=>s.count fun s=>match s.get a with
  | some (.pair d x y)=>W (.force (if k=9 then x else y)) s
  | _=> .stuck
 | v=> .ok (.st (s.next+1),(s.new (.thunk Bi none (some v))).new (.stuck ⟨k,0,Bi,[s.next],none⟩ []))
def bA (W:Rq→NS→Out (NV×NS)):List Nat→NV→NS→Out (NV×NS)
 | [],v,s=> .ok (v,s)
 | x::xs,v,s=>(W (.apply v x) s).bind fun r=>bA W xs r.1 r.2
def jc (W:Rq→NS→Out (NV×NS)) (d:Ck) (ls:List CN) (args:List Nat) (s:NS):Out (Option NV×NS) :=
 if (args.length:Int)≠Ft d+1 then .ok (none,s)
 else match args[(Ft d).toNat]? with
  | none=> .stuck
  | some x=>(W (.force x) s).bind fun r=>match ah E r.2 r.1 with
   | none=> .ok (none,r.2)
   | some (e,j,fields) =>
    if e.name≠d.name∨j≥(d.recs.rules.length:Int) then .ok (none,r.2)
    else if (E0 (QN d j) ls).2≠0 then .ok (none,r.2)
    else r.2.count fun s=>(W (.eval (E0 (QN d j) ls).1 none) s).bind fun q =>
     (bA W (args.take (d.fixed+1+d.ctors.length).toNat++fields) q.1 q.2).bind fun q=> .ok (some q.1,q.2)
def bG (W:Rq→NS→Out (NV×NS)):Nat→Ge→List Nat→NS→Out (Option (Tm×List Nat)×NS)
 | 0,_,_,_=> .stuck
 | n+1,t,vars,s =>
  if t.kind=1 then
   if t.var<0∨t.var≥(vars.length:Int) then .ok (none,s)
   else (W (.force (vars.getD t.var.toNat 0)) s).bind fun r=>match ah E r.2 r.1 with
    | none=> .ok (none,r.2)
    | some (d,j,fields)=>match Ec (Ln d j).name t.branches with
     | none=> .ok (none,r.2)
     | some t'=>bG W n t' (vars++fields) r.2
  else .ok (some (t.body,vars),s)
def TX:List Nat→Option Nat→NS→Option Nat×NS
 | [],r,s=>(r,s)
 | x::xs,r,s=>TX xs (some s.next) (s.new (.scope x r))
def ke (W:Rq→NS→Out (NV×NS)) (n:Nat) (f:OY) (ls:List CN) (args:List Nat) (s:NS):Out (Option NV×NS) :=
 if (args.length:Int)≠f.arity then .ok (none,s)
 else (bG E W n f.tree args s).bind fun r=>match r.1 with
  | none=> .ok (none,r.2)
  | some (b,vars) =>
   if (E0 b ls).2≠0 then .ok (none,r.2)
   else r.2.count fun s=>(W (.eval (E0 b ls).1 (TX vars none s).1) (TX vars none s).2).bind fun q=> .ok (some q.1,q.2)
def ka (W:Rq→NS→Out (NV×NS)) (n:Nat) (v:NV) (x:Nat) (s:NS):Out (NV×NS):=match v with
 | .fn a=>s.count fun s=>match s.get a with
  | some (.func d b)=>W (.body b x) s
  | _=> .stuck
 | .pr a=>match s.get a with
  | some (.pair d p q)=> .ok (.st s.next,s.new (.stuck ⟨8,0,Bi,[d,p,q],none⟩ [x]))
  | _=> .stuck
 | .st a=>match s.get a with
  | some (.stuck h args) =>
   if args.length≥4096 then .fail
   else
    let s1:=s.new (.stuck h (args++[x]))
    if h.kind≠3 then .ok (.st s.next,s1)
    else match Jo E h.node with
     | none=> .ok (.st s.next,s1)
     | some e =>
      (if e.kind=5 then jc E W (CT E e.decl) h.node.levels (args++[x]) s1
       else if e.kind=6 then ke E W n (GB (CT E e.decl) e.item) h.node.levels (args++[x]) s1
       else .ok (none,s1)).bind fun r=>match r.1 with
        | some v=> .ok (v,r.2)
        | none=> .ok (.st s.next,r.2)
  | _=> .stuck
def oD (W:Rq→NS→Out (NV×NS)) (n:Nat) (t:Tm) (ρ:Option Nat) (s:NS):Out (NV×NS):=match t.kids with
 | [p]=>if t.kind=9∨t.kind=10 then (W (.eval p ρ) s).bind fun r=>gT W t.kind r.1 r.2 else .stuck
 | [a,b] =>
  if t.kind=4 then (W (.eval a ρ) s).bind fun r=>W (.apply r.1 r.2.next) (r.2.thunk b ρ)
  else if t.kind=5 then .ok (.fn (s.next+1),(s.thunk a ρ).new (.func s.next ⟨b,ρ⟩))
  else if t.kind=6∨t.kind=7 then .ok (.st (s.next+1),(s.thunk a ρ).new (.stuck ⟨t.kind,0,Bi,[s.next],some ⟨b,ρ⟩⟩ []))
  else .stuck
 | [a,b,c] =>
  if t.kind=11 then s.count fun s=>W (.eval c (some (s.next+1))) ((s.thunk b ρ).new (.scope s.next ρ))
  else if t.kind=8 then .ok (.pr (s.next+3),(((s.thunk a ρ).thunk b ρ).thunk c ρ).new (.pair s.next (s.next+1) (s.next+2)))
  else .stuck
 | [] =>
  if t.kind=0 then bg W s n t.index ρ
  else if t.kind=3 then match eD E t.name t.levels with
   | some v=>s.count fun s=>W (.eval v none) s
   | none=> .ok (.st s.next,s.new (.stuck (.plain t.kind t) []))
  else .ok (.st s.next,s.new (.stuck (.plain t.kind t) []))
 | _=> .stuck
def dZ:Nat→Rq→NS→Out (NV×NS)
 | 0,_,_=> .stuck
 | n+1,.eval t ρ,s=>oD E (dZ n) n t ρ s
 | n+1,.force a,s=>match s.get a with
  | some (.thunk t ρ (some v))=> .ok (v,s)
  | some (.thunk t ρ none)=>(dZ n (.eval t ρ) s).bind fun r=> .ok (r.1,r.2.set a (.thunk t none (some r.1)))
  | _=> .stuck
 | n+1,.apply v x,s=>ka E (dZ n) n v x s
 | n+1,.body b x,s=>dZ n (.eval b.t (some s.next)) (s.new (.scope x b.vars))
def Zb (Q:NS→Nat→Int→Out (Tm×NS)) (d:Int):List Nat→NS→Out (List Tm×NS)
 | [],s=> .ok ([],s)
 | x::xs,s=>(Q s x d).bind fun r=>(Zb Q d xs r.2).bind fun q=> .ok (r.1::q.1,q.2)
def fE (Q:NS→Nat→Int→Out (Tm×NS)) (d:Int):List Nat→Tm→NS→Out (Tm×NS)
 | [],t,s=> .ok (t,s)
 | x::xs,t,s=>s.node d fun s=>(Q s x d).bind fun r=>fE Q d xs (On t r.1) r.2
mutual
def j2:Nat→NS→NV→Int→Out (Tm×NS)
 | 0,_,_,_=> .stuck
 | n+1,s,.fn a,d=>match s.get a with
  | some (.func x b)=>s.node d fun s=>(jC n s x d).bind fun r=>(mF n r.2 b d).bind fun q=> .ok (.mk 5 0 ⟨#[]⟩ [] [r.1,q.1],q.2)
  | _=> .stuck
 | n+1,s,.pr a,d=>match s.get a with
  | some (.pair x y z)=>s.node d fun s=>(Zb (jC n) d [x,y,z] s).bind fun r=> .ok (.mk 8 0 ⟨#[]⟩ [] r.1,r.2)
  | _=> .stuck
 | n+1,s,.st a,d=>match s.get a with
  | some (.stuck h args)=>s.node d fun s =>
   (if h.kind=0 then .ok (BP (d - 1 - h.level),s)
    else if h.kids.length > 0 then (Zb (jC n) d h.kids s).bind fun r=>match h.body with
     | none=> .ok (.mk h.kind 0 ⟨#[]⟩ [] r.1,r.2)
     | some b=>(mF n r.2 b d).bind fun q=> .ok (.mk h.kind 0 ⟨#[]⟩ [] (r.1++[q.1]),q.2)
    else .ok (h.node,s)).bind fun r=>fE (jC n) d args r.1 r.2
  | _=> .stuck
def jC:Nat→NS→Nat→Int→Out (Tm×NS)
 | 0,_,_,_=> .stuck
 | n+1,s,x,d=>(dZ E n (.force x) s).bind fun r=>j2 n r.2 r.1 d
def mF:Nat→NS→NB→Int→Out (Tm×NS)
 | 0,_,_,_=> .stuck
 | n+1,s,b,d=>(dZ E n (.body b (s.next+1)) ((s.var d).new (.thunk Bi none (some (.st s.next))))).bind fun r=>j2 n r.2 r.1 (d+1)
end
def mV (n:Nat) (t:Tm):Out (Tm×NS):=(dZ E n (.eval t none) ⟨[],20000,0⟩).bind fun r=>j2 E n r.2 r.1 0
end
def VH (n:Nat):Option Nat→Bool
 | none=>true
 | some a=>decide (a<n)
def dv (n:Nat):NV→Bool
 | .fn a | .pr a | .st a=>decide (a<n)
def jZ (n:Nat):Option NV→Bool
 | none=>true
 | some v=>dv n v
def j1 (n:Nat):Option NB→Bool
 | none=>true
 | some b=>VH n b.vars
def ly (n:Nat):NO→Bool
 | .thunk _ v k=>VH n v&&jZ n k
 | .scope x r=>decide (x<n)&&VH n r
 | .func d b=>decide (d<n)&&VH n b.vars
 | .pair x y z=>decide (x<n)&&decide (y<n)&&decide (z<n)
 | .stuck h args=>h.kids.all (fun a=>decide (a<n))&&j1 n h.body&&args.all (fun a=>decide (a<n))
def im (s:NS):Bool:=s.objs.all (ly s.objs.length)
def gd {α:Type}(b:Bool) (x:Out α):Out α:=if b=true then x else .stuck
def ky (n:Nat):Rq→Bool
 | .eval _ ρ=>VH n ρ
 | .force a=>decide (a<n)
 | .apply v a=>dv n v&&decide (a<n)
 | .body b a=>VH n b.vars&&decide (a<n)
def bu {α:Type}(s:NS) (o:NO) (k:NS→Out α):Out α:=gd (im s&&ly s.objs.length o) (k (s.new o))
def eO {α:Type}(s:NS) (k:NS→Out α):Out α:=gd (decide (0<s.left)&&decide (s.left≤20000)) (k { s with left:=s.left - 1 })
def bZ {α:Type}(s:NS) (d:Int) (k:NS→Out α):Out α:=gd (decide (0≤s.nodes)&&decide (s.nodes<8000)&&decide (0≤d)&&decide (d<400)) (k { s with nodes:=s.nodes+1 })
def bB (W:Rq→NS→Out (NV×NS)) (s:NS):Nat→Int→Option Nat→Out (NV×NS)
 | _,i,none=>gd (decide (-1000000≤i)&&decide (i≤1000000)) (bu s (.stuck ⟨0,-1 - i,Bi,[],none⟩ []) fun s1=> .ok (.st s.next,s1))
 | 0,_,_=> .stuck
 | n+1,i,some b=>gd (decide (-1000000≤i)&&decide (i≤1000000)) (match s.get b with
  | some (.scope x r)=>if i=0 then W (.force x) s else bB W s n (i - 1) r
  | _=> .stuck)
def eY {α:Type}(s:NS) (x:Out (α×NS)):Out (α×NS):=x.bind fun r=>gd (decide (s.objs.length≤r.2.objs.length)) (.ok r)
def ez (v:NV) (s:NS):Out (NV×NS):=match v with
 | .pr _=> .stuck
 | v=>bu s (.thunk Bi none (some v)) fun s1=>bu s1 (.stuck ⟨9,0,Bi,[s.next],none⟩ []) fun s2=> .ok (.st s1.next,s2)
def nZ (W:Rq→NS→Out (NV×NS)) (n:Nat) (t:Tm) (ρ:Option Nat) (s:NS):Out (NV×NS):=match t.kids with
 | []=>if t.kind=0 then bB W s n t.index ρ else .stuck
 | [p]=>if t.kind=9 then (W (.eval p ρ) s).bind fun r=>ez r.1 r.2 else .stuck
 | [a,b] =>
  if t.kind=4 then (W (.eval a ρ) s).bind fun r=>bu r.2 (.thunk b ρ none) fun s1=>W (.apply r.1 r.2.next) s1
  else if t.kind=5 then bu s (.thunk a ρ none) fun s1=>bu s1 (.func s.next ⟨b,ρ⟩) fun s2=> .ok (.fn s1.next,s2)
  else .stuck
 | _=> .stuck
def jY (W:Rq→NS→Out (NV×NS)) (v:NV) (x:Nat) (s:NS):Out (NV×NS):=match v with
 | .fn a=>match s.get a with
  | some (.func d b)=>eO s fun s=>W (.body b x) s
  | _=> .stuck
 | .st a=>match s.get a with
  | some (.stuck h args)=>gd (decide (args.length<100)&& !decide (h.kind=3)&&h.body.isNone) (bu s (.stuck h (args++[x])) fun s1=> .ok (.st s.next,s1))
  | _=> .stuck
 | .pr _=> .stuck
def eS:Nat→Rq→NS→Out (NV×NS)
 | 0,_,_=> .stuck
 | n+1,r,s=>gd (im s&&ky s.objs.length r) ((eY s (match r with
  | .eval t ρ=>nZ (eS n) n t ρ s
  | .force a=>match s.get a with
   | some (.thunk t ρ (some v))=> .ok (v,s)
   | some (.thunk t ρ none)=>(eS n (.eval t ρ) s).bind fun r=>match r.2.get a with
    | some (.thunk t' ρ' k')=> .ok (r.1,r.2.set a (.thunk t' none (some r.1)))
    | _=> .stuck
   | _=> .stuck
  | .apply v x=>jY (eS n) v x s
  | .body b x=>bu s (.scope x b.vars) fun s1=>eS n (.eval b.t (some s.next)) s1)).bind fun r=>gd (dv r.2.objs.length r.1) (.ok r))
def fJ (Q:NS→NV→Int→Out (Tm×NS)) (n:Nat) (s:NS) (x:Nat) (d:Int):Out (Tm×NS):=(eS n (.force x) s).bind fun r=>Q r.2 r.1 d
def kI (Q:NS→Nat→Int→Out (Tm×NS)) (h:NH) (s:NS) (d:Int):Out (Tm×NS) :=
 if h.kind=0 then gd (decide (-1000000≤h.level)&&decide (h.level≤1000000)) (.ok (BP (d - 1 - h.level),s))
 else gd (decide (0<h.kids.length)&&h.body.isNone) ((Zb Q d h.kids s).bind fun r=> .ok (.mk h.kind 0 ⟨#[]⟩ [] r.1,r.2))
def iB (Q:NS→Nat→Int→Out (Tm×NS)) (d:Int):List Nat→Tm→NS→Out (Tm×NS)
 | [],t,s=> .ok (t,s)
 | x::xs,t,s=>bZ s d fun s=>(Q s x d).bind fun r=>iB Q d xs (On t r.1) r.2
def dK:Nat→NS→NV→Int→Out (Tm×NS)
 | 0,_,_,_=> .stuck
 | n+1,s,v,d=>match v with
  | .st a=>match s.get a with
   | some (.stuck h args)=>gd (im s&&decide (h.kids.length<100)&&h.body.isNone) (eY s (bZ s d fun s=>(kI (fJ (dK n) n) h s d).bind fun r=>match r.2.get a with
    | some (.stuck h2 args2)=>gd (im r.2&&decide (args2.length<100)) (iB (fJ (dK n) n) d args2 r.1 r.2)
    | _=> .stuck))
   | _=> .stuck
  | _=> .stuck
def mQ (n:Nat) (t:Tm):Out (Tm×NS):=(eS n (.eval t none) ⟨[],20000,0⟩).bind fun r=>dK n r.2 r.1 0
def cA:Tm:= .mk 3 0 ⟨#[65]⟩ [] []
def mA:Tm:= .mk 5 0 ⟨#[]⟩ [] [cA,BP 0]
def oS:Tm:=On (BP 5) (On mA (BP 3))
def oa:Tm:= .mk 9 0 ⟨#[]⟩ [] [On mA (BP 2)]
structure XT where
 fn:Nat
 st:Nat
 pr:Nat
 clo:Nat
def mI (mu:List Nat) (a:Nat):Nat:=mu.getD (mu.length - 1 - a) 0
def cw (mu:List Nat) (a:Nat):PV:= .addr (mI mu a)
def kz (mu:List Nat) (v:Option Nat):PV:= .optp (v.map (mI mu))
def NV.addr:NV→Nat
 | .fn a | .pr a | .st a=>a
def XT.ty (q:XT):NV→Nat
 | .fn _=>q.fn
 | .pr _=>q.pr
 | .st _=>q.st
def mT (mu:List Nat) (l:List Nat):List (List PV):=l.map fun a=>[cw mu a]
section
variable (q:XT) (m:Nat) (mu:List Nat)
def mR (v:NV):PV:= .iface (q.ty v) (cw mu v.addr)
def nY:Option NV→PV
 | none=> .nilIface
 | some v=>mR q mu v
def mN (b:NB):AV:= .fn (.func q.clo) [] [.ref [.addr m],.ref (Bc b.t),.ref [kz mu b.vars]]
def nh:Option NB→AV
 | none=> .p .nilFn
 | some b=>mN q m mu b
def kQ (b:Nat):NO→A8
 | .thunk t v k=> .box b ((Bc t).map .p++[.p (kz mu v),.p (nY q mu k)])
 | .scope x r=> .box b [.p (cw mu x),.p (kz mu r)]
 | .func d f=> .box b [.p (cw mu d),mN q m mu f]
 | .pair x y z=> .box b [.p (cw mu x),.p (cw mu y),.p (cw mu z)]
 | .stuck h args=> .box b (.p (I h.kind):: .p (I h.level)::((Bc h.node).map .p++[.p (.lst (mT mu h.kids)),nh q m mu h.body,.p (.lst (mT mu args))]))
def l9:List Nat→List NO→List A8
 | b::bs,o::os=>kQ q m mu b o::l9 bs os
 | _,_=>[]
def HS (s:NS):List A8:= .box m [.p (.lst []),.p (I s.left),.p (I s.nodes)]::l9 q m mu mu s.objs
def oK (nv:NV) (s':NS):DN→List A8→Prop
 | .val v,H'=>∃mu',mu'.length=s'.objs.length∧(∃new,mu'=new++mu)∧v= .p (mR q mu' nv)∧H'=HS q m mu' s'
 | .panic _,_=>False
def oo (t:Tm) (s':NS):DN→List A8→Prop
 | .val v,H'=>∃mu',mu'.length=s'.objs.length∧(∃new,mu'=new++mu)∧v= .agg ((Bc t).map .p)∧H'=HS q m mu' s'
 | .panic _,_=>False
end
def mB (m:Nat) (l k:Int):A8:= .box m [.p (.lst []),.p (I l),.p (I k)]
end Go.Eu
namespace Go.Abs
open Go.Eu
section
variable {P:Program}{r:Option Nat}{ops:Array Oper}{n:Nat}{τ₀ τ:Nat→AV}{D:List DV}{opn:Nat→Bool}{k:Nat}{H:List A8}{dst:Option Tmp}{op:Op}{ty:TypeId}{pos:String}{aft:Array Edge}
end
section
variable {q:XT}{m b:Nat}{mu:List Nat}{s s':NS}{nv:NV}{t:Tm}{o:NO}{fr:List A8}
end
section
variable {P:Program}{dst:Option Tmp}{ty:TypeId}{pos:String}{aft:Array Edge}{g:Option (Nat×Bool)}{ρ:Operand→AV}{H:List A8}{x:Operand}
def oO (P:Program) (T:TypeId):Bool:=match P.underlying T with
 | some (.interface _)=>true
 | _=>false
end
end Go.Abs
namespace Go.Eu
open Go.Abs
section
variable {n:Nat}{s s':NS}{nv:NV}{t:Tm}{ρ:Option Nat}{a x:Nat}{W:Rq→NS→Out (NV×NS)}
variable {k i:Int}{nm:ByteArray}{l:List CN}{ts:List Tm}
end
section
variable {n:Nat}{s s':NS}{t t':Tm}{a x:Nat}{d:Int}{Q:NS→Nat→Int→Out (Tm×NS)}
end
theorem R3.zero:R3 Ht:=R3.num (n:=0) An
theorem MY (l:List Tm) (k:Nat):Bb (l.take k)+Bb (l.drop k)=Bb l:=by rw[←Ks,List.take_append_drop]
theorem Nu:∀(t:Tm),size (BI t).1+Bb (BI t).2+(BI t).2.length=size t
 | .mk k i n l [f,a]=>by
  unfold BI;split
  ·have:=Nu f;simp only[Ks,Bb,size,List.length_append,List.length_cons,List.length_nil];omega
  ·simp[Bb]
 | .mk k i n l []=>by simp[BI,Bb]
 | .mk k i n l [_]=>by simp[BI,Bb]
 | .mk k i n l (_::_::_::_)=>by simp[BI,Bb]
mutual
def IU:Ge→Nat
 | .mk _ _ _ l=>1+Mp l
def We:Hx→Nat
 | .mk _ _ t=>IU t
def Mp:List Hx→Nat
 | []=>0
 | b::l=>max (We b) (Mp l)
end
structure Uz (E:List Ck):Prop where
 g:ZG E
 vl:∀d∈E,size d.value≤400
 ru:∀d∈E,∀t∈d.recs.rules,size t≤400
 fu:∀d∈E,∀f∈d.funs,IU f.tree≤50
theorem SZ {nm:ByteArray}:∀{l:List Hx}{t:Ge},Ec nm l=some t→Qc l→Kc t∧IU t≤Mp l
 | .mk c a q::l,t,h,ho=>by
  simp only[Qc,bz] at ho;rw[Ec] at h;simp only[Mp,We];split at h
  ·split at h
   ·cases h
   cases h;exact⟨ho.1,by simp only[Hx.tree];omega⟩
  obtain⟨h1,h2⟩:=SZ h ho.2;exact⟨h1,by omega⟩
theorem XV {nm:ByteArray}{t t':Ge}(h:Ec nm t.branches=some t') (ho:Kc t):Kc t'∧IU t' < IU t:=by
 obtain⟨k,b,v,l⟩:=t;simp only[Kc] at ho;obtain⟨h1,h2⟩:=SZ h ho.2;exact⟨h1,by simp only[IU,Ge.branches] at *;omega⟩
theorem VX {E:List Ck}{nm:ByteArray}{d:Ck}{j:Int}(h:Ko E nm=some (d,j)):d∈E∧(0≤j→j<d.ctors.length):=by
 unfold Ko at h;split at h
 ·cases h
 rename_i h0;obtain⟨i,d',h1,h2⟩:=Xo (Decidable.not_not.1 h0);have hd:CT E (EF E nm).1.decl=d':=Uy (by rw[h2.decl];simpa using h1);have hm:=List.mem_of_getElem? h1;rw[hd] at h;split at h
 ·cases h;exact⟨hm,fun q=>by omega⟩
 split at h
 ·rename_i h4;obtain⟨k,c,h5,h6⟩:=h2.ctor h4;cases h;exact⟨hm,fun _=>by have:=(List.getElem?_eq_some_iff.1 h5).1;omega⟩
 split at h
 ·cases h;exact⟨hm,fun q=>by omega⟩
 cases h
structure du (E:List Ck) (t:Tm) (d:Ck) (j:Int) (f:List Tm):Prop where
 mem:d∈E
 lo:0≤j
 hi:j<d.ctors.length
 fs:f=(BI t).2.drop d.fixed.toNat
 len:((BI t).2.length:Int)=d.fixed+Mz d j
 kind:(BI t).1.kind=3
theorem KI {E:List Ck}{t:Tm}{d:Ck}{j:Int}{f:List Tm}(h:II E t=some (d,j,f)):du E t d j f:=by
 unfold II at h;split at h
 ·cases h
 rename_i hk;split at h
 ·cases h
 rename_i d' j' hf;obtain⟨h1,h2⟩:=VX hf;split at h
 ·cases h
 split at h
 ·cases h
 rename_i h3 h4;cases h;exact⟨h1,by omega,h2 An,rfl,Decidable.not_not.1 h4,Decidable.not_not.1 hk⟩
theorem RN {E:List Ck}{t:Tm}{d:Ck}{j:Int}{f:List Tm}(h:II E t=some (d,j,f)) (ho:okB t=true):(∀x∈f,okB x=true∧size x<size t)∧Bb f+f.length<size t:=by
 have c:=KI h;have hs:=Nu t;have hp:=size_pos (BI t).1;have hd:=MY (BI t).2 d.fixed.toNat;rw[c.fs];refine⟨fun x hx=>⟨(U7 ho).2 x (List.mem_of_mem_drop hx),?_⟩,by rw[List.length_drop];omega⟩;have:=U2 (List.mem_of_mem_drop hx);omega
theorem W9 {E:List Ck}{t:Tm}{d:Ck}{j:Int}{f:List Tm}(hE:ZG E) (h:II E t=some (d,j,f)):f.length≤1000000:=by
 have c:=KI h;have hd:=hE.all d c.mem;have hlo:=c.lo;have hhi:=c.hi;have hlt:j.toNat<d.ctors.length:=by omega
 have hx:=List.getElem?_eq_getElem hlt;have hs:=(hd.din.cs _ (List.getElem_mem hlt)).ty.sz;have hl:=Cr d.ctors[j.toNat].type;have hfx:=hd.fx;have hlen:=c.len;rw[c.fs,List.length_drop];unfold Mz dV Ln at hlen;rw[Uy hx] at hlen;omega
def Hc {α:Type}(o:Out α) (p:α→Prop):Prop:=match o with
 | .stuck=>False
 | .fail=>True
 | .ok a=>p a
section
variable {α β σ:Type}
theorem Hc.ok {a:α}{p:α→Prop}(h:p a):Hc (.ok a) p:=h
theorem Hc.ns {o:Out α}{p:α→Prop}(h:Hc o p):o≠ .stuck:=fun e=>by rw[e] at h;exact h
theorem Hc.get {o:Out α}{p:α→Prop}{a:α}(h:Hc o p) (e:o= .ok a):p a:=by rw[e] at h;exact h
theorem Hc.mono {o:Out α}{p q:α→Prop}(h:Hc o p) (hpq:∀a,p a→q a):Hc o q:=by
 cases o with
 | stuck=>exact h
 | fail=>trivial
 | ok a=>exact hpq a h
theorem Hc.bind {o:Out α}{k:α→Out β}{p:α→Prop}{q:β→Prop}(h:Hc o p) (hk:∀a,p a→Hc (k a) q):Hc (o.bind k) q:=by
 cases o with
 | stuck=>exact h
 | fail=>trivial
 | ok a=>exact hk a h
theorem Hc.chk {o:Out (Tm×σ)}{k:Tm×σ→Out β}{p:Tm×σ→Prop}{q:β→Prop}(h:Hc o p) (hk:∀a,p a→okB a.1=true∧Hc (k a) q):Hc (o.chk k) q :=
 Hc.bind h fun a ha=>by rw[if_pos (hk a ha).1];exact(hk a ha).2
theorem Hc.put {S:Sys σ}{s:σ}{x:Tm×Int}{k:Tm→σ→Out β}{q:β→Prop}(ho:okB x.1=true) (hk:∀s',S.res s x.1 x.2=some s'→Hc (k x.1 s') q):Hc (S.put s x k) q:=by
 unfold Sys.put;rw[if_pos ho];cases h:S.res s x.1 x.2 with
 | none=>trivial
 | some s'=>exact hk s' h
end
structure Wi {σ:Type} (S:Sys σ) (J:σ→Prop) (cnt:σ→Nat) (C:Nat):Prop where
 nov:∀s,J s→S.over s=false→cnt s≤C
 res:∀s t e s',J s→cnt s<1152921504606846976→okB t=true→S.res s t e=some s'→J s'∧cnt s'=cnt s+1
 hC:C≤20000
section
variable {σ:Type}(S:Sys σ) (J:σ→Prop) (cnt:σ→Nat) (C:Nat)
structure gA (s:σ) (t:Tm) (r:Tm×σ):Prop where
 j:J r.2
 ok:okB r.1=true
 le:cnt s≤cnt r.2
 sz:size r.1≤size t+(cnt r.2 - cnt s)*4500
 ub:S.over s=false→cnt r.2≤C+1+size t+(C - cnt s)*4500
 st:S.over s=true→r.2=s
structure k0 (n:Nat) (s:σ) (t:Tm):Prop where
 j:J s
 ok:okB t=true
 pm:S.over s=false→size t+(C - cnt s)*4500≤90100000
 fu:S.over s=false→size t+(C - cnt s)*4501+100≤n
 n1:1≤n
def ej (n:Nat) (W:σ→Tm→Out (Tm×σ)):Prop:=∀s t,k0 S J cnt C n s t→Hc (W s t) (gA S J cnt C s t)
end
section
variable {σ:Type}{S:Sys σ}{J:σ→Prop}{cnt:σ→Nat}{C:Nat}{E:List Ck}{n:Nat}{W:σ→Tm→Out (Tm×σ)}
variable (hS:Wi S J cnt C) (hE:Uz E) (hW:ej S J cnt C n W)
structure nc (S:Sys σ) (J:σ→Prop) (cnt:σ→Nat) (C n V Z:Nat) (s:σ) (vars:List Tm) (last:Tm):Prop where
 j:J s
 ok:∀v∈vars,okB v=true
 lok:okB last=true
 pm:S.over s=false→∀v∈vars,size v+(C - cnt s)*4500≤V
 fu:S.over s=false→∀v∈vars,size v+(C - cnt s)*4501+100≤n
 lm:S.over s=false→size last+(C - cnt s)*4500≤V∧size last+(C - cnt s)*4501+100≤n
 zs:∀v∈vars,size v≤Z
 lz:size last≤Z
structure mS (S:Sys σ) (J:σ→Prop) (cnt:σ→Nat) (C n V L Z:Nat) (s:σ) (q:(Option (Tm×List Tm)×Tm)×σ):Prop where
 j:J q.2
 le:cnt s≤cnt q.2
 ub:S.over s=false→cnt q.2≤C+1+V
 st:S.over s=true→q.2=s
 ok:∀b vars,q.1.1=some (b,vars)→okB b=true∧∀v∈vars,okB v=true
 vl:∀b vars,q.1.1=some (b,vars)→vars.length≤L∧Bb vars<1125899906842624
 lok:okB q.1.2=true
 lz:q.1.1=none→size q.1.2≤Z+(cnt q.2 - cnt s)*4500
 lm:S.over q.2=false→q.1.1=none→size q.1.2+(C - cnt q.2)*4500≤V∧size q.1.2+(C - cnt q.2)*4501+100≤n
include hS hE hW
end
section
variable {σ:Type}{S:Sys σ}{J:σ→Prop}{cnt:σ→Nat}{C:Nat}{E:List Ck}{n:Nat}{W:σ→Tm→Out (Tm×σ)}
structure mK (S:Sys σ) (J:σ→Prop) (cnt:σ→Nat) (C:Nat) (s:σ) (z:Nat) (r:Option Tm×σ):Prop where
 j:J r.2
 le:cnt s≤cnt r.2
 ub:cnt r.2≤C+1+z+(C - cnt s)*4500
 ok:∀x,r.1=some x→okB x=true∧cnt s+1≤cnt r.2∧size x≤z+(cnt r.2 - cnt s)*4500
variable (hS:Wi S J cnt C)
include hS
variable (hE:Uz E)
include hE
variable (hW:ej S J cnt C n W)
include hW
end
section
variable {σ:Type}{S:Sys σ}{J:σ→Prop}{cnt:σ→Nat}{C:Nat}{E:List Ck}
variable (hS:Wi S J cnt C) (hE:Uz E)
include hS
include hE
end
def QS:Tm→List Int→Tm→Prop
 | t,[],v=>t=v
 | t,p::ps,v=>∃y,(BI t).2[p.toNat]?=some y∧QS y ps v
theorem PY {k:Int}{w:Tm}:∀{ps:List Int}{t v:Tm},QS t ps v→(BI v).2[k.toNat]?=some w→QS t (ps++[k]) w
 | [],t,v,h,hw=>by cases h;exact⟨w,hw,rfl⟩
 | p::ps,t,v,⟨y,h1,h2⟩,hw=>⟨y,h1,PY h2 hw⟩
structure ZO (a vars:List Tm) (pl:List (Int×List Int)):Prop where
 len:pl.length=vars.length
 at_:∀(i:Nat) v,vars[i]?=some v→∃j path y,pl[i]?=some (j,path)∧a[j.toNat]?=some y∧QS y path v
theorem TM (p:Int×List Int) (fx:Int) (n:Nat):(Ji p fx n).length=n:=by simp[Ji]
theorem ZO.more {a vars:List Tm}{pl:List (Int×List Int)}(h:ZO a vars pl) {i:Nat}{v:Tm}{p:Int×List Int}(hv:vars[i]?=some v) (hp:pl[i]?=some p) {fx:Int}(hfx:0≤fx):ZO a (vars++(BI v).2.drop fx.toNat) (pl++Ji p fx ((BI v).2.drop fx.toNat).length):=by
 refine⟨by rw[List.length_append,List.length_append,h.len,TM],fun q w hw=>?_⟩;by_cases hq:q<vars.length
 ·rw[List.getElem?_append_left hq] at hw;rw[List.getElem?_append_left (by rw[h.len];exact hq)];exact h.at_ q w hw
 rw[List.getElem?_append_right An] at hw;rw[List.getElem?_append_right (by rw[h.len];omega),h.len];obtain⟨j,path,y,h1,h2,h3⟩:=h.at_ i v hv;rw[hp] at h1;cases h1;have hlt:=(List.getElem?_eq_some_iff.1 hw).1;rw[List.getElem?_drop] at hw;refine⟨j,path++[fx+((q - vars.length:Nat):Int)],y,?_,h2,PY h3 (by rw[show (fx+((q - vars.length:Nat):Int)).toNat=fx.toNat+(q - vars.length) by omega];exact hw)⟩;rw[Ji,List.getElem?_map,List.getElem?_range hlt];rfl
section
variable {σ:Type}{S:Sys σ}{J:σ→Prop}{cnt:σ→Nat}{C:Nat}{E:List Ck}
structure mb (S:Sys σ) (J:σ→Prop) (cnt:σ→Nat) (s:σ) (z:Nat) (r:Option Tm×σ):Prop where
 j:J r.2
 le:cnt s≤cnt r.2
 ub:cnt r.2≤cnt s+1
 ok:∀x,r.1=some x→okB x=true∧size x≤z+4500
variable (hS:Wi S J cnt C) (hE:Uz E)
omit hS hE in
include hS
include hE
end
section
variable {σ:Type}{S:Sys σ}{J:σ→Prop}{cnt:σ→Nat}{C:Nat}{E:List Ck}
variable (hS:Wi S J cnt C) (hE:Uz E)
include hS hE
end
def nM (c:IP):Prop:=c.limit=1000∧0≤c.steps∧(c.over=false→c.steps≤1000)
def ng (n:Int):Prop:=0≤n∧n≤20000
section
variable {E:List Ck}{t:Tm}{k i:Int}{n:ByteArray}{ls:List CN}{ks:List Tm}
end
section
variable {E:List Ck}{t:Tm}{k i:Int}{n:ByteArray}{ls:List CN}{ks:List Tm}
end
def lp (E:List Ck) (t:Tm):Ck×Int×List Tm×Bool:=match II E t with
 | some (d,j,l)=>(d,j,l,true)
 | none=>(ba,0,[],false)
end Go.Eu
namespace Go.Eu
def kl (nm:ByteArray):List Hx→Int→Int
 | [],_=> -1
 | b::l,i=>if b.ctor=nm then i else kl nm l (i+1)
end Go.Eu
namespace Go.Eu
open Go.Abs
theorem XQ {nm:ByteArray}:∀{l:List Hx}{t:Ge},Ec nm l=some t→KY l→HH t
 | .mk c a q::l,t,h,ho=>by
  simp only[KY,OP] at ho;rw[Ec] at h;split at h
  ·split at h
   ·cases h
   cases h;exact ho.1.2
  exact XQ h ho.2
theorem hY {nm:ByteArray}{t t':Ge}(h:Ec nm t.branches=some t') (ho:HH t):HH t':=XQ h ho.bs
def oZ (q:Option (Tm×List Tm)×Tm):Tm:=match q.1 with
 | some (b,_)=>b
 | none=>Bi
def og (q:Option (Tm×List Tm)×Tm):List Tm:=match q.1 with
 | some (_,v)=>v
 | none=>[]
structure eP (y:Ge) (us:List Tm):Prop where
 tin:HH y
 tok:Kc y
 len:us.length+IU y*1000000≤100000000
 ok:∀v∈us,okB v=true
theorem eP.next {E:List Ck}{y q:Ge}{us f:List Tm}{x:Tm}{nm:ByteArray}{d:Ck}{j:Int}(h:eP y us) (hE:ZG E) (hx:okB x=true) (hc:II E x=some (d,j,f)) (hb:Ec nm y.branches=some q):eP q (us++f):=by
 obtain⟨h1,h2⟩:=XV hb h.tok;have h3:=W9 hE hc;have h4:=h.len;refine⟨hY hb h.tin,h1,by rw[List.length_append];omega,fun v hv=>?_⟩;rcases List.mem_append.1 hv with hv | hv
 ·exact h.ok v hv
 exact((RN hc hx).1 v hv).1
def X5:Ge:= .mk 0 Bi 0 []
def oJ (nm:ByteArray):List Hx→Ge×Bool
 | []=>(X5,false)
 | b::l=>if b.ctor=nm then (b.tree,!b.absurd) else oJ nm l
def oX (nm:ByteArray) (l:List Hx):Ge×Bool:=match Ec nm l with
 | some q=>(q,true)
 | none=>(X5,false)
section
variable {E:List Ck}{σ:Type}{S:Sys σ}{W:σ→Tm→Out (Tm×σ)}{n:Nat}{h m:Tm}{a:List Tm}{s:σ}{d:Ck}{x:Ka}
end
section
variable {E:List Ck}{σ:Type}{S:Sys σ}{W:σ→Tm→Out (Tm×σ)}{n:Nat}{h m:Tm}{a:List Tm}{s:σ}{d:Ck}{x:Ka}
end
section
variable {E:List Ck}{σ:Type}{S:Sys σ}{n:Nat}{t:Tm}{s:σ}
end
structure nt (w:Tm):Prop where
 ok:okB w=true
 nd:Nd w
 sz:size w<549755813888
 len:(BI w).2.length<549755813888
 head:okB (BI w).1=true
 args:∀x∈(BI w).2,okB x=true
 asz:Bb (BI w).2+(BI w).2.length<size w
def lu (L:List (List Tm)):List (List PV):=L.map fun l=>[.lst (Av l)]
def kA (t:Tm):Out (Option Tm) :=
 if (BI t).1.kind=0∨(BI t).1.kind=3 then .ok none
 else if (BI t).1.kind=5 then match (BI t).2,(BI t).1.kids with
  | [],_=> .ok none
  | x::xs,[d,b]=>gd (decide ((Fy b [x] 0).2=0)) (.ok (some (apply (Fy b [x] 0).1 xs)))
  | _,_=> .stuck
 else .stuck
def iA (W:Tm→Out Bool):List Tm→Out Bool
 | []=> .ok true
 | x::xs=>(W x).bind fun b=>if b=true then iA W xs else .ok false
def lP:Nat→Tm→Out Bool
 | 0,_=> .stuck
 | n+1,t=>gd (okB t) ((kA t).bind fun q=>if q.isSome=true then gd (okB (q.getD Bi)&&decide (size (q.getD Bi)≤4096)&&decide (Dq (q.getD Bi)≤200)) (.ok false) else gd (decide ((BI t).1.kids.length<1000)&&decide ((BI t).2.length<1000)) (iA (lP n) ((BI t).1.kids++(BI t).2)))
def jz (b:Int) (t:Tm):Tm×Int:=if (CP b 0 0 0 t).2≠0 then (Bi,(CP b 0 0 0 t).2) else ((CP b 0 0 0 t).1,0)
def iJ (b:Int) (t:Tm):Tm×Int:=match KS b 0 t with
 | .ok z=>(z,0)
 | .error e=>(Bi,e)
def bw:Tm:= .mk 1 0 ⟨#[]⟩ [] []
def j9 (b:Tm):Bool:=decide (b.kind=4)&&decide (b.kids.length=2)&&decide ((b.kids.getD 1 default).kind=0)&&decide ((b.kids.getD 1 default).index=0)
noncomputable def kS (a b:Tm):Bool:=decide (a.kind=9)&&decide (b.kind=10)&&decide (a.kids.length=1)&&decide (b.kids.length=1)&&Iy (a.kids.getD 0 default) (b.kids.getD 0 default)
noncomputable def nX (oc:Tm→Bool) (sh:Tm→Tm) (k i:Int) (n:ByteArray) (l:List CN) (ks:List Tm):Tm :=
 if k=5∧ks.length=2 then
  if (j9 (ks.getD 1 default)&& !oc ((ks.getD 1 default).kids.getD 0 default))=true then sh ((ks.getD 1 default).kids.getD 0 default) else .mk k i n l (ks.set 0 bw)
 else if k=8∧ks.length=3 then
  if kS (ks.getD 1 default) (ks.getD 2 default)=true then (ks.getD 1 default).kids.getD 0 default else .mk k i n l (ks.set 0 bw)
 else .mk k i n l ks
section
variable (oc:Tm→Bool) (sh:Tm→Tm)
mutual
noncomputable def dy:Tm→Tm
 | .mk k i n l ks=>nX oc sh k i n l (bK ks)
noncomputable def bK:List Tm→List Tm
 | []=>[]
 | t::ts=>dy t::bK ts
end
end
noncomputable def oY:Tm→Tm:=dy (fun f=>eT 0 0 f) (fun f=>(jz (-1) f).1)
noncomputable def oT:Tm→Tm:=dy (fun f=>decide ((iJ (-1) f).2≠0)) (fun f=>(iJ (-1) f).1)
section
variable {oc:Tm→Bool}{sh:Tm→Tm}{k i:Int}{n:ByteArray}{l:List CN}{ks:List Tm}{a b c x y:Tm}
end
theorem aD {ts:List Tm}{t:Tm}(h:t∈ts):size t≤Bb ts:=by
 obtain⟨i,hi⟩:=List.mem_iff_getElem?.1 h;exact B5 hi
theorem ld {P:Tm→Prop}(h:∀k i n l ks,(∀t∈ks,P t)→P (.mk k i n l ks)):∀t,P t:=by
 have:∀m t,size t≤m→P t:=by
  intro m
  induction m with
  | zero=>intro t ht;have:=size_pos t;omega
  | succ m ih =>
   intro t ht;obtain⟨k,i,n,l,ks⟩:=t;exact h k i n l ks fun x hx=>ih x (by have:=aD hx;simp only[size] at ht;omega)
 exact fun t=>this _ t (Nat.le_refl _)
mutual
def Vb:Tm→Prop
 | .mk k i _ _ ks=>(k=0→0≤i∧i≤65535)∧ig ks
def ig:List Tm→Prop
 | []=>True
 | t::ts=>Vb t∧ig ts
end
theorem Zu {ts:List Tm}(h:ig ts):∀t∈ts,Vb t:=by
 induction ts with
 | nil=>intro t ht;cases ht
 | cons a ts ih=>intro t ht;rcases List.mem_cons.1 ht with rfl | ht;exact h.1;exact ih h.2 t ht
theorem cc {ts:List Tm}(h:∀t∈ts,Vb t):ig ts:=by
 induction ts with
 | nil=>trivial
 | cons t ts ih=>exact⟨h t Ao,ih fun x hx=>h x (by simp[hx])⟩
theorem UW {ts:List Tm}(h:∀t∈ts,Vp t):I8 ts:=by
 induction ts with
 | nil=>trivial
 | cons t ts ih=>exact⟨h t Ao,ih fun x hx=>h x (by simp[hx])⟩
theorem Vb.vp:∀{t:Tm},Vb t→Vp t:= @(ld (P:=fun t=>Vb t→Vp t) fun k i n l ks ih h=>⟨fun e=>by have:=h.1 e;omega,UW fun t ht=>ih t ht (Zu h.2 t ht)⟩)
theorem TI {α:Type}{a b:List α}(hl:a.length=b.length) (h:∀j,j<a.length→∀x,a[j]?=some x→b[j]?=some x):a=b:=by
 refine List.ext_getElem? fun j=>?_;rcases Nat.lt_or_ge j a.length with q | q
 ·rw[List.getElem?_eq_getElem q];exact(h j q _ (List.getElem?_eq_getElem q)).symm
 rw[List.getElem?_eq_none q,List.getElem?_eq_none An]
theorem Tr {c d:Int}{u v:List Bv}:Iy (CN.mk c u) (CN.mk d v)=((c==d)&&Iy u v):=by
 rw[Bool.eq_iff_iff,Ed];simp[Ed]
theorem NY {k i k' i':Int}{n n':ByteArray}{l l':List CN}{s s':List Tm}:Iy (Tm.mk k i n l s) (Tm.mk k' i' n' l' s')=(((((k==k')&&(i==i'))&&(n.toList==n'.toList))&&Iy l l')&&Iy s s'):=by
 rw[Bool.eq_iff_iff,Ed];simp only[Tm.mk.injEq,Bool.and_eq_true,Ed,beq_iff_eq];constructor
 ·rintro⟨rfl,rfl,rfl,rfl,rfl⟩;exact⟨⟨⟨⟨rfl,rfl⟩,rfl⟩,rfl⟩,rfl⟩
 rintro⟨⟨⟨⟨rfl,rfl⟩,e⟩,rfl⟩,rfl⟩;exact⟨rfl,rfl,Kw e,rfl,rfl⟩
mutual
def Lw:Tm→Prop
 | .mk _ i _ _ ks=>i≤60000∧jl ks
def jl:List Tm→Prop
 | []=>True
 | t::ts=>Lw t∧jl ts
end
theorem Zx {ts:List Tm}(h:jl ts):∀t∈ts,Lw t:=by
 induction ts with
 | nil=>intro t ht;cases ht
 | cons a ts ih=>intro t ht;rcases List.mem_cons.1 ht with rfl | ht;exact h.1;exact ih h.2 t ht
theorem Zg {ts:List Tm}(h:I8 ts):∀t∈ts,Vp t:=by
 induction ts with
 | nil=>intro t ht;cases ht
 | cons a ts ih=>intro t ht;rcases List.mem_cons.1 ht with rfl | ht;exact h.1;exact ih h.2 t ht
theorem Lw.vb:∀{t:Tm},Lw t→Vp t→Vb t:= @(ld (P:=fun t=>Lw t→Vp t→Vb t) fun k i n l ks ih h v =>
 ⟨fun e=>by have:=v.1 e;have:=h.1;omega,cc fun t ht=>ih t ht (Zx h.2 t ht) (Zg v.2 t ht)⟩)
structure jK (l:List Tm):Prop where
 sz:Bb l≤60
 ok:∀t∈l,Nd t∧Wt t∧Vp t
structure lg (t:Tm):Prop where
 nd:Nd t
 wt:Wt t
 vb:Vb t
 sz:size t≤60
def oP:Tm:= .mk 5 0 ⟨#[]⟩ [] [cA,On (BP 4) (BP 0)]
def oL:Tm:= .mk 5 0 ⟨#[]⟩ [] [cA,On (BP 0) (BP 0)]
def oM:Tm:= .mk 8 0 ⟨#[]⟩ [] [cA,.mk 9 0 ⟨#[]⟩ [] [BP 1],.mk 10 0 ⟨#[]⟩ [] [BP 1]]
def oW (t:Tm):Bool:=YU t
mutual
def m8:Tm→Bool
 | .mk k i _ _ ks=>(decide (k≠0)||(decide (0≤i)&&decide (i≤65535)))&&iL ks
def iL:List Tm→Bool
 | []=>true
 | t::ts=>m8 t&&iL ts
end
def fY (kn:List Bool) (vs:List Tm) (i:Nat):Tm:=if kn.getD (kn.length - 1 - i) false=true then vs.getD (kn.length - 1 - i) Bi else BP i
def Kb (kn:List Bool) (vs:List Tm):List Tm:=(List.range kn.length).map (fY kn vs)
def ml (kn:List Bool) (vs:List Tm) (t:Tm):Tm:=if (Fy t (Kb kn vs) 0).2=0 then (Fy t (Kb kn vs) 0).1 else Bi
theorem XD (kn:List Bool) (vs:List Tm):(Kb kn vs).length=kn.length:=by simp[Kb]
theorem Kg {kn:List Bool}{vs:List Tm}{P:Tm→Prop}(h:∀v∈vs,P v) (h0:P Bi) (hv:∀i<kn.length,P (BP i)):∀v∈Kb kn vs,P v:=by
 intro v hm;obtain⟨i,hi,rfl⟩:=List.mem_map.1 hm;have hi:=List.mem_range.1 hi;unfold fY;split
 ·rw[List.getD_eq_getElem?_getD];cases q:vs[kn.length - 1 - i]? with
  | none=>exact h0
  | some x=>exact h x (List.mem_of_getElem? q)
 exact hv i hi
structure eN (kn:List Bool) (vs:List Tm) (t:Tm):Prop where
 len:kn.length=vs.length
 few:kn.length≤1000
 nd:Nd t
 wt:Wt t
 vp:Vp t
 sz:size t<1000000
 nds:∀v∈vs,Nd v
 wts:∀v∈vs,Wt v
 vps:∀v∈vs,Vp v
 szs:∀v∈vs,size v<1000000
namespace eN
variable {kn:List Bool}{vs:List Tm}{t:Tm}(h:eN kn vs t)
include h
theorem snd:D7 (Kb kn vs):=Su (Kg h.nds Tw fun i hi=>⟨by simp only[Cb];decide,by simp only[Cb];decide,by simp,by simp only[Cb];decide,trivial,⟨by decide,by decide⟩,⟨by have:=h.few;unfold I3 at *;omega,by have:=h.few;omega⟩⟩)
theorem swt:SQ (Kb kn vs):=by
 have:∀v∈Kb kn vs,Wt v:=Kg h.wts ⟨rfl,fun e=>absurd e Am,trivial⟩ fun i hi=>⟨rfl,fun e=>absurd e Am,trivial⟩;revert this;generalize Kb kn vs=l;intro this
 induction l with
 | nil=>trivial
 | cons a l ih=>exact⟨this a Ao,ih fun x hx=>this x (by simp[hx])⟩
theorem svp:I8 (Kb kn vs):=UW (Kg h.vps ⟨fun _=>by omega,trivial⟩ fun i hi=>⟨fun _=>by have:=h.few;omega,trivial⟩)
theorem ssz:∀v∈Kb kn vs,size v<1000000:=Kg h.szs Am fun i hi=>by simp[BP,size,Bb]
theorem slen:(Kb kn vs).length≤1000:=by rw[XD];exact h.few
theorem ref:Fy t (Kb kn vs) 0=Gn t (Kb kn vs) 0:=VD ⟨h.swt,h.svp,fun x hx=>by have:=h.ssz x hx;omega,by have:=h.slen;omega,by omega,by omega⟩ h.wt h.vp (by have:=h.sz;omega)
end eN
end Go.Eu
namespace Go.Abs
section
variable {P:Program}{dst:Option Tmp}{ty:TypeId}{pos:String}{aft:Array Edge}{g:Option (Nat×Bool)}{ρ:Operand→AV}{H:List A8}{x y z:Operand}{v:AV}
def jO (sz n:Nat) (H:List A8):DN→List A8→Prop
 | .val v,H'=>∃b c,v= .vs (some b) n c∧H'= .vec (some b) sz [] c::H
 | .panic _,_=>False
end
section
variable {P:Program}{r:Option Nat}{ops:Array Oper}{n k:Nat}{τ:Nat→AV}{H:List A8}{D:List DV}{Q:CV→Be→Prop}{dst:Option Tmp}{op:Op}{ty:TypeId}{pos:String}{aft:Array Edge}
end
variable {P:Program}{H:List A8}{dst:Option Tmp}{ty:TypeId}{pos:String}{aft:Array Edge}{g:Option (Nat×Bool)}
end Go.Abs
namespace Go.Proofs.YtifphifongokcaaGreat
open Go.Abs Go.Eu
theorem mW (t:Tm):∀c∈Bc t,c≠ .nils:=by obtain⟨k,i,n,l,s⟩:=t;simp[Bc]
theorem ED (l:List Tm):∀r∈Av l,∀c∈r,c≠ .nils:=by
 intro r hr;rw[Dt] at hr;obtain⟨t,_,rfl⟩:=List.mem_map.1 hr;exact mW t
theorem QA:∀(t:Tm),(Nd t)→(size t<1000000)→D3 Tryz.prog 106 [.agg ((Bc t).map .p)] (.tup [.p (.lst (Av ((BM t).1))),.agg ((Bc ((BM t).2)).map .p)]):=by
 intro t h1 h2;refine A1 Tryz.func106 O iF (n:=27) O O (Ay (BE O (BT O) fun b1=>Iw O (BE O (A7 Bq O) fun b3=>Bo O (Au Az 1 [] O (As (BA (BU (DZ (t:=4) (sz:=5) O) ?_)))))));refine Bh (α:=Tm×List Tm×Option Nat×Nat) (fun(y,l,o,cp)=>⟨27,mk [(1,.ptr b1 0),(3,.ptr b3 0),(4,.vs o (Av l).length cp)],[.vec o 5 (Av l) cp,.box b3 [.p (I 0),.p (I 0),.p (.str ⟨#[]⟩),.p (.nils),.p (.nils)],.box b1 ((Bc y).map .p)],[]⟩) (fun(y,l,o,cp)=>size y) (fun(y,l,o,cp)=>Nd y∧l.length+size y≤size t∧(l++(BM y).1,(BM y).2)=BM t) ⟨t,[],none,0⟩ (⟨h1,by simp,by simp⟩) ?_ ?_
 ·exact BZ ⟨we O,we O,we O,Ap⟩ (leH (is:=[0,1,2]) O (wl (oe O) (wl (oe O) (wl (oe O) (DF)))))
 rintro⟨y,l,o,cp⟩ hC
 try simp only at hC
 have hl0:l.length<1000000:=by have:=hC.2.1;omega
 refine As (As ?_);obtain⟨yk,yi,yn,yl,ys⟩:=y;refine Bj [1,3,4] 13 (fun y=>y= .p (.bool (((yk:Int)==(6:Int))&&(((ys.length:Nat):Int)==(2:Int))))) ?_ ?_
 ·refine Ax (A0 Az 4 [2] O (BS 8 O (fun g=>?_) (fun g=>?_)))
  ·(try simp only[sd,se] at g);exact A0 Az 2 [2] O (BK O (BH BY O (BD _)) (Aq Az 2 [] O (⟨O,O,AK,AH,⟨O,O,O,Ap⟩⟩)))
  (try simp only[sd,se] at g);exact Aq Az 5 [] O (⟨O,O,AK,AH,⟨O,O,O,Ap⟩⟩)
 rintro _ rfl;refine A2 O (fun c=>?_) (fun c=>?_)
 ·(try simp only[sd,se] at c);refine A5 (BA (Ay (A0 Az 3 [2] O ?_)));obtain⟨x,hx⟩:=A9 (l:=ys) (i:=0) (by first | omega | (simp at c;omega));refine Ar O (BC BY O O An (B0 hx) (BF _)) (Ar O (Bg Bx O (BF _)) ?_);obtain⟨xk,xi,xn,xl,xs⟩:=x;refine Ar O (Bz BY Bq O O O O O) (Dp O O (B3 (i:=0) (rows':=Av [(.mk xk xi xn xl xs:Tm)]) BY BY Bq O O O O O O (Bn _) AF (Fe l [(.mk xk xi xn xl xs:Tm)])) fun o1 cp1=>Aq Az 1 [] O (Ax (A0 Az 2 [2] O ?_)));obtain⟨x1,hx1⟩:=A9 (l:=ys) (i:=1) (by first | omega | (simp at c;omega));refine Ar O (BC BY O O An (B0 hx1) (BF _)) (Aq Az 2 [2,1] O ?_);refine⟨⟨x1,l++[(.mk xk xi xn xl xs:Tm)],o1,cp1⟩,(by have:=B5 hx1;simp only[size];omega),⟨Cq hC.1.2.2.2.2.1 hx1,by have:=B5 hx1;have:=hC.2.1;simp only[size] at *;simp only[List.length_append,List.length_cons,List.length_nil];omega,PO c hx hx1 hC.2.2⟩,BZ ⟨we rfl,we rfl,we rfl,trivial⟩ (leH (is:=[0,1,2]) rfl (wl (oe rfl) (wl (oe rfl) (wl (oe rfl) (DF)))))⟩
 (try simp only[sd,se] at c);refine Bk (As (CK (fun k=>false) Eb (CE Az 4 [2,1,0] O (BU (CM (i:=0) [4,25,2] O (C6 ⟨O,O,O,Ap⟩)) (A4 (⟨O,_,_,⟨_,_,O,O,⟨_,_,O,(BO (i:=0) Bx O O O),O⟩⟩,(List.nil_sublist _),?_⟩))))))
 all_goals exact⟨by show (.tup [.p (.lst (Av l)),.agg [.p (I yk),.p (I yi),.p (.str yn),.p (.lst (List.map B6 yl)),.p (.lst (Av ys))]]:AV)=_;rw[RO An hC.2.2];rfl,rfl⟩
end Go.Proofs.YtifphifongokcaaGreat
namespace Go.Eu
open Go.Abs
structure nj (ds:List Ck) (t:Tm):Prop where
 ok:okB t=true
 len:(BI t).2.length≤1000
 hd:(BI t).1.kind=0∨(BI t).1.kind=3∧(iz ds (BI t).1=true→(EF ds (BI t).1.name).1.kind=4)
structure lh (ds:List Ck) (t:Tm):Prop where
 ok:okB t=true
 len:(BI t).2.length≤1000
 hd:nj ds t∨∃k i,(k=9∨k=10)∧t= .mk k 0 ⟨#[]⟩ [] [BP i]∧0≤i∧i<1000∧size t<1000
theorem lh.nd {ds:List Ck}{t:Tm}(h:lh ds t):Nd t:=(GR.1 h.ok).nd
end Go.Eu
