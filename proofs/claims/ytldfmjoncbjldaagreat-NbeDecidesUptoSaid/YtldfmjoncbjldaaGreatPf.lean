/- Part of the proofs: an abstract program logic, plain models and contracts of functions. -/
import Derived.Test.YtldfmjoncbjldaaGreatPe
import Derived.Test.YtldfmjoncbjldaaGreatPb
import Derived.Test.YtldfmjoncbjldaaGreatPd
import Derived.Test.YtldfmjoncbjldaaGreatPc
set_option linter.unusedVariables false
set_option linter.unusedSimpArgs false
set_option maxRecDepth 100000
namespace Go.Eu
open Go.Abs
structure XT where
 fn:Nat
 st:Nat
 pr:Nat
 clo:Nat
def RB (mu:List Nat) (a:Nat):Nat:=mu.getD (mu.length - 1 - a) 0
def N1 (mu:List Nat) (a:Nat):PV:= .addr (RB mu a)
def Sl (mu:List Nat) (v:Option Nat):PV:= .optp (v.map (RB mu))
def NV.addr:NV→Nat
 | .fn a | .pr a | .st a=>a
def XT.ty (q:XT):NV→Nat
 | .fn _=>q.fn
 | .pr _=>q.pr
 | .st _=>q.st
def Ug (mu:List Nat) (l:List Nat):List (List PV):=l.map fun a=>[N1 mu a]
section
variable (q:XT) (m:Nat) (mu:List Nat)
def aP (v:NV):PV:= .iface (q.ty v) (N1 mu v.addr)
def nX:Option NV→PV
 | none=> .nilIface
 | some v=>aP q mu v
def ug (b:NB):AV:= .fn (.func q.clo) [] [.ref [.addr m],.ref (BD b.t),.ref [Sl mu b.vars]]
def xR:Option NB→AV
 | none=> .p .nilFn
 | some b=>ug q m mu b
def KG (b:Nat):NO→A4
 | .thunk t v k=> .box b ((BD t).map .p++[.p (Sl mu v),.p (nX q mu k)])
 | .scope x r=> .box b [.p (N1 mu x),.p (Sl mu r)]
 | .func d f=> .box b [.p (N1 mu d),ug q m mu f]
 | .pair x y z=> .box b [.p (N1 mu x),.p (N1 mu y),.p (N1 mu z)]
 | .stuck h args=> .box b (.p (I h.kind):: .p (I h.level)::((BD h.node).map .p++[.p (.lst (Ug mu h.kids)),xR q m mu h.body,.p (.lst (Ug mu args))]))
def NR:List Nat→List NO→List A4
 | b::bs,o::os=>KG q m mu b o::NR bs os
 | _,_=>[]
def HS (s:NS):List A4:= .box m [.p (.lst []),.p (I s.left),.p (I s.nodes)]::NR q m mu mu s.objs
def fY (nv:NV) (s':NS):EG→List A4→Prop
 | .val v,H'=>∃mu',mu'.length=s'.objs.length∧(∃new,mu'=new++mu)∧v= .p (aP q mu' nv)∧H'=HS q m mu' s'
 | .panic _,_=>False
def wN (t:Tm) (s':NS):EG→List A4→Prop
 | .val v,H'=>∃mu',mu'.length=s'.objs.length∧(∃new,mu'=new++mu)∧v= .agg ((BD t).map .p)∧H'=HS q m mu' s'
 | .panic _,_=>False
end
theorem OU {mu new:List Nat}{a:Nat}(h:a<mu.length):RB (new++mu) a=RB mu a:=by
 unfold RB;rw[List.length_append];simp only[List.getD_eq_getElem?_getD];rw[List.getElem?_append_right Au];congr 2;omega
theorem KU {mu new:List Nat}{a:Nat}(h:a<mu.length):N1 (new++mu) a=N1 mu a:=by rw[N1,N1,OU h]
theorem Tr {mu new:List Nat}{v:Option Nat}(h:Rb mu.length v=true):Sl (new++mu) v=Sl mu v:=by
 cases v with
 | none=>rfl
 | some a=>simp only[Sl,Option.map_some,OU (by simpa [Rb] using h)]
theorem sL {q:XT}{mu new:List Nat}{v:NV}(h:U6 mu.length v=true):aP q (new++mu) v=aP q mu v:=by
 have:v.addr<mu.length:=by cases v<;>simpa [U6,NV.addr] using h
 simp only[aP,KU this]
theorem uU {q:XT}{mu new:List Nat}{v:Option NV}(h:ux mu.length v=true):nX q (new++mu) v=nX q mu v:=by
 cases v with
 | none=>rfl
 | some v=>exact sL h
theorem kB {q:XT}{m:Nat}{mu new:List Nat}{b:NB}(h:Rb mu.length b.vars=true):ug q m (new++mu) b=ug q m mu b:=by simp only[ug,Tr h]
theorem sr {q:XT}{m:Nat}{mu new:List Nat}{v:Option NB}(h:wS mu.length v=true):xR q m (new++mu) v=xR q m mu v:=by
 cases v with
 | none=>rfl
 | some v=>exact kB h
theorem cO {mu new:List Nat}:∀{l:List Nat},(l.all fun a=>decide (a<mu.length))=true→Ug (new++mu) l=Ug mu l
 | [],_=>rfl
 | a::l,h=>by
  simp only[List.all_cons,Bool.and_eq_true,decide_eq_true_eq] at h;simp only[Ug,List.map_cons,KU h.1];exact congrArg _ (cO h.2)
theorem YH {q:XT}{m:Nat}{mu new:List Nat}{b:Nat}{o:NO}(h:Ue mu.length o=true):KG q m (new++mu) b o=KG q m mu b o:=by
 cases o with
 | thunk t v k=>simp only[Ue,Bool.and_eq_true] at h;simp only[KG,Tr h.1,uU h.2]
 | scope x r=>simp only[Ue,Bool.and_eq_true,decide_eq_true_eq] at h;simp only[KG,KU h.1,Tr h.2]
 | func d f=>simp only[Ue,Bool.and_eq_true,decide_eq_true_eq] at h;simp only[KG,KU h.1,kB h.2]
 | pair x y z=>simp only[Ue,Bool.and_eq_true,decide_eq_true_eq] at h;simp only[KG,KU h.1.1,KU h.1.2,KU h.2]
 | stuck h' args=>simp only[Ue,Bool.and_eq_true] at h;simp only[KG,cO h.1.1,sr h.1.2,cO h.2]
theorem dc {q:XT}{m:Nat}{mu new:List Nat}:∀{bs:List Nat}{os:List NO},os.all (Ue mu.length)=true→NR q m (new++mu) bs os=NR q m mu bs os
 | [],os,_=>by cases os<;>rfl
 | b::bs,[],_=>rfl
 | b::bs,o::os,h=>by
  simp only[List.all_cons,Bool.and_eq_true] at h;simp only[NR,YH h.1,dc h.2]
theorem si {q:XT}{m b:Nat}{mu:List Nat}{s:NS}{o:NO}(hl:mu.length=s.objs.length) (h:(Uo s&&Ue s.objs.length o)=true):HS q m (b::mu) (s.new o)= .box m [.p (.lst []),.p (I s.left),.p (I s.nodes)]::KG q m mu b o::NR q m mu mu s.objs:=by
 simp only[Bool.and_eq_true,Uo,←hl] at h;simp only[HS,NS.new,NR];rw[show b::mu=[b]++mu from rfl,YH h.2,dc h.1]
theorem dM {q:XT}{m:Nat}{mu:List Nat}:∀{bs:List Nat}{os:List NO}{i b:Nat}{o:NO},bs[i]?=some b→os[i]?=some o→(NR q m mu bs os)[i]?=some (KG q m mu b o)
 | [],_,i,b,o,h,_=>by simp at h
 | _::_,[],i,b,o,_,h=>by simp at h
 | b'::bs,o'::os,0,b,o,h,h'=>by
  simp only[List.getElem?_cons_zero,Option.some.injEq] at h h';subst h;subst h';rfl
 | b'::bs,o'::os,i+1,b,o,h,h'=>by
  simp only[List.getElem?_cons_succ] at h h';simp only[NR,List.getElem?_cons_succ];exact dM h h'
theorem eb {q:XT}{m:Nat}{mu:List Nat}:∀{bs:List Nat}{os:List NO}{i b:Nat}(o:NO),bs[i]?=some b→(NR q m mu bs os).set i (KG q m mu b o)=NR q m mu bs (os.set i o)
 | [],_,i,b,o,h=>by simp at h
 | _::_,[],i,b,o,_=>rfl
 | b'::bs,o'::os,0,b,o,h=>by
  simp only[List.getElem?_cons_zero,Option.some.injEq] at h;subst h;rfl
 | b'::bs,o'::os,i+1,b,o,h=>by
  simp only[List.getElem?_cons_succ] at h;simp only[NR,List.set_cons_succ];exact congrArg _ (eb o h)
end Go.Eu
namespace Go.Abs
open Go.Eu
section
variable {P:Program}{r:Option Nat}{ops:Array Oper}{n:Nat}{τ₀ τ:Nat→AV}{D:List D4}{opn:Nat→Bool}{k:Nat}{H:List A4}{dst:Option Tmp}{op:Op}{ty:TypeId}{pos:String}{aft:Array Edge}
theorem Mz {Q:Cj→BM→Prop}{R:EG→List A4→Prop}(ho:ops[k]?=some ⟨dst,op,ty,pos,aft,none⟩) (hd:Gj dst n=true) (h:DL P ⟨dst,op,ty,pos,aft,none⟩ (ev τ) H R) (hno:∀v H',¬R (.panic v) H')
  (next:∀v H1,R (.val v) H1→∃H',H1.Perm H'∧AL P r ops (k+1) ⟨n,put τ dst v,H',D⟩ Q):AL P r ops k ⟨n,τ,H,D⟩ Q :=
 Fm (S:=⟨n,τ,H,D⟩) ho An (He hd) h (fun v H1 hv=>by obtain⟨H',hp,hn⟩:=next v H1 hv;exact IZ hp hn) (fun v H1 hv=>absurd hv (hno v H1))
theorem Kw {Q:Cj→BM→Prop}{rd ef effs fx}{R:EG→List A4→Prop}(fx':List (Nat×Sp)) (ho:ops[k]?=some ⟨dst,op,ty,pos,aft,none⟩) (hn:opn k=true) (h:DL P ⟨dst,op,ty,pos,aft,none⟩ (ev τ) H R) (haft:E5 ops k (fx'.map (·.1))=true) (hne:∃v H',R (.val v) H') (hno:∀v H',¬R (.panic v) H')
  (next:∀v H1,R (.val v) H1→∃H',H1.Perm H'∧KJ ops k H H' rd∧Hp k (.eff v H') fx∧Dr P ops n τ₀ D Q opn (k+1) (put τ dst v) H' rd ((k,H,H')::ef) (true::effs) (fx'++fx)):Dr P ops n τ₀ D Q opn k τ H rd ef effs fx:=by
 refine Lu (R:=fun r H'=>match r with | .val v=>KJ ops k H H' rd∧Hp k (.eff v H') fx∧Dr P ops n τ₀ D Q opn (k+1) (put τ dst v) H' rd ((k,H,H')::ef) (true::effs) (fx'++fx) | .panic _=>False) fx' ho hn (DL.permR h ?_) haft ?_ (fun _ _ h=>h) (fun v H' h=>h)
 ·intro r H1 hr;cases r with
  | val v=>exact next v H1 hr
  | panic v=>exact absurd hr (hno v H1)
 obtain⟨v,H1,hv⟩:=hne;obtain⟨H',_,h⟩:=next v H1 hv;exact⟨v,H',h⟩
end
theorem YS {n:Nat}{τ:Nat→AV}{H:List A4}{D:List D4}(t:Nat) {b:Nat}(h:τ t= .ptr b 0):Ia ⟨n,τ,H,D⟩ ⟨n,put τ (some t) (.p (.addr b)),H,D⟩:=Ob fun F w v hr=>by rw[h] at hr;exact dq b F w v hr
theorem FK {P:Program}{dst:Option Tmp}{c:Call}{ty:TypeId}{pos:String}{aft:Array Edge}{g:Option (Nat×Bool)}{f:Operand}{fid:FuncId}{ρ:Operand→AV}{H Hs Hf:List A4}{A:List AV}{R:EG→List A4→Prop}
  (hc:c.callee= .value f) (hf:ρ f= .p (.fn fid)) (hp:H.Perm (Hs++Hf)) (h:BL P fid A Hs R) (hA:Fc (c.args.toList.map ρ) A) :
  DL P ⟨dst,.call c,ty,pos,aft,g⟩ ρ H (fun r H'=>∃Hs',R r Hs'∧H'=Hs'++Hf):=GA hc (.inl ⟨hf,rfl,rfl⟩) hp (h.args (by simpa using hA)) (.inl rfl)
theorem iI {P:Program}{dst:Option Tmp}{c:Call}{ty:TypeId}{pos:String}{aft:Array Edge}{g:Option (Nat×Bool)}{f:Operand}{fid:FuncId}{first caps:List AV}{ρ:Operand→AV}{H Hs Hf:List A4}{A:List AV}{R:EG→List A4→Prop}
  (hc:c.callee= .value f) (hf:ρ f= .fn (.func fid) first caps) (hp:H.Perm (Hs++Hf)) (h:BL P fid A Hs R) (hA:Fc (first++c.args.toList.map ρ++caps) A) :
  DL P ⟨dst,.call c,ty,pos,aft,g⟩ ρ H (fun r H'=>∃Hs',R r Hs'∧H'=Hs'++Hf):=GA hc (.inr hf) hp (h.args hA) (.inl rfl)
theorem CP {P:Program}{dst:Option Tmp}{ty:TypeId}{pos:String}{aft:Array Edge}{g:Option (Nat×Bool)}{ρ:Operand→AV}{H:List A4}{x:Operand}{b:Nat}(hx:ρ x= .p (.addr b)):Dm P ⟨dst,.nilCheck x,ty,pos,aft,g⟩ ρ H (.ptr b 0) H :=
 Bw fun F w E hH hE=>by
  have h1:=hE x Al;rw[hx] at h1;simp only[Bz,Br] at h1;exact⟨.pointer (some ⟨b,0,none⟩),by simp[execOp,h1,Sem.run_pure],by simp[Bz]⟩
theorem N6 {P:Program}{dst:Option Tmp}{ty:TypeId}{pos:String}{aft:Array Edge}{g:Option (Nat×Bool)}{ρ:Operand→AV}{H:List A4}{x:Operand}{b:Nat}(hx:ρ x= .p (.optp (some b))):Dm P ⟨dst,.nilCheck x,ty,pos,aft,g⟩ ρ H (.ptr b 0) H :=
 Bw fun F w E hH hE=>by
  have h1:=hE x Al;rw[hx] at h1;simp only[Bz,Br] at h1;exact⟨.pointer (some ⟨b,0,none⟩),by simp[execOp,h1,Sem.run_pure],by simp[Bz]⟩
theorem Wb:LU .nilp (.p (.optp none)):=fun F w v h=>by simp only[Bz,Br] at h ⊢;exact h
theorem lM (b:Nat):LU (.p (.addr b)) (.p (.optp (some b))):=fun F w v h=>by simp only[Bz,Br] at h ⊢;exact h
theorem iM (b:Nat):LU (.ptr b 0) (.p (.optp (some b))):=fun F w v h=>by simp only[Bz,Br] at h ⊢;exact h
theorem xP {x y:AV}(h:LU x y:=by first | exact we rfl | exact dq _ | exact Wb | exact lM _ | exact iM _ | exact FW rfl | exact pU _ | exact O8 _):LU x y:=h
theorem TY {xs ys:List AV}(h:Fc xs ys:=by repeat' first | exact HT | refine aw xP ?_):Fc xs ys:=h
section
variable {q:XT}{m b:Nat}{mu:List Nat}{s s':NS}{nv:NV}{t:Tm}{o:NO}{fr:List A4}
theorem K1 (fr:List A4):∀v H',¬∃Hs',fY q m mu nv s' (.panic v) Hs'∧H'=Hs'++fr:=fun _ _ h=>by obtain⟨_,h,_⟩:=h;exact h
theorem UQ (hl:mu.length=s.objs.length) (h:s.objs.length≤s'.objs.length) (fr:List A4):∃v H',∃Hs',fY q m mu nv s' (.val v) Hs'∧H'=Hs'++fr :=
 ⟨_,_,_,⟨List.replicate (s'.objs.length - s.objs.length) 0++mu,by simp;omega,⟨_,rfl⟩,rfl,rfl⟩,rfl⟩
theorem aK (fr:List A4):∀v H',¬∃Hs',wN q m mu t s' (.panic v) Hs'∧H'=Hs'++fr:=fun _ _ h=>by obtain⟨_,h,_⟩:=h;exact h
theorem mB (hl:mu.length=s.objs.length) (h:s.objs.length≤s'.objs.length) (fr:List A4):∃v H',∃Hs',wN q m mu t s' (.val v) Hs'∧H'=Hs'++fr :=
 ⟨_,_,_,⟨List.replicate (s'.objs.length - s.objs.length) 0++mu,by simp;omega,⟨_,rfl⟩,rfl,rfl⟩,rfl⟩
theorem Sd (fr:List A4) (hl:mu.length=s.objs.length) (h:(Uo s&&Ue s.objs.length o)=true):(KG q m mu b o::(fr++HS q m mu s)).Perm (fr++HS q m (b::mu) (s.new o)):=by
 rw[si hl h];refine(List.perm_middle (a:=KG q m mu b o) (l₁:=fr) (l₂:=HS q m mu s)).symm.trans (List.Perm.append_left fr ?_);exact List.Perm.swap _ _ _
theorem nR (fr:List A4) (hl:mu.length=s.objs.length) (h:(Uo s&&Ue s.objs.length o)=true):(KG q m mu b o::(fr++HS q m mu s)).Perm (HS q m (b::mu) (s.new o)++fr):=(Sd fr hl h).trans List.perm_append_comm
theorem Fq {a:Nat}(hl:mu.length=s.objs.length) (hg:s.get a=some o):(HS q m mu s)[s.objs.length - 1 - a+1]?=some (KG q m mu (RB mu a) o):=by
 unfold NS.get at hg;split at hg
 ·have hb:mu[s.objs.length - 1 - a]?=some (RB mu a):=by
   have:s.objs.length - 1 - a<mu.length:=by omega
   unfold RB;rw[List.getD_eq_getElem?_getD,hl,List.getElem?_eq_getElem this];rfl
  exact dM hb hg
 cases hg
theorem fj {a c:Nat}(hl:mu.length=s.objs.length) (hg:s.get a=some o) (hc:RB mu a=c):(HS q m mu s)[s.objs.length - 1 - a+1]?=some (KG q m mu c o):=hc▸Fq hl hg
theorem Nz (mu l:List Nat):(Ug mu l).length=l.length:=List.length_map _
theorem oI (mu l:List Nat):∀r∈Ug mu l,r.length=1:=by
 intro r hr;obtain⟨a,_,rfl⟩:=List.mem_map.1 hr;rfl
theorem gF (mu l:List Nat):∀r∈Ug mu l,Ej 1 r:=by
 intro r hr;obtain⟨a,_,rfl⟩:=List.mem_map.1 hr;exact⟨O,fun c hc=>by simp only[List.mem_singleton] at hc;subst hc;exact⟨by simp[N1],by simp[N1]⟩⟩
theorem kr {a:Nat}(o':NO) (hl:mu.length=s.objs.length) (hg:s.get a=some o):(HS q m mu s).set (s.objs.length - 1 - a+1) (KG q m mu (RB mu a) o')=HS q m mu (s.set a o'):=by
 unfold NS.get at hg;split at hg
 ·have hb:mu[s.objs.length - 1 - a]?=some (RB mu a):=by
   have:s.objs.length - 1 - a<mu.length:=by omega
   unfold RB;rw[List.getD_eq_getElem?_getD,hl,List.getElem?_eq_getElem this];rfl
  show _::(NR q m mu mu s.objs).set _ _=_;rw[eb o' hb];rfl
 cases hg
theorem Qz {mu:List Nat}{s:NS}{b:Nat}(hl:mu.length=s.objs.length):N1 (b::mu) s.next= .addr b:=by
 unfold N1 RB NS.next;rw[←hl];simp
theorem eY {mu:List Nat}{a b:Nat}(h:a<mu.length):N1 (b::mu) a=N1 mu a:=KU (new:=[b]) h
theorem nq {mu:List Nat}{b:Nat}{v:Option Nat}(h:Rb mu.length v=true):Sl (b::mu) v=Sl mu v:=Tr (new:=[b]) h
theorem tE {mu:List Nat}{s:NS}{b:Nat}(hl:mu.length=s.objs.length):Sl (b::mu) (some s.next)= .optp (some b):=by
 unfold Sl RB NS.next;rw[←hl];simp
theorem jd {q:XT}{mu:List Nat}{s:NS}{b:Nat}(hl:mu.length=s.objs.length):AV.p (.iface q.st (.addr b))= .p (aP q (b::mu) (.st s.next)):=by
 simp only[aP,NV.addr,Qz hl];rfl
theorem u5 {q:XT}{mu:List Nat}{s:NS}{b:Nat}(hl:mu.length=s.objs.length):AV.p (.iface q.fn (.addr b))= .p (aP q (b::mu) (.fn s.next)):=by
 simp only[aP,NV.addr,Qz hl];rfl
theorem Gb {mu:List Nat}{s:NS}{b:Nat}{o:NO}(hl:mu.length=s.objs.length):(b::mu).length=(s.new o).objs.length:=by simp[NS.new,hl]
theorem fh {s:NS}{a:Nat}{o o':NO}(h:s.get a=some o):(s.set a o').get a=some o':=by
 unfold NS.get NS.set at *;simp only[List.length_set];split at h
 ·rename_i hlt;rw[if_pos hlt,List.getElem?_set_self Au]
 cases h
theorem set_set {s:NS}{a:Nat}{o o':NO}:(s.set a o).set a o'=s.set a o':=by simp[NS.set]
end
theorem S4 {P:Program}{dst:Option Tmp}{ty:TypeId}{pos:String}{aft:Array Edge}{g:Option (Nat×Bool)}{ρ:Operand→AV}{H:List A4}{nm:String}{x:Operand} :
  Dm P ⟨dst,.makeFunc (.method nm) #[x] #[],ty,pos,aft,g⟩ ρ H (.fn (.method nm) [ρ x] []) H:=EK rfl rfl
section
variable {P:Program}{dst:Option Tmp}{ty:TypeId}{pos:String}{aft:Array Edge}{g:Option (Nat×Bool)}{ρ:Operand→AV}{H:List A4}{x:Operand}
def xu (P:Program) (T:TypeId):Bool:=match P.underlying T with
 | some (.interface _)=>true
 | _=>false
theorem l8 {T:TypeId}(h:xu P T=true):∃ms,P.underlying T=some (.interface ms):=by
 unfold xu at h;split at h
 ·exact⟨_,by assumption⟩
 cases h
theorem P0 {T U:TypeId}{X:PV}{b:Bool}(hu:xu P T=true) (hx:ρ x= .p X) (hy:ρ (.const .nilIface)= .p .nilIface) (hX:(match X with | .nilIface=>some true | .iface _ _=>some false | _=>none)=some b):Dm P ⟨dst,.binOp .eql T x (.const .nilIface) U,ty,pos,aft,g⟩ ρ H (.p (.bool b)) H:=by
 obtain⟨ms,hu⟩:=l8 hu;exact Zu hu hx hy hX
end
theorem gE {P:Program}{dst:Option Tmp}{ty:TypeId}{pos:String}{aft:Array Edge}{g:Option (Nat×Bool)}{ρ:Operand→AV}{H:List A4}{x y:Operand}{T U:TypeId}(hT:(match P.underlying T with | some (.func _ _ _)=>true | _=>false)=true) (hx:ρ x= .p .nilFn) (hy:ρ y= .p .nilFn):Dm P ⟨dst,.binOp .neq T x y U,ty,pos,aft,g⟩ ρ H (.p (.bool false)) H :=
 Bw fun F w E hH hE=>by
  have e1:=hE x Al;have e2:=hE y Al;rw[hy] at e2;rw[hx] at e1;simp only[Bz,Br] at e1 e2;obtain⟨a1,a2,a3,hu⟩:∃a1 a2 a3,P.underlying T=some (.func a1 a2 a3):=by
   cases hd:P.underlying T with
   | none=>rw[hd] at hT;cases hT
   | some d =>
    rw[hd] at hT;cases d<;>first | exact⟨_,_,_,rfl⟩ | cases hT
  refine⟨.bool false,?_,by simp[Bz,Br]⟩;have hg:(eqGuard .neq T x y .nilFunc .nilFunc).run P w= .ok () w:=by
   unfold eqGuard;rfl
  have hq:(Op.equal T .nilFunc .nilFunc).run P w= .ok true w:=by
   have h:∀d:Nat,(Op.equalIn (d+1) T .nilFunc .nilFunc).run P w= .ok true w:=fun d=>by simp[Op.equalIn,run_underlying hu]
   simp[Op.equal,Op.maxDepth,h 9999]
  simp[execOp,Sem.run_bind,hg,e1,e2,binOp,hq]
theorem lV {P:Program}{dst:Option Tmp}{ty:TypeId}{pos:String}{aft:Array Edge}{g:Option (Nat×Bool)}{ρ:Operand→AV}{x y:Operand}{q:XT}{m a b:Nat}{mu:List Nat}{s:NS}{T:TypeId}{bl:Bool}{t:Tm}{v:Option Nat}{k:Option NV}{nv:NV}
  (hT:EH P T=some (bl,1)) (hl:mu.length=s.objs.length) (hg:s.get a=some (.thunk t v k)) (hb:RB mu a=b) (hx:ρ x= .ptr b 6) (hy:ρ y= .p (aP q mu nv)) :
  Dm P ⟨dst,.store T x y,ty,pos,aft,g⟩ ρ (HS q m mu s) (.p .any) (HS q m mu (s.set a (.thunk t v (some nv)))):=by
 subst hb;obtain⟨tk,ti,tn,tl,ts⟩:=t;have h:=Hq (P:=P) (dst:=dst) (ty:=ty) (pos:=pos) (aft:=aft) (g:=g) (us:=[.p (aP q mu nv)]) hT hx (Fq (q:=q) (m:=m) hl hg) (by rw[hy];rfl) rfl rfl rfl;rw[←kr (q:=q) (m:=m) (.thunk (.mk tk ti tn tl ts) v (some nv)) hl hg];exact h
theorem oO {P:Program}{dst:Option Tmp}{ty:TypeId}{pos:String}{aft:Array Edge}{g:Option (Nat×Bool)}{ρ:Operand→AV}{x y:Operand}{q:XT}{m a b:Nat}{mu:List Nat}{s:NS}{T:TypeId}{bl:Bool}{t:Tm}{v:Option Nat}{k:Option NV}
  (hT:EH P T=some (bl,1)) (hl:mu.length=s.objs.length) (hg:s.get a=some (.thunk t v k)) (hb:RB mu a=b) (hx:ρ x= .ptr b 5) (hy:ρ y= .nilp) :
  DL P ⟨dst,.store T x y,ty,pos,aft,g⟩ ρ (HS q m mu s) (det (.p .any) ((HS q m mu s).set (s.objs.length - 1 - a+1) (.box b ((BD t).map .p++[.nilp,.p (nX q mu k)])))):=by
 subst hb;obtain⟨tk,ti,tn,tl,ts⟩:=t;have h:=Hq (P:=P) (dst:=dst) (ty:=ty) (pos:=pos) (aft:=aft) (g:=g) (us:=[.nilp]) hT hx (Fq (q:=q) (m:=m) hl hg) (by rw[hy];rfl) rfl rfl rfl;exact h
theorem jB {n:Nat}{τ:Nat→AV}{D:List D4}{q:XT}{m a b:Nat}{mu:List Nat}{s:NS}{t:Tm}{v:Option Nat}{k:Option NV}(hl:mu.length=s.objs.length) (hg:s.get a=some (.thunk t v k)) (hb:RB mu a=b) :
  Ia ⟨n,τ,(HS q m mu s).set (s.objs.length - 1 - a+1) (.box b ((BD t).map .p++[.nilp,.p (nX q mu k)])),D⟩ ⟨n,τ,HS q m mu (s.set a (.thunk t none k)),D⟩:=by
 subst hb;have hi:((HS q m mu s).set (s.objs.length - 1 - a+1) (.box (RB mu a) ((BD t).map .p++[.nilp,.p (nX q mu k)])))[s.objs.length - 1 - a+1]?=some (.box (RB mu a) ((BD t).map .p++[.nilp,.p (nX q mu k)])):=by
  rw[List.getElem?_set_self (List.getElem?_eq_some_iff.1 (Fq (q:=q) (m:=m) hl hg)).1]
 obtain⟨tk,ti,tn,tl,ts⟩:=t;have hw:Fc ((BD (.mk tk ti tn tl ts)).map .p++[.nilp,.p (nX q mu k)]) ((BD (.mk tk ti tn tl ts)).map .p++[.p (Sl mu none),.p (nX q mu k)]):=by
  simp only[BD,List.map_cons,List.map_nil,List.cons_append,List.nil_append];exact aw (we O) (aw (we O) (aw (we O) (aw (we O) (aw (we O) (aw Wb (aw (we O) HT))))))
 have:=EV (n:=n) (τ:=τ) (D:=D) (o':= .box (RB mu a) ((BD (.mk tk ti tn tl ts)).map .p++[.p (Sl mu none),.p (nX q mu k)])) hi (Ux hw);rw[List.set_set] at this;rw[←kr (q:=q) (m:=m) (.thunk (.mk tk ti tn tl ts) none k) hl hg];exact this
end Go.Abs
namespace Go.Eu
open Go.Abs
theorem FT {α:Type}{b:Bool}{x:Out α}{y:α}(h:gd b x= .ok y):b=true∧x= .ok y:=by
 unfold gd at h;split at h
 ·rename_i hb;exact⟨hb,h⟩
 cases h
theorem MX {α β:Type}{x:Out α}{k:α→Out β}{y:β}(h:x.bind k= .ok y):∃a,x= .ok a∧k a= .ok y:=by
 cases x with
 | stuck=>cases h
 | fail=>cases h
 | ok a=>exact⟨a,rfl,h⟩
theorem Jl {α:Type}{s:NS}{x:Out (α×NS)}{y:α×NS}(h:uR s x= .ok y):x= .ok y∧s.objs.length≤y.2.objs.length:=by
 obtain⟨a,h1,h2⟩:=MX h;obtain⟨h3,h4⟩:=FT h2;injection h4 with h4;subst h4;exact⟨h1,by simpa using h3⟩
section
variable {n:Nat}{s s':NS}{nv:NV}{t:Tm}{ρ:Option Nat}{a x:Nat}{W:Rq→NS→Out (NV×NS)}
theorem uY {x:Out (NV×NS)}{y:NV×NS}(h:(x.bind fun r=>gd (U6 r.2.objs.length r.1) (.ok r))= .ok y):x= .ok y∧U6 y.2.objs.length y.1=true:=by
 obtain⟨a,h1,h2⟩:=MX h;obtain⟨h3,h4⟩:=FT h2;injection h4 with h4;subst h4;exact⟨h1,h3⟩
theorem LZ {r:Rq}(h:Mf n r s= .ok (nv,s')):Uo s=true∧uH s.objs.length r=true∧s.objs.length≤s'.objs.length∧U6 s'.objs.length nv=true:=by
 cases n with
 | zero=>cases h
 | succ n =>
  unfold Mf at h;obtain⟨h1,h2⟩:=FT h;obtain⟨h2,h5⟩:=uY h2;obtain⟨h3,h4⟩:=Jl h2;simp only[Bool.and_eq_true] at h1;exact⟨h1.1,h1.2,h4,h5⟩
theorem rC (h:Mf (n+1) (.eval t ρ) s= .ok (nv,s')):jJ (Mf n) n t ρ s= .ok (nv,s'):=by
 unfold Mf at h;exact(Jl (uY (FT h).2).1).1
theorem nF (h:Mf (n+1) (.force a) s= .ok (nv,s')):∃t ρ k,s.get a=some (.thunk t ρ k)∧((k=some nv∧s=s')∨(k=none∧∃s1 t' ρ' k',Mf n (.eval t ρ) s= .ok (nv,s1)∧s1.get a=some (.thunk t' ρ' k')∧s'=s1.set a (.thunk t' none (some nv)))):=by
 unfold Mf at h;have h:=(Jl (uY (FT h).2).1).1;simp only at h;split at h
 ·rename_i t ρ v hg;injection h with h;simp only[Prod.mk.injEq] at h;obtain⟨rfl,rfl⟩:=h;exact⟨t,ρ,_,hg,.inl ⟨rfl,rfl⟩⟩
 ·rename_i t ρ hg;obtain⟨⟨v1,s1⟩,h1,h2⟩:=MX h;simp only at h2;split at h2
  ·rename_i t' ρ' k' hg';injection h2 with h2;simp only[Prod.mk.injEq] at h2;obtain⟨rfl,rfl⟩:=h2;exact⟨t,ρ,_,hg,.inr ⟨O,s1,t',ρ',k',h1,hg',O⟩⟩
  cases h2
 cases h
theorem vV (h:Mf (n+1) (.apply (.fn a) x) s= .ok (nv,s')):∃d b,s.get a=some (.func d b)∧0<s.left∧s.left≤20000∧Mf n (.body b x) { s with left:=s.left - 1 }= .ok (nv,s'):=by
 unfold Mf at h;have h:=(Jl (uY (FT h).2).1).1;simp only[oq] at h;split at h
 ·rename_i d b hg;obtain⟨h1,h2⟩:=FT h;simp only[Bool.and_eq_true,decide_eq_true_eq] at h1;exact⟨d,b,hg,h1.1,h1.2,h2⟩
 cases h
theorem vR (h:Mf (n+1) (.apply (.st a) x) s= .ok (nv,s')):∃hd args,s.get a=some (.stuck hd args)∧args.length<100∧¬hd.kind=3∧hd.body=none∧(Uo s&&Ue s.objs.length (.stuck hd (args++[x])))=true∧nv= .st s.next∧s'=s.new (.stuck hd (args++[x])):=by
 unfold Mf at h;have h:=(Jl (uY (FT h).2).1).1;simp only[oq] at h;split at h
 ·rename_i hd args hg;obtain⟨h1,h2⟩:=FT h;simp only[Bool.and_eq_true,decide_eq_true_eq,Bool.not_eq_true',decide_eq_false_iff_not,Option.isNone_iff_eq_none] at h1;obtain⟨h3,h4⟩:=FT h2;injection h4 with h4;simp only[Prod.mk.injEq] at h4;obtain⟨rfl,rfl⟩:=h4;exact⟨hd,args,hg,h1.1.1,h1.1.2,h1.2,h3,O,O⟩
 cases h
theorem pV {b:NB}(h:Mf (n+1) (.body b x) s= .ok (nv,s')):(Uo s&&Ue s.objs.length (.scope x b.vars))=true∧Mf n (.eval b.t (some s.next)) (s.new (.scope x b.vars))= .ok (nv,s'):=by
 unfold Mf at h;exact FT (Jl (uY (FT h).2).1).1
variable {k i:Int}{nm:ByteArray}{l:List CX}{ts:List Tm}
theorem sO (h:jJ W n (.mk k i nm l ts) ρ s= .ok (nv,s')) (hk:k=0):OF W s n i ρ= .ok (nv,s'):=by
 subst hk;unfold jJ at h;simp only[Tm.kids,Tm.kind,Tm.index] at h;split at h
 ·simpa using h
 ·simp at h
 ·simp at h
 cases h
theorem sJ (h:jJ W n (.mk k i nm l ts) ρ s= .ok (nv,s')) (hk:k=4):∃a b v1 s1,ts=[a,b]∧W (.eval a ρ) s= .ok (v1,s1)∧(Uo s1&&Ue s1.objs.length (.thunk b ρ none))=true∧W (.apply v1 s1.next) (s1.new (.thunk b ρ none))= .ok (nv,s'):=by
 subst hk;unfold jJ at h;simp only[Tm.kids,Tm.kind,Tm.index] at h;split at h
 ·simp at h
 ·simp at h
 ·rename_i a b;simp only[if_true] at h;obtain⟨⟨v1,s1⟩,h1,h2⟩:=MX h;obtain⟨h3,h4⟩:=FT h2;exact⟨a,b,v1,s1,O,h1,h3,h4⟩
 cases h
theorem sv (h:jJ W n (.mk k i nm l ts) ρ s= .ok (nv,s')) (hk:k=5):∃a b,ts=[a,b]∧(Uo s&&Ue s.objs.length (.thunk a ρ none))=true∧(Uo (s.new (.thunk a ρ none))&&Ue (s.new (.thunk a ρ none)).objs.length (.func s.next ⟨b,ρ⟩))=true∧nv= .fn (s.new (.thunk a ρ none)).next∧s'=(s.new (.thunk a ρ none)).new (.func s.next ⟨b,ρ⟩):=by
 subst hk;unfold jJ at h;simp only[Tm.kids,Tm.kind,Tm.index] at h;split at h
 ·simp at h
 ·simp at h
 ·rename_i a b;simp only[if_true] at h;rw[if_neg As] at h;obtain⟨h1,h2⟩:=FT h;obtain⟨h3,h4⟩:=FT h2;injection h4 with h4;simp only[Prod.mk.injEq] at h4;obtain⟨rfl,rfl⟩:=h4;exact⟨a,b,O,h1,h3,O,O⟩
 cases h
theorem sM (h:jJ W n (.mk k i nm l ts) ρ s= .ok (nv,s')) (hk:k=9):∃p v1 s1,ts=[p]∧W (.eval p ρ) s= .ok (v1,s1)∧VD v1 s1= .ok (nv,s'):=by
 subst hk;unfold jJ at h;simp only[Tm.kids,Tm.kind,Tm.index] at h;split at h
 ·simp at h
 ·rename_i p;simp only[if_true] at h;obtain⟨⟨v1,s1⟩,h1,h2⟩:=MX h;exact⟨p,v1,s1,O,h1,h2⟩
 ·simp at h
 cases h
theorem kQ (h:jJ W n (.mk k i nm l ts) ρ s= .ok (nv,s')):k=0∨k=4∨k=5∨k=9:=by
 by_cases h0:k=0
 ·exact .inl h0
 by_cases h4:k=4
 ·exact .inr (.inl h4)
 by_cases h5:k=5
 ·exact .inr (.inr (.inl h5))
 by_cases h9:k=9
 ·exact .inr (.inr (.inr h9))
 exfalso;unfold jJ at h;split at h
 ·rw[if_neg (show ¬(Tm.mk k i nm l ts).kind=0 from h0)] at h;cases h
 ·rw[if_neg (show ¬(Tm.mk k i nm l ts).kind=9 from h9)] at h;cases h
 ·rw[if_neg (show ¬(Tm.mk k i nm l ts).kind=4 from h4),if_neg (show ¬(Tm.mk k i nm l ts).kind=5 from h5)] at h;cases h
 cases h
theorem Zr {v:NV}(h:VD v s= .ok (nv,s')):(∀a,v≠ .pr a)∧(Uo s&&Ue s.objs.length (.thunk BN none (some v)))=true∧(Uo (s.new (.thunk BN none (some v)))&&Ue (s.new (.thunk BN none (some v))).objs.length (.stuck ⟨9,0,BN,[s.next],none⟩ []))=true∧nv= .st (s.new (.thunk BN none (some v))).next∧s'=(s.new (.thunk BN none (some v))).new (.stuck ⟨9,0,BN,[s.next],none⟩ []):=by
 cases v with
 | pr a=>cases h
 | fn a =>
  simp only[VD] at h;obtain⟨h1,h2⟩:=FT h;obtain⟨h3,h4⟩:=FT h2;injection h4 with h4;simp only[Prod.mk.injEq] at h4;obtain⟨rfl,rfl⟩:=h4;exact⟨fun _ h=>(by cases h),h1,h3,O,O⟩
 | st a =>
  simp only[VD] at h;obtain⟨h1,h2⟩:=FT h;obtain⟨h3,h4⟩:=FT h2;injection h4 with h4;simp only[Prod.mk.injEq] at h4;obtain⟨rfl,rfl⟩:=h4;exact⟨fun _ h=>(by cases h),h1,h3,O,O⟩
theorem ig {j:Nat}(h:OF W s j i none= .ok (nv,s')): -1000000≤i∧i≤1000000∧(Uo s&&Ue s.objs.length (.stuck ⟨0,-1 - i,BN,[],none⟩ []))=true∧nv= .st s.next∧s'=s.new (.stuck ⟨0,-1 - i,BN,[],none⟩ []):=by
 have h:gd (decide (-1000000≤i)&&decide (i≤1000000)) (pc s (.stuck ⟨0,-1 - i,BN,[],none⟩ []) fun s1=>Out.ok (NV.st s.next,s1))= .ok (nv,s'):=by cases j<;>simpa only[OF] using h
 obtain⟨h1,h2⟩:=FT h;simp only[Bool.and_eq_true,decide_eq_true_eq] at h1;obtain⟨h3,h4⟩:=FT h2;injection h4 with h4;simp only[Prod.mk.injEq] at h4;obtain⟨rfl,rfl⟩:=h4;exact⟨h1.1,h1.2,h3,O,O⟩
theorem gB {j b:Nat}(h:OF W s j i (some b)= .ok (nv,s')): -1000000≤i∧i≤1000000∧∃j' x r,j=j'+1∧s.get b=some (.scope x r)∧((i=0∧W (.force x) s= .ok (nv,s'))∨(i≠0∧OF W s j' (i - 1) r= .ok (nv,s'))):=by
 cases j with
 | zero=>cases h
 | succ j =>
  simp only[OF] at h;obtain⟨h1,h2⟩:=FT h;simp only[Bool.and_eq_true,decide_eq_true_eq] at h1;split at h2
  ·rename_i x r hg;refine⟨h1.1,h1.2,j,x,r,O,hg,?_⟩;split at h2
   ·exact .inl ⟨‹_›,h2⟩
   exact .inr ⟨‹_›,h2⟩
  cases h2
end
section
variable {n:Nat}{s s':NS}{t t':Tm}{a x:Nat}{d:Int}{Q:NS→Nat→Int→Out (Tm×NS)}
theorem cG {v:NV}(h:Mb n s v d= .ok (t,s')):s.objs.length≤s'.objs.length∧∃a,v= .st a:=by
 cases n with
 | zero=>cases h
 | succ n =>
  simp only[Mb] at h;split at h
  ·split at h
   ·exact⟨(Jl (FT h).2).2,_,O⟩
   cases h
  cases h
theorem wH (h:Mb (n+1) s (.st a) d= .ok (t,s')):∃hd args0,s.get a=some (.stuck hd args0)∧Uo s=true∧hd.kids.length<100∧hd.body=none∧0≤s.nodes∧s.nodes<8000∧0≤d∧d<400 ∧
  ∃t1 s1 h2 args,iV (Uv (Mb n) n) hd { s with nodes:=s.nodes+1 } d= .ok (t1,s1)∧s1.get a=some (.stuck h2 args)∧Uo s1=true∧args.length<100∧YA (Uv (Mb n) n) d args t1 s1= .ok (t,s'):=by
 simp only[Mb] at h;split at h
 ·rename_i hd args hg;obtain⟨h1,h2⟩:=FT h;obtain⟨h3,h4⟩:=FT (Jl h2).1;obtain⟨⟨t1,s1⟩,h5,h6⟩:=MX h4;simp only[Bool.and_eq_true,decide_eq_true_eq,Option.isNone_iff_eq_none] at h1 h3;simp only at h6;split at h6
  ·rename_i h2 args2 hg2;obtain⟨h7,h8⟩:=FT h6;simp only[Bool.and_eq_true,decide_eq_true_eq] at h7;exact⟨hd,args,hg,h1.1.1,h1.1.2,h1.2,h3.1.1.1,h3.1.1.2,h3.1.2,h3.2,t1,s1,h2,args2,h5,hg2,h7.1,h7.2,h8⟩
  cases h6
 cases h
theorem sT {hd:NH}{t1:Tm}{s1:NS}(h:iV Q hd s d= .ok (t1,s1)) (hk:hd.kind=0): -1000000≤hd.level∧hd.level≤1000000∧t1=Cs (d - 1 - hd.level)∧s1=s:=by
 unfold iV at h;rw[if_pos hk] at h;obtain⟨h1,h2⟩:=FT h;simp only[Bool.and_eq_true,decide_eq_true_eq] at h1;injection h2 with h2;simp only[Prod.mk.injEq] at h2;exact⟨h1.1,h1.2,h2.1.symm,h2.2.symm⟩
theorem oG {hd:NH}{t1:Tm}{s1:NS}(h:iV Q hd s d= .ok (t1,s1)) (hk:¬hd.kind=0):0<hd.kids.length∧hd.body=none∧∃ts,aW Q d hd.kids s= .ok (ts,s1)∧t1= .mk hd.kind 0 ⟨#[]⟩ [] ts:=by
 unfold iV at h;rw[if_neg hk] at h;obtain⟨h1,h2⟩:=FT h;simp only[Bool.and_eq_true,decide_eq_true_eq,Option.isNone_iff_eq_none] at h1;obtain⟨⟨ts,s2⟩,h3,h4⟩:=MX h2;injection h4 with h4;simp only[Prod.mk.injEq] at h4;obtain⟨rfl,rfl⟩:=h4;exact⟨h1.1,h1.2,ts,h3,O⟩
theorem pS {ts:List Tm}(h:aW Q d [] s= .ok (ts,s')):ts=[]∧s'=s:=by
 injection h with h;simp only[Prod.mk.injEq] at h;exact⟨h.1.symm,h.2.symm⟩
theorem nE {xs:List Nat}{ts:List Tm}(h:aW Q d (x::xs) s= .ok (ts,s')):∃y sy ys,Q s x d= .ok (y,sy)∧aW Q d xs sy= .ok (ys,s')∧ts=y::ys:=by
 obtain⟨⟨y,sy⟩,h1,h2⟩:=MX h;obtain⟨⟨ys,sz⟩,h3,h4⟩:=MX h2;injection h4 with h4;simp only[Prod.mk.injEq] at h4;obtain⟨rfl,rfl⟩:=h4;exact⟨y,sy,ys,h1,h3,O⟩
theorem ez (h:YA Q d [] t s= .ok (t',s')):t'=t∧s'=s:=by
 injection h with h;simp only[Prod.mk.injEq] at h;exact⟨h.1.symm,h.2.symm⟩
theorem ZL {xs:List Nat}(h:YA Q d (x::xs) t s= .ok (t',s')):0≤s.nodes∧s.nodes<8000∧0≤d∧d<400∧∃y sy,Q { s with nodes:=s.nodes+1 } x d= .ok (y,sy)∧YA Q d xs (GJ t y) sy= .ok (t',s'):=by
 obtain⟨h1,h2⟩:=FT h;simp only[Bool.and_eq_true,decide_eq_true_eq] at h1;obtain⟨⟨y,sy⟩,h3,h4⟩:=MX h2;exact⟨h1.1.1.1,h1.1.1.2,h1.1.2,h1.2,y,sy,h3,h4⟩
theorem jj (h:Uv (Mb n) n s x d= .ok (t,s')):∃a s1,Mf n (.force x) s= .ok (.st a,s1)∧Mb n s1 (.st a) d= .ok (t,s'):=by
 obtain⟨⟨v,s1⟩,h1,h2⟩:=MX h;obtain⟨_,a,e⟩:=cG h2;simp only at e;subst e;exact⟨a,s1,h1,h2⟩
theorem Wx (h:Uv (Mb n) n s x d= .ok (t,s')):s.objs.length≤s'.objs.length:=by
 obtain⟨a,s1,h1,h2⟩:=jj h;exact Nat.le_trans (LZ h1).2.2.1 (cG h2).1
end
theorem XM {mu l:List Nat}{i x:Nat}(h:l[i]?=some x):(Ug mu l)[i]?=some [N1 mu x]:=by simp[Ug,h]
theorem sP {s:NS}{a:Nat}{o:NO}(hg:s.get a=some o):a<s.objs.length:=by
 unfold NS.get at hg;split at hg
 ·assumption
 cases hg
theorem tm {s:NS}{a:Nat}{o:NO}(hw:Uo s=true) (hg:s.get a=some o):Ue s.objs.length o=true:=by
 unfold NS.get at hg;split at hg
 ·exact List.all_eq_true.1 hw _ (List.mem_of_getElem? hg)
 cases hg
theorem ZD {s:NS}{a:Nat}{h:NH}{args:List Nat}(hw:Uo s=true) (hg:s.get a=some (.stuck h args)):(∀x∈h.kids,x<s.objs.length)∧∀x∈args,x<s.objs.length:=by
 have:=tm hw hg;simp only[Ue,Bool.and_eq_true,List.all_eq_true,decide_eq_true_eq] at this;exact⟨this.1.1,this.2⟩
theorem mU (i:Int):Ci (Cs i):=⟨by simp[uc];rfl,trivial⟩
mutual
theorem WZ (b fr:Int):∀(t:Tm) (d er:Int),Ci t→Ci (CS b fr d er t).1
 | .mk k i n l ks,d,er,h=>by
  rw[CS];split
  ·split
   ·exact h
   split
   ·exact h
   exact mU _
  exact⟨h.1,TN b fr k ks d 0 er h.2⟩
theorem TN (b fr k:Int):∀(ts:List Tm) (d:Int) (j:Nat) (er:Int),eM ts→eM (Cq b fr k d j er ts).1
 | [],d,j,er,h=>trivial
 | t::ts,d,j,er,h=>⟨WZ b fr t _ er h.1,TN b fr k ts d (j+1) _ h.2⟩
end
mutual
theorem Vi {vs:List Tm}(hv:eM vs):∀(t:Tm) (d er nd:Int),Ci t→Ci (B2 vs d er nd t).1
 | .mk k i n l ks,d,er,nd,h=>by
  rw[B2];split
  ·exact h
  split
  ·exact WZ _ _ _ _ _ (aG hv _)
  split
  ·split
   ·exact mU _
   exact h
  exact⟨h.1,TC hv k ks d 0 er _ h.2⟩
theorem TC {vs:List Tm}(hv:eM vs) (k:Int):∀(ts:List Tm) (d:Int) (j:Nat) (er nd:Int),eM ts→eM (Cc vs k d j er nd ts).1
 | [],d,j,er,nd,h=>trivial
 | t::ts,d,j,er,nd,h=>⟨Vi hv t _ er nd h.1,TC hv k ts d (j+1) _ _ h.2⟩
end
theorem gm (t:Tm) (vs:List Tm) (d:Int) (h:Ci t) (hv:eM vs):Ci (B9 t vs d).1:=by
 have hz:Ci BN:=⟨by decide,trivial⟩;unfold B9;split
 ·exact hz
 split
 ·exact hz
 split
 ·exact hz
 exact Vi hv t _ _ _ h
theorem FF {vs:List Tm}(h:∀v∈vs,okB v=true):M6 vs∧MY vs∧Uh vs∧eM vs:=OY vs (J5.2 fun t ht=>KQ (h t ht))
theorem fN {vs:List Tm}(h:∀v∈vs,okB v=true) (hl:vs.length<549755813888):Rf vs 0 :=
 ⟨(FF h).2.1,(FF h).2.2.1,fun x hx=>by have:=Ft (h x hx);omega,by omega,by omega,by omega⟩
theorem KA {b:Tm}{vs:List Tm}(hb:okB b=true) (hv:∀v∈vs,okB v=true):size (B9 b vs 0).1≤4096 :=
 ZV b vs 0 (Bu.1 hb).wt (FF hv).2.1 fun x hx=>by have:=Ft (hv x hx);omega
theorem Nf {b:Tm}{vs:List Tm}(hb:okB b=true) (hv:∀v∈vs,okB v=true) (hl:vs.length<549755813888):okB (B9 b vs 0).1=true:=by
 have o:=Bu.1 hb;obtain⟨h1,h2,h3,h4⟩:=FF hv;have:=KA hb hv;exact Bu.2 ⟨iy b vs 0 o.nd h1,gQ b vs 0 o.wt h2,ib (fN hv hl) o.vp (by have:=o.sz;omega),gm b vs 0 o.ci h4,by omega⟩
theorem Jx.zero:Jx GB:=Jx.num (n:=0) Au
theorem Ql {ps:List CX}(hp:∀p∈ps,B0 p=true):∀(vs:List B6) (out:CX),Jx out→(∀v∈vs,(0≤v.plus∧v.plus≤100)∧ -65536≤v.index∧v.index<8)→Jx (Hr ps out vs).1
 | [],out,h,_=>h
 | v::vs,out,h,hv=>by
  have h1:=hv v Av;have h2:∀u∈vs,(0≤u.plus∧u.plus≤100)∧ -65536≤u.index∧u.index<8:=fun u hu=>hv u (by simp[hu]);rw[Hr];split
  ·rename_i hi;split
   ·exact Jx.zero
   rename_i he;refine Ql hp vs _ (h.join ?_) h2;have hlt:v.index.toNat<ps.length:=by omega
   have hg:ps.getD v.index.toNat default∈ps:=by rw[CO (List.getElem?_eq_getElem hlt)];exact List.getElem_mem hlt
   exact Jx.plus (hp _ hg) h1.1.1 h1.1.2 (Decidable.not_not.1 he)
  exact Ql hp vs _ (h.join (Jx.one h1)) h2
theorem dH (l:CX) (ps:List CX):Jx (C4 l ps).1:=by
 unfold C4;split
 ·exact Jx.zero
 rename_i h;simp only[not_or,Bool.not_eq_false,List.all_eq_true] at h;split
 ·exact Jx.zero
 have hl:=Jx.of h.1;exact Ql h.2 l.vars _ (Jx.num hl.c) hl.rg
theorem WX (ps:List CX):∀(ls:List CX) (er:Int),(F4 ps er ls).1.length=ls.length∧(F4 ps er ls).1.all cm=true
 | [],er=>⟨rfl,rfl⟩
 | l::ls,er=>by
  obtain⟨h1,h2⟩:=WX ps ls (Gi er (C4 l ps).2);simp only[F4,List.length_cons,List.all_cons,Bool.and_eq_true];exact⟨by rw[h1],eP (dH l ps).nd,h2⟩
mutual
theorem SX (ps:List CX):∀(t:Tm) (er:Int),Uk t=true→Uk (JA ps er t).1=true∧size (JA ps er t).1=size t
 | .mk k i n ls ks,er,h=>by
  rw[Lg,Bool.and_eq_true] at h;obtain⟨h1,h2⟩:=WX ps ls er;obtain⟨h3,h4,h5⟩:=V5 ps ks (F4 ps er ls).2 h.2;simp only[JA,Lg,size,Bool.and_eq_true];refine⟨⟨?_,h4⟩,by rw[h5]⟩;have g:=h.1;simp only[v8,Bool.and_eq_true] at g ⊢;rw[h1,h3];exact⟨⟨⟨⟨⟨⟨⟨⟨⟨g.1.1.1.1.1.1.1.1.1,g.1.1.1.1.1.1.1.1.2⟩,h2⟩,g.1.1.1.1.1.1.2⟩,g.1.1.1.1.1.2⟩,g.1.1.1.1.2⟩,g.1.1.1.2⟩,g.1.1.2⟩,g.1.2⟩,g.2⟩
theorem V5 (ps:List CX):∀(ts:List Tm) (er:Int),Ma ts=true→(HZ ps er ts).1.length=ts.length∧Ma (HZ ps er ts).1=true∧BB (HZ ps er ts).1=BB ts
 | [],er,_=>⟨rfl,rfl,rfl⟩
 | t::ts,er,h=>by
  simp only[Ma,Bool.and_eq_true] at h;obtain⟨h1,h2⟩:=SX ps t er h.1;obtain⟨h3,h4,h5⟩:=V5 ps ts (JA ps er t).2 h.2;simp only[HZ,List.length_cons,Ma,Bool.and_eq_true,BB];exact⟨by rw[h3],⟨h1,h4⟩,by rw[h2,h5]⟩
end
theorem kx:Uk BN=true:=by decide
theorem J1:okB BN=true:=by decide
theorem Kh {t:Tm}(ps:List CX) (h:okB t=true):size (BU t ps).1≤size t:=by
 unfold BU;split
 ·exact size_pos t
 exact Nat.le_of_eq (SX ps t 0 (KQ h)).2
theorem LS {t:Tm}(ps:List CX) (h:okB t=true):okB (BU t ps).1=true:=by
 have:=Kh ps h;have:=Ft h;refine OO ?_ Au;unfold BU;split
 ·exact kx
 exact(SX ps t 0 (KQ h)).1
theorem Gn {f:Tm}{xs:List Tm}(h:okB f=true) (hx:∀x∈xs,okB x=true) (hs:size f+BB xs+xs.length<549755813888):okB (apply f xs)=true :=
 OO (Jt (KQ h) fun x hx'=>KQ (hx x hx')) (by rw[Cm];exact hs)
theorem fc {k:Int}{p:Tm}(hk:k=9∨k=10) (h:okB p=true) (hs:size p+1<549755813888):okB (Ha k p)=true:=by
 refine OO ?_ (by simp only[Ha,size,BB];omega);rw[Ha,Lg,Bool.and_eq_true];refine⟨?_,by simp[Ma,KQ h]⟩;rcases hk with rfl | rfl<;>rfl
theorem DE (l:List Tm) (k:Nat):BB (l.take k)+BB (l.drop k)=BB l:=by rw[←IV,List.take_append_drop]
theorem Qp {l:List Tm}{i:Nat}{x y:Tm}(h:l[i]?=some x):BB (l.set i y)+size x=BB l+size y:=by
 induction l generalizing i with
 | nil=>simp at h
 | cons a l ih =>
  cases i with
  | zero=>simp at h;subst h;simp only[List.set_cons_zero,BB];omega
  | succ i =>
   have:=ih (i:=i) (by simpa using h);simp only[List.set_cons_succ,BB];omega
theorem EL:∀(t:Tm),size (Ay t).1+BB (Ay t).2+(Ay t).2.length=size t
 | .mk k i n l [f,a]=>by
  unfold Ay;split
  ·have:=EL f;simp only[IV,BB,size,List.length_append,List.length_cons,List.length_nil];omega
  ·simp[BB]
 | .mk k i n l []=>by simp[Ay,BB]
 | .mk k i n l [_]=>by simp[Ay,BB]
 | .mk k i n l (_::_::_::_)=>by simp[Ay,BB]
mutual
def Dp:FY→Nat
 | .mk _ _ _ l=>1+L7 l
def bC:G3→Nat
 | .mk _ _ t=>Dp t
def L7:List G3→Nat
 | []=>0
 | b::l=>max (bC b) (L7 l)
end
theorem Uc:∀t:FY,1≤Dp t
 | .mk k b v l=>by simp only[Dp];omega
structure G2 (E:List B8):Prop where
 g:MC E
 vl:∀d∈E,size d.value≤400
 ru:∀d∈E,∀t∈d.recs.rules,size t≤400
 fu:∀d∈E,∀f∈d.funs,Dp f.tree≤50
theorem Zz {nm:ByteArray}:∀{l:List G3}{t:FY},Cl nm l=some t→UC l→FD t∧Dp t≤L7 l
 | .mk c a q::l,t,h,ho=>by
  simp only[UC,rM] at ho;rw[Cl] at h;simp only[L7,bC];split at h
  ·split at h
   ·cases h
   cases h;exact⟨ho.1,by simp only[G3.tree];omega⟩
  obtain⟨h1,h2⟩:=Zz h ho.2;exact⟨h1,by omega⟩
theorem Xb {nm:ByteArray}{t t':FY}(h:Cl nm t.branches=some t') (ho:FD t):FD t'∧Dp t' < Dp t:=by
 obtain⟨k,b,v,l⟩:=t;simp only[FD] at ho;obtain⟨h1,h2⟩:=Zz h ho.2;exact⟨h1,by simp only[Dp,FY.branches] at *;omega⟩
theorem KI {E:List B8}{h:Tm}(hu:Up E h=true):∃(i:Nat) (d:B8),E[i]?=some d∧eO d i (BY E h.name).1∧d∈E∧E[(BY E h.name).1.decl.toNat]?=some d:=by
 simp only[Up,Bool.and_eq_true,decide_eq_true_eq] at hu;obtain⟨i,d,h1,h2⟩:=Ps hu.1;exact⟨i,d,h1,h2,List.mem_of_getElem? h1,by rw[h2.decl];simpa using h1⟩
theorem Vq {E:List B8}{nm:ByteArray}{d:B8}{j:Int}(h:GU E nm=some (d,j)):d∈E∧(0≤j→j<d.ctors.length):=by
 unfold GU at h;split at h
 ·cases h
 rename_i h0;obtain⟨i,d',h1,h2⟩:=Ps (Decidable.not_not.1 h0);have hd:CR E (BY E nm).1.decl=d':=CO (by rw[h2.decl];simpa using h1);have hm:=List.mem_of_getElem? h1;rw[hd] at h;split at h
 ·cases h;exact⟨hm,fun q=>by omega⟩
 split at h
 ·rename_i h4;obtain⟨k,c,h5,h6⟩:=h2.ctor h4;cases h;exact⟨hm,fun _=>by have:=(List.getElem?_eq_some_iff.1 h5).1;omega⟩
 split at h
 ·cases h;exact⟨hm,fun q=>by omega⟩
 cases h
structure sg (E:List B8) (t:Tm) (d:B8) (j:Int) (f:List Tm):Prop where
 mem:d∈E
 lo:0≤j
 hi:j<d.ctors.length
 fs:f=(Ay t).2.drop d.fixed.toNat
 len:((Ay t).2.length:Int)=d.fixed+Ed d j
 kind:(Ay t).1.kind=3
theorem Fy {E:List B8}{t:Tm}{d:B8}{j:Int}{f:List Tm}(h:Ce E t=some (d,j,f)):sg E t d j f:=by
 unfold Ce at h;split at h
 ·cases h
 rename_i hk;split at h
 ·cases h
 rename_i d' j' hf;obtain⟨h1,h2⟩:=Vq hf;split at h
 ·cases h
 split at h
 ·cases h
 rename_i h3 h4;cases h;exact⟨h1,by omega,h2 Au,rfl,Decidable.not_not.1 h4,Decidable.not_not.1 hk⟩
theorem JQ {E:List B8}{t:Tm}{d:B8}{j:Int}{f:List Tm}(h:Ce E t=some (d,j,f)) (ho:okB t=true):(∀x∈f,okB x=true∧size x<size t)∧BB f+f.length<size t:=by
 have c:=Fy h;have hs:=EL t;have hp:=size_pos (Ay t).1;have hd:=DE (Ay t).2 d.fixed.toNat;rw[c.fs];refine⟨fun x hx=>⟨(DB ho).2 x (List.mem_of_mem_drop hx),?_⟩,by rw[List.length_drop];omega⟩;have:=FI (List.mem_of_mem_drop hx);omega
theorem JD {E:List B8}{t:Tm}{d:B8}{j:Int}{f:List Tm}(hE:MC E) (h:Ce E t=some (d,j,f)):f.length≤1000000:=by
 have c:=Fy h;have hd:=hE.all d c.mem;have hlo:=c.lo;have hhi:=c.hi;have hlt:j.toNat<d.ctors.length:=by omega
 have hx:=List.getElem?_eq_getElem hlt;have hs:=(hd.din.cs _ (List.getElem_mem hlt)).ty.sz;have hl:=JB d.ctors[j.toNat].type;have hfx:=hd.fx;have hlen:=c.len;rw[c.fs,List.length_drop];unfold Ed aZ EM at hlen;rw[CO hx] at hlen;omega
def C6 {α:Type}(o:Out α) (p:α→Prop):Prop:=match o with
 | .stuck=>False
 | .fail=>True
 | .ok a=>p a
section
variable {α β σ:Type}
theorem C6.ok {a:α}{p:α→Prop}(h:p a):C6 (.ok a) p:=h
theorem C6.ns {o:Out α}{p:α→Prop}(h:C6 o p):o≠ .stuck:=fun e=>by rw[e] at h;exact h
theorem C6.get {o:Out α}{p:α→Prop}{a:α}(h:C6 o p) (e:o= .ok a):p a:=by rw[e] at h;exact h
theorem C6.mono {o:Out α}{p q:α→Prop}(h:C6 o p) (hpq:∀a,p a→q a):C6 o q:=by
 cases o with
 | stuck=>exact h
 | fail=>trivial
 | ok a=>exact hpq a h
theorem C6.bind {o:Out α}{k:α→Out β}{p:α→Prop}{q:β→Prop}(h:C6 o p) (hk:∀a,p a→C6 (k a) q):C6 (o.bind k) q:=by
 cases o with
 | stuck=>exact h
 | fail=>trivial
 | ok a=>exact hk a h
theorem C6.chk {o:Out (Tm×σ)}{k:Tm×σ→Out β}{p:Tm×σ→Prop}{q:β→Prop}(h:C6 o p) (hk:∀a,p a→okB a.1=true∧C6 (k a) q):C6 (o.chk k) q :=
 C6.bind h fun a ha=>by rw[if_pos (hk a ha).1];exact(hk a ha).2
theorem C6.put {S:Sys σ}{s:σ}{x:Tm×Int}{k:Tm→σ→Out β}{q:β→Prop}(ho:okB x.1=true) (hk:∀s',S.res s x.1 x.2=some s'→C6 (k x.1 s') q):C6 (S.put s x k) q:=by
 unfold Sys.put;rw[if_pos ho];cases h:S.res s x.1 x.2 with
 | none=>trivial
 | some s'=>exact hk s' h
end
structure bw {σ:Type} (S:Sys σ) (J:σ→Prop) (cnt:σ→Nat) (C:Nat):Prop where
 nov:∀s,J s→S.over s=false→cnt s≤C
 res:∀s t e s',J s→cnt s<1152921504606846976→okB t=true→S.res s t e=some s'→J s'∧cnt s'=cnt s+1
 hC:C≤20000
section
variable {σ:Type}(S:Sys σ) (J:σ→Prop) (cnt:σ→Nat) (C:Nat)
structure Yg (s:σ) (t:Tm) (r:Tm×σ):Prop where
 j:J r.2
 ok:okB r.1=true
 le:cnt s≤cnt r.2
 sz:size r.1≤size t+(cnt r.2 - cnt s)*4500
 ub:S.over s=false→cnt r.2≤C+1+size t+(C - cnt s)*4500
 st:S.over s=true→r.2=s
structure xZ (n:Nat) (s:σ) (t:Tm):Prop where
 j:J s
 ok:okB t=true
 pm:S.over s=false→size t+(C - cnt s)*4500≤90100000
 fu:S.over s=false→size t+(C - cnt s)*4501+100≤n
 n1:1≤n
def uA (n:Nat) (W:σ→Tm→Out (Tm×σ)):Prop:=∀s t,xZ S J cnt C n s t→C6 (W s t) (Yg S J cnt C s t)
end
section
variable {σ:Type}{S:Sys σ}{J:σ→Prop}{cnt:σ→Nat}{C:Nat}{E:List B8}{n:Nat}{W:σ→Tm→Out (Tm×σ)}
variable (hS:bw S J cnt C) (hE:G2 E) (hW:uA S J cnt C n W)
structure xA (S:Sys σ) (J:σ→Prop) (cnt:σ→Nat) (C n V Z:Nat) (s:σ) (vars:List Tm) (last:Tm):Prop where
 j:J s
 ok:∀v∈vars,okB v=true
 lok:okB last=true
 pm:S.over s=false→∀v∈vars,size v+(C - cnt s)*4500≤V
 fu:S.over s=false→∀v∈vars,size v+(C - cnt s)*4501+100≤n
 lm:S.over s=false→size last+(C - cnt s)*4500≤V∧size last+(C - cnt s)*4501+100≤n
 zs:∀v∈vars,size v≤Z
 lz:size last≤Z
structure rX (S:Sys σ) (J:σ→Prop) (cnt:σ→Nat) (C n V L Z:Nat) (s:σ) (q:(Option (Tm×List Tm)×Tm)×σ):Prop where
 j:J q.2
 le:cnt s≤cnt q.2
 ub:S.over s=false→cnt q.2≤C+1+V
 st:S.over s=true→q.2=s
 ok:∀b vars,q.1.1=some (b,vars)→okB b=true∧∀v∈vars,okB v=true
 vl:∀b vars,q.1.1=some (b,vars)→vars.length≤L∧BB vars<1125899906842624
 lok:okB q.1.2=true
 lz:q.1.1=none→size q.1.2≤Z+(cnt q.2 - cnt s)*4500
 lm:S.over q.2=false→q.1.1=none→size q.1.2+(C - cnt q.2)*4500≤V∧size q.1.2+(C - cnt q.2)*4501+100≤n
include hS hE hW
theorem aA {V L:Nat}(hV:V≤90100000):∀(m:Nat) (t:FY) (vars:List Tm) (last:Tm) (s:σ) (Z:Nat),Dp t≤m→FD t→1≤n→vars.length+Dp t*1000000≤L→BB vars+Dp t*549755813888<1125899906842624→xA S J cnt C n V Z s vars last→C6 (EA E S W m t vars last s) (rX S J cnt C n V L Z s)
 | 0,t,vars,last,s,Z,h,_,_,_,_,_=>absurd h (by have:=Uc t;omega)
 | m+1,t,vars,last,s,Z,h,ht,hn,hL,hM,hp=>by
  by_cases hk:t.kind=1
  ·by_cases hb:t.var<0∨t.var≥(vars.length:Int)∨S.over s=true
   ·rw[KT hk hb];exact C6.ok ⟨hp.j,Nat.le_refl _,fun h=>by have:=hS.nov s hp.j h;simp only;omega,fun _=>rfl,fun b v e=>by simp at e,fun b v e=>by simp at e,hp.lok,fun _=>by have:=hp.lz;simp only;omega,fun h _=>hp.lm h⟩
   have hlt:t.var.toNat<vars.length:=by omega
   have ho:S.over s=false:=by simpa using fun e=>hb (.inr (.inr e))
   have hx:=List.getElem?_eq_getElem hlt;have hm:=List.getElem_mem hlt;rw[L4 hk hb hx];have hcs:=hS.nov s hp.j ho;refine C6.chk (hW s _ ⟨hp.j,hp.ok _ hm,fun _=>by have:=hp.pm ho _ hm;omega,fun _=>hp.fu ho _ hm,hn⟩) fun r hr=>⟨hr.ok,?_⟩;have hpm:=hp.pm ho _ hm;have hfu:=hp.fu ho _ hm;have hub:=hr.ub ho;have hle:=hr.le;have hsz:=hr.sz;have hlm:S.over r.2=false→size r.1+(C - cnt r.2)*4500≤V∧size r.1+(C - cnt r.2)*4501+100≤n:=fun h=>by have:=hS.nov _ hr.j h;omega
   have hstop:C6 (.ok ((none,r.1),r.2)) (rX S J cnt C n V L Z s) :=
    C6.ok ⟨hr.j,hr.le,fun _=>by simp only;omega,fun e=>absurd (ho.symm.trans e) Av,fun b v e=>by simp at e,fun b v e=>by simp at e,hr.ok,fun _=>by have:=hp.zs _ hm;simp only;omega,fun h _=>hlm h⟩
   cases hc:Ce E r.1 with
   | none=>rw[G7 hc];exact hstop
   | some q =>
    obtain⟨d,j,f⟩:=q;cases hbr:Cl (EM d j).name t.branches with
    | none=>rw[JK hc hbr];exact hstop
    | some t' =>
     rw[JM hc hbr];obtain⟨h1,h2⟩:=Xb hbr ht;obtain⟨h3,h4⟩:=JQ hc hr.ok;have h5:=Ft hr.ok;refine C6.mono (aA (L:=L) hV m t' (vars++f) r.1 r.2 (Z+(cnt r.2 - cnt s)*4500) Au h1 hn (by have:=JD hE.g hc;rw[List.length_append];omega) (by rw[IV];omega) ⟨hr.j,fun v hv=>?_,hr.ok,fun h v hv=>?_,fun h v hv=>?_,hlm,fun v hv=>?_,by have:=hp.zs _ hm;omega⟩) fun q hq=>?_
     ·rcases List.mem_append.1 hv with hv | hv
      ·exact hp.ok v hv
      exact(h3 v hv).1
     ·have:=hS.nov _ hr.j h;rcases List.mem_append.1 hv with hv | hv
      ·have:=hp.pm ho v hv;omega
      have:=(h3 v hv).2;omega
     ·have:=hS.nov _ hr.j h;rcases List.mem_append.1 hv with hv | hv
      ·have:=hp.fu ho v hv;omega
      have:=(h3 v hv).2;omega
     ·have hzm:=hp.zs _ hm;rcases List.mem_append.1 hv with hv | hv
      ·have:=hp.zs v hv;omega
      have:=(h3 v hv).2;omega
     refine⟨hq.j,by have:=hq.le;omega,fun _=>?_,fun e=>absurd (ho.symm.trans e) Av,hq.ok,hq.vl,hq.lok,fun e=>by have:=hq.lz e;have:=hq.le;omega,hq.lm⟩;cases hov:S.over r.2 with
     | true=>rw[hq.st hov];omega
     | false=>exact hq.ub hov
  rw[Is hk];refine C6.ok ⟨hp.j,Nat.le_refl _,fun h=>by have:=hS.nov s hp.j h;simp only;omega,fun _=>rfl,fun b v e=>?_,fun b v e=>?_,J1,fun e=>by simp at e,fun h e=>by simp at e⟩
  ·simp only[Option.some.injEq,Prod.mk.injEq] at e;obtain⟨rfl,rfl⟩:=e;refine⟨?_,hp.ok⟩;obtain⟨k,b,v,l⟩:=t;simp only[FD] at ht;exact ht.1
  simp only[Option.some.injEq,Prod.mk.injEq] at e;obtain⟨rfl,rfl⟩:=e;omega
end
section
variable {σ:Type}{S:Sys σ}{J:σ→Prop}{cnt:σ→Nat}{C:Nat}{E:List B8}{n:Nat}{W:σ→Tm→Out (Tm×σ)}
structure fg (S:Sys σ) (J:σ→Prop) (cnt:σ→Nat) (C:Nat) (s:σ) (z:Nat) (r:Option Tm×σ):Prop where
 j:J r.2
 le:cnt s≤cnt r.2
 ub:cnt r.2≤C+1+z+(C - cnt s)*4500
 ok:∀x,r.1=some x→okB x=true∧cnt s+1≤cnt r.2∧size x≤z+(cnt r.2 - cnt s)*4500
variable (hS:bw S J cnt C)
include hS
theorem gu {d:B8}{h:Tm}{a:List Tm}{s:σ}(hj:J s) (hc:cnt s≤C) (hv:okB d.value=true) (hs:size d.value≤400) (ha:∀x∈a,okB x=true) (hz:size h+BB a+a.length≤90100000):C6 (EP S d h a s) (fg S J cnt C s (size h+BB a+a.length)):=by
 have hC:=hS.hC;by_cases he:(BU d.value h.levels).2=0
 ·rw[KD he];have h1:=Kh h.levels hv;have h2:=LS h.levels hv;refine C6.put h2 fun s' hs'=>?_;obtain⟨h3,h4⟩:=hS.res _ _ _ _ hj Au h2 hs';have h5:=Cm a (BU d.value h.levels).1;refine C6.ok ⟨h3,by simp only;omega,by simp only;omega,fun x hx=>?_⟩;simp only[Option.some.injEq] at hx;subst hx;exact⟨Gn h2 ha Au,by simp only;omega,by simp only;omega⟩
 rw[Jv he];exact C6.ok ⟨hj,Nat.le_refl _,by simp only;omega,fun x hx=>by cases hx⟩
theorem lR {b h:Tm}{vars rest:List Tm}{s:σ}{z:Nat}(hj:J s) (hc:cnt s≤C) (hb:okB b=true) (hv:∀v∈vars,okB v=true) (hl:vars.length<549755813888) (hsv:BB vars<1125899906842624) (hr:∀x∈rest,okB x=true) (hz:BB rest+rest.length≤z) (hz2:z≤90100000):C6 (FE S h b vars rest s) (fun r=>J r.2∧cnt s≤cnt r.2∧cnt r.2≤cnt s+1∧∀x,r.1=some x→okB x=true∧cnt r.2=cnt s+1∧size x≤z+4096):=by
 have hC:=hS.hC;by_cases he:(BU b h.levels).2=0
 ·have h1:=LS h.levels hb;have hvr:∀v∈vars.reverse,okB v=true:=fun v hm=>hv v (List.mem_reverse.1 hm);have h2:=Nf h1 hvr (by rw[List.length_reverse];exact hl);have h3:=KA h1 hvr;rw[FE,if_neg Au,if_neg (by simp only[not_or,Bool.not_eq_false];exact⟨h1,List.all_eq_true.2 hv,by omega⟩)];refine C6.put h2 fun s' hs'=>?_;obtain⟨h4,h5⟩:=hS.res _ _ _ _ hj Au h2 hs';have h6:=Cm rest (B9 (BU b h.levels).1 vars.reverse 0).1;refine C6.ok ⟨h4,by simp only;omega,by simp only;omega,fun x hx=>?_⟩;simp only[Option.some.injEq] at hx;subst hx;exact⟨Gn h2 hr Au,by simp only;omega,by omega⟩
 rw[KE he];exact C6.ok ⟨hj,Nat.le_refl _,by simp only;omega,fun x hx=>by cases hx⟩
variable (hE:G2 E)
include hE
theorem Zy {d:B8}{h m:Tm}{a:List Tm}{s:σ}(hd:d∈E) (hj:J s) (hc:cnt s≤90200000) (hm:okB m=true) (ha:∀x∈a,okB x=true) {z:Nat}{y:Tm}(hy:a[(Bv d).toNat]?=some y) (hz:BB a+a.length+size m≤z+size y) (hz2:z≤500000000000) :
  C6 (ER E S d h a m s) (fun r=>J r.2∧cnt s≤cnt r.2∧cnt r.2≤cnt s+1∧∀x,r.1=some x→okB x=true∧cnt r.2=cnt s+1∧size x≤z+4500):=by
 have hg:=hE.g.all d hd;have hnone:C6 (.ok (none,s)) (fun r:Option Tm×σ=>J r.2∧cnt s≤cnt r.2∧cnt r.2≤cnt s+1∧∀x,r.1=some x→okB x=true∧cnt r.2=cnt s+1∧size x≤z+4500) :=
  C6.ok ⟨hj,Nat.le_refl _,by simp only;omega,fun x hx=>by cases hx⟩
 cases hcw:Ce E m with
 | none=>rw[Nc hcw];exact hnone
 | some q =>
  obtain⟨e,j,f⟩:=q;by_cases hn:e.name≠d.name∨j≥(d.recs.rules.length:Int)
  ·rw[SJ hcw hn];exact hnone
  have hcf:=Fy hcw;have hlo:=hcf.lo;have hlt:j.toNat<d.recs.rules.length:=by omega
  have hr:=List.getElem?_eq_getElem hlt;have hrm:=List.getElem_mem hlt;by_cases he:(BU d.recs.rules[j.toNat] h.levels).2=0
  ·rw[NY hcw hn hr he];have h1:=hg.ru _ hrm;have h2:=LS h.levels h1;have h3:=Kh h.levels h1;have h4:=hE.ru d hd _ hrm;obtain⟨h5,h6⟩:=JQ hcw hm;have hni:=(GM hg.din hg.fx).1;have hf0:=hg.fx.1;have hk:(d.fixed+1+d.ctors.length).toNat≤(Bv d).toNat:=by unfold Bv;omega
   have hnn:(Bv d+1).toNat=(Bv d).toNat+1:=by unfold Bv;omega
   have t1:=DE a (Bv d).toNat;have t2:=DE (a.take (Bv d).toNat) (d.fixed+1+d.ctors.length).toNat;rw[List.take_take,Nat.min_eq_left hk] at t2;rw[Cd hy] at t1;simp only[BB] at t1;have hlen:=(List.getElem?_eq_some_iff.1 hy).1;have u1:=Cm (a.take (d.fixed+1+d.ctors.length).toNat) (BU d.recs.rules[j.toNat] h.levels).1;have u2:=Cm f (apply (BU d.recs.rules[j.toNat] h.levels).1 (a.take (d.fixed+1+d.ctors.length).toNat));have hl1:(a.take (d.fixed+1+d.ctors.length).toNat).length≤(Bv d).toNat:=by rw[List.length_take];omega
   have hl2:(a.drop ((Bv d).toNat+1)).length+(Bv d).toNat+1=a.length:=by rw[List.length_drop];omega
   have h7:okB (apply (apply (BU d.recs.rules[j.toNat] h.levels).1 (a.take (d.fixed+1+d.ctors.length).toNat)) f)=true :=
    OO (Jt (Jt (KQ h2) fun x hx=>KQ (ha x (List.mem_of_mem_take hx))) fun x hx=>KQ (h5 x hx).1) (by rw[u2,u1];omega)
   refine C6.put h7 fun s' hs'=>?_;obtain⟨h8,h9⟩:=hS.res _ _ _ _ hj Au h7 hs';have u3:=Cm (a.drop (Bv d+1).toNat) (apply (apply (BU d.recs.rules[j.toNat] h.levels).1 (a.take (d.fixed+1+d.ctors.length).toNat)) f);rw[hnn] at u3;refine C6.ok ⟨h8,by simp only;omega,by simp only;omega,fun x hx=>?_⟩;simp only[Option.some.injEq] at hx;subst hx;rw[hnn];exact⟨OO (Jt (KQ h7) fun x hx=>KQ (ha x (List.mem_of_mem_drop hx))) Au,h9,by omega⟩
  rw[Mp hcw hn hr he];exact hnone
variable (hW:uA S J cnt C n W)
include hW
theorem iN {h:Tm}{a:List Tm}{s:σ}(hn:100≤n) (hj:J s) (ho:S.over s=false) (ha:∀x∈a,okB x=true) (hz:size h+BB a+a.length+(C - cnt s)*4500≤90100000) (hf:size h+BB a+a.length+(C - cnt s)*4501+100≤n+1) :
  C6 (Dc E S W n h a s) (fg S J cnt C s (size h+BB a+a.length)):=by
 have hC:=hS.hC;have hc:=hS.nov s hj ho;have hh:=size_pos h;have hnone:C6 (.ok (none,s)) (fg S J cnt C s (size h+BB a+a.length)):=C6.ok ⟨hj,Nat.le_refl _,by simp only;omega,fun x hx=>by cases hx⟩;cases hu:Up E h with
 | false=>rw[L2 hu];exact hnone
 | true =>
  obtain⟨i,d,h1,h2,hd,h3⟩:=KI hu;have hg:=hE.g.all d hd;by_cases k1:(BY E h.name).1.kind=1
  ·rw[Jr hu h3 k1];exact gu hS hj hc hg.vl (hE.vl d hd) ha Au
  by_cases k5:(BY E h.name).1.kind=5
  ·rw[Jw hu h3 k5];by_cases hl:(a.length:Int)≤Bv d
   ·rw[Rv hl];exact hnone
   have hni:=(GM hg.din hg.fx).1;have hf0:=hg.fx.1;have hlt:(Bv d).toNat<a.length:=by unfold Bv at *;omega
   have hy:=List.getElem?_eq_getElem hlt;have hym:=List.getElem_mem hlt;have hys:=FI hym;rw[Xc hl hy];refine C6.chk (hW s _ ⟨hj,ha _ hym,fun _=>by omega,fun _=>by omega,by omega⟩) fun r hr=>⟨hr.ok,?_⟩;have hub:=hr.ub ho;have hsz:=hr.sz;have hle:=hr.le;refine C6.mono (Zy hS hE hd hr.j Au hr.ok ha (z:=BB a+a.length+(cnt r.2 - cnt s)*4500) hy Au Au) fun q hq=>?_;obtain⟨q1,q2,q3,q4⟩:=hq;exact⟨q1,by omega,by omega,fun x hx=>by obtain⟨q5,q6,q7⟩:=q4 x hx;exact⟨q5,by omega,by omega⟩⟩
  by_cases k6:(BY E h.name).1.kind=6
  ·obtain⟨k,f,h4,h5⟩:=h2.func k6;have hf3:d.funs[(BY E h.name).1.item.toNat]?=some f:=by rw[h5];simpa using h4
   have hfm:=List.mem_of_getElem? h4;obtain⟨f1,f2,f3⟩:=hg.fu f hfm;rw[Iq hu h3 k6 hf3];by_cases hl:(a.length:Int)<f.arity
   ·rw[NU hl];exact hnone
   rw[NT hl];have hts:=DE a f.arity.toNat;refine C6.bind (aA hS hE hW (V:=size h+BB a+a.length - 1+(C - cnt s)*4500) (L:=60000000) Au n f.tree (a.take f.arity.toNat) BN s (size h+BB a+a.length) (by have:=hE.fu d hd f hfm;omega) f3 Au (by have:=hE.fu d hd f hfm;rw[List.length_take];omega) (by have:=hE.fu d hd f hfm;omega)
    ⟨hj,fun v hv=>ha v (List.mem_of_mem_take hv),J1,fun _ v hv=>by have:=FI (List.mem_of_mem_take hv);omega,fun _ v hv=>by have:=FI (List.mem_of_mem_take hv);omega,fun _=>?_,fun v hv=>by have:=FI (List.mem_of_mem_take hv);omega,by have:size BN=1:=rfl;omega⟩) fun q hq=>?_
   ·have:size BN=1:=rfl;have:1≤a.length:=by omega
    omega
   have hub:=hq.ub ho;have hle:=hq.le;have hstop:C6 (.ok (none,q.2)) (fg S J cnt C s (size h+BB a+a.length)):=C6.ok ⟨hq.j,hq.le,by simp only;omega,fun x hx=>by cases hx⟩;unfold P3;cases hq1:q.1.1 with
   | none=>exact hstop
   | some bv =>
    obtain⟨b,vars⟩:=bv;obtain⟨o1,o2⟩:=hq.ok b vars hq1;simp only;cases hov:S.over q.2 with
    | true=>rw[if_pos rfl];exact hstop
    | false =>
     rw[if_neg Av];have hc2:=hS.nov _ hq.j hov;refine C6.mono (lR hS (z:=BB a+a.length) hq.j hc2 o1 o2 (by have:=(hq.vl b vars hq1).1;omega) (hq.vl b vars hq1).2 (fun x hx=>ha x (List.mem_of_mem_drop hx)) (by rw[List.length_drop];omega) Au) fun r hr=>?_;obtain⟨q1,q2,q3,q4⟩:=hr;exact⟨q1,by omega,by omega,fun x hx=>by obtain⟨q5,q6,q7⟩:=q4 x hx;exact⟨q5,by omega,by omega⟩⟩
  rw[Pt hu k1 k5 k6];exact hnone
end
theorem ED {h:Tm}(ho:okB h=true) {i:Nat}(hi:(i:Int)<arity h.kind):∃x,h.kids[i]?=some x∧okB x=true∧size x<size h:=by
 obtain⟨k,j,n,l,ks⟩:=h;have hw:=(Bu.1 ho).wt;simp only[Wt] at hw;simp only[Tm.kind] at hi;have hlt:i<ks.length:=by have:=hw.1;omega
 have hx:(Tm.mk k j n l ks).kids[i]?=some ks[i]:=List.getElem?_eq_getElem hlt;exact⟨ks[i],hx,Fh ho hx,by have:=CU (List.getElem?_eq_getElem hlt);simp only[size];omega⟩
section
variable {σ:Type}{S:Sys σ}{J:σ→Prop}{cnt:σ→Nat}{C:Nat}{E:List B8}
variable (hS:bw S J cnt C) (hE:G2 E)
include hS
theorem mS {β:Type}{s:σ}{x:Tm×Int}{k:Tm→σ→Out β}{q:β→Prop}(hj:J s) (hc:cnt s<1152921504606846976) (ho:okB x.1=true) (hk:∀s',J s'→cnt s'=cnt s+1→C6 (k x.1 s') q):C6 (S.put s x k) q :=
 C6.put ho fun s' hs'=>by obtain⟨h1,h2⟩:=hS.res _ _ _ _ hj hc ho hs';exact hk s' h1 h2
theorem sB {β:Type}{h:Tm}{a:List Tm}{s:σ}{k:Tm→σ→Out β}{q:β→Prop}(hj:J s) (hc:cnt s<1152921504606846976) (hh:okB h=true) (ha:∀x∈a,okB x=true) (hk:h.kind=5) (hl:a.length≠0) (hz:BB a+a.length<500000000000)
  (hq:∀x s',J s'→cnt s'=cnt s+1→okB x=true→size x≤4096+BB a+a.length→C6 (k x s') q):C6 (KC S h a s k) q:=by
 obtain⟨b,hb,ho,hs⟩:=ED hh (i:=1) (by rw[hk];decide);rw[KC,hb];simp only;have hv:∀v∈a.take 1,okB v=true:=fun v hv=>ha v (List.mem_of_mem_take hv);have h1:=Nf ho hv (by rw[List.length_take];omega);have h2:=KA ho hv;refine mS hS hj hc h1 fun s' g1 g2=>?_;have h3:=DE a 1;have h4:=Cm (a.drop 1) (B9 b (a.take 1) 0).1;have h5:(a.drop 1).length≤a.length:=by rw[List.length_drop];omega
 exact hq _ s' g1 g2 (Gn h1 (fun x hx=>ha x (List.mem_of_mem_drop hx)) Au) Au
theorem vf {β:Type}{h:Tm}{a:List Tm}{s:σ}{k:Tm→σ→Out β}{q:β→Prop}(hj:J s) (hc:cnt s<1152921504606846976) (hh:okB h=true) (ha:∀x∈a,okB x=true) (hk:h.kind=11) (hz:BB a+a.length<500000000000)
  (hq:∀x s',J s'→cnt s'=cnt s+1→okB x=true→size x≤4096+BB a+a.length→C6 (k x s') q):C6 (OV S h a s k) q:=by
 obtain⟨v,hv,ho,hs⟩:=ED hh (i:=1) (by rw[hk];decide);obtain⟨b,hb,ho2,hs2⟩:=ED hh (i:=2) (by rw[hk];decide);rw[OV,hv,hb];simp only;have hvs:∀x∈[v],okB x=true:=fun x hx=>by rw[List.mem_singleton.1 hx];exact ho
 have h1:=Nf ho2 hvs Av;have h2:=KA ho2 hvs;refine mS hS hj hc h1 fun s' g1 g2=>?_;have h4:=Cm a (B9 b [v] 0).1;exact hq _ s' g1 g2 (Gn h1 ha Au) Au
theorem rz {β:Type}{h p:Tm}{a:List Tm}{s:σ}{k:Tm→σ→Out β}{q:β→Prop}(hj:J s) (hc:cnt s<1152921504606846976) (hp:okB p=true) (ha:∀x∈a,okB x=true) (hk:h.kind=9∨h.kind=10) (h8:p.kind=8) (hz:size p+BB a+a.length<540000000000)
  (hq:∀x s',J s'→cnt s'=cnt s+1→okB x=true→size x<size p+BB a+a.length→C6 (k x s') q):C6 (Jf S h p a s k) q:=by
 have har:arity 8=3:=rfl;obtain⟨y,hy,ho,hs⟩:=ED hp (i:=(1+h.kind - 9).toNat) (by rw[h8,har];omega);rw[Jf,hy];simp only;refine mS hS hj hc ho fun s' g1 g2=>?_;have h4:=Cm a y;exact hq (apply y a) s' g1 g2 (Gn ho ha Au) Au
include hE
theorem mr:∀n,uA S J cnt C n (FM E S n)
 | 0=>fun s t hp=>absurd hp.n1 Au
 | n+1=>fun s t hp=>by
  have ih:=mr n;have hC:=hS.hC;cases ho:S.over s with
  | true=>rw[dJ hp.ok ho];exact C6.ok ⟨hp.j,hp.ok,Nat.le_refl _,by simp,fun h=>absurd (ho.symm.trans h) Av,fun _=>rfl⟩
  | false =>
   have hc:=hS.nov s hp.j ho;have hpm:=hp.pm ho;have hfu:=hp.fu ho;have hst:=size_pos t;have hss:=EL t;obtain⟨oh,oa⟩:=DB hp.ok;have hsame:∀s',J s'→cnt s≤cnt s'→cnt s'≤C+1+size t+(C - cnt s)*4500→C6 (.ok (t,s')) (Yg S J cnt C s t):=fun s' g1 g2 g3 =>
    C6.ok ⟨g1,hp.ok,g2,by simp only;omega,fun _=>g3,fun e=>absurd (ho.symm.trans e) Av⟩
   have cont:∀(x:Tm) (s':σ),J s'→okB x=true→cnt s+1≤cnt s'→size x≤size t+(cnt s' - cnt s)*4500→cnt s'≤C+1+size t+(C - cnt s)*4500→C6 (FM E S n s' x) (Yg S J cnt C s t):=by
    intro x s' g1 g2 g3 g4 g5;refine C6.mono (ih s' x ⟨g1,g2,fun h=>by have:=hS.nov _ g1 h;omega,fun h=>by have:=hS.nov _ g1 h;omega,by omega⟩) fun r hr=>?_;have hle:=hr.le;have hsz:=hr.sz;refine⟨hr.j,hr.ok,by omega,by omega,fun _=>?_,fun e=>absurd (ho.symm.trans e) Av⟩;cases hov:S.over s' with
    | true=>rw[hr.st hov];exact g5
    | false=>have:=hr.ub hov;have:=hS.nov _ g1 hov;omega
   cases hm:S.many (Ay t).2.length with
   | true=>rw[ep hp.ok ho hm];trivial
   | false =>
    by_cases k5:(Ay t).1.kind=5
    ·by_cases hl:(Ay t).2.length=0
     ·rw[MI hp.ok ho hm k5 hl];exact hsame s hp.j (Nat.le_refl _) Au
     obtain⟨b,hb,_⟩:=ED oh (i:=1) (by rw[k5];decide);have e:=UH (E:=E) (n:=n) hp.ok ho hm k5 hl hb;rw[e];have hbt:=sB hS (k:=fun x s'=>FM E S n s' x) (q:=Yg S J cnt C s t) hp.j Au oh oa k5 hl Au fun x s' g1 g2 g3 g4=>cont x s' g1 g3 Au Au Au;rw[KC,hb] at hbt;exact hbt
    by_cases k11:(Ay t).1.kind=11
    ·obtain⟨v,hv,_⟩:=ED oh (i:=1) (by rw[k11];decide);obtain⟨b,hb,_⟩:=ED oh (i:=2) (by rw[k11];decide);rw[Ta (E:=E) (n:=n) hp.ok ho hm k11 hv hb];have hbt:=vf hS (k:=fun x s'=>FM E S n s' x) (q:=Yg S J cnt C s t) hp.j Au oh oa k11 Au fun x s' g1 g2 g3 g4=>cont x s' g1 g3 Au Au Au;rw[OV,hv,hb] at hbt;exact hbt
    by_cases k9:(Ay t).1.kind=9∨(Ay t).1.kind=10
    ·obtain⟨p,hpk,op,sp⟩:=ED oh (i:=0) (by rcases k9 with h | h<;>rw[h]<;>decide);rw[LY (E:=E) (n:=n) hp.ok ho hm k9 hpk];refine C6.chk (ih s p ⟨hp.j,op,fun _=>by omega,fun _=>by omega,by omega⟩) fun r hr=>⟨hr.ok,?_⟩;have hub:=hr.ub ho;have hsz:=hr.sz;have hle:=hr.le;by_cases k8:r.1.kind=8
     ·have e:RW E S n (Ay t).1 (Ay t).2 r=Jf S (Ay t).1 r.1 (Ay t).2 r.2 fun x s'=>FM E S n s' x:=by rw[RW,if_neg Au]
      rw[e];exact rz hS hr.j Au hr.ok oa k9 k8 Au fun x s' g1 g2 g3 g4=>cont x s' g1 g3 Au Au Au
     rw[KF k8];have h4:=Cm (Ay t).2 (Ha (Ay t).1.kind r.1);have h5:size (Ha (Ay t).1.kind r.1)=1+size r.1:=by simp only[Ha,size,BB];omega
     have h6:1+size p≤size (Ay t).1:=by omega
     exact C6.ok ⟨hr.j,Gn (fc k9 hr.ok Au) oa Au,hle,by simp only;omega,fun _=>by simp only;omega,fun e=>absurd (ho.symm.trans e) Av⟩
    by_cases k3:(Ay t).1.kind=3
    ·rw[JG (E:=E) (n:=n) hp.ok ho hm k3];refine C6.bind (iN hS hE ih Au hp.j ho oa Au Au) fun r hr=>?_;have hub:=hr.ub;unfold dg;cases hr1:r.1 with
     | none=>exact hsame r.2 hr.j hr.le Au
     | some x =>
      obtain⟨g1,g2,g3⟩:=hr.ok x hr1;exact cont x r.2 hr.j g1 g2 Au Au
    rw[Sk (E:=E) (n:=n) hp.ok ho hm k5 k11 (fun h=>k9 (.inl h)) (fun h=>k9 (.inr h)) k3];exact hsame s hp.j (Nat.le_refl _) Au
end
def S3:Tm→List Int→Tm→Prop
 | t,[],v=>t=v
 | t,p::ps,v=>∃y,(Ay t).2[p.toNat]?=some y∧S3 y ps v
theorem VH {k:Int}{w:Tm}:∀{ps:List Int}{t v:Tm},S3 t ps v→(Ay v).2[k.toNat]?=some w→S3 t (ps++[k]) w
 | [],t,v,h,hw=>by cases h;exact⟨w,hw,rfl⟩
 | p::ps,t,v,⟨y,h1,h2⟩,hw=>⟨y,h1,VH h2 hw⟩
theorem Xu {l:List Tm}{i:Nat}{x:Tm}(h:∀y∈l,okB y=true) (hx:okB x=true):∀y∈l.set i x,okB y=true:=fun y hy=>by
 rcases List.mem_or_eq_of_mem_set hy with hy | hy
 ·exact h y hy
 rw[hy];exact hx
theorem Zx {x v:Tm}(hx:okB x=true):∀(ps:List Int) (t:Tm),S3 t ps v→okB t=true→size t+size x<549755813888→∃z,Ic t ps x=some z∧okB z=true∧size z+size v=size t+size x
 | [],t,h,ho,hs=>by cases h;exact⟨x,by rw[Ic],hx,by omega⟩
 | p::ps,t,⟨y,h1,h2⟩,ho,hs=>by
  have h3:=EL t;obtain⟨oh,oa⟩:=DB ho;have hm:=List.mem_of_getElem? h1;have h4:=FI hm;obtain⟨z,e1,e2,e3⟩:=Zx hx ps y h2 (oa y hm) Au;have h5:=Qp (y:=z) h1;have h6:=Cm ((Ay t).2.set p.toNat z) (Ay t).1;have h7:((Ay t).2.set p.toNat z).length=(Ay t).2.length:=List.length_set;exact⟨apply (Ay t).1 ((Ay t).2.set p.toNat z),by rw[Ic,h1];simp only[e1,Option.map_some],Gn oh (Xu oa e2) Au,by omega⟩
structure jC (a vars:List Tm) (pl:List (Int×List Int)):Prop where
 len:pl.length=vars.length
 at_:∀(i:Nat) v,vars[i]?=some v→∃j path y,pl[i]?=some (j,path)∧a[j.toNat]?=some y∧S3 y path v
theorem Iu (p:Int×List Int) (fx:Int) (n:Nat):(De p fx n).length=n:=by simp[De]
theorem jC.more {a vars:List Tm}{pl:List (Int×List Int)}(h:jC a vars pl) {i:Nat}{v:Tm}{p:Int×List Int}(hv:vars[i]?=some v) (hp:pl[i]?=some p) {fx:Int}(hfx:0≤fx):jC a (vars++(Ay v).2.drop fx.toNat) (pl++De p fx ((Ay v).2.drop fx.toNat).length):=by
 refine⟨by rw[List.length_append,List.length_append,h.len,Iu],fun q w hw=>?_⟩;by_cases hq:q<vars.length
 ·rw[List.getElem?_append_left hq] at hw;rw[List.getElem?_append_left (by rw[h.len];exact hq)];exact h.at_ q w hw
 rw[List.getElem?_append_right Au] at hw;rw[List.getElem?_append_right (by rw[h.len];omega),h.len];obtain⟨j,path,y,h1,h2,h3⟩:=h.at_ i v hv;rw[hp] at h1;cases h1;have hlt:=(List.getElem?_eq_some_iff.1 hw).1;rw[List.getElem?_drop] at hw;refine⟨j,path++[fx+((q - vars.length:Nat):Int)],y,?_,h2,VH h3 (by rw[show (fx+((q - vars.length:Nat):Int)).toNat=fx.toNat+(q - vars.length) by omega];exact hw)⟩;rw[De,List.getElem?_map,List.getElem?_range hlt];rfl
theorem VF (a:List Tm) (n:Nat) (hn:n≤a.length):jC a (a.take n) ((List.range n).map fun i:Nat=>((i:Int),[])):=by
 refine⟨by simp;omega,fun i v hv=>?_⟩;have hlt:=(List.getElem?_eq_some_iff.1 hv).1;rw[List.length_take] at hlt;rw[List.getElem?_take_of_lt Au] at hv;exact⟨(i:Int),[],v,by rw[List.getElem?_map,List.getElem?_range Au];rfl,by simpa using hv,rfl⟩
section
variable {σ:Type}{S:Sys σ}{J:σ→Prop}{cnt:σ→Nat}{C:Nat}{E:List B8}
structure TD (S:Sys σ) (J:σ→Prop) (cnt:σ→Nat) (s:σ) (z:Nat) (r:Option Tm×σ):Prop where
 j:J r.2
 le:cnt s≤cnt r.2
 ub:cnt r.2≤cnt s+1
 ok:∀x,r.1=some x→okB x=true∧size x≤z+4500
variable (hS:bw S J cnt C) (hE:G2 E)
omit hS hE in
theorem KY {s:σ}{z:Nat}(hj:J s):C6 (.ok (none,s)) (TD S J cnt s z):=C6.ok ⟨hj,Nat.le_refl _,by simp,fun x e=>by simp at e⟩
include hS
theorem lB {b h:Tm}{vars rest:List Tm}{s:σ}{z:Nat}(hj:J s) (hc:cnt s≤90000000) (hb:okB b=true) (hv:∀v∈vars,okB v=true) (hl:vars.length<549755813888) (hsv:BB vars<1125899906842624) (hr:∀x∈rest,okB x=true) (hz:BB rest+rest.length≤z) (hz2:z≤500000000000):C6 (FE S h b vars rest s) (TD S J cnt s z):=by
 by_cases he:(BU b h.levels).2=0
 ·have h1:=LS h.levels hb;have hvr:∀v∈vars.reverse,okB v=true:=fun v hm=>hv v (List.mem_reverse.1 hm);have h2:=Nf h1 hvr (by rw[List.length_reverse];exact hl);have h3:=KA h1 hvr;rw[FE,if_neg Au,if_neg (by simp only[not_or,Bool.not_eq_false];exact⟨h1,List.all_eq_true.2 hv,by omega⟩)];refine mS hS hj Au h2 fun s' h4 h5=>?_;have h6:=Cm rest (B9 (BU b h.levels).1 vars.reverse 0).1;refine C6.ok ⟨h4,by simp only;omega,by simp only;omega,fun x hx=>?_⟩;simp only[Option.some.injEq] at hx;subst hx;exact⟨Gn h2 hr Au,by omega⟩
 rw[KE he];exact KY hj
include hE
theorem dT {T:σ→Tm→Out (Option Tm×σ)}{h:Tm}{ar:Int}{a:List Tm}{z:Nat}(hh:okB h=true) (ha:∀x∈a,okB x=true) (hz:size h+BB a+a.length≤z) (hz2:z≤1000000000) (hT:∀v s,J s→cnt s≤90000000→okB v=true→size v<z→C6 (T s v) (TD S J cnt s (size v))) :
  ∀(m:Nat) (t:FY) (vars:List Tm) (pl:List (Int×List Int)) (s:σ),Dp t≤m→FD t→(∀v∈vars,okB v=true∧size v<z)→vars.length+Dp t*1000000≤100000000→BB vars+Dp t*549755813888<1125899906842624→jC a vars pl→J s→cnt s≤90000000→C6 (Fs E S T h ar a m t vars pl s) (TD S J cnt s z)
 | 0,t,vars,pl,s,hd,_,_,_,_,_,_,_=>absurd hd (by have:=Uc t;omega)
 | m+1,t,vars,pl,s,hd,ht,hv,hL,hM,hp,hj,hc=>by
  rw[Fs];split
  ·split
   ·exact KY hj
   rename_i hb;have hlt:t.var.toNat<vars.length:=by omega
   have hx:=List.getElem?_eq_getElem hlt;have hxm:=List.getElem_mem hlt;obtain⟨j,path,y,p1,p2,p3⟩:=hp.at_ _ _ hx;rw[CO hx,CO p1];obtain⟨v1,v2⟩:=hv _ hxm;have hym:=List.mem_of_getElem? p2;have hys:=FI hym;cases hc2:Ce E vars[t.var.toNat] with
   | none =>
    refine C6.bind (hT _ s hj hc v1 v2) fun r hr=>?_;cases hr1:r.1 with
    | none=>exact C6.ok ⟨hr.j,hr.le,hr.ub,fun x e=>by simp at e⟩
    | some x =>
     obtain⟨o1,o2⟩:=hr.ok x hr1;simp only[CO p2];obtain⟨w,e1,e2,e3⟩:=Zx o1 path y p3 (ha y hym) Au;rw[e1];have h5:=Qp (y:=w) p2;have h6:=Cm (a.set j.toNat w) h;have h7:(a.set j.toNat w).length=a.length:=List.length_set;refine C6.ok ⟨hr.j,hr.le,hr.ub,fun q e=>?_⟩;simp only[Option.some.injEq] at e;subst e;exact⟨Gn hh (Xu ha e2) Au,by omega⟩
   | some q =>
    obtain⟨d,k,f⟩:=q;simp only;cases hbr:Cl (EM d k).name t.branches with
    | none=>exact KY hj
    | some t' =>
     have hcf:=Fy hc2;obtain⟨b1,b2⟩:=Xb hbr ht;obtain⟨f1,f2⟩:=JQ hc2 v1;have hfx:=(hE.g.all d hcf.mem).fx.1;have hfl:=JD hE.g hc2;have hmore:=hp.more hx p1 hfx;rw[←hcf.fs] at hmore;simp only;exact dT hh ha hz hz2 hT m t' (vars++f) _ s Au b1 (fun v hm=>by
      rcases List.mem_append.1 hm with hm | hm
      ·exact hv v hm
      exact⟨(f1 v hm).1,by have:=(f1 v hm).2;omega⟩) (by rw[List.length_append];omega) (by rw[IV];omega) hmore hj hc
  obtain⟨k,b,v,l⟩:=t;simp only[FD] at ht;have hd:=DE a ar.toNat;have hdl:(a.drop ar.toNat).length≤a.length:=by rw[List.length_drop];omega
  exact lB hS hj hc ht.1 (fun v hm=>(hv v hm).1) Au Au (fun x hm=>ha x (List.mem_of_mem_drop hm)) Au Au
theorem Pw:∀(n:Nat) (s:σ) (t:Tm),J s→cnt s≤90000000→okB t=true→size t+100≤n→size t≤1000000000→C6 (Di E S n s t) (TD S J cnt s (size t))
 | 0,s,t,_,_,_,h,_=>absurd h Au
 | n+1,s,t,hj,hc,ho,hn,hz=>by
  have hst:=size_pos t;have hss:=EL t;obtain⟨oh,oa⟩:=DB ho;have hhp:=size_pos (Ay t).1;have one:∀(x:Tm) (s':σ),J s'→cnt s'=cnt s+1→okB x=true→size x≤4096+size t→C6 (.ok (some x,s')) (TD S J cnt s (size t)):=fun x s' g1 g2 g3 g4 =>
   C6.ok ⟨g1,by simp only;omega,by simp only;omega,fun y e=>by simp only[Option.some.injEq] at e;subst e;exact⟨g3,by omega⟩⟩
  rw[Di,if_neg (by simp[ho])];split
  ·rename_i k5;split
   ·exact KY hj
   rename_i hl;exact sB hS hj Au oh oa k5 hl Au fun x s' g1 g2 g3 g4=>one x s' g1 g2 g3 Au
  split
  ·rename_i k11;exact vf hS hj Au oh oa k11 Au fun x s' g1 g2 g3 g4=>one x s' g1 g2 g3 Au
  split
  ·rename_i k9;obtain⟨p,hpk,op,sp⟩:=ED oh (i:=0) (by rcases k9 with h | h<;>rw[h]<;>decide);rw[hpk];simp only;split
   ·rename_i k8;exact rz hS hj Au op oa k9 k8 Au fun x s' g1 g2 g3 g4=>one x s' g1 g2 g3 Au
   refine C6.bind (Pw n s p hj hc op Au Au) fun r hr=>?_;cases hr1:r.1 with
   | none=>exact C6.ok ⟨hr.j,hr.le,hr.ub,fun x e=>by simp at e⟩
   | some x =>
    obtain⟨o1,o2⟩:=hr.ok x hr1;have h4:=Cm (Ay t).2 (Ha (Ay t).1.kind x);have h5:size (Ha (Ay t).1.kind x)=1+size x:=by simp only[Ha,size,BB];omega
    refine C6.ok ⟨hr.j,hr.le,hr.ub,fun y e=>?_⟩;simp only[Option.some.injEq] at e;subst e;exact⟨Gn (fc k9 o1 Au) oa Au,by omega⟩
  split
  ·cases hu:Up E (Ay t).1 with
   | false=>rw[Df,hu];exact KY hj
   | true =>
    obtain⟨i,d,h1,h2,hd,h3⟩:=KI hu;have hg:=hE.g.all d hd;have hda:CR E (BY E (Ay t).1.name).1.decl=d:=CO h3;rw[Df,hu,if_pos rfl];simp only[hda];split
    ·by_cases he:(BU d.value (Ay t).1.levels).2=0
     ·rw[KD he];have l1:=Kh (Ay t).1.levels hg.vl;have l2:=LS (Ay t).1.levels hg.vl;have l3:=hE.vl d hd;refine mS hS hj Au l2 fun s' g1 g2=>?_;have h5:=Cm (Ay t).2 (BU d.value (Ay t).1.levels).1;exact one _ s' g1 g2 (Gn l2 oa (by simp only;omega)) (by simp only;omega)
     rw[Jv he];exact KY hj
    split
    ·rename_i hr5;have hni:=(GM hg.din hg.fx).1;have hf0:=hg.fx.1;have hlt:(Bv d).toNat<(Ay t).2.length:=by have:=hr5.2;unfold Bv at *;omega
     have hy:=List.getElem?_eq_getElem hlt;have hym:=List.getElem_mem hlt;have hys:=FI hym;rw[CO hy];cases hcw:Ce E (Ay t).2[(Bv d).toNat] with
     | some q =>
      refine C6.mono (Zy hS hE hd hj Au (oa _ hym) oa (z:=BB (Ay t).2+(Ay t).2.length) hy Au Au) fun q hq=>?_;obtain⟨q1,q2,q3,q4⟩:=hq;exact⟨q1,q2,q3,fun x hx=>by obtain⟨q5,q6,q7⟩:=q4 x hx;exact⟨q5,by omega⟩⟩
     | none =>
      refine C6.bind (Pw n s _ hj hc (oa _ hym) Au Au) fun r hr=>?_;cases hr1:r.1 with
      | none=>exact C6.ok ⟨hr.j,hr.le,hr.ub,fun x e=>by simp at e⟩
      | some x =>
       obtain⟨o1,o2⟩:=hr.ok x hr1;have h5:=Qp (y:=x) hy;have h6:=Cm ((Ay t).2.set (Bv d).toNat x) (Ay t).1;have h7:((Ay t).2.set (Bv d).toNat x).length=(Ay t).2.length:=List.length_set;refine C6.ok ⟨hr.j,hr.le,hr.ub,fun y e=>?_⟩;simp only[Option.some.injEq] at e;subst e;exact⟨Gn oh (Xu oa o1) Au,by omega⟩
    split
    ·rename_i hr6;obtain⟨k,f,h4,h5⟩:=h2.func hr6.1;have hfa:Gh d (BY E (Ay t).1.name).1.item=f:=CO (by rw[h5];simpa using h4);have hfm:=List.mem_of_getElem? h4;obtain⟨f1,f2,f3⟩:=hg.fu f hfm;have hdep:=hE.fu d hd f hfm;rw[hfa] at hr6 ⊢;refine dT hS hE (z:=size t) oh oa Au hz (fun v s' g1 g2 g3 g4=>Pw n s' v g1 g2 g3 Au Au) n f.tree _ _ s Au f3 (fun v hv=>⟨oa v (List.mem_of_mem_take hv),by have:=FI (List.mem_of_mem_take hv);omega⟩) (by rw[List.length_take];omega) (by have:=DE (Ay t).2 f.arity.toNat;omega) ?_ hj hc;exact VF _ _ Au
    exact KY hj
  exact KY hj
end
section
variable {σ:Type}{S:Sys σ}{J:σ→Prop}{cnt:σ→Nat}{C:Nat}{E:List B8}
variable (hS:bw S J cnt C) (hE:G2 E)
include hS hE
end
def lx (c:Dn):Prop:=c.limit=1000∧0≤c.steps∧(c.over=false→c.steps≤1000)
theorem e6:bw DK lx (fun c=>c.steps.toNat) 1000:=by
 refine⟨fun c h ho=>?_,fun c t e c' h hc ho hr=>?_,by omega⟩
 ·have h1:=h.2.1;have h2:=h.2.2 ho;omega
 simp only[DK,Option.some.injEq] at hr;subst hr;obtain⟨h1,h2,h3⟩:=h;have hw:wr (c.steps+1)=c.steps+1:=ES (by unfold JY;omega);simp only[Dn.result,Dn.form,lx,hw,h1];refine⟨⟨Aw,by omega,fun ho=>?_⟩,by omega⟩;simp only[Bool.or_eq_false_iff,decide_eq_false_iff_not] at ho;omega
def N3 (n:Int):Prop:=0≤n∧n≤20000
theorem pQ:bw CE N3 (fun n=>(20000 - n).toNat) 20000:=by
 refine⟨fun n h _=>?_,fun n t e n' h hc ho hr=>?_,by omega⟩
 ·have:=h.1;omega
 simp only[CE] at hr;split at hr
 ·cases hr
 cases hr;unfold N3 at *;omega
theorem Pn {E:List B8}{nm:ByteArray}(h:(Co E nm).2.2=true):GU E nm=some ((Co E nm).1,(Co E nm).2.1):=by
 unfold Co at h ⊢;split at h
 ·rename_i d j e;rw[e]
 cases h
theorem pH {E:List B8}{nm:ByteArray}(h:(Co E nm).2.2=false):GU E nm=none:=by
 unfold Co at h;split at h
 ·cases h
 rename_i e;exact e
theorem aj {E:List B8}{nm:ByteArray}(hE:MC E) (h:(Co E nm).2.2=true) (hj:¬(Co E nm).2.1<0):Q0 (Co E nm).1∧(0≤(Co E nm).1.fixed∧(Co E nm).1.fixed≤1000000)∧0≤(Co E nm).2.1∧(Co E nm).2.1<(Co E nm).1.ctors.length:=by
 obtain⟨h1,h2⟩:=Vq (Pn h);exact⟨(hE.all _ h1).din,(hE.all _ h1).fx,by omega,h2 Au⟩
section
variable {E:List B8}{t:Tm}{k i:Int}{n:ByteArray}{ls:List CX}{ks:List Tm}
theorem dQ (hz:(Ay t).1= .mk k i n ls ks) (h:k≠3):Ce E t=none:=by
 have hk:(Ay t).1.kind=k:=by rw[hz];rfl
 unfold Ce;rw[if_pos Au]
theorem fM (hz:(Ay t).1= .mk k i n ls ks) (h3:k=3) (h:(Co E n).2.2=false∨(Co E n).2.1<0):Ce E t=none:=by
 have hk:(Ay t).1.kind=k:=by rw[hz];rfl
 have hnm:(Ay t).1.name=n:=by rw[hz];rfl
 unfold Ce;rw[if_neg Au,hnm];cases hf:(Co E n).2.2 with
 | false=>rw[pH hf]
 | true =>
  rw[Pn hf];rcases h with h | h
  ·rw[hf] at h;cases h
  simp only[if_pos h]
theorem fX (hz:(Ay t).1= .mk k i n ls ks) (h3:k=3) (hf:(Co E n).2.2=true) (hj:¬(Co E n).2.1<0) (h:((Ay t).2.length:Int)≠(Co E n).1.fixed+Ed (Co E n).1 (Co E n).2.1):Ce E t=none:=by
 have hk:(Ay t).1.kind=k:=by rw[hz];rfl
 have hnm:(Ay t).1.name=n:=by rw[hz];rfl
 unfold Ce;rw[if_neg Au,hnm,Pn hf];simp only[if_neg hj,if_pos h]
theorem lE (hz:(Ay t).1= .mk k i n ls ks) (h3:k=3) (hf:(Co E n).2.2=true) (hj:¬(Co E n).2.1<0) (h:((Ay t).2.length:Int)=(Co E n).1.fixed+Ed (Co E n).1 (Co E n).2.1):Ce E t=some ((Co E n).1,(Co E n).2.1,(Ay t).2.drop (Co E n).1.fixed.toNat):=by
 have hk:(Ay t).1.kind=k:=by rw[hz];rfl
 have hnm:(Ay t).1.name=n:=by rw[hz];rfl
 unfold Ce;rw[if_neg Au,hnm,Pn hf];simp only[if_neg hj,if_neg (show ¬((Ay t).2.length:Int)≠(Co E n).1.fixed+Ed (Co E n).1 (Co E n).2.1 by omega)]
end
theorem Ld {d:B8}{j:Int}(h:Q0 d) (h0:0≤j) (h1:j<d.ctors.length) (hf:0≤d.fixed):0≤Ed d j∧Ed d j≤1000000:=by
 have hlt:j.toNat<d.ctors.length:=by omega
 have hx:=List.getElem?_eq_getElem hlt;have hs:=(h.cs _ (List.getElem_mem hlt)).ty.sz;have hl:=JB d.ctors[j.toNat].type;unfold Ed aZ EM;rw[CO hx];omega
section
variable {E:List B8}{t:Tm}{k i:Int}{n:ByteArray}{ls:List CX}{ks:List Tm}
theorem pb (hz:(Ay t).1= .mk k i n ls ks) (h3:k=3) (h:(Co E n).2.2=false∨(Co E n).2.1<0∨((Ay t).2.length:Int)≠(Co E n).1.fixed+Ed (Co E n).1 (Co E n).2.1):Ce E t=none:=by
 by_cases h1:(Co E n).2.2=false∨(Co E n).2.1<0
 ·exact fM hz h3 h1
 rcases h with h | h | h
 ·exact absurd (.inl h) h1
 ·exact absurd (.inr h) h1
 exact fX hz h3 (by simpa using fun e=>h1 (.inl e)) (fun e=>h1 (.inr e)) h
end
theorem Sc {d:B8}{j:Int}{x:LQ}(hx:d.ctors[j.toNat]?=some x) (hf:0≤d.fixed):d.fixed+Ed d j=max d.fixed (((Hz x.type).1.length:Nat):Int):=by
 unfold Ed aZ EM;rw[CO hx];omega
def Bo (E:List B8) (t:Tm):B8×Int×List Tm×Bool:=match Ce E t with
 | some (d,j,l)=>(d,j,l,true)
 | none=>(Yr,0,[],false)
theorem NX {E:List B8}{t:Tm}(h:Ce E t=none):Bo E t=(Yr,0,[],false):=by unfold Bo;rw[h]
theorem R6 {E:List B8}{t:Tm}{d:B8}{j:Int}{l:List Tm}(h:Ce E t=some (d,j,l)):Bo E t=(d,j,l,true):=by unfold Bo;rw[h]
theorem MD {E:List B8}{t:Tm}(h:(Bo E t).2.2.2=true):Ce E t=some ((Bo E t).1,(Bo E t).2.1,(Bo E t).2.2.1):=by
 cases e:Ce E t with
 | none=>rw[NX e] at h;cases h
 | some q=>obtain⟨d,j,l⟩:=q;rw[R6 e]
theorem Ng {E:List B8}{t:Tm}(h:(Bo E t).2.2.2=false):Ce E t=none:=by
 cases e:Ce E t with
 | none=>rfl
 | some q=>obtain⟨d,j,l⟩:=q;rw[R6 e] at h;cases h
end Go.Eu
namespace Go.Eu
def N0 (nm:ByteArray):List G3→Int→Int
 | [],_=> -1
 | b::l,i=>if b.ctor=nm then i else N0 nm l (i+1)
theorem qm {nm:ByteArray}{l:List G3}{i:Nat}{x:G3}{k:Int}(h:l[i]?=some x) (e:x.ctor.toList=nm.toList):N0 nm (l.drop i) k=k:=by
 rw[Cd h,N0,if_pos (Gk e)]
theorem uL {nm:ByteArray}{l:List G3}{i:Nat}{x:G3}{k:Int}(h:l[i]?=some x) (e:¬x.ctor.toList=nm.toList):N0 nm (l.drop i) k=N0 nm (l.drop (i+1)) (k+1):=by
 rw[Cd h,N0,if_neg (fun q=>e (by rw[q]))]
theorem cY {nm:ByteArray}:∀(l:List G3) (k:Int),0≤k→N0 nm l k<0∧Cl nm l=none∨∃(j:Nat) (x:G3),N0 nm l k=k+j∧l[j]?=some x∧Cl nm l=if x.absurd=true then none else some x.tree
 | [],k,h=> .inl ⟨by simp[N0],rfl⟩
 | b::l,k,h=>by
  rw[N0,Cl];split
  ·exact .inr ⟨0,b,by simp,rfl,rfl⟩
  rcases cY l (k+1) Au with h1 | ⟨j,x,h1,h2,h3⟩
  ·exact .inl h1
  exact .inr ⟨j+1,x,by rw[h1];push_cast;omega,by simpa using h2,h3⟩
theorem j6 {nm:ByteArray}{l:List G3}(h:N0 nm l 0<0):Cl nm l=none:=by
 rcases cY (nm:=nm) l 0 Au with h1 | ⟨j,x,h1,h2,h3⟩
 ·exact h1.2
 omega
theorem sS {nm:ByteArray}{l:List G3}(h:¬N0 nm l 0<0):∃x,l[(N0 nm l 0).toNat]?=some x∧Cl nm l=if x.absurd=true then none else some x.tree:=by
 rcases cY (nm:=nm) l 0 Au with h1 | ⟨j,x,h1,h2,h3⟩
 ·exact absurd h1.1 h
 exact⟨x,by rw[h1];simpa using h2,h3⟩
end Go.Eu
namespace Go.Eu
open Go.Abs
theorem nT {nm:ByteArray}:∀{l:List G3}{t:FY},Cl nm l=some t→On l→JL t
 | .mk c a q::l,t,h,ho=>by
  simp only[On,UE] at ho;rw[Cl] at h;split at h
  ·split at h
   ·cases h
   cases h;exact ho.1.2
  exact nT h ho.2
theorem wZ {nm:ByteArray}{t t':FY}(h:Cl nm t.branches=some t') (ho:JL t):JL t':=nT h ho.bs
def YI (q:Option (Tm×List Tm)×Tm):Tm:=match q.1 with
 | some (b,_)=>b
 | none=>BN
def aO (q:Option (Tm×List Tm)×Tm):List Tm:=match q.1 with
 | some (_,v)=>v
 | none=>[]
structure Wq (y:FY) (us:List Tm):Prop where
 tin:JL y
 tok:FD y
 len:us.length+Dp y*1000000≤100000000
 ok:∀v∈us,okB v=true
theorem Wq.next {E:List B8}{y q:FY}{us f:List Tm}{x:Tm}{nm:ByteArray}{d:B8}{j:Int}(h:Wq y us) (hE:MC E) (hx:okB x=true) (hc:Ce E x=some (d,j,f)) (hb:Cl nm y.branches=some q):Wq q (us++f):=by
 obtain⟨h1,h2⟩:=Xb hb h.tok;have h3:=JD hE hc;have h4:=h.len;refine⟨wZ hb h.tin,h1,by rw[List.length_append];omega,fun v hv=>?_⟩;rcases List.mem_append.1 hv with hv | hv
 ·exact h.ok v hv
 exact((JQ hc hx).1 v hv).1
def aS:FY:= .mk 0 BN 0 []
def aN (nm:ByteArray):List G3→FY×Bool
 | []=>(aS,false)
 | b::l=>if b.ctor=nm then (b.tree,!b.absurd) else aN nm l
theorem nO {nm:ByteArray}{l:List G3}{i:Nat}{x:G3}(h:l[i]?=some x):aN nm (l.drop i)=if x.ctor=nm then (x.tree,!x.absurd) else aN nm (l.drop (i+1)):=by rw[Cd h,aN]
theorem j5 (nm:ByteArray):∀(l:List G3),Cl nm l=if (aN nm l).2=true then some (aN nm l).1 else none
 | []=>rfl
 | b::l=>by
  rw[Cl,aN];split
  ·cases b.absurd<;>rfl
  exact j5 nm l
theorem YM {nm:ByteArray}{l:List G3}(h:(aN nm l).2=true):Cl nm l=some (aN nm l).1:=by rw[j5,if_pos h]
theorem Zi {nm:ByteArray}{l:List G3}(h:(aN nm l).2=false):Cl nm l=none:=by rw[j5,if_neg (by simp[h])]
def ng (nm:ByteArray) (l:List G3):FY×Bool:=match Cl nm l with
 | some q=>(q,true)
 | none=>(aS,false)
theorem mR {nm:ByteArray}{l:List G3}(h:Cl nm l=none):ng nm l=(aS,false):=by unfold ng;rw[h]
theorem j0 {nm:ByteArray}{l:List G3}{q:FY}(h:Cl nm l=some q):ng nm l=(q,true):=by unfold ng;rw[h]
theorem lu {nm:ByteArray}{l:List G3}(h:(ng nm l).2=true):Cl nm l=some (ng nm l).1:=by
 cases e:Cl nm l with
 | none=>rw[mR e] at h;cases h
 | some q=>rw[j0 e]
theorem m7 {nm:ByteArray}{l:List G3}(h:(ng nm l).2=false):Cl nm l=none:=by
 cases e:Cl nm l with
 | none=>rfl
 | some q=>rw[j0 e] at h;cases h
section
variable {E:List B8}{σ:Type}{S:Sys σ}{W:σ→Tm→Out (Tm×σ)}{n:Nat}{h m:Tm}{a:List Tm}{s:σ}{d:B8}{x:IJ}
theorem jE {a b:ByteArray}(h:¬a.toList=b.toList):a≠b:=fun e=>h (by rw[e])
theorem aJ (hc:((Bo E m).2.2.2=false∨¬(Bo E m).1.name.toList=d.name.toList)∨(d.recs.rules.length:Int)≤(Bo E m).2.1):ER E S d h a m s= .ok (none,s):=by
 cases hk:(Bo E m).2.2.2 with
 | false=>exact Nc (Ng hk)
 | true =>
  refine SJ (MD hk) ?_;rcases hc with (hc | hc) | hc
  ·rw[hk] at hc;cases hc
  ·exact .inl (jE hc)
  exact .inr hc
theorem WM (hc:((Bo E m).2.2.2=true∧(Bo E m).1.name.toList=d.name.toList)∧(Bo E m).2.1<(d.recs.rules.length:Int)):Ce E m=some ((Bo E m).1,(Bo E m).2.1,(Bo E m).2.2.1)∧¬((Bo E m).1.name≠d.name∨(Bo E m).2.1≥(d.recs.rules.length:Int))∧0≤(Bo E m).2.1:=by
 have h1:=MD hc.1.1;refine⟨h1,fun h=>?_,(Fy h1).lo⟩;rcases h with h | h
 ·exact h (Gk hc.1.2)
 omega
end
theorem KK {d:B8}(h:DG d):0≤d.fixed∧d.fixed+1+d.ctors.length≤Bv d∧Bv d≤4000001:=by
 have h1:=GM h.din h.fx;have h2:=h.fx;have h3:=h.din.cl;unfold Bv;omega
section
variable {E:List B8}{σ:Type}{S:Sys σ}{W:σ→Tm→Out (Tm×σ)}{n:Nat}{h m:Tm}{a:List Tm}{s:σ}{d:B8}{x:IJ}
theorem Lb {f:I9}{q:Option (Tm×List Tm)×Tm}(hq:q.1.isSome=false∨S.over s=true):P3 S f h a (q,s)= .ok (none,s):=by
 unfold P3;obtain⟨q1,q2⟩:=q;cases q1 with
 | none=>rfl
 | some bv =>
  obtain⟨b,v⟩:=bv;rcases hq with hq | hq
  ·cases hq
  simp only[hq,if_true]
theorem OM {f:I9}{q:Option (Tm×List Tm)×Tm}(hq:q.1.isSome=true) (ho:S.over s=false):P3 S f h a (q,s)=FE S h (YI q) (aO q) (a.drop f.arity.toNat) s:=by
 unfold P3;obtain⟨q1,q2⟩:=q;cases q1 with
 | none=>cases hq
 | some bv=>obtain⟨b,v⟩:=bv;simp only[ho,Bool.false_eq_true,if_false];rfl
theorem Zk (hE:MC E):∀(k:Nat) (t:FY) (vs:List Tm) (l:Tm) (s s':σ) (q:Option (Tm×List Tm)×Tm),Wq t vs→EA E S W k t vs l s= .ok (q,s')→okB (YI q)=true∧(∀v∈aO q,okB v=true)∧(aO q).length≤100000000
 | 0,t,vs,l,s,s',q,hl,h=>by rw[EA] at h;cases h
 | k+1,t,vs,l,s,s',q,hl,h=>by
  have hnone:∀l',okB (YI (none,l'))=true∧(∀v∈aO (none,l'),okB v=true)∧(aO (none,l')).length≤100000000:=fun l'=>⟨J1,fun v hv=>by simp[aO] at hv,Nat.zero_le _⟩;by_cases hk:t.kind=1
  ·by_cases hb:t.var<0∨t.var≥(vs.length:Int)∨S.over s=true
   ·rw[KT hk hb] at h;cases h;exact hnone _
   have hlt:t.var.toNat<vs.length:=by omega
   rw[L4 hk hb (List.getElem?_eq_getElem hlt)] at h;obtain⟨⟨r,s1⟩,h1,h2,h3⟩:=HA h;cases hc:Ce E r with
   | none=>rw[G7 hc] at h3;cases h3;exact hnone _
   | some p =>
    obtain⟨d,j,f⟩:=p;cases hbr:Cl (EM d j).name t.branches with
    | none=>rw[JK hc hbr] at h3;cases h3;exact hnone _
    | some t'=>rw[JM hc hbr] at h3;exact Zk hE k t' _ _ _ _ _ (hl.next hE h2 hc hbr) h3
  rw[Is hk] at h;cases h;obtain⟨kk,b,v,l2⟩:=t;have:=hl.tok;simp only[FD] at this;exact⟨this.1,hl.ok,by have:=hl.len;show vs.length≤_;omega⟩
end
theorem Q1:∀(l:List Tm),BB l.reverse=BB l
 | []=>rfl
 | a::l=>by rw[List.reverse_cons,IV,Q1 l];simp only[BB];omega
theorem ah {l:List Tm}(h:∀v∈l,okB v=true):∀v∈l.reverse,okB v=true:=fun v hv=>h v (List.mem_reverse.1 hv)
theorem dR {E:List B8}{d:B8}{f:I9}{a:List Tm}(hE:G2 E) (hd:d∈E) (hf:f∈d.funs) (ha:∀x∈a,okB x=true):Wq f.tree (a.take f.arity.toNat):=by
 have h1:=hE.g.all d hd;have h2:=h1.fu f hf;have h3:=hE.fu d hd f hf;exact⟨(h1.din.fs f hf).tr,h2.2.2,by rw[List.length_take];omega,fun v hv=>ha v (List.mem_of_mem_take hv)⟩
theorem ka {E:List B8}{nm:ByteArray}{x:B8}(h:(BY E nm).2=0) (h3:(BY E nm).1.kind=5) (hx:E[(BY E nm).1.decl.toNat]?=some x):(Co E nm).1=x:=by rw[ld h h3 hx]
theorem eI {E:List B8}{h:Tm}(hu:Up E h=true):(BY E h.name).2=0:=by
 simp only[Up,Bool.and_eq_true,decide_eq_true_eq] at hu;exact hu.1
theorem J6 {k i:Int}{n:ByteArray}{l:List CX}{ks:List Tm}(h:okB (.mk k i n l ks)=true):(k=5→ks.length=2)∧(k=11→ks.length=3)∧(k=9∨k=10→ks.length=1)∧(k=8→ks.length=3):=by
 have hw:=(Bu.1 h).wt;simp only[Wt] at hw;have h1:=hw.1;unfold arity at h1;refine⟨fun e=>?_,fun e=>?_,fun e=>?_,fun e=>?_⟩
 ·rw[if_pos Au] at h1;omega
 ·rw[if_neg Au,if_pos Au] at h1;omega
 ·rw[if_neg Au,if_neg Au,if_pos Au] at h1;omega
 rw[if_neg Au,if_pos Au] at h1;omega
theorem Qf {l:List Tm}{v:Tm}(h:l[1]?=some v):(l.take 2).drop 1=[v]:=by
 cases l with
 | nil=>simp at h
 | cons a l =>
  cases l with
  | nil=>simp at h
  | cons b l=>simp at h;subst h;rfl
section
variable {E:List B8}{σ:Type}{S:Sys σ}{n:Nat}{t:Tm}{s:σ}
theorem SZ {q:Option Tm}(h:q.isSome=false):dg E S n t (q,s)= .ok (t,s):=by
 cases q with
 | none=>rfl
 | some x=>cases h
theorem Sb {q:Option Tm}(h:q.isSome=true):dg E S n t (q,s)=FM E S n s (q.getD BN):=by
 cases q with
 | none=>cases h
 | some x=>rfl
end
structure xK (w:Tm):Prop where
 ok:okB w=true
 nd:Nd w
 sz:size w<549755813888
 len:(Ay w).2.length<549755813888
 head:okB (Ay w).1=true
 args:∀x∈(Ay w).2,okB x=true
 asz:BB (Ay w).2+(Ay w).2.length<size w
theorem Q8 {w:Tm}(h:okB w=true):xK w:=by
 have h1:=Ft h;have h2:=EL w;have h3:=size_pos (Ay w).1;exact⟨h,(Bu.1 h).nd,h1,by omega,(DB h).1,(DB h).2,by omega⟩
theorem WA {l:List Tm}(h:∀x∈l,okB x=true):M6 (l.take 1):=(FF fun v hv=>h v (List.mem_of_mem_take hv)).1
def mD (L:List (List Tm)):List (List PV):=L.map fun l=>[.lst (A6 l)]
theorem WB {L:List (List Tm)}{i:Nat}{l:List Tm}(h:L[i]?=some l):(mD L)[i]?=some [.lst (A6 l)]:=by simp[mD,h]
theorem VX {L:List (List Tm)}{i:Nat}{l:List Tm}(h:L[i]?=some l):((L.take (i+1)).map List.length).sum=((L.take i).map List.length).sum+l.length:=by
 simp[List.take_add_one,h]
theorem OH {L:List (List Tm)}{i:Nat}{l:List Tm}(h:L[i]?=some l):(L.take (i+1)).flatten=(L.take i).flatten++l:=by
 simp[List.take_add_one,h]
end Go.Eu
namespace Go.Abs
section
variable {P:Program}{dst:Option Tmp}{ty:TypeId}{pos:String}{aft:Array Edge}{g:Option (Nat×Bool)}{ρ:Operand→AV}{H:List A4}{x y z:Operand}{v:AV}
theorem RV {a:Operand}{T e:TypeId}{n1 n2:Nat}(hT:E1 P T=some (e,n1,n2)) (hx:ρ a= .p .nils) :
  Dm P ⟨dst,.call { callee:= .builtin .cap,args:=#[a],argTypes:=#[T] },ty,pos,aft,g⟩ ρ H (.p (.int .i64 0)) H :=
 Bw fun F w E hH hE=>by
  have h1:=hE a Af;obtain⟨hu,_⟩:=Dy hT;rw[hx] at h1;simp only[Bz,Br] at h1;refine⟨.int .i64 0,?_,by simp[Bz,Br]⟩;simp[execOp,resolve,invoke,builtin,Builtin.cap_,h1,Sem.run_bind,run_underlying hu,goInt]
theorem Ts {T e:TypeId}{sz bytes:Nat}(hT:E1 P T=some (e,sz,bytes)) (hx:ρ x= .p .nils) (hy:ρ y= .p (.int .i64 0)):Dm P ⟨dst,.slice T x none (some y) none,ty,pos,aft,g⟩ ρ H (.p .nils) H :=
 Bw fun F w E hH hE=>by
  obtain⟨hu,j,hj,hs,_⟩:=Dy hT;have h:=hE x Al;have h1:=hE y Al;rw[hx] at h;rw[hy] at h1;simp only[Bz,Br] at h h1;have hszr:(sizeOf e).run P w= .ok sz w:=by simp[sizeOf,typeInfo,hj,hs]
  refine⟨.slice none 0 0,?_,by simp only[Bz,Br]⟩;simp[execOp,Instr.sliceAt,Sem.run_bind,run_underlying hu,h,h1,Instr.slice,Instr.sliceBounds,Instr.sliceBound,asIntOf,hszr]
theorem U3 {T e:TypeId}{sz bytes b n c:Nat}(hT:E1 P T=some (e,sz,bytes)) (hx:ρ x= .vs (some b) n c) (hy:ρ y= .p (.int .i64 0)):Dm P ⟨dst,.slice T x none (some y) none,ty,pos,aft,g⟩ ρ H (.vs (some b) 0 c) H :=
 Bw fun F w E hH hE=>by
  obtain⟨hu,j,hj,hs,_⟩:=Dy hT;have h:=hE x Al;have h1:=hE y Al;rw[hx] at h;rw[hy] at h1;simp only[Bz,Br] at h h1;have hszr:(sizeOf e).run P w= .ok sz w:=by simp[sizeOf,typeInfo,hj,hs]
  refine⟨.slice (some ⟨b,0,none⟩) 0 c,?_,by simp only[Bz]⟩;simp[execOp,Instr.sliceAt,Sem.run_bind,run_underlying hu,h,h1,Instr.slice,Instr.sliceBounds,Instr.sliceBound,asIntOf,hszr,Addr.add_mid]
def kV (sz n:Nat) (H:List A4):EG→List A4→Prop
 | .val v,H'=>∃b c,v= .vs (some b) n c∧H'= .vec (some b) sz [] c::H
 | .panic _,_=>False
theorem ku {T T2 e:TypeId}{sz bytes:Nat}{n:Nat}{zv:Value}(hT:E1 P T=some (e,sz,bytes)) (hT2:P.underlying T2=some (.int .i64)) (hz:zeroOf P e=some zv) (hzs:zv.cells.size=sz) (hb0:(Nat.blt 0 sz&&Nat.blt 0 bytes)=true)
  (hx:ρ x= .p .nils) (hy:ρ y= .p (.int .i64 n)) (hn:0<n) (hroom:2*n*bytes≤281474976710656) :
  DL P ⟨dst,.call { callee:= .builtin .append,args:=#[x,y],argTypes:=#[T,T2] },ty,pos,aft,g⟩ ρ H (kV sz n H) :=
 G9 fun F w E hH hE=>by
  simp only[Bool.and_eq_true,Nat.blt_eq] at hb0;obtain⟨hu,inf,hinf,hs,hby⟩:=Dy hT;have h1:=hE x Af;have h2:=hE y Af;rw[hx] at h1;rw[hy] at h2;simp only[Bz,Br] at h1 h2;unfold zeroOf at hz;have hz':∃j,P.info? e=some j∧j.zero=some zv:=by
   cases hq:P.info? e with
   | none=>simp[hq] at hz
   | some j=>exact⟨j,rfl,by simpa [hq] using hz⟩
  obtain⟨j,hj,hz'⟩:=hz';have hzv:∀w,(zeroValue e).run P w= .ok zv w:=fun w=>by simp[zeroValue,typeInfo,hj,hz',Sem.run_bind]
  have hti:∀w,(typeInfo e).run P w= .ok inf w:=fun w=>by simp[typeInfo,hinf]
  have hszr:∀w,(sizeOf e).run P w= .ok sz w:=fun w=>by simp[sizeOf,typeInfo,hinf,hs]
  have hcap':(0:Nat)<0+n:=by omega
  have hcap:¬(0+n≤0):=by omega
  have hnext:=Oe hcap';generalize hnc:Question.cut (.appendCap (0+n) 0 e) (w.tape w.drawn (.appendCap (0+n) 0 e))=newCap;have hncge:0+n≤newCap:=by rw[←hnc];simp only[Question.cut];omega
  have hask:∀(b:Nat) w,(askRoom b).run P w= .ok () w:=by intro b w;unfold askRoom;split<;>rfl
  let w1:World:={ w with drawn:=w.drawn+1 }
  have same:Dq F w F w1:=⟨Nat.le_refl _,fun _ _ _=>rfl,fun _ h _=>h⟩
  let vs:List Value:=(Builtin.zeroCells zv.cells n).toList++(Builtin.zeroCells zv.cells (newCap - (0+n))).toList
  have hbn:bytes*n≤281474976710656:=by
   have:2*n*bytes=2*(bytes*n):=by rw[Nat.mul_assoc,Nat.mul_comm n bytes]
   omega
  have hnn:(n:Int)≤281474976710656:=by
   have:n≤bytes*n:=Nat.le_mul_of_pos_left n hb0.2;omega
  have hwr:IntKind.i64.wrap (n:Int)=n:=SD (by simp[IntKind.min,IntKind.signed,IntKind.bits]) (by simp[IntKind.max,IntKind.signed,IntKind.bits];omega);have hai:∀w,(asIntOf (.int .i64 (n:Int))).run P w= .ok (.i64,(n:Int)) w:=fun w=>rfl;have hbi:¬((n:Int)*(bytes:Int) > 281474976710656):=by
   have:((n*bytes:Nat):Int)≤281474976710656:=by rw[Nat.mul_comm];omega
   rw[Int.natCast_mul] at this;omega
  have hne:¬(n*sz=0):=Nat.ne_of_gt (Nat.mul_pos hn hb0.1);have hrun:(execOp E ⟨dst,.call { callee:= .builtin .append,args:=#[x,y],argTypes:=#[T,T2] },ty,pos,aft,g⟩).run P w= .ok (.value (.slice (some ⟨w.heap.size,0,none⟩) (0+n) newCap)) (World.push w1 (.cells ⟨vs⟩ e (0,0))):=by
   simp only[execOp,resolve,invoke,builtin,Builtin.append_,h1,h2,Sem.run_bind,Sem.run_pure,Result.andThen_ok,List.map_toArray,List.map_cons,List.map_nil,List.getElem?_toArray,List.getElem?_cons_zero,List.getElem?_cons_succ,run_underlying hu,run_underlying hT2,hszr,pure_bind,if_true,asInt,hai,hwr];rw[if_neg Au];simp only[Sem.run_bind,Sem.run_pure,Result.andThen_ok,hti,hby,pure_bind];rw[if_neg (by simpa using hbi)];simp only[Sem.run_bind,Sem.run_pure,Result.andThen_ok,hti,hby,pure_bind,Int.toNat_natCast];rw[if_neg hcap];simp only[Sem.run_bind,hti,Result.andThen_ok,hby];rw[if_neg (by simp[IntKind.max,IntKind.signed,IntKind.bits];omega)];simp only[Sem.run_bind,Sem.run_pure,Result.andThen_ok,hti,hby,pure_bind];rw[if_neg (by
    have:Builtin.nextslicecap (0+n) 0*bytes≤2*(0+n)*bytes:=Nat.mul_le_mul_right bytes hnext;rw[Nat.zero_add] at this ⊢;simp;omega)]
   have hch:(choose (.appendCap (0+n) 0 e)).run P w= .ok newCap w1:=by
    simp only[choose,Sem.run,Question.forced,Bool.false_eq_true,if_false,hnc];rfl
   have hf0:∀w,(Builtin.firstCells sz 0 (.slice none 0 0)).run P w= .ok #[] w:=fun w=>rfl;have evs:(#[]++Builtin.zeroCells zv.cells n++Builtin.zeroCells zv.cells (newCap - (0+n)):Array Value)=⟨vs⟩:=by
    apply Array.ext';simp[vs]
   simp only[Sem.run_bind,Sem.run_pure,Result.andThen_ok,pure_bind,hch,hti,hask,hf0,hzv,Bool.not_true,Bool.false_eq_true,if_false,if_neg hne,newRow,newObj,Sem.run,Result.andThen];rw[evs];rfl
  have hvl:vs.length=newCap*sz:=by
   simp only[vs,List.length_append,Array.length_toList,Kz,hzs];rw[←Nat.add_mul];congr 1;omega
  have hH1:HRel F H w1:=hH.stable' same (fun _ h=>h) (fun _ _ _ _=>rfl) hH.bd;have t1:Trans F H w F H w1:=⟨Nat.le_refl _,fun _ _ _=>rfl,fun _ h _=>h,fun _ h=> .inl h,fun o ho b hb=> .inl ⟨o,ho,hb⟩,rfl,rfl,rfl⟩;obtain⟨v',H',F',⟨b',c',hv',hH'⟩,ht,hHr,hrep⟩:=LA (T:=e) (c:=newCap) (vs:=vs) (rows:=[]) (sz:=sz) (H:=H) hH1 Av (by simp[Bf]) (by rw[hvl];exact Nat.le_refl _) Av;subst hv';subst hH';simp only[Bz,List.length_nil] at hrep;injection hrep with e1 e2 e3;injection e1 with e1;injection e1 with e1;subst e1;subst e3;exact⟨_,_,.vs (some w.heap.size) n newCap,_,F',hrun,⟨_,_,O,O⟩,t1.trans hH.bd ht,hHr,by simp[Bz]⟩
end
section
variable {P:Program}{r:Option Nat}{ops:Array Oper}{n k:Nat}{τ:Nat→AV}{H:List A4}{D:List D4}{Q:Cj→BM→Prop}{dst:Option Tmp}{op:Op}{ty:TypeId}{pos:String}{aft:Array Edge}
theorem pd {sz m:Nat}(ho:ops[k]?=some ⟨dst,op,ty,pos,aft,none⟩) (hd:Gj dst n=true) (h:DL P ⟨dst,op,ty,pos,aft,none⟩ (ev τ) H (kV sz m H))
  (next:∀b c,AL P r ops (k+1) ⟨n,put τ dst (.vs (some b) m c),.vec (some b) sz [] c::H,D⟩ Q):AL P r ops k ⟨n,τ,H,D⟩ Q :=
 Fm (S:=⟨n,τ,H,D⟩) ho An (He hd) h (fun v H' ⟨b,c,h1,h2⟩=>by subst h1;subst h2;exact next b c) (fun _ _ h=>h.elim)
end
end Go.Abs
namespace Go.Proofs.YtldfmjoncbjldaaGreat
open Go.Abs Go.Eu
theorem qD:∀(n:Int),(0≤n)→(n≤1000000000)→BL Tryz.prog 71 [.p (.nils),.p (I n)] [] (Zf (fun v=>v) 5 (A6 [])):=by
 intro n h1 h2;refine DI Tryz.func71 ?_;refine BC [3] rfl ?_ ?_<;>intro c
 ·exfalso;omega
 refine A2 [2] O (RV BS O) (A2 [1] O (RN BS O) ?_);refine BC [5] rfl ?_ ?_<;>intro c1
 ·refine A2 [2] O (RV BS O) (A2 [0] O (Ts BS O O) (DS [1] O (BH (CV (t:=21) (x:= .p (I ((n.toNat:Nat):Int))) (congrArg (fun z=>AV.p (.int .i64 z)) Au)) (pd O O (ku (n:=n.toNat) BS yQ Ba O O O O Au Au) fun b cp=>BW (A2 [1] O (RN BS O) ?_)))));refine A2 [0] O (U3 BS O O) (A9 [3] O (Bg [] [0] O O ⟨_,_,O,O⟩))
 refine CK [2] O (A5 (DH (t:=4) (sz:=5) O) (BP (A9 [0] O (Bg [] [0] O O ⟨_,_,O,O⟩))))
theorem oF : ∀ (L : List (List Tm)), (L.length < 100) → (∀ l ∈ L, l.length < 1000000) → BL Tryz.prog 39 [.p (.lst (mD L))] [] (Zf (fun v => v) 5 (A6 L.flatten)) := by
 intro L h1 h2
 refine DI Tryz.func39 ?_
 refine CA [3] O O (List.length_map _) ?_
 refine GG (α := Nat) [1] [0, 9, 10] [] (fun i => [(3, .p (I ((((L.take i).map List.length).sum : Nat) : Int))), (11, .p (I (i : Int)))]) (fun _ => []) (fun i => L.length - i) (fun i => i ≤ L.length ∧ (((L.take i).map List.length).sum ≤ i * 1000000)) 0 O O O (⟨by omega, by simp⟩) ?_
 rintro i hC
 try simp only at hC
 obtain ⟨hi, hC⟩ := hC
 refine BC [1] rfl ?_ ?_ <;> intro c
 ·obtain ⟨x, hx⟩ := A1 (l := L) (i := i) Au
  refine A2 [0] O (A0 l9 O O Au (WB hx) O) ?_
  refine CA [4] O O (A8 _) ?_
  refine A2 [0] O (Kd O O (by have := h2 x (List.mem_of_getElem? hx); omega) (by have := h2 x (List.mem_of_getElem? hx); omega)) ?_
  refine BC [3] rfl ?_ ?_ <;> intro c1
  ·exfalso; omega
  exact FR [2] 0 (i + 1) O (⟨by omega, by rw [VX hx]; have := h2 x (List.mem_of_getElem? hx); omega⟩) (e1 := ⟨we (by show AV.p (.int .i64 _) = _; rw [VX hx]; rfl), we rfl, trivial⟩)
 refine DF [0] O ?_
 refine DS [1] O ?_
 refine Mj O O O (.inl ⟨O, O, O⟩) (qD ((((L.take i).map List.length).sum : Nat) : Int) (by first | assumption | omega) (by first | assumption | omega)) (.inl O) fun o cp => ?_
 refine BW (CA [2] O O (List.length_map _) ?_)
 refine GG (α := Nat × Option Nat × Nat) [1] [25, 26] [0] (fun (i, o1, cp1) => [(6, .vs o1 (A6 ((L.take i).flatten)).length cp1), (27, .p (I (i : Int)))]) (fun (i, o1, cp1) => [(0, .vec o1 5 (A6 ((L.take i).flatten)) cp1)]) (fun (i, o1, cp1) => L.length - i) (fun (i, o1, cp1) => i ≤ L.length ∧ ((L.take i).flatten.length ≤ i * 1000000)) ⟨0, o, cp⟩ O O O (⟨by omega, by simp⟩) ?_
 rintro ⟨i, o1, cp1⟩ hC1
 try simp only at hC1
 obtain ⟨hi, hC⟩ := hC1
 refine BC [1] rfl ?_ ?_ <;> intro c1
 ·obtain ⟨x, hx⟩ := A1 (l := L) (i := i) Au
  refine A2 [0] O (A0 l9 O O Au (WB hx) O) ?_
  refine DS [4] O ?_
  refine ET O O (Bi (i := 0) (rows' := A6 x) BS BS Ba O O O O O O (Bd _) (by have := h2 x (List.mem_of_getElem? hx); simp only [A8]; omega) (Hj ((L.take i).flatten) x)) fun o2 cp2 => ?_
  exact BW (FR [3] 0 ⟨i + 1, o2, cp2⟩ O (⟨by omega, by rw [OH hx, List.length_append]; have := h2 x (List.mem_of_getElem? hx); omega⟩) (e1 := ⟨we (H9 ((L.take i).flatten ++ x) (by rw [OH hx])), we rfl, trivial⟩) (e2 := wl (Gw ((L.take i).flatten ++ x) (by rw [OH hx])) (Ih)))
 refine DF [0] O ?_
 refine A9 [2] O (Bg [] [0] O O ?_)
 rw [List.take_of_length_le Au]
 all_goals exact ⟨_, _, rfl, rfl⟩
def xq:XT:=⟨93,104,100,107⟩
theorem tx : ∀ (l : Int), BL Tryz.prog 106 [.p (I l)] [] (W2 (fun b => .p (.iface 104 (.addr b))) [.p (I 0), .p (I l), .p (I 0), .p (I 0), .p (.str ⟨#[]⟩), .p (.lst []), .p (.lst []), .p (.lst []), .p .nilFn, .p (.lst [])]) := by
 intro l
 refine DI Tryz.func106 ?_
 refine CG [4] O O fun b6 => ?_
 refine A2 [0] O (IS Ap O) ?_
 refine CK [1] O ?_
 refine A5 (EV (i := 0) (o' := .box b6 ([.p (I 0), .p (I l), .p (I 0), .p (I 0), .p (.str ⟨#[]⟩), .p (.lst []), .p (.lst []), .p (.lst []), .p .nilFn, .p (.lst [])])) O (Ux TY)) ?_
 refine BP (A9 [0] O ?_)
 exact ⟨O, _, _, ⟨_, _, O, O, O⟩, (HB (is := [0]) O), ⟨_, O, O⟩⟩
theorem vi : ∀ (T b0 : Nat), BL Tryz.prog 108 [.p (.iface T (.addr b0))] [] (W2 (fun b => .p (.addr b)) [.p (I 0), .p (I 0), .p (.str ⟨#[]⟩), .p (.lst []), .p (.lst []), .p (.optp none), .p (.iface T (.addr b0))]) := by
 intro T b0
 refine DI Tryz.func108 ?_
 refine CG [3] O O fun b5 => ?_
 refine CK [1] O ?_
 refine A5 (EV (i := 0) (o' := .box b5 ([.p (I 0), .p (I 0), .p (.str ⟨#[]⟩), .p (.lst []), .p (.lst []), .p (.optp none), .p (.iface T (.addr b0))])) O (Ux TY)) ?_
 refine A5 (YS 2 O) ?_
 refine BP (A9 [0] O ?_)
 exact ⟨O, _, _, ⟨_, _, O, O, O⟩, (HB (is := [0]) O), ⟨_, O, O⟩⟩
theorem jk : ∀ (t : Tm) (p : Option Nat), BL Tryz.prog 56 [TV t, .p (.optp p)] [] (W2 (fun b => .p (.addr b)) ((BD t).map .p ++ [.p (.optp p), .p .nilIface])) := by
 intro t p
 obtain ⟨tk, ti, tn, tl, ts⟩ := t
 refine DI Tryz.func56 ?_
 refine CG [0] O O fun b2 => ?_
 refine CG [4, 0] O O fun b8 => ?_
 refine CK [1] O ?_
 refine A5 (EV (i := 0) (o' := .box b8 ((BD (.mk tk ti tn tl ts)).map .p ++ [.p (.optp p), .p .nilIface])) O (Ux TY)) ?_
 refine A5 (YS 4 O) ?_
 refine BP (A9 [0] O ?_)
 exact ⟨O, _, _, ⟨_, _, O, O, O⟩, (HB (is := [0]) O), ⟨_, O, O⟩⟩
theorem sE:∀(m:Nat) (t:Tm) (p:Option Nat),En Tryz.prog 57 [.p (.addr m),TV t,.p (.optp p)] (.fn (.func 107) [] [.ref [.addr m],.ref (BD t),.ref [.optp p]]):=by
 intro m t p;refine DI Tryz.func57 (CG [0] O O fun b3=>CG [0] O O fun b4=>CG [0] O O fun b5=>DS [1] O (BH (HR (i:=0) (cs:=[(.optp p)]) [5] O (DA ⟨O,Aw⟩)) (BH (HR (i:=0) (cs:=BD t) [4] O (DA ⟨O,Aw⟩)) (BH (HR (i:=0) (cs:=[(.addr m)]) [3] O (DA ⟨O,Aw⟩)) (BW (A9 [2] O (Bg [] [] O O ⟨O,O⟩)))))))
theorem sW : ∀ (m : Nat) (l k : Int), (0 < l) → (l ≤ 20000) → BL Tryz.prog 58 [.p (.addr m)] [.box m [.p (.lst []), .p (I l), .p (I k)]] (Gm (.tup []) [.box m [.p (.lst []), .p (I (l - 1)), .p (I k)]]) := by
 intro m l k h1 h2
 refine DI Tryz.func58 ?_
 refine A2 [1] O (CP O) ?_
 refine A2 [3, 0] O (CP O) ?_
 refine A2 [3, 0, 0] O (CP O) ?_
 refine BC [3, 0] rfl ?_ ?_ <;> intro c
 ·exfalso; omega
 refine Ks [0] O ?_
 refine ⟨O, _, _, O, (HB (is := [0]) O), ?_⟩
 all_goals exact ⟨rfl, rfl⟩
theorem cH : ∀ (m : Nat) (l k d : Int), (0 ≤ k) → (k < 8000) → (0 ≤ d) → (d < 400) → BL Tryz.prog 251 [.p (.addr m), .p (I d)] [.box m [.p (.lst []), .p (I l), .p (I k)]] (Gm (.tup []) [.box m [.p (.lst []), .p (I l), .p (I (k + 1))]]) := by
 intro m l k d h1 h2 h3 h4
 refine DI Tryz.func251 ?_
 refine A2 [1] O (CP O) ?_
 refine A2 [3, 0] O (CP O) ?_
 refine Fo [2, 0, 0] 1 [] 19 (fun y => y = .p (.bool false)) O O ?_ ?_
 ·refine A2 [1] O (CP O) ?_
  refine Bc [4, 0] 16 rfl rfl ?_ ?_ <;> intro g
  ·exact CT [3] O (hr := (by refine pB ?_; simp; omega))
  exact CT [3] O (hr := (by refine pB ?_; simp; omega))
 rintro _ rfl
 refine ID [0] O O (fun c => by cases c) (fun c => ?_)
 refine Ks [0] O ?_
 refine ⟨O, _, _, O, (HB (is := [0]) O), ?_⟩
 all_goals exact ⟨rfl, rfl⟩
def XC (n:Nat):Prop:=∀(m:Nat) (mu:List Nat) (s s':NS) (nv:NV),mu.length=s.objs.length →
 (∀t ρ,Mf n (.eval t ρ) s= .ok (nv,s')→BL Tryz.prog 33 [.p (.addr m),TV t,.p (Sl mu ρ)] (HS xq m mu s) (fY xq m mu nv s')) ∧
 (∀a,Mf n (.force a) s= .ok (nv,s')→BL Tryz.prog 105 [.p (N1 mu a),.p (.addr m)] (HS xq m mu s) (fY xq m mu nv s')) ∧
 (∀a x,Mf n (.apply (.fn a) x) s= .ok (nv,s')→BL Tryz.prog 249 [.p (N1 mu a),.p (.addr m),.p (N1 mu x)] (HS xq m mu s) (fY xq m mu nv s')) ∧
 (∀a x,Mf n (.apply (.st a) x) s= .ok (nv,s')→BL Tryz.prog 255 [.p (N1 mu a),.p (.addr m),.p (N1 mu x)] (HS xq m mu s) (fY xq m mu nv s')) ∧
 (∀b x,Mf n (.body b x) s= .ok (nv,s')→BL Tryz.prog 107 [.p (N1 mu x),.ref [.addr m],.ref (BD b.t),.ref [Sl mu b.vars]] (HS xq m mu s) (fY xq m mu nv s'))
theorem wF (t:Tm) (mu w:List Nat) (ρ:Option Nat) (h:Rb mu.length ρ=true):BL Tryz.prog 56 [TV t,.p (Sl mu ρ)] [] (W2 (fun b=> .p (.addr b)) ((BD t).map .p++[.p (Sl (w++mu) ρ),.p .nilIface])):=by rw[Tr h];exact jk t _
theorem oV:∀(n j:Nat),XC n→∀(m:Nat) (mu:List Nat) (s s':NS) (nv:NV) (i:Int) (ρ:Option Nat),mu.length=s.objs.length→OF (Mf n) s j i ρ= .ok (nv,s')→BL Tryz.prog 55 [.p (.addr m),.p (I i),.p (Sl mu ρ)] (HS xq m mu s) (fY xq m mu nv s'):=by
 intro n j hX m mu s s' nv i ρ hl h;refine Cb Tryz.func55 O xv (n:=26) O O (BZ tab 1 [] O (BR (B3 (Er (α:=Nat×Int×Option Nat) (fun(j1,i2,ρ2)=>⟨26,mk [(0,.p (.addr m)),(1,.p (I i2)),(2,.p (Sl mu ρ2))],(.box m [.p (.lst []),.p (I s.left),.p (I s.nodes)]::NR xq m mu mu s.objs),[]⟩) (fun(j1,i2,ρ2)=>j1) (fun(j1,i2,ρ2)=>OF (Mf n) s j1 i2 ρ2= .ok (nv,s')) ⟨j,i,ρ⟩ (h) ?_ ?_))))
 ·exact Ec ⟨we O,we O,we O,Aw⟩ (Uf [0] [_] (l':=[_]) O (wl (oe O) (Ih)))
 rintro⟨j1,i2,ρ2⟩ hC
 try simp only at hC
 refine BR (BQ (D3 O (BA O (jG (e:=99) Ap O O) (Ch O (BX O (fun c=>?_) (fun c=>?_))))))
 ·(try simp only[sd,se] at c);obtain⟨b,rfl⟩:∃b,ρ2=some b:=by cases ρ2 with | none=>simp at c | some b=>exact⟨b,rfl⟩
  obtain⟨r1,r2,j2,x,r,hj,hg,hc⟩:=gB hC;refine Bn (BR (B3 (BR (BZ tab 2 [] O (BX O (fun c1=>?_) (fun c1=>?_))))))
  ·(try simp only[sd,se] at c1);have hf:Mf n (.force x) s= .ok (nv,s'):=by rcases hc with ⟨_,e⟩ | ⟨e,_⟩;exact e;exact absurd c1 e
   refine BQ (D3 O (BA O (N6 O) (BA O (BG wD O O) (BA O (Bt (i:=s.objs.length - 1 - b+1) xC O (Fq hl hg) O) (D3 O (Mz O O (FK O O (List.perm_append_comm (l₁:=[])) ((hX m mu s s' nv hl).2.1 x hf) (TY)) (K1 _) ?_))))));rintro _ _ ⟨_,⟨_,hl1,⟨w,rfl⟩,rfl,rfl⟩,rfl⟩;refine⟨(.box m [.p (.lst []),.p (I s'.left),.p (I s'.nodes)]::NR xq m (w++mu) (w++mu) s'.objs),List.perm_append_comm,?_⟩;exact BK tab 1 [] O (CB (⟨O,_,_,⟨_,_,O,O,O⟩,(Et [] [] O),⟨_,hl1,⟨w,O⟩,O,O⟩⟩))
  (try simp only[sd,se] at c1);refine Bn (Be (BK tab 3 [] O (Be (D3 O (BA O (N6 O) (BA O (BG wD O O) (BA O (Bt (i:=s.objs.length - 1 - b+1) sY O (Fq hl hg) O) (BK tab 1 [] O ?_))))))));refine⟨⟨j2,i2 - 1,r⟩,Ae,by rcases hc with ⟨e,_⟩ | ⟨_,e⟩;exact absurd e Aq;exact e,Ec ⟨we rfl,we rfl,we rfl,trivial⟩ (Uf [0] [_] (l':=[_]) rfl (wl (oe rfl) (Ih)))⟩
 (try simp only[sd,se] at c);obtain rfl:ρ2=none:=by cases ρ2 with | none=>rfl | some b=>simp at c
 obtain⟨r1,r2,hw,rfl,rfl⟩:=ig hC;exact EN (BQ (BT tab 2 [] O (PY O O O (.inl ⟨O,O,O⟩) (tx _) TY fun b25=>BK tab 1 [] O (Na (Sd (q:=xq) (m:=m) (b:=b25) [] hl hw) (CB (⟨O,_,_,⟨_,_,O,O,O⟩,(List.Sublist.refl _),⟨_,Gb hl,⟨[_],O⟩,jd (q:=xq) (b:=b25) hl,O⟩⟩))))))
theorem sa:∀(m:Nat) (mu:List Nat) (s s':NS) (nv v:NV),mu.length=s.objs.length→VD v s= .ok (nv,s')→BL Tryz.prog 59 [.p (.addr m),.p (I 9),.p (aP xq mu v)] (HS xq m mu s) (fY xq m mu nv s'):=by
 intro m mu s s' nv v hl h;obtain⟨hv,hw1,hw2,rfl,rfl⟩:=Zr h;have hne:Nat.beq (xq.ty v) 100=false:=by cases v with | fn a=>rfl | st a=>rfl | pr a=>exact absurd rfl (hv a)
 refine Cb Tryz.func59 O xj (n:=37) O O (BZ tab 1 [] O (BZ tab 1 [] O (B3 (BQ (BA O (Y0 (e:=102) Ap Ap O hne) (BK tab 2 [] O ?_))))));refine BX O (fun c=>by cases c) (fun c=>?_);refine BZ tab 1 [] O (BQ (BT tab 2 [] O (PY O O O (.inl ⟨O,O,O⟩) (vi (xq.ty v) (RB mu v.addr)) TY fun b12=>BA O (BJ J7 td O O O O O) (BT tab 2 [] O (C8 O (Dk O) fun b16=>BA O (IS Ap O) (BK tab 1 [] O (A5 (EV (i:=0) (o':= .box b16 [.p (I 9),.p (I 0),.p (I 0),.p (I 0),.p (.str ⟨#[]⟩),.p (.lst []),.p (.lst []),.p (.lst [[.addr b12]]),.p .nilFn,.p (.lst [])]) O (Ux TY)) (A5 (EV (i:=0) (o':=KG xq m (b12::mu) b16 (.stuck ⟨9,0,BN,[s.next],none⟩ [])) O (oe (by simp only[KG,Ug,List.map_cons,List.map_nil,Qz hl];rfl))) (Na (((Sd (q:=xq) (m:=m) (b:=b12) [] hl hw1).cons _).trans (Sd (q:=xq) (m:=m) (b:=b16) [] (Gb hl) hw2)) (CB ?_))))))))));exact⟨O,_,_,⟨_,_,O,O,O⟩,(List.Sublist.refl _),⟨_,Gb (Gb hl),⟨[_,_],O⟩,jd (q:=xq) (b:=b16) (Gb hl),O⟩⟩
theorem vk:∀(n:Nat),XC n→∀(m:Nat) (mu:List Nat) (s s':NS) (nv:NV) (a x:Nat),mu.length=s.objs.length→Mf (n+1) (.apply (.fn a) x) s= .ok (nv,s')→BL Tryz.prog 249 [.p (N1 mu a),.p (.addr m),.p (N1 mu x)] (HS xq m mu s) (fY xq m mu nv s'):=by
 intro n hX m mu s s' nv a x hl h;obtain⟨d,b,hg,hl1,hl2,hb⟩:=vV h;refine Cb Tryz.func249 O vE (n:=15) O O (BZ tab 1 [] O (BQ (D3 O (BA O (Bj [0] O (.inl ⟨O,O,O⟩) (sW m s.left s.nodes hl1 hl2) ⟨_,_,O,O,O⟩ As O (.inl O)) (Ch O (BQ (D3 O (BA O (CP O) (BA O (BG xT O O) (BA O (Bt (i:=s.objs.length - 1 - a+1) xc O (Fq (s:={ s with left:=s.left - 1 }) hl hg) O) (D3 O (Mz O O (iI O O (List.perm_append_comm (l₁:=[])) ((hX m mu { s with left:=s.left - 1 } s' nv hl).2.2.2.2 b x hb) (TY)) (K1 _) ?_))))))))))));rintro _ _ ⟨_,⟨_,hl3,⟨w,rfl⟩,rfl,rfl⟩,rfl⟩;refine⟨(.box m [.p (.lst []),.p (I s'.left),.p (I s'.nodes)]::NR xq m (w++mu) (w++mu) s'.objs),List.perm_append_comm,?_⟩;exact BK tab 1 [] O (CB (⟨O,_,_,⟨_,_,O,O,O⟩,(Et [] [] O),⟨_,hl3,⟨w,O⟩,O,O⟩⟩))
theorem tf:∀(n:Nat),XC n→∀(m:Nat) (mu:List Nat) (s s':NS) (nv:NV) (b:NB) (x:Nat),mu.length=s.objs.length→Mf (n+1) (.body b x) s= .ok (nv,s')→BL Tryz.prog 107 [.p (N1 mu x),.ref [.addr m],.ref (BD b.t),.ref [Sl mu b.vars]] (HS xq m mu s) (fY xq m mu nv s'):=by
 intro n hX m mu s s' nv b x hl h;obtain⟨hw,hb⟩:=pV h;refine Cb Tryz.func107 O vM (n:=13) O O (BZ tab 1 [] O (BQ (BT tab 5 [] O (C8 O (Dk O) fun b11=>Mz O O (FK O O (nR [] hl hw) (by have h9:=(hX m (b11::mu) _ s' nv (Gb hl)).1 b.t (some s.next) hb;rw[tE hl] at h9;exact h9) (TY)) (K1 _) ?_))));rintro _ _ ⟨_,⟨_,hl1,⟨w,rfl⟩,rfl,rfl⟩,rfl⟩;refine⟨(.box m [.p (.lst []),.p (I s'.left),.p (I s'.nodes)]::NR xq m (w++(b11::mu)) (w++(b11::mu)) s'.objs),List.perm_append_comm,?_⟩;refine BK tab 1 [] O (CB ?_);exact⟨O,_,_,⟨_,_,O,O,O⟩,(Et [] [] O),⟨_,hl1,⟨w++[b11],by simp⟩,rfl,rfl⟩⟩
set_option maxHeartbeats 2000000 in
theorem wE:∀(n:Nat),XC n→∀(m:Nat) (mu:List Nat) (s s':NS) (nv:NV) (t:Tm) (ρ:Option Nat),mu.length=s.objs.length→Mf (n+1) (.eval t ρ) s= .ok (nv,s')→BL Tryz.prog 33 [.p (.addr m),TV t,.p (Sl mu ρ)] (HS xq m mu s) (fY xq m mu nv s'):=by
 intro n hX m mu s s' nv t ρ hl h;have he:=rC h;have hsc:Rb mu.length ρ=true:=by rw[hl];exact(LZ h).2.1
 obtain⟨tk,ti,tn,tl,ts⟩:=t;refine Cb Tryz.func33 O x7 (n:=162) O O (BQ (C8 O (Dk O) fun b4=>BK tab 1 [] O (BR (BZ tab 2 [0] O (B3 (BZ tab 2 [] O (BX O (fun c=>?_) (fun c=>?_))))))))
 ·(try simp only[sd,se] at c);have hlk:=sO he c;refine BQ (BT tab 4 [0] O (Mz O O (FK O O (List.perm_append_comm (l₁:=[_])) (oV n n hX m mu s s' nv ti ρ hl hlk) (TY)) (K1 _) ?_));rintro _ _ ⟨_,⟨_,hl1,⟨w,rfl⟩,rfl,rfl⟩,rfl⟩;refine⟨(.box b4 [.p (I tk),.p (I ti),.p (.str tn),.p (.lst (List.map B4 tl)),.p (.lst (A6 ts))]:: .box m [.p (.lst []),.p (I s'.left),.p (I s'.nodes)]::NR xq m (w++mu) (w++mu) s'.objs),List.perm_append_comm,?_⟩;exact BK tab 1 [] O (CB (⟨O,_,_,⟨_,_,O,O,O⟩,(Et [] [_] O),⟨_,hl1,⟨w,O⟩,O,O⟩⟩))
 (try simp only[sd,se] at c);refine BZ tab 2 [] O (BX O (fun c1=>?_) (fun c1=>?_))
 ·(try simp only[sd,se] at c1);obtain⟨a,b,v1,s1,rfl,h1,hw1,h2⟩:=sJ he c1;have hle1:=(LZ h1).2.2.1;have hle2:=(LZ h2).2.2.1;refine BR ?_;rcases v1 with fa | fa | fa
  ·have hnv1:fa<s1.objs.length:=by have:=(LZ h1).2.2.2;simpa [U6] using this
   refine Hg (fun k=>Nat.beq k 6||Nat.beq k 13||Nat.beq k 17) Ot (DO tab 3 [0] O (A3 O (fun _=>A0 BS O O Au (BO O) (A7 _)) Aw (DO tab 2 [] O (Kw [(7,.free (.p (.addr m))),(8,.free (.ptr b4 4)),(9,.read [.box b4 [.p (I tk),.p (I ti),.p (.str tn),.p (.lst (List.map B4 tl)),.p (.lst (A6 [a,b]))]] (.p (.lst (A6 [a,b])))),(10,.free (.ref (BD b))),(11,.free (.agg ((BD b).map .p))),(12,.free (.p (Sl mu ρ)))] O O (FK O O (List.perm_append_comm (l₁:=[_])) ((hX m mu s s1 (.fn fa) hl).1 a ρ h1) (TY)) Ap (UQ hl hle1 _) (K1 _) ?_))));rintro _ _ ⟨_,⟨_,hl1,⟨w,rfl⟩,rfl,rfl⟩,rfl⟩;refine⟨(.box b4 [.p (I tk),.p (I ti),.p (.str tn),.p (.lst (List.map B4 tl)),.p (.lst (A6 [a,b]))]:: .box m [.p (.lst []),.p (I s1.left),.p (I s1.nodes)]::NR xq m (w++mu) (w++mu) s1.objs),List.perm_append_comm,AB,Aw,?_⟩;refine DO tab 3 [0] O (A3 O (fun _=>A0 BS O O Au (BO O) (A7 _)) AS (DO tab 2 [] O (PK [(14,.free (.fn (.method "euclid/nbe.apply") [.p (aP xq (w++mu) (.fn fa))] [])),(15,.free (.p .any)),(16,.free (.p (aP xq (w++mu) (.fn fa))))] O O O (.inl ⟨O,O,O⟩) (wF b mu w ρ hsc) (.inl O) Ap fun b33=>⟨AB,AS,?_⟩)));refine A3 O (fun _=>S4) AS (A3 O (fun _=>SO Ap O) AS (DO tab 1 [] O ?_));refine Kw [] O O (Lr O O Ap (nR [_] hl1 hw1) (by have h9:=(hX m (b33::(w++mu)) _ s' nv (Gb hl1)).2.2.1 fa s1.next h2;rw[eY (by rw[hl1];exact hnv1),Qz hl1] at h9;exact h9) (TY)) Ap (UQ (mu:=b33::(w++mu)) (Gb hl1) hle2 _) (K1 _) ?_;rintro _ _ ⟨_,⟨_,hl2,⟨w1,rfl⟩,rfl,rfl⟩,rfl⟩;refine⟨(.box b4 [.p (I tk),.p (I ti),.p (.str tn),.p (.lst (List.map B4 tl)),.p (.lst (A6 [a,b]))]:: .box m [.p (.lst []),.p (I s'.left),.p (I s'.nodes)]::NR xq m (w1++(b33::(w++mu))) (w1++(b33::(w++mu))) s'.objs),List.perm_append_comm,AB,AS,?_⟩;refine CY tab 1 [] O (CB ?_);exact⟨O,_,_,⟨_,_,O,O,O⟩,(Et [] [_] O),⟨_,hl2,⟨w1++([b33]++w),by simp⟩,rfl,rfl⟩⟩
  ·exact absurd h2 (fun e=>by cases n with | zero=>cases e | succ n=>have:=(Jl (uY (FT e).2).1).1;simp[oq] at this)
  have hnv1:fa<s1.objs.length:=by have:=(LZ h1).2.2.2;simpa [U6] using this
  refine Hg (fun k=>Nat.beq k 6||Nat.beq k 13||Nat.beq k 17) Ot (DO tab 3 [0] O (A3 O (fun _=>A0 BS O O Au (BO O) (A7 _)) Aw (DO tab 2 [] O (Kw [(7,.free (.p (.addr m))),(8,.free (.ptr b4 4)),(9,.read [.box b4 [.p (I tk),.p (I ti),.p (.str tn),.p (.lst (List.map B4 tl)),.p (.lst (A6 [a,b]))]] (.p (.lst (A6 [a,b])))),(10,.free (.ref (BD b))),(11,.free (.agg ((BD b).map .p))),(12,.free (.p (Sl mu ρ)))] O O (FK O O (List.perm_append_comm (l₁:=[_])) ((hX m mu s s1 (.st fa) hl).1 a ρ h1) (TY)) Ap (UQ hl hle1 _) (K1 _) ?_))));rintro _ _ ⟨_,⟨_,hl1,⟨w,rfl⟩,rfl,rfl⟩,rfl⟩;refine⟨(.box b4 [.p (I tk),.p (I ti),.p (.str tn),.p (.lst (List.map B4 tl)),.p (.lst (A6 [a,b]))]:: .box m [.p (.lst []),.p (I s1.left),.p (I s1.nodes)]::NR xq m (w++mu) (w++mu) s1.objs),List.perm_append_comm,AB,Aw,?_⟩;refine DO tab 3 [0] O (A3 O (fun _=>A0 BS O O Au (BO O) (A7 _)) AS (DO tab 2 [] O (PK [(14,.free (.fn (.method "euclid/nbe.apply") [.p (aP xq (w++mu) (.st fa))] [])),(15,.free (.p .any)),(16,.free (.p (aP xq (w++mu) (.st fa))))] O O O (.inl ⟨O,O,O⟩) (wF b mu w ρ hsc) (.inl O) Ap fun b33=>⟨AB,AS,?_⟩)));refine A3 O (fun _=>S4) AS (A3 O (fun _=>SO Ap O) AS (DO tab 1 [] O ?_));refine Kw [] O O (Lr O O Ap (nR [_] hl1 hw1) (by have h9:=(hX m (b33::(w++mu)) _ s' nv (Gb hl1)).2.2.2.1 fa s1.next h2;rw[eY (by rw[hl1];exact hnv1),Qz hl1] at h9;exact h9) (TY)) Ap (UQ (mu:=b33::(w++mu)) (Gb hl1) hle2 _) (K1 _) ?_;rintro _ _ ⟨_,⟨_,hl2,⟨w1,rfl⟩,rfl,rfl⟩,rfl⟩;refine⟨(.box b4 [.p (I tk),.p (I ti),.p (.str tn),.p (.lst (List.map B4 tl)),.p (.lst (A6 [a,b]))]:: .box m [.p (.lst []),.p (I s'.left),.p (I s'.nodes)]::NR xq m (w1++(b33::(w++mu))) (w1++(b33::(w++mu))) s'.objs),List.perm_append_comm,AB,AS,?_⟩;refine CY tab 1 [] O (CB ?_);exact⟨O,_,_,⟨_,_,O,O,O⟩,(Et [] [_] O),⟨_,hl2,⟨w1++([b33]++w),by simp⟩,rfl,rfl⟩⟩
 (try simp only[sd,se] at c1);refine BZ tab 2 [] O (BX O (fun c2=>?_) (fun c2=>?_))
 ·(try simp only[sd,se] at c2);obtain⟨a,b,rfl,hw1,hw2,rfl,rfl⟩:=sv he c2;refine BR (Hg (fun k=>Nat.beq k 5||Nat.beq k 14) Ot (DO tab 2 [0] O (A3 O (fun _=>A0 BS O O Au (BO O) (A7 _)) Aw (DO tab 2 [] O (PK [(6,.free (.p (.addr m))),(7,.free (.ptr b4 4)),(8,.read [.box b4 [.p (I tk),.p (I ti),.p (.str tn),.p (.lst (List.map B4 tl)),.p (.lst (A6 [a,b]))]] (.p (.lst (A6 [a,b])))),(9,.free (.ref (BD b))),(10,.free (.agg ((BD b).map .p))),(11,.free (.p (Sl mu ρ)))] O O O (.inl ⟨O,O,O⟩) (jk a (ρ.map (RB mu))) (.inl O) Ap fun b45=>⟨AB,Aw,?_⟩)))));refine DO tab 3 [1] O (A3 O (fun _=>A0 BS O O Au (BO O) (A7 _)) AS (DO tab 2 [] O (A3 O (fun _=>BF O O (sE m b (ρ.map (RB mu))) O) AS (DO tab 1 [] O (Ge [] O O (Dk O) Ap fun b54=>⟨AB,AS,?_⟩)))));exact A3 O (fun _=>IS Ap O) AS (CY tab 1 [] O (A5 (EV (i:=0) (o':=KG xq m (b45::mu) b54 (.func s.next ⟨b,ρ⟩)) O (oe (by simp only[KG,ug,Qz hl,nq hsc];rfl))) (Na (((Sd (q:=xq) (m:=m) (b:=b45) [_] hl hw1).cons _).trans (Sd (q:=xq) (m:=m) (b:=b54) [_] (Gb hl) hw2)) (CB (⟨O,_,_,⟨_,_,O,O,O⟩,(Et [] [_] O),⟨_,Gb (Gb hl),⟨[_,_],O⟩,u5 (q:=xq) (b:=b54) (Gb hl),O⟩⟩)))))
 (try simp only[sd,se] at c2);refine BZ tab 2 [] O (BX O (fun c3=>?_) (fun c3=>?_))
 ·(try simp only[sd,se] at c3);exfalso;rcases kQ he with e | e | e | e<;>omega
 (try simp only[sd,se] at c3);refine BZ tab 2 [] O (BX O (fun c4=>?_) (fun c4=>?_))
 ·(try simp only[sd,se] at c4);exfalso;rcases kQ he with e | e | e | e<;>omega
 (try simp only[sd,se] at c4);refine BR (BZ tab 2 [] O (BX O (fun c5=>?_) (fun c5=>?_)))
 ·(try simp only[sd,se] at c5);obtain⟨p,v1,s1,rfl,h1,hp⟩:=sM he c5;have hle1:=(LZ h1).2.2.1;have hle2:s1.objs.length≤s'.objs.length:=by obtain⟨_,_,_,_,rfl⟩:=Zr hp;simp[NS.new];omega
  refine Bn (BX O (fun c6=>?_) (fun c6=>?_))
  ·(try simp only[sd,se] at c6);refine BR (Hg (fun k=>Nat.beq k 9||Nat.beq k 10) Ot (DO tab 6 [0,0] O (A3 O (fun _=>A0 BS O O Au (BO O) (A7 _)) Aw (DO tab 2 [] O (Kw [] O O (FK O O (List.perm_append_comm (l₁:=[_])) ((hX m mu s s1 v1 hl).1 p ρ h1) (TY)) Ap (UQ hl hle1 _) (K1 _) ?_)))));rintro _ _ ⟨_,⟨_,hl1,⟨w,rfl⟩,rfl,rfl⟩,rfl⟩;refine⟨(.box b4 [.p (I tk),.p (I ti),.p (.str tn),.p (.lst (List.map B4 tl)),.p (.lst (A6 [p]))]:: .box m [.p (.lst []),.p (I s1.left),.p (I s1.nodes)]::NR xq m (w++mu) (w++mu) s1.objs),List.perm_append_comm,AB,Aw,?_⟩;refine Kw [] O O (FK O O (List.perm_append_comm (l₁:=[_])) (sa m (w++mu) s1 s' nv v1 hl1 hp) (aw xP (aw (we (by show AV.p (I tk)=_;rw[c5])) (aw xP HT)))) Ap (UQ (mu:=(w++mu)) hl1 hle2 _) (K1 _) ?_;rintro _ _ ⟨_,⟨_,hl2,⟨w1,rfl⟩,rfl,rfl⟩,rfl⟩;refine⟨(.box b4 [.p (I tk),.p (I ti),.p (.str tn),.p (.lst (List.map B4 tl)),.p (.lst (A6 [p]))]:: .box m [.p (.lst []),.p (I s'.left),.p (I s'.nodes)]::NR xq m (w1++(w++mu)) (w1++(w++mu)) s'.objs),List.perm_append_comm,AB,Aw,?_⟩;refine CY tab 1 [] O (CB ?_);exact⟨O,_,_,⟨_,_,O,O,O⟩,(Et [] [_] O),⟨_,hl2,⟨w1++w,by simp⟩,rfl,rfl⟩⟩
  (try simp only[sd,se] at c6);exfalso;omega
 (try simp only[sd,se] at c5);exfalso;rcases kQ he with e | e | e | e<;>omega
theorem tW:∀(n:Nat),XC n→∀(m:Nat) (mu:List Nat) (s s':NS) (nv:NV) (a:Nat),mu.length=s.objs.length→Mf (n+1) (.force a) s= .ok (nv,s')→BL Tryz.prog 105 [.p (N1 mu a),.p (.addr m)] (HS xq m mu s) (fY xq m mu nv s'):=by
 intro n hX m mu s s' nv a hl h;have hlt:a<mu.length:=by have:=(LZ h).2.1;rw[hl];simpa [uH] using this
 obtain⟨t,ρ,k,hg,hk⟩:=nF h;refine Cb Tryz.func105 O vJ (n:=30) O O (BZ tab 1 [] O (BR (BR ?_)));rcases hk with ⟨rfl,rfl⟩ | ⟨rfl,s1,t2,ρ2,k2,h1,hg1,rfl⟩
 ·obtain⟨tk,ti,tn,tl,ts⟩:=t;refine Be (D3 O (BA O (CP O) (BA O (BG RC O O) (BA O (Bt (i:=s.objs.length - 1 - a+1) lJ O (Fq hl hg) O) (BA O (P0 Ap O O O) (Ch O ?_))))));refine BX O (fun c=>by cases c) (fun c=>?_);exact Bn (BQ (D3 O (BA O (CP O) (BA O (BG RC O O) (BA O (Bt (i:=s.objs.length - 1 - a+1) lJ O (Fq hl hg) O) (BK tab 1 [] O (CB (⟨O,_,_,⟨_,_,O,O,O⟩,(Et [] [] O),⟨_,hl,⟨[],O⟩,O,O⟩⟩))))))))
 obtain⟨tk,ti,tn,tl,ts⟩:=t;obtain⟨uk,ui,un,ul,us⟩:=t2;have hle1:=(LZ h1).2.2.1;refine Be (D3 O (BA O (CP O) (BA O (BG RC O O) (BA O (Bt (i:=s.objs.length - 1 - a+1) lJ O (Fq hl hg) O) (BA O (P0 Ap O O O) (Ch O ?_))))));refine BX O (fun c=>?_) (fun c=>by cases c);refine BR (Hg (fun k=>Nat.beq k 10) Ot (DO tab 3 [] O (A3 O (fun _=>CP O) Aw (A3 O (fun _=>BG RC O O) Aw (CF (j:=s.objs.length - 1 - a+1) O O (Fq hl hg) (fun H i hi=>FX (i:=i) CN O hi O O) AB Aw (A3 O (fun _=>Bh O) Aw (A3 O (fun _=>CP O) Aw (A3 O (fun _=>BG RC O O) Aw (CF (j:=s.objs.length - 1 - a+1) O O (Fq hl hg) (fun H i hi=>Bt (i:=i) sY O hi O) AB Aw (Kw [] O O (FK O O (List.perm_append_comm (l₁:=[])) ((hX m mu s s1 nv hl).1 (.mk tk ti tn tl ts) ρ h1) (TY)) Ap (UQ hl hle1 _) (K1 _) ?_))))))))));rintro _ _ ⟨_,⟨_,hl1,⟨w,rfl⟩,rfl,rfl⟩,rfl⟩;refine⟨(.box m [.p (.lst []),.p (I s1.left),.p (I s1.nodes)]::NR xq m (w++mu) (w++mu) s1.objs),List.perm_append_comm,AB,Aw,?_⟩;refine A3 O (fun _=>CP O) Aw (A3 O (fun _=>BG RC O O) Aw (FB O O (lV (q:=xq) (m:=m) (nv:=nv) lJ hl1 hg1 (OU hlt) O O) (by repeat' first | exact trivial | refine And.intro ?_ ?_ | exact Or.inl Ap) Aw ?_));refine HC O Ap (Be (D3 O (BA O (CP O) (BA O (BG RC O O) ?_))));have hl2:(w++mu).length=(s1.set a (.thunk (.mk uk ui un ul us) ρ2 (some nv))).objs.length:=by simp only[NS.set,List.length_set];exact hl1
 have hg2:=fh (o':= .thunk (.mk uk ui un ul us) ρ2 (some nv)) hg1;refine BA O (oO (q:=xq) (m:=m) sY hl2 hg2 (OU hlt) O O) (BH (jB hl2 hg2 (OU hlt)) ?_);rw[set_set];have hl3:(w++mu).length=(s1.set a (.thunk (.mk uk ui un ul us) none (some nv))).objs.length:=by simp only[NS.set,List.length_set];exact hl1
 have hg3:=fh (o':= .thunk (.mk uk ui un ul us) none (some nv)) hg1;exact Ch O (BQ (D3 O (BA O (CP O) (BA O (BG RC O O) (BA O (Bt (i:=(s1.set a (.thunk (.mk uk ui un ul us) none (some nv))).objs.length - 1 - a+1) lJ O (fj hl3 hg3 (OU hlt)) O) (BK tab 1 [] O (CB (⟨O,_,_,⟨_,_,O,O,O⟩,(Et [] [] O),⟨_,hl3,⟨w,O⟩,O,O⟩⟩))))))))
theorem od:∀(rows:List (List PV)),En Tryz.prog 257 [.p (.lst rows)] (.p (.lstc rows)):=by
 intro rows;refine Cb Tryz.func257 O vm (n:=9) O O (BZ tab 1 [] O (BQ (BT tab 2 [] O (BA O (Ct J7 O O) (D3 O (BA O (Ct J7 O O) (BA O (mW J7 O O O O) (BK tab 1 [] O (CB (⟨O,_,_,⟨_,_,O,O,O⟩,(List.nil_sublist _),?_⟩))))))))))
 all_goals exact⟨rfl,rfl⟩
theorem vz:∀(n m:Nat) (mu:List Nat) (s s':NS) (nv:NV) (a x:Nat),mu.length=s.objs.length→Mf (n+1) (.apply (.st a) x) s= .ok (nv,s')→BL Tryz.prog 255 [.p (N1 mu a),.p (.addr m),.p (N1 mu x)] (HS xq m mu s) (fY xq m mu nv s'):=by
 intro n m mu s s' nv a x hl h;obtain⟨hd,args,hg,hal,hk3,hbn,hw,rfl,rfl⟩:=vR h;obtain⟨hk,hv,⟨ok,oi,on,ol,os⟩,hks,hb⟩:=hd;simp only at hk3 hbn;subst hbn;refine Cb Tryz.func255 O vg (n:=123) O O (BZ tab 1 [] O (BR (BQ (D3 O (BA O (CP O) (BA O (BG S9 O O) (BA O (Bt (i:=s.objs.length - 1 - a+1) ek O (Fq hl hg) O) (BA O (Ct J7 O (Nz _ _)) (BK tab 1 [] O (BX O (fun c=>?_) (fun c=>?_)))))))))))
 ·(try simp only[sd,se] at c);exfalso;omega
 (try simp only[sd,se] at c);refine Bn (BR (Hg (fun k=>Nat.beq k 11||Nat.beq k 13) Ot (A3 O (fun _=>Bh O) Aw (A3 O (fun _=>CP O) Aw (A3 O (fun _=>BG S9 O O) Aw (CF (j:=s.objs.length - 1 - a+1) O O (Fq hl hg) (fun H i hi=>FX (i:=i) r5 O hi O O) AB Aw (A3 O (fun _=>Bh O) Aw (A3 O (fun _=>CP O) Aw (A3 O (fun _=>BG S9 O O) Aw (CF (j:=s.objs.length - 1 - a+1) O O (Fq hl hg) (fun H i hi=>Bt (i:=i) ek O hi O) AB Aw (A3 O (fun _=>BF O O (od (Ug mu args)) O) Aw (A3 O (fun _=>Bh O) Aw (A3 O (fun _=>BJ J7 td O O O O O) Aw ?_)))))))))))));refine tP [] O O (Rn J7 J7 td O O O (oI _ _) O (gF mu [x]) (Nat.succ_pos 0) (by rw[Nz];show 2*(args.length+1)*8≤_;omega)) Ap fun b32 cp=>⟨(by repeat' first | exact trivial | refine And.intro ?_ ?_ | exact Or.inr ⟨List.mem_of_getElem? (Fq hl hg),List.mem_cons_of_mem _ (List.mem_of_getElem? (Fq hl hg))⟩),Aw,?_⟩;refine A3 O (fun _=>EW S9 vS O) Aw (Ge [] O O (Dk O) Ap fun b34=>⟨AB,Aw,?_⟩);refine CY tab 1 [] O (BR (BQ (BH (Cf (i:=1) (j:=0) (q:=9) [32] O O O (DA ⟨O,Aw⟩)) (D3 O (BA O (CP O) (BT tab 2 [] O (BA O (Bt (i:=s.objs.length - 1 - a+1+1) Dz O (Fq hl hg) O) (BK tab 1 [] O (BX O (fun c1=>?_) (fun c1=>?_))))))))))
 ·(try simp only[sd,se] at c1);exact BQ (D3 O (BA O (IS Ap O) (BK tab 1 [] O (A5 (EV (i:=0) (o':=KG xq m mu b34 (.stuck ⟨hk,hv,.mk ok oi on ol os,hks,none⟩ (args++[x]))) O (oe (by simp only[KG,Ug,List.map_append];rfl))) (Na (Sd (q:=xq) (m:=m) (b:=b34) [] hl hw) (CB (⟨O,_,_,⟨_,_,O,O,O⟩,(List.Sublist.refl _),⟨_,Gb hl,⟨[_],O⟩,jd (q:=xq) (b:=b34) hl,O⟩⟩)))))))
 (try simp only[sd,se] at c1);exfalso;omega
theorem VK:∀n,XC n
 | 0=>fun m mu s s' nv hl=>⟨fun _ _ h=>(by cases h),fun _ h=>(by cases h),fun _ _ h=>(by cases h),fun _ _ h=>(by cases h),fun _ _ h=>(by cases h)⟩
 | n+1=>fun m mu s s' nv hl=>⟨fun t ρ h=>wE n (VK n) m mu s s' nv t ρ hl h,fun a h=>tW n (VK n) m mu s s' nv a hl h,fun a x h=>vk n (VK n) m mu s s' nv a x hl h,fun a x h=>vz n m mu s s' nv a x hl h,fun b x h=>tf n (VK n) m mu s s' nv b x hl h⟩
def QC (n:Nat):Prop:=∀(m:Nat) (mu:List Nat) (s s':NS) (t:Tm) (a:Nat) (d:Int),mu.length=s.objs.length→Mb n s (.st a) d= .ok (t,s')→BL Tryz.prog 256 [.p (N1 mu a),.p (.addr m),.p (I d)] (HS xq m mu s) (wN xq m mu t s')
theorem cK:∀(n:Nat),QC n→∀(m:Nat) (mu:List Nat) (s s':NS) (t:Tm) (x:Nat) (d:Int),mu.length=s.objs.length→Uv (Mb n) n s x d= .ok (t,s')→BL Tryz.prog 248 [.p (N1 mu x),.p (.addr m),.p (I d)] (HS xq m mu s) (wN xq m mu t s'):=by
 intro n hQ m mu s s' t x d hl h;obtain⟨a,s1,hf,hq⟩:=jj h;refine Cb Tryz.func248 O wB (n:=13) O O (BQ (C8 O (Az Ba O) fun b6=>Ch O (BQ (BT tab 2 [] O (Mz O O (FK O O (List.perm_append_comm (l₁:=[_])) ((VK n m mu s s1 (.st a) hl).2.1 x hf) (TY)) (K1 _) ?_)))));rintro _ _ ⟨_,⟨_,hl1,⟨w,rfl⟩,rfl,rfl⟩,rfl⟩;refine⟨(.box b6 [.p (I 0),.p (I 0),.p (.str ⟨#[]⟩),.p (.nils),.p (.nils)]:: .box m [.p (.lst []),.p (I s1.left),.p (I s1.nodes)]::NR xq m (w++mu) (w++mu) s1.objs),List.perm_append_comm,?_⟩;refine BT tab 2 [] O (Mz O O (Lr O O Ap (List.perm_append_comm (l₁:=[_])) (hQ m (w++mu) s1 s' t a d hl1 hq) (TY)) (aK _) ?_);rintro _ _ ⟨_,⟨_,hl2,⟨w1,rfl⟩,rfl,rfl⟩,rfl⟩;refine⟨(.box b6 [.p (I 0),.p (I 0),.p (.str ⟨#[]⟩),.p (.nils),.p (.nils)]:: .box m [.p (.lst []),.p (I s'.left),.p (I s'.nodes)]::NR xq m (w1++(w++mu)) (w1++(w++mu)) s'.objs),List.perm_append_comm,?_⟩;refine BK tab 1 [0,1] O (CB ?_);exact⟨O,_,_,⟨_,_,O,(DR (i:=0) CN O O Am),O⟩,(Et [] [_] O),⟨_,hl2,⟨w1++w,by simp⟩,rfl,rfl⟩⟩
theorem xG (t : Tm) : ∀ c ∈ BD t, c ≠ .nils := by obtain ⟨k, i, n, l, s⟩ := t; simp [BD]
theorem Gl (l : List Tm) : ∀ r ∈ A6 l, ∀ c ∈ r, c ≠ .nils := by
 intro r hr
 rw [EY] at hr
 obtain ⟨t, _, rfl⟩ := List.mem_map.1 hr
 exact xG t
end Go.Proofs.YtldfmjoncbjldaaGreat
namespace Go.Eu
open Go.Abs
def Rl (b:Int) (t:Tm):Tm×Int:=if (CS b 0 0 0 t).2≠0 then (BN,(CS b 0 0 0 t).2) else ((CS b 0 0 0 t).1,0)
def U8 (b:Int) (t:Tm):Tm×Int:=match Iy b 0 t with
 | .ok z=>(z,0)
 | .error e=>(BN,e)
theorem q8 {b:Int}{t z:Tm}(h:Iy b 0 t= .ok z):U8 b t=(z,0):=by simp[U8,h]
theorem l6 {b e:Int}{t:Tm}(h:Iy b 0 t= .error e):U8 b t=(BN,e):=by simp[U8,h]
def GN:Tm:= .mk 1 0 ⟨#[]⟩ [] []
def O0 (b:Tm):Bool:=decide (b.kind=4)&&decide (b.kids.length=2)&&decide ((b.kids.getD 1 default).kind=0)&&decide ((b.kids.getD 1 default).index=0)
noncomputable def Pl (a b:Tm):Bool:=decide (a.kind=9)&&decide (b.kind=10)&&decide (a.kids.length=1)&&decide (b.kids.length=1)&&ML (a.kids.getD 0 default) (b.kids.getD 0 default)
noncomputable def aQ (oc:Tm→Bool) (sh:Tm→Tm) (k i:Int) (n:ByteArray) (l:List CX) (ks:List Tm):Tm :=
 if k=5∧ks.length=2 then
  if (O0 (ks.getD 1 default)&& !oc ((ks.getD 1 default).kids.getD 0 default))=true then sh ((ks.getD 1 default).kids.getD 0 default) else .mk k i n l (ks.set 0 GN)
 else if k=8∧ks.length=3 then
  if Pl (ks.getD 1 default) (ks.getD 2 default)=true then (ks.getD 1 default).kids.getD 0 default else .mk k i n l (ks.set 0 GN)
 else .mk k i n l ks
section
variable (oc:Tm→Bool) (sh:Tm→Tm)
mutual
noncomputable def jl:Tm→Tm
 | .mk k i n l ks=>aQ oc sh k i n l (dk ks)
noncomputable def dk:List Tm→List Tm
 | []=>[]
 | t::ts=>jl t::dk ts
end
theorem WV:∀ts,dk oc sh ts=ts.map (jl oc sh)
 | []=>rfl
 | t::ts=>by simp only[dk,List.map_cons,WV ts]
end
noncomputable def KZ:Tm→Tm:=jl (fun f=>eZ 0 0 f) (fun f=>(Rl (-1) f).1)
theorem IL (k i:Int) (n:ByteArray) (l:List CX) (ts:List Tm):KZ (.mk k i n l ts)=aQ (fun f=>eZ 0 0 f) (fun f=>(Rl (-1) f).1) k i n l (ts.map KZ):=by
 show jl _ _ _=_;rw[jl,WV];rfl
section
variable {oc:Tm→Bool}{sh:Tm→Tm}{k i:Int}{n:ByteArray}{l:List CX}{ks:List Tm}{a b c x y:Tm}
theorem SB (h:O0 b=true):b.kids.length=2:=by
 simp only[O0,Bool.and_eq_true,decide_eq_true_eq] at h;exact h.1.1.2
theorem Wy (h:Pl a b=true):a.kids.length=1∧b.kids.length=1:=by
 simp only[Pl,Bool.and_eq_true,decide_eq_true_eq] at h;exact⟨h.1.1.2,h.1.2⟩
theorem SC (hk:k=5) (he:O0 b=true) (hx:b.kids[0]?=some x) (ho:oc x=false):aQ oc sh k i n l [a,b]=sh x:=by
 have hg:b.kids.getD 0 default=x:=by rw[List.getD_eq_getElem?_getD,hx];rfl
 unfold aQ;rw[if_pos ⟨hk,rfl⟩];simp only[List.getD_cons_succ,List.getD_cons_zero,hg,he,ho,Bool.not_false,Bool.and_self,if_true]
theorem Ln (hk:k=5) (he:O0 b=true→∀x,b.kids[0]?=some x→oc x=true):aQ oc sh k i n l [a,b]= .mk k i n l [GN,b]:=by
 unfold aQ;rw[if_pos ⟨hk,rfl⟩];simp only[List.getD_cons_succ,List.getD_cons_zero];rw[if_neg]
 ·rfl
 intro h;simp only[Bool.and_eq_true,Bool.not_eq_true'] at h;have h2:=SB h.1;have:=he h.1 (b.kids.getD 0 default) (by rw[List.getD_eq_getElem?_getD,List.getElem?_eq_getElem Au];rfl);rw[h.2] at this;cases this
theorem SE (hk:k=8) (he:Pl b c=true) (hx:b.kids[0]?=some x):aQ oc sh k i n l [a,b,c]=x:=by
 have hg:b.kids.getD 0 default=x:=by rw[List.getD_eq_getElem?_getD,hx];rfl
 unfold aQ;rw[if_neg Av,if_pos ⟨hk,rfl⟩];simp only[List.getD_cons_succ,List.getD_cons_zero,he,if_true,hg]
theorem TJ (hk:k=8) (he:Pl b c=false):aQ oc sh k i n l [a,b,c]= .mk k i n l [GN,b,c]:=by
 unfold aQ;rw[if_neg Av,if_pos ⟨hk,rfl⟩];simp only[List.getD_cons_succ,List.getD_cons_zero,he,Bool.false_eq_true,if_false];rfl
theorem Ni (h5:¬(k=5∧ks.length=2)) (h8:¬(k=8∧ks.length=3)):aQ oc sh k i n l ks= .mk k i n l ks:=by
 unfold aQ;rw[if_neg h5,if_neg h8]
theorem tq {K:List Tm}(h:K.length=2):∃a b,K=[a,b]:=by
 match K,h with
 | [a,b],_=>exact⟨a,b,rfl⟩
theorem tp {K:List Tm}(h:K.length=3):∃a b c,K=[a,b,c]:=by
 match K,h with
 | [a,b,c],_=>exact⟨a,b,c,rfl⟩
end
theorem pj {t:Tm}(h:Nd t) (hw:Wt t):Nd (Rl (-1) t).1∧size (Rl (-1) t).1≤size t∧Wt (Rl (-1) t).1:=by
 unfold Rl;split
 ·exact⟨PD,by have:=size_pos t;simp[BN,size,BB];omega,by simp[BN,Wt,arity,MY]⟩
 exact⟨Qv _ _ _ _ _ h,Nat.le_of_eq (Mm _ _ _ _ _ (.inr hw)),QJ _ _ _ _ _ hw⟩
end Go.Eu
namespace Go.Proofs.YtldfmjoncbjldaaGreat
open Go.Abs Go.Eu
theorem qZ:∀(bo be:Nat) (co ce:List AV),D8 Tryz.prog 79 [.ptr bo 0,.ptr be 0] (.ret) [.box bo co,.box be ce] (fun H'=>H'=[.box bo co,.box be ce]):=by
 intro bo be co ce;refine GQ (ty2:=0) Tryz.func79 O vI (n:=9) O O O O O O (BQ (D3 O (BA O (Fb Wu O O O) (Ch O ?_))));refine BX O (fun c=>by cases c) (fun c=>?_);exact Bn ⟨.inl O,O,_,(HB (is:=[0,1]) O),O⟩
theorem qa:∀(bo be:Nat) (e:Int),D8 Tryz.prog 79 [.ptr bo 0,.ptr be 0] (.pan (.p (.iface 207 (I e)))) [.box bo [.p (I 0),.p (I 0),.p (.str ⟨#[]⟩),.p (.nils),.p (.nils)],.box be [.p (I 0)]] (fun H'=>H'=[.box bo [.p (I 0),.p (I 0),.p (.str ⟨#[]⟩),.p (.lst []),.p (.lst [])],.box be [.p (I e)]]):=by
 intro bo be e;refine GQ (ty2:=0) Tryz.func79 O vI (n:=9) O O O O O O (BQ (D3 O (BA O (Fb Wu O O O) (BH (BE (i:=0) O) (Ch O ?_)))));refine BX O (fun c=>?_) (fun c=>by cases c);exact Be (BT tab 2 [] O (BA O (BF O O (QY _) O) (BT tab 2 [0,0,1,0] O (BH (BE (i:=0) O) (Ch O ⟨.inl O,O,_,(HB (is:=[0,1]) O),O⟩)))))
set_option maxHeartbeats 2000000 in
theorem jb:∀(t:Tm) (b:Int),(-65536≤b∧b≤65536)→(Nd t)→(Vp t)→(size t≤1000000)→En Tryz.prog 43 [.agg ((BD t).map .p),.p (I b),.p (I 0)] (.tup [.agg ((BD ((U8 b t).1)).map .p),.p (I ((U8 b t).2))]):=by
 intro t b h1 h2 h3 h4;refine Em Tryz.func43 O x3 (n:=24) O O (BQ (C8 O (Dk O) fun b3=>C8 O (Az Ba O) fun b6=>C8 O (Az a8 O) fun b7=>Ch O (BR (BR (Gq [1,2,3,6,7] 17 (fun y=>y= .p (.bool false)) ?_ ?_)))))
 ·refine Be (BT tab 3 [] O (D6 10 O (fun g=>?_) (fun g=>?_)))
  ·(try simp only[sd,se] at g);refine BK tab 7 [] O ?_;exact⟨rfl,rfl,AQ,(by refine pB ?_;simp_all<;>omega),⟨rfl,rfl,rfl,rfl,rfl,trivial⟩⟩
  (try simp only[sd,se] at g);refine BT tab 4 [] O (D6 14 O (fun g1=>?_) (fun g1=>?_))
  ·(try simp only[sd,se] at g1);refine BK tab 3 [] O ?_;exact⟨rfl,rfl,AQ,(by refine pB ?_;simp_all<;>omega),⟨rfl,rfl,rfl,rfl,rfl,trivial⟩⟩
  (try simp only[sd,se] at g1);refine BK tab 3 [] O ?_;exact⟨rfl,rfl,AQ,(by refine pB ?_;simp_all<;>omega),⟨rfl,rfl,rfl,rfl,rfl,trivial⟩⟩
 rintro _ rfl;refine BX O (fun c=>by cases c) (fun c=>?_);refine Bn (BQ (BA O (EK O O) (LK O O O O (Ch O (BQ (BT tab 3 [2] O (GZ [] O O O (.inl ⟨O,O,O⟩) (Tx t b 0 h2 h3 Ak Au Au) O As (aw (we O) (aw (we O) (aw (we O) (HT)))) (fun _ _ h=>(congrArg List.length h).trans O) ?_ ?_)))))))
 rotate_left
 ·intro e _ he;refine⟨_,_,_,O,K6 (is:=[1,0]) _ As ⟨_,_,O,O,⟨_,_,O,O,O⟩⟩,D8.eq (qa b6 b7 _) ?_⟩;refine⟨_,[],⟨_,_,O,(DR (i:=0) CN O O O),⟨_,_,O,(F9 (i:=1) QN O O),O⟩⟩,(List.nil_sublist _),?_⟩;rw[l6 he];exact⟨O,O⟩
 rintro z _ hz rfl;refine BK tab 2 [1,1,0,0] O (CB (⟨_,_,_,O,DP (is:=[1,0]) As ⟨_,_,O,O,⟨_,_,O,O,O⟩⟩,D8.eq (qZ b6 b7 _ _) ?_⟩));refine⟨_,_,⟨_,_,O,(DR (i:=0) CN O O Am),⟨_,_,O,(F9 (i:=1) QN O O),O⟩⟩,(List.nil_sublist _),?_⟩
 all_goals exact⟨by show (.tup [.agg ((BD z).map .p),.p (I 0)]:AV)=_;rw[q8 hz],rfl⟩
end Go.Proofs.YtldfmjoncbjldaaGreat
namespace Go.Eu
open Go.Abs
theorem YW (l:List Tm):((l.length:Int)=1)=(l.length=1):=propext ⟨fun h=>by omega,fun h=>by omega⟩
theorem fm (l:List Tm):((l.length:Int)=2)=(l.length=2):=propext ⟨fun h=>by omega,fun h=>by omega⟩
theorem qT {ts:List Tm}{f:Tm→Tm}(h:∀t∈ts,Nd (f t)):M6 (ts.map f):=by
 induction ts with
 | nil=>trivial
 | cons t ts ih=>exact⟨h t Av,ih fun x hx=>h x (by simp[hx])⟩
theorem dV {ts:List Tm}{f:Tm→Tm}(h:∀t∈ts,Wt (f t)):MY (ts.map f):=by
 induction ts with
 | nil=>trivial
 | cons t ts ih=>exact⟨h t Av,ih fun x hx=>h x (by simp[hx])⟩
theorem VC {ts:List Tm}{f:Tm→Tm}(h:∀t∈ts,size (f t)≤size t):BB (ts.map f)≤BB ts:=by
 induction ts with
 | nil=>simp[BB]
 | cons t ts ih=>have:=h t Av;have:=ih fun x hx=>h x (by simp[hx]);simp only[List.map_cons,BB];omega
theorem Ka {ts:List Tm}(h:M6 ts):∀t∈ts,Nd t:=by
 induction ts with
 | nil=>intro t ht;cases ht
 | cons a ts ih=>intro t ht;rcases List.mem_cons.1 ht with rfl | ht;exact h.1;exact ih h.2 t ht
theorem Hu {ts:List Tm}(h:MY ts):∀t∈ts,Wt t:=by
 induction ts with
 | nil=>intro t ht;cases ht
 | cons a ts ih=>intro t ht;rcases List.mem_cons.1 ht with rfl | ht;exact h.1;exact ih h.2 t ht
theorem I2 {ts:List Tm}{t:Tm}(h:t∈ts):size t≤BB ts:=by
 obtain⟨i,hi⟩:=List.mem_iff_getElem?.1 h;exact CU hi
theorem tA {oc:Tm→Bool}{sh:Tm→Tm}(hs:∀t,Nd t→Wt t→Nd (sh t)∧size (sh t)≤size t∧Wt (sh t)) {k i:Int}{n:ByteArray}{l:List CX}{ks:List Tm}(h:Nd (.mk k i n l ks)) (w:Wt (.mk k i n l ks)) :
  Nd (aQ oc sh k i n l ks)∧size (aQ oc sh k i n l ks)≤size (.mk k i n l ks)∧Wt (aQ oc sh k i n l ks):=by
 have hp:∀a,a∈ks→Nd a∧Wt a∧size a+1≤size (.mk k i n l ks):=fun a ha=>⟨Ka h.2.2.2.2.1 a ha,Hu w.2.2 a ha,by have:=I2 ha;simp only[size];omega⟩;have hpr:Nd GN∧Wt GN∧size GN=1:=⟨⟨by decide,by decide,by simp,by decide,trivial,⟨by decide,by decide⟩,⟨by decide,by decide⟩⟩,by simp[GN,Wt,arity,MY],by simp[GN,size,BB]⟩;by_cases h5:k=5∧ks.length=2
 ·obtain⟨a,b,rfl⟩:=tq h5.2;obtain⟨b1,b2,b3⟩:=hp b Av;cases he:O0 b with
  | true =>
   have hl:=SB he;obtain⟨x,hx⟩:∃x,b.kids[0]?=some x:=⟨_,List.getElem?_eq_getElem Au⟩;cases ho:oc x with
   | false =>
    rw[SC h5.1 he hx ho];obtain⟨bk,bi,bn,bl,bs⟩:=b;have hm:=List.mem_of_getElem? hx;obtain⟨q1,q2,q3⟩:=hs x (Ka b1.2.2.2.2.1 x hm) (Hu b2.2.2 x hm);have:=I2 hm;simp only[size] at b3 ⊢;simp only[Tm.kids] at this;exact⟨q1,by omega,q3⟩
   | true =>
    rw[Ln h5.1 (fun _ y hy=>by rw[hx] at hy;injection hy with hy;rw[←hy];exact ho)];exact⟨⟨h.1,h.2.1,h.2.2.1,h.2.2.2.1,⟨hpr.1,b1,Aw⟩,h.2.2.2.2.2⟩,by have:=size_pos a;simp only[size,BB,hpr.2.2] at *;omega,⟨w.1,w.2.1,hpr.2.1,b2,trivial⟩⟩
  | false =>
   rw[Ln h5.1 (fun e=>by rw[he] at e;cases e)];exact⟨⟨h.1,h.2.1,h.2.2.1,h.2.2.2.1,⟨hpr.1,b1,Aw⟩,h.2.2.2.2.2⟩,by have:=size_pos a;simp only[size,BB,hpr.2.2] at *;omega,⟨w.1,w.2.1,hpr.2.1,b2,trivial⟩⟩
 by_cases h8:k=8∧ks.length=3
 ·obtain⟨a,b,c,rfl⟩:=tp h8.2;obtain⟨b1,b2,b3⟩:=hp b Av;obtain⟨c1,c2,c3⟩:=hp c Av;cases he:Pl b c with
  | true =>
   have hl:=(Wy he).1;obtain⟨x,hx⟩:∃x,b.kids[0]?=some x:=⟨_,List.getElem?_eq_getElem Au⟩;rw[SE h8.1 he hx];obtain⟨bk,bi,bn,bl,bs⟩:=b;have hm:=List.mem_of_getElem? hx;have:=I2 hm;simp only[size] at b3 ⊢;simp only[Tm.kids] at this;exact⟨Ka b1.2.2.2.2.1 x hm,by omega,Hu b2.2.2 x hm⟩
  | false =>
   rw[TJ h8.1 he];exact⟨⟨h.1,h.2.1,h.2.2.1,h.2.2.2.1,⟨hpr.1,b1,c1,Aw⟩,h.2.2.2.2.2⟩,by have:=size_pos a;simp only[size,BB,hpr.2.2] at *;omega,⟨w.1,w.2.1,hpr.2.1,b2,c2,trivial⟩⟩
 rw[Ni h5 h8];exact⟨h,Nat.le_refl _,w⟩
theorem xf {P:Tm→Prop}(h:∀k i n l ks,(∀t∈ks,P t)→P (.mk k i n l ks)):∀t,P t:=by
 have:∀m t,size t≤m→P t:=by
  intro m
  induction m with
  | zero=>intro t ht;have:=size_pos t;omega
  | succ m ih =>
   intro t ht;obtain⟨k,i,n,l,ks⟩:=t;exact h k i n l ks fun x hx=>ih x (by have:=I2 hx;simp only[size] at ht;omega)
 exact fun t=>this _ t (Nat.le_refl _)
theorem ay:∀t,Nd t→Wt t→Nd (KZ t)∧size (KZ t)≤size t∧Wt (KZ t):=by
 refine xf fun k i n l ks ih h w=>?_;have hk:∀t∈ks,Nd (KZ t)∧size (KZ t)≤size t∧Wt (KZ t):=fun t ht=>ih t ht (Ka h.2.2.2.2.1 t ht) (Hu w.2.2 t ht);have h2:Nd (.mk k i n l (ks.map KZ)):=⟨h.1,h.2.1,h.2.2.1,by rw[List.length_map];exact h.2.2.2.1,qT fun t ht=>(hk t ht).1,h.2.2.2.2.2⟩;have w2:Wt (.mk k i n l (ks.map KZ)):=⟨by rw[List.length_map];exact w.1,w.2.1,dV fun t ht=>(hk t ht).2.2⟩;have s2:BB (ks.map KZ)≤BB ks:=VC fun t ht=>(hk t ht).2.1;rw[IL];obtain⟨a,b,c⟩:=tA (oc:=fun f=>eZ 0 0 f) (fun t ht wt=>pj ht wt) h2 w2;exact⟨a,by simp only[size] at b ⊢;omega,c⟩
end Go.Eu
namespace Go.Proofs.YtldfmjoncbjldaaGreat
open Go.Abs Go.Eu
end Go.Proofs.YtldfmjoncbjldaaGreat
namespace Go.Eu
open Go.Abs
mutual
theorem Sa:∀(t:Tm) (d:Int),Wt t→Vp t→0≤d→d+size t<2199023255552→EE (KW (Yj (-1) 0)) t d ()=El (CS (-1) 0 d 0 t)
 | .mk k i n l ks,d,h1,h2,h3,h4=>by
  by_cases hk:k=0
  ·have hks:=SH h1 hk;have hi:=h2.1 hk;have e1:wr (0+d)=d:=by rw[Int.zero_add];exact ES (by unfold JY;omega)
   have e2:wr (i+ -1)=i+ -1:=ES (by unfold JY;omega);by_cases hlo:i - d<0
   ·rw[Fj (Kl hk (Wf hlo))];unfold CS;rw[if_pos hk,e1,if_pos Au];subst hks;rfl
   by_cases h0:i - d<0 - (-1)
   ·rw[HD (K3 hk (dL hlo Au h0))];unfold CS;rw[if_pos hk,e1,if_neg Au,e2,if_pos Au];rfl
   have hsh:Yj (-1) 0 (.mk k i n l ks) d=Il (i+ -1):=Wr hlo Au;unfold CS;rw[if_pos hk,e1,if_neg Au,e2,if_neg Au];by_cases hbig:i+ -1 > 65535
   ·rw[HD (K3 hk (hsh.trans (if_pos hbig)))];unfold El MZ Gi;simp[hbig]
   rw[Fj (Kl hk (hsh.trans (if_neg hbig)))];unfold El MZ;simp[hbig]
  have hs:d+BB ks<2199023255551:=by simp only[size] at h4;omega
  have hL:=RT k ks d 0 h1.2.2 h2.2 h3 hs;unfold CS;rw[if_neg hk];unfold F8 at hL;unfold El;by_cases he:(Cq (-1) 0 k d 0 0 ks).2=0
  ·rw[if_pos he] at hL;rw[if_pos he];exact IC (Lk hk) hL
  rw[if_neg he] at hL;rw[if_neg he];exact JP (Lk hk) hL
theorem RT (k:Int):∀(ts:List Tm) (d:Int) (j:Nat),MY ts→Uh ts→0≤d→d+BB ts<2199023255551→Dw (KW (Yj (-1) 0)) k j ts d ()=F8 (Cq (-1) 0 k d j 0 ts)
 | [],d,j,h1,h2,h3,h4=>rfl
 | t::ts,d,j,h1,h2,h3,h4=>by
  have hbl:=Cx k j;simp only[BB] at h4;have hT:=Sa t (d+below k j) h1.1 h2.1 Au Au;have hL:=RT k ts d (j+1) h1.2 h2.2 h3 Au;unfold Dw Cq;rw[hT];unfold El F8 Ea;by_cases he:(CS (-1) 0 (d+below k j) 0 t).2=0
  ·rw[if_pos he];simp only;rw[hL,he];unfold F8;by_cases hq:(Cq (-1) 0 k d (j+1) 0 ts).2=0
   ·rw[if_pos hq,if_pos hq]
   rw[if_neg hq,if_neg hq]
  rw[if_neg he];simp only;rw[Ii (-1) 0 k ts d (j+1) _ he,if_neg he]
end
theorem eG {v:Tm}(h1:Wt v) (h2:Vp v) (h3:size v<1099511627776):U8 (-1) v=Rl (-1) v:=by
 unfold U8 Rl Iy;rw[Sa v 0 h1 h2 Au Au];unfold El;by_cases he:(CS (-1) 0 0 0 v).2=0
 ·rw[if_pos he,if_neg (by simp[he])];rfl
 rw[if_neg he,if_pos he];rfl
mutual
def Vb:Tm→Prop
 | .mk k i _ _ ks=>(k=0→0≤i∧i≤65535)∧qx ks
def qx:List Tm→Prop
 | []=>True
 | t::ts=>Vb t∧qx ts
end
theorem I8 {ts:List Tm}(h:qx ts):∀t∈ts,Vb t:=by
 induction ts with
 | nil=>intro t ht;cases ht
 | cons a ts ih=>intro t ht;rcases List.mem_cons.1 ht with rfl | ht;exact h.1;exact ih h.2 t ht
theorem s6 {ts:List Tm}(h:∀t∈ts,Vb t):qx ts:=by
 induction ts with
 | nil=>trivial
 | cons t ts ih=>exact⟨h t Av,ih fun x hx=>h x (by simp[hx])⟩
theorem qy {ts:List Tm}{f:Tm→Tm}(h:∀t∈ts,Vb (f t)):qx (ts.map f):=s6 fun x hx=>by
 obtain⟨y,hy,rfl⟩:=List.mem_map.1 hx;exact h y hy
theorem qJ {ts:List Tm}(h:∀t∈ts,Vp t):Uh ts:=by
 induction ts with
 | nil=>trivial
 | cons t ts ih=>exact⟨h t Av,ih fun x hx=>h x (by simp[hx])⟩
theorem Vb.vp:∀{t:Tm},Vb t→Vp t:= @(xf (P:=fun t=>Vb t→Vp t) fun k i n l ks ih h=>⟨fun e=>by have:=h.1 e;omega,qJ fun t ht=>ih t ht (I8 h.2 t ht)⟩)
mutual
theorem nH:∀(t:Tm) (d:Int),Wt t→Vb t→0≤d→d+size t<2199023255552→((CS (-1) 0 d 0 t).2=0↔eZ 0 d t=false)
 | .mk k i n l ks,d,h1,h2,h3,h4=>by
  unfold CS eZ;by_cases hk:k=0
  ·have hks:=SH h1 hk;have hi:=h2.1 hk;have e1:wr (0+d)=d:=by rw[Int.zero_add];exact ES (by unfold JY;omega)
   have e2:wr (i+ -1)=i+ -1:=ES (by unfold JY;omega);subst hks;rw[if_pos hk,e1,e2];simp only[Mh,Bool.or_false];by_cases hlo:i<d
   ·rw[if_pos hlo];simp[show ¬d≤i by omega]
   rw[if_neg hlo];by_cases h0:i+ -1<d
   ·rw[if_pos h0];simp[Gi,hk,show d≤i by omega,show i - d=0 by omega]
   rw[if_neg h0];simp[MZ,Gi,show ¬i+ -1 > 65535 by omega,show ¬i - d=0 by omega]
  have hs:d+BB ks<2199023255551:=by simp only[size] at h4;omega
  rw[if_neg hk];simp only[hk,decide_false,Bool.false_and,Bool.false_or];exact ej k ks d 0 h1.2.2 h2.2 h3 hs
theorem ej (k:Int):∀(ts:List Tm) (d:Int) (j:Nat),MY ts→qx ts→0≤d→d+BB ts<2199023255551→((Cq (-1) 0 k d j 0 ts).2=0↔Mh 0 d k j ts=false)
 | [],d,j,h1,h2,h3,h4=>by simp[Cq,Mh]
 | t::ts,d,j,h1,h2,h3,h4=>by
  have hbl:=Cx k j;simp only[BB] at h4;have hT:=nH t (d+below k j) h1.1 h2.1 Au Au;have hL:=ej k ts d (j+1) h1.2 h2.2 h3 Au;unfold Cq Mh;simp only;rw[Bool.or_eq_false_iff];by_cases he:(CS (-1) 0 (d+below k j) 0 t).2=0
  ·rw[he,hL,←hT];simp[he]
  rw[Ii (-1) 0 k ts d (j+1) _ he,←hT];simp[he]
end
mutual
theorem VE:∀(t:Tm) (d er:Int),Wt t→Vb t→0≤d→d+size t<2199023255552→Vb (CS (-1) 0 d er t).1
 | .mk k i n l ks,d,er,h1,h2,h3,h4=>by
  unfold CS;by_cases hk:k=0
  ·have hi:=h2.1 hk;have e1:wr (0+d)=d:=by rw[Int.zero_add];exact ES (by unfold JY;omega)
   have e2:wr (i+ -1)=i+ -1:=ES (by unfold JY;omega);rw[if_pos hk,e1,e2];split
   ·exact h2
   split
   ·exact h2
   exact⟨fun _=>by omega,trivial⟩
  rw[if_neg hk];exact⟨fun e=>absurd e hk,Su k ks d 0 er h1.2.2 h2.2 h3 (by simp only[size] at h4;omega)⟩
theorem Su (k:Int):∀(ts:List Tm) (d:Int) (j:Nat) (er:Int),MY ts→qx ts→0≤d→d+BB ts<2199023255551→qx (Cq (-1) 0 k d j er ts).1
 | [],d,j,er,h1,h2,h3,h4=>trivial
 | t::ts,d,j,er,h1,h2,h3,h4=>by
  have hbl:=Cx k j;simp only[BB] at h4;exact⟨VE t (d+below k j) er h1.1 h2.1 Au Au,Su k ts d (j+1) _ h1.2 h2.2 h3 Au⟩
end
theorem ph {t:Tm}(h1:Wt t) (h2:Vb t) (h3:size t<1099511627776):Vb (Rl (-1) t).1:=by
 unfold Rl;split
 ·exact⟨fun _=>by omega,trivial⟩
 exact VE t 0 0 h1 h2 Au Au
theorem lH {t:Tm}(h1:Wt t) (h2:Vb t) (h3:size t<1099511627776):(Rl (-1) t).2=0↔eZ 0 0 t=false:=by
 rw[←nH t 0 h1 h2 Au Au];unfold Rl;split
 ·exact Iff.rfl
 rename_i h;simpa using h
theorem fE {t:Tm}(h1:Wt t) (h2:Vb t) (h3:size t<1099511627776):(U8 (-1) t).2=0↔eZ 0 0 t=false:=by
 rw[eG h1 h2.vp h3];exact lH h1 h2 h3
theorem sG {oc:Tm→Bool}{sh:Tm→Tm}(hs:∀t,Wt t→Vb t→size t<1099511627776→Vb (sh t)) {k i:Int}{n:ByteArray}{l:List CX}{ks:List Tm}(w:Wt (.mk k i n l ks)) (v:Vb (.mk k i n l ks)) (hz:size (.mk k i n l ks)<1099511627776):Vb (aQ oc sh k i n l ks):=by
 have hp:∀a,a∈ks→Wt a∧Vb a∧size a+1≤size (.mk k i n l ks):=fun a ha=>⟨Hu w.2.2 a ha,I8 v.2 a ha,by have:=I2 ha;simp only[size];omega⟩;have hpr:Vb GN:=⟨fun e=>absurd e As,trivial⟩;by_cases h5:k=5∧ks.length=2
 ·obtain⟨a,b,rfl⟩:=tq h5.2;obtain⟨b1,b2,b3⟩:=hp b Av;have hno:Vb (.mk k i n l [GN,b]):=⟨v.1,hpr,b2,trivial⟩;cases he:O0 b with
  | true =>
   have hl:=SB he;obtain⟨x,hx⟩:∃x,b.kids[0]?=some x:=⟨_,List.getElem?_eq_getElem Au⟩;cases ho:oc x with
   | false =>
    rw[SC h5.1 he hx ho];obtain⟨bk,bi,bn,bl,bs⟩:=b;have hm:=List.mem_of_getElem? hx;exact hs x (Hu b1.2.2 x hm) (I8 b2.2 x hm) (by have:=I2 hm;simp only[size,Tm.kids] at b3 this hz;omega)
   | true =>
    rw[Ln h5.1 (fun _ y hy=>by rw[hx] at hy;injection hy with hy;rw[←hy];exact ho)];exact hno
  | false =>
   rw[Ln h5.1 (fun e=>by rw[he] at e;cases e)];exact hno
 by_cases h8:k=8∧ks.length=3
 ·obtain⟨a,b,c,rfl⟩:=tp h8.2;obtain⟨b1,b2,b3⟩:=hp b Av;obtain⟨c1,c2,c3⟩:=hp c Av;cases he:Pl b c with
  | true =>
   have hl:=(Wy he).1;obtain⟨x,hx⟩:∃x,b.kids[0]?=some x:=⟨_,List.getElem?_eq_getElem Au⟩;rw[SE h8.1 he hx];obtain⟨bk,bi,bn,bl,bs⟩:=b;exact I8 b2.2 x (List.mem_of_getElem? hx)
  | false =>
   rw[TJ h8.1 he];exact⟨v.1,hpr,b2,c2,Aw⟩
 rw[Ni h5 h8];exact v
theorem tG:∀t,Nd t→Wt t→Vb t→size t<1099511627776→Vb (KZ t):=by
 refine xf fun k i n l ks ih h w v hz=>?_;have hk:∀t∈ks,Nd (KZ t)∧size (KZ t)≤size t∧Wt (KZ t):=fun t ht=>ay t (Ka h.2.2.2.2.1 t ht) (Hu w.2.2 t ht);have w2:Wt (.mk k i n l (ks.map KZ)):=⟨by rw[List.length_map];exact w.1,w.2.1,dV fun t ht=>(hk t ht).2.2⟩;have v2:Vb (.mk k i n l (ks.map KZ)):=⟨v.1,qy fun t ht=>ih t ht (Ka h.2.2.2.2.1 t ht) (Hu w.2.2 t ht) (I8 v.2 t ht) (by have:=I2 ht;simp only[size] at hz;omega)⟩;have s2:BB (ks.map KZ)≤BB ks:=VC fun t ht=>(hk t ht).2.1;rw[IL];exact sG (fun t ht vt zt=>ph ht vt zt) w2 v2 (by simp only[size] at hz ⊢;omega)
theorem wU {f:Tm→Tm}{ts:List Tm}{i:Nat}{x:Tm}(hx:ts[i]?=some x):(((ts.take i).map f)++List.replicate (ts.length - i) BN).set i (f x)=(ts.take (i+1)).map f++List.replicate (ts.length - (i+1)) BN:=by
 have hi:i<ts.length:=by
  have:=List.getElem?_eq_some_iff.1 hx;exact this.1
 rw[Y2 (by rw[List.length_map,List.length_take];omega) Au,List.take_add_one,hx,List.map_append];rfl
theorem bW {α:Type}{a b:List α}(hl:a.length=b.length) (h:∀j,j<a.length→∀x,a[j]?=some x→b[j]?=some x):a=b:=by
 refine List.ext_getElem? fun j=>?_;rcases Nat.lt_or_ge j a.length with q | q
 ·rw[List.getElem?_eq_getElem q];exact(h j q _ (List.getElem?_eq_getElem q)).symm
 rw[List.getElem?_eq_none q,List.getElem?_eq_none Au]
theorem fH {c d:Int}{u v:List B6}:ML (CX.mk c u) (CX.mk d v)=((c==d)&&ML u v):=by
 rw[Bool.eq_iff_iff,GY];simp[GY]
theorem S6 {k i k' i':Int}{n n':ByteArray}{l l':List CX}{s s':List Tm}:ML (Tm.mk k i n l s) (Tm.mk k' i' n' l' s')=(((((k==k')&&(i==i'))&&(n.toList==n'.toList))&&ML l l')&&ML s s'):=by
 rw[Bool.eq_iff_iff,GY];simp only[Tm.mk.injEq,Bool.and_eq_true,GY,beq_iff_eq];constructor
 ·rintro⟨rfl,rfl,rfl,rfl,rfl⟩;exact⟨⟨⟨⟨rfl,rfl⟩,rfl⟩,rfl⟩,rfl⟩
 rintro⟨⟨⟨⟨rfl,rfl⟩,e⟩,rfl⟩,rfl⟩;exact⟨rfl,rfl,Gk e,rfl,rfl⟩
theorem Xi {k i:Int}{n:ByteArray}{l:List CX}{ts:List Tm}(h:ts.length=0):KZ (.mk k i n l ts)= .mk k i n l ts:=by
 obtain rfl:ts=[]:=List.length_eq_zero_iff.1 h;rw[IL];exact Ni Av Av
end Go.Eu
namespace Go.Proofs.YtldfmjoncbjldaaGreat
open Go.Abs Go.Eu
theorem uK : ∀ (a b : List B6), (a.length < Db) → En Tryz.prog 130 [.p (.lst (List.map Ey a)), .p (.lst (List.map Ey b))] (.p (.bool (ML a b))) := by
 intro a b h1
 simp only [Db] at h1
 refine DI Tryz.func130 ?_
 refine CA [2] O O (List.length_map _) ?_
 refine CA [1] O O (List.length_map _) ?_
 refine BC [1] rfl ?_ ?_ <;> intro c
 ·refine A9 [1] O (Bg [] [] O O ⟨by rw [FL (fun h => by subst h; simp at c)], rfl⟩)
 refine CA [1] O O (List.length_map _) ?_
 refine GG (α := Nat) [1] [0, 1, 12] [] (fun i => [(13, .p (I (i : Int)))]) (fun _ => []) (fun i => a.length - i) (fun i => i ≤ a.length ∧ (∀ j, j < i → ∀ x, a[j]? = some x → b[j]? = some x)) 0 O O O (⟨by omega, fun j h => by omega⟩) ?_
 rintro i hC
 try simp only at hC
 obtain ⟨hi, hC⟩ := hC
 refine BC [1] rfl ?_ ?_ <;> intro c1
 ·refine E2 [2] [] O ?_
  refine Bb [2] O ?_
  obtain ⟨x, hx⟩ := A1 (l := a) (i := i) Au
  refine A3 O (fun _ => A0 DC O O Au (DT hx) (O)) Aw ?_
  refine Bb [3] O ?_
  obtain ⟨x1, hx1⟩ := A1 (l := b) (i := i) Au
  refine A3 O (fun _ => A0 DC O O Au (DT hx1) (O)) Aw ?_
  refine A3 O (fun _ => Bk rS O (O)) Aw ?_
  refine A3 O (fun _ => VM r9 O O) Aw ?_
  refine HC O Ap ?_
  refine Cu (BC [0] rfl ?_ ?_) <;> intro c2
  ·refine A9 [1] O (Bg [] [] O O ⟨by rw [FL (fun h => by subst h; rw [hx] at hx1; injection hx1 with e; subst e; simp [FP] at c2)], rfl⟩)
  exact FR [2] 0 (i + 1) rfl (⟨by omega, Cg (p := fun j x => b[j]? = some x) hC hx (by have e : x = x1 := (by obtain ⟨_, _⟩ := x; obtain ⟨_, _⟩ := x1; simp at c2; simp [c2]); rw [e]; exact hx1)⟩)
 refine DF [0] O ?_
 refine A9 [1] O (Bg [] [] O O ⟨by rw [FP (bW Au fun j hj x hx => hC j Au x hx)]; try rfl, rfl⟩)
theorem nA:∀(a b:CX),(a.vars.length<Db)→En Tryz.prog 83 [.agg ((B4 a).map .p),.agg ((B4 b).map .p)] (.p (.bool (ML a b))):=by
 intro a b h1;refine DI Tryz.func83 (CG [0] O O fun b2=>CG [0] O O fun b3=>CI [1] 1 [] 4 (ML a b) O O ?_ ?_)
 ·refine Bc [6,1,0] 10 rfl rfl ?_ ?_<;>intro g
  ·exact CQ [4,1,0] O (uK a.vars b.vars h1) (CT [2] O (hr:=(by rw[fH];first | rfl | (refine pB ?_;simp_all))))
  exact CT [7] O (hr:=(by rw[fH];first | rfl | (refine pB ?_;simp_all)))
 refine A9 [0] O (Bg [] [] O O ⟨O,O⟩)
theorem nx : ∀ (a b : List CX), (a.length < Db) → (∀ l ∈ a, OA l) → En Tryz.prog 82 [.p (.lst (List.map B4 a)), .p (.lst (List.map B4 b)), .p (.fn 83)] (.p (.bool (ML a b))) := by
 intro a b h1 h2
 simp only [Db] at h1
 refine DI Tryz.func82 ?_
 refine CA [2] O O (List.length_map _) ?_
 refine CA [1] O O (List.length_map _) ?_
 refine BC [1] rfl ?_ ?_ <;> intro c
 ·refine A9 [1] O (Bg [] [] O O ⟨by rw [FL (fun h => by subst h; simp at c)], rfl⟩)
 refine CA [1] O O (List.length_map _) ?_
 refine GG (α := Nat) [1] [1, 2, 15, 16] [] (fun i => [(17, .p (I (i : Int)))]) (fun _ => []) (fun i => a.length - i) (fun i => i ≤ a.length ∧ (∀ j, j < i → ∀ x, a[j]? = some x → b[j]? = some x)) 0 O O O (⟨by omega, fun j h => by omega⟩) ?_
 rintro i hC
 try simp only at hC
 obtain ⟨hi, hC⟩ := hC
 refine BC [1] rfl ?_ ?_ <;> intro c1
 ·refine D7 [1] a i O O O (H5 E3) (fun x hx => ?_)
  refine Bp [1] O (Az FC O) fun b8 => ?_
  refine D7 [4, 0, 1] b i O O O (H5 E3) (fun x1 hx1 => ?_)
  refine Bp [1] O (Az FC O) fun b9 => ?_
  refine CQ [4, 0, 1, 1, 0] O (nA x x1 (h2 x (List.mem_of_getElem? hx)).vars) ?_
  refine BC [1] rfl ?_ ?_ <;> intro c2
  ·refine A9 [1] O (Bg [] [] O O ⟨by rw [FL (fun h => by subst h; rw [hx] at hx1; injection hx1 with e; subst e; simp [FP] at c2)], rfl⟩)
  exact FR [2] 2 (i + 1) O (⟨by omega, Cg (p := fun j x => b[j]? = some x) hC hx (by have e : x = x1 := GY.1 (by simpa using c2); rw [e]; exact hx1)⟩)
 refine DF [0] O ?_
 refine A9 [1] O (Bg [] [] O O ⟨by rw [FP (bW Au fun j hj x hx => hC j Au x hx)]; try rfl, rfl⟩)
theorem oT : ∀ (n : Nat) (a b : List Tm), (∀ x y : Tm, size x ≤ n → Nd x → En Tryz.prog 44 [TV x, TV y] (.p (.bool (ML x y)))) → (BB a ≤ n) → (M6 a) → (a.length < Db) → En Tryz.prog 84 [.p (.lst (A6 a)), .p (.lst (A6 b)), .p (.fn 44)] (.p (.bool (ML a b))) := by
 intro n a b h1 h2 h3 h4
 simp only [Db] at h4
 refine DI Tryz.func84 ?_
 refine CA [2] O O (A8 _) ?_
 refine CA [1] O O (A8 _) ?_
 refine BC [1] rfl ?_ ?_ <;> intro c
 ·refine A9 [1] O (Bg [] [] O O ⟨by rw [FL (fun h => by subst h; simp at c)], rfl⟩)
 refine CA [1] O O (A8 _) ?_
 refine GG (α := Nat) [1] [1, 2, 15, 16] [] (fun i => [(17, .p (I (i : Int)))]) (fun _ => []) (fun i => a.length - i) (fun i => i ≤ a.length ∧ (∀ j, j < i → ∀ x, a[j]? = some x → b[j]? = some x)) 0 O O O (⟨by omega, fun j h => by omega⟩) ?_
 rintro i hC
 try simp only at hC
 obtain ⟨hi, hC⟩ := hC
 refine BC [1] rfl ?_ ?_ <;> intro c1
 ·refine D7 [1] a i O O O (IH _) (fun x hx => ?_)
  refine Bp [1] O (Az Ba O) fun b8 => ?_
  refine D7 [4, 0, 1] b i O O O (IH _) (fun x1 hx1 => ?_)
  refine Bp [1] O (Az Ba O) fun b9 => ?_
  refine CQ [4, 0, 1, 1, 0] O (h1 x x1 (by have := CU hx; omega) (DV h3 hx)) ?_
  refine BC [1] rfl ?_ ?_ <;> intro c2
  ·refine A9 [1] O (Bg [] [] O O ⟨by rw [FL (fun h => by subst h; rw [hx] at hx1; injection hx1 with e; subst e; simp [FP] at c2)], rfl⟩)
  exact FR [2] 2 (i + 1) O (⟨by omega, Cg (p := fun j x => b[j]? = some x) hC hx (by have e : x = x1 := GY.1 (by simpa using c2); rw [e]; exact hx1)⟩)
 refine DF [0] O ?_
 refine A9 [1] O (Bg [] [] O O ⟨by rw [FP (bW Au fun j hj x hx => hC j Au x hx)]; try rfl, rfl⟩)
theorem pD:∀(n:Nat) (a b:Tm),(size a≤n)→(Nd a)→En Tryz.prog 44 [.agg ((BD a).map .p),.agg ((BD b).map .p)] (.p (.bool (ML a b))):=by
 intro n
 induction n with
 | zero=>intro a b h1;cases a;simp[size] at h1
 | succ n ih =>
  intro a b h1 h2;obtain⟨ak,ai,an,al,as1⟩:=a;simp only[size] at h1;simp only[Nd,Db] at h2;obtain⟨bk,bi,bn,bl,bs⟩:=b;refine DI Tryz.func44 (CG [0] O O fun b2=>CG [0] O O fun b3=>CI [1] 1 [] 4 (ML (Tm.mk ak ai an al as1) (Tm.mk bk bi bn bl bs)) O O ?_ ?_)
  ·refine Bc [6,1,0] 10 rfl rfl ?_ ?_<;>intro g
   ·refine Bc [7,1,0] 17 rfl rfl ?_ ?_<;>intro g1
    ·refine A2 [4,1,0] O (Gs O O) ?_;refine Bc [2] 24 rfl rfl ?_ ?_<;>intro g2
     ·refine CQ [4,1,0] O (nx al bl h2.2.1 h2.2.2.1) ?_;refine Bc [2] 31 rfl rfl ?_ ?_<;>intro g3
      ·exact CQ [4,1,0] O (oT n as1 bs ih Au h2.2.2.2.2.1 h2.2.2.2.1) (CT [2] O (hr:=(by rw[S6];first | rfl | (refine pB ?_;simp_all))))
      exact CT [7] O (hr:=(by rw[S6];first | rfl | (refine pB ?_;simp_all)))
     exact CT [14] O (hr:=(by rw[S6];first | rfl | (refine pB ?_;simp_all)))
    exact CT [21] O (hr:=(by rw[S6];first | rfl | (refine pB ?_;simp_all)))
   exact CT [28] O (hr:=(by rw[S6];first | rfl | (refine pB ?_;simp_all)))
  refine A9 [0] O (Bg [] [] O O ⟨O,O⟩)
theorem _root_.Go.Ag {α:Prop}(h:α:=by first | rfl | simp[A7]):α:=h
theorem _root_.Go.AT {α:Prop}(h:α:=by first | (simp[A8];done) | (simp[A8];omega)):α:=h
set_option maxHeartbeats 4000000 in
theorem lL:∀(n:Nat) (t:Tm),(size t≤n)→(Nd t)→(Wt t)→(Vb t)→(size t≤1000000)→En Tryz.prog 18 [.agg ((BD t).map .p)] (.agg ((BD (KZ t)).map .p)):=by
 intro n
 induction n with
 | zero=>intro t h1;cases t;simp[size] at h1
 | succ n ih =>
  intro t h1 h2 h3 h4 h5;have hle:=ay;obtain⟨tk,ti,tn,tl,ts⟩:=t;simp only[size] at h1 h5;have hn:=h2;simp only[Nd,Db] at hn;have hw:=h3;simp only[Wt] at hw;have hkp:∀z∈ts,Nd (KZ z)∧Wt (KZ z)∧size (KZ z)+1≤1000000∧Vb (KZ z):=by
   intro z hz;obtain⟨q1,q2,q3⟩:=ay z (Ka hn.2.2.2.2.1 z hz) (Hu hw.2.2 z hz);have:=I2 hz;exact⟨q1,q3,by omega,tG z (Ka hn.2.2.2.2.1 z hz) (Hu hw.2.2 z hz) (I8 h4.2 z hz) Au⟩
  refine Cb Tryz.func18 O xX (n:=141) O O (BQ (C8 O (Dk O) fun b1=>C8 O (Az Ba O) fun b2=>Ch O (BR (BQ (BT tab 2 [1] O (BA O (Ct BS O (A8 _)) (BK tab 1 [] O (BX O (fun c=>?_) (fun c=>?_)))))))))
  ·(try simp only[sd,se] at c);refine BZ tab 2 [1,0,0] O (CB (⟨O,_,_,⟨_,_,O,(DR (i:=0) CN O O O),O⟩,(List.nil_sublist _),?_⟩))
   all_goals exact⟨by show (.agg [.p (I tk),.p (I ti),.p (.str tn),.p (.lst (List.map B4 tl)),.p (.lst (A6 ts))]:AV)=_;rw[Xi (ts:=ts) Au]<;>rfl,rfl⟩
  (try simp only[sd,se] at c);refine Bn (BQ (BT tab 2 [1] O (BA O (Ct BS O (A8 _)) (P7 O O (KR BS Ba O O As O O O Au Au Au (rH (((ts.length:Nat):Int).toNat) (.mk 0 0 ⟨#[]⟩ [] []:Tm))) fun b19 cp=>BK tab 1 [] O (BR (BQ (BT tab 2 [2] O (BA O (Ct BS O (A8 _)) (BK tab 1 [] O (B3 ?_))))))))));refine Er (α:=Nat×Option Nat×Nat) (fun(i,o,cp1)=>⟨141,mk [(1,.ptr b1 0),(2,.ptr b2 0),(3,.vs o (A6 ((ts.take i).map KZ++List.replicate (ts.length - i) BN)).length cp1),(21,.p (.lst (A6 ts))),(22,.p (I (ts.length:Nat))),(23,.p (I (i:Int)))],[.vec o 5 (A6 ((ts.take i).map KZ++List.replicate (ts.length - i) BN)) cp1,.box b2 [.p (I 0),.p (I 0),.p (.str ⟨#[]⟩),.p (.nils),.p (.nils)],.box b1 [.p (I tk),.p (I ti),.p (.str tn),.p (.lst (List.map B4 tl)),.p (.lst (A6 ts))]],[]⟩) (fun(i,o,cp1)=>ts.length - i) (fun(i,o,cp1)=>i≤ts.length) ⟨0,(some b19),cp⟩ AY ?_ ?_
  ·exact Ec ⟨we O,we O,we (H9 (List.replicate (((ts.length:Nat):Int).toNat) (.mk 0 0 ⟨#[]⟩ [] []:Tm)) (by simp[BN])),we O,we O,we O,Aw⟩ (leH (is:=[0,1,2]) O (wl (Gw (List.replicate (((ts.length:Nat):Int).toNat) (.mk 0 0 ⟨#[]⟩ [] []:Tm)) (by simp[BN])) (wl (oe O) (wl (oe O) (Ih)))))
  rintro⟨i,o,cp1⟩ hC
  try simp only at hC
  have hi:=hC;refine BZ tab 1 [] O (BR (BX O (fun c1=>?_) (fun c1=>?_)))
  ·(try simp only[sd,se] at c1);refine Bn (BR (B3 (BQ (D3 O ?_))));obtain⟨x,hx⟩:=A1 (l:=ts) (i:=i) Au;refine BA O (A0 BS O O Au (BO hx) (A7 _)) (BA O (Bk CN O (A7 _)) (C8 O (Az Ba O) fun b5=>BK tab 2 [0,1] O (Be (BT tab 3 [0] O (BA O (BF O O (ih x (by have:=CU hx;omega) (DV hn.2.2.2.2.1 hx) (O6 hw.2.2 hx) (I8 h4.2 _ (List.mem_of_getElem? hx)) (by have:=CU hx;omega)) O) (I4 (i:=1) O AT fun b hb=>?_))))));subst hb;refine BA O (CJ BS O O Au AT) (BA O (C7 (i:=1) (j:=i) CN O O O AT O (Ho _) (A7 _) (Gd _) (MP ((ts.take i).map KZ++List.replicate (ts.length - i) BN) i (KZ x))) (Ch O (Be (BK tab 2 [] O ?_))));refine⟨⟨i+1,(some b),cp1⟩,Ae,by omega,Ec ⟨we rfl,we rfl,we (CZ ((ts.take i).map KZ++List.replicate (ts.length - i) BN) Ao),we rfl,we rfl,we rfl,trivial⟩ (leH (is:=[1,2,3]) rfl (wl (Gw (((ts.take i).map KZ++List.replicate (ts.length - i) BN).set i (KZ x)) (wU hx)) (wl (oe rfl) (wl (oe rfl) (Ih)))))⟩
  (try simp only[sd,se] at c1);generalize hK:(ts.take i).map KZ++List.replicate (ts.length - i) BN=K;have hKe:ts.map KZ=K:=by rw[←hK,List.take_of_length_le Au,show ts.length - i=0 by omega,List.replicate_zero,List.append_nil]
  have hKp:∀y∈K,Nd y∧Wt y∧size y+1≤1000000∧Vb y:=by
   intro y hy;rw[←hKe] at hy;obtain⟨z,hz,rfl⟩:=List.mem_map.1 hy;exact hkp z hz
  refine EN (BZ tab 3 [2,0] O (BR (B3 (BR (Gq [1,2,3] 36 (fun y=>y= .p (.bool (((tk:Int)==(5:Int))&&(((K.length:Nat):Int)==(2:Int))))) ?_ ?_)))))
  ·refine Be (BT tab 4 [2] O (D6 40 O (fun g=>?_) (fun g=>?_)))
   ·(try simp only[sd,se] at g);exact DW O (Bh O) (DW O (JO BS O (A8 _)) (BK tab 3 [] O (⟨O,O,AQ,AJ,⟨O,O,O,Aw⟩⟩)))
   (try simp only[sd,se] at g);exact BK tab 5 [] O (⟨O,O,AQ,AJ,⟨O,O,O,Aw⟩⟩)
  rintro _ rfl;refine BX O (fun c2=>?_) (fun c2=>?_)
  ·(try simp only[sd,se] at c2);obtain⟨hk5,hl2⟩:tk=5∧K.length=2:=by
    have q:=c2;exact⟨q.1,by omega⟩
   obtain⟨k0,k1,rfl⟩:=tq hl2;obtain⟨hk1n,hk1w,hk1z,hk1v⟩:=hKp k1 Av;refine BQ (BT tab 2 [] O (I4 (i:=0) O AT fun b hb=>?_));subst hb;refine BA O (CJ BS O O Au AT) (BA O (C7 (i:=0) (j:=0) CN O O O AT O O O O (MP [k0,k1] 0 (.mk 1 0 ⟨#[]⟩ [] []:Tm))) (Ch O (BQ (BH (Cf (i:=0) (j:=2) (q:=4) (rows:=A6 [GN,k1]) [3,45] O O O (DA ⟨O,O,Aw⟩)) (D3 O (BA O (A0 BS O O Au (BO O) (A7 _)) (BA O (Bk CN O (A7 _)) (C8 O (Az Ba O) fun b6=>BK tab 1 [0,1] O (BR (BR (Gq [1,2,6] 75 (fun y=>y= .p (.bool (!O0 k1))) ?_ ?_)))))))))))
   ·refine Be (BA O (BG S1 O O) ?_);obtain⟨k1k,k1i,k1n,k1l,k1s⟩:=k1;(try simp only[Tm.kids] at hl1);have hn1:=hk1n;simp only[Nd,Db] at hn1;simp only[size] at hk1z;refine BT tab 3 [0] O (D6 54 O (fun g=>?_) (fun g=>?_))
    ·(try simp only[sd,se] at g);refine BK tab 21 [] O ?_;exact⟨rfl,rfl,AQ,(by refine pB ?_;simp_all [fm,O0,Tm.kind,Tm.kids,Tm.index,List.getD_eq_getElem?_getD]<;>first | rfl | (simp[bne];done)),⟨rfl,rfl,rfl,trivial⟩⟩
    (try simp only[sd,se] at g);refine BT tab 2 [0] O (DW O (Ct BS O (A8 _)) (BT tab 3 [] O (D6 60 O (fun g1=>?_) (fun g1=>?_))))
    ·(try simp only[sd,se] at g1);refine BK tab 15 [] O ?_;exact⟨rfl,rfl,AQ,(by refine pB ?_;simp_all [fm,O0,Tm.kind,Tm.kids,Tm.index,List.getD_eq_getElem?_getD]<;>first | rfl | (simp[bne];done)),⟨rfl,rfl,rfl,trivial⟩⟩
    (try simp only[sd,se] at g1);refine BT tab 2 [0] O ?_;obtain⟨x,hx⟩:=A1 (l:=k1s) (i:=1) Au;refine DW O (A0 BS O O Au (BO hx) (A7 _)) ?_;obtain⟨xk,xi,xn,xl,xs⟩:=x;refine BT tab 5 [] O (D6 68 O (fun g2=>?_) (fun g2=>?_))
    ·(try simp only[sd,se] at g2);refine BK tab 7 [] O ?_;exact⟨rfl,rfl,AQ,(by refine pB ?_;simp_all [fm,O0,Tm.kind,Tm.kids,Tm.index,List.getD_eq_getElem?_getD]<;>first | rfl | (simp[bne];done)),⟨rfl,rfl,rfl,trivial⟩⟩
    (try simp only[sd,se] at g2);refine BT tab 2 [0] O (DW O (A0 BS O O Au (BO hx) (A7 _)) (BK tab 4 [] O ?_));exact⟨rfl,rfl,AQ,(by refine pB ?_;simp_all [fm,O0,Tm.kind,Tm.kids,Tm.index,List.getD_eq_getElem?_getD]<;>first | rfl | (simp[bne];done)),⟨rfl,rfl,rfl,trivial⟩⟩
   rintro _ rfl;refine BX O (fun c3=>?_) (fun c3=>?_)
   ·(try simp only[sd,se] at c3);have hce:O0 k1=false:=by simpa using c3
    refine EN (BZ tab 2 [2,1,0] O (CB (⟨O,_,_,⟨_,_,O,(DR (i:=1) CN O O O),O⟩,(List.nil_sublist _),?_⟩)))
    all_goals exact⟨by show (.agg [.p (I tk),.p (I ti),.p (.str tn),.p (.lst (List.map B4 tl)),.p (.lst (A6 [GN,k1]))]:AV)=_;rw[IL,hKe,Ln hk5 (fun e=>by simp[hce] at e)]<;>rfl,rfl⟩
   (try simp only[sd,se] at c3);have hce:O0 k1=true:=by simpa using c3
   have hl1:=SB hce;refine Bn (BQ (BA O (BG S1 O O) ?_));obtain⟨k1k,k1i,k1n,k1l,k1s⟩:=k1;(try simp only[Tm.kids] at hl1);have hn1:=hk1n;simp only[Nd,Db] at hn1;simp only[size] at hk1z;refine BA O (Bt (i:=0) JW O O O) ?_;obtain⟨x,hx⟩:=A1 (l:=k1s) (i:=0) Au;refine BA O (A0 BS O O Au (BO hx) (A7 _)) (BA O (Bk CN O (A7 _)) (BA O (BF O O (jb x (-1) Au (DV hn1.2.2.2.2.1 hx) (I8 hk1v.2 _ (List.mem_of_getElem? hx)).vp (by have:=CU hx;omega)) O) (BT tab 3 [] O (C8 O (Az Ba O) fun b7=>BK tab 2 [0,1] O (BZ tab 2 [] O (BX O (fun c4=>?_) (fun c4=>?_)))))))
   ·(try simp only[sd,se] at c4);have hm:=List.mem_of_getElem? hx;have hxw:=Hu hk1w.2.2 x hm;have hxv:=I8 hk1v.2 x hm;have hxz:size x<1099511627776:=by have:=I2 hm;omega
    have hoc:=(fE hxw hxv hxz).1 c4;refine BZ tab 2 [0,2,1] O (CB (⟨O,_,_,⟨_,_,O,(DR (i:=2) CN O O Am),O⟩,(List.nil_sublist _),?_⟩))
    all_goals exact⟨by show (.agg ((BD ((U8 (-1) x).1)).map .p):AV)=_;rw[IL,hKe,SC hk5 hce hx hoc,eG hxw hxv.vp hxz]<;>rfl,rfl⟩
   (try simp only[sd,se] at c4);have hm:=List.mem_of_getElem? hx;have hxw:=Hu hk1w.2.2 x hm;have hxv:=I8 hk1v.2 x hm;have hxz:size x<1099511627776:=by have:=I2 hm;omega
   have hoc:eZ 0 0 x=true:=by
    cases q:eZ 0 0 x with
    | true=>rfl
    | false=>exact absurd ((fE hxw hxv hxz).2 q) c4
   refine Bn (BZ tab 2 [3,2,0] O (CB (⟨O,_,_,⟨_,_,O,(DR (i:=2) CN O O O),O⟩,(List.nil_sublist _),?_⟩)))
   all_goals exact⟨by show (.agg [.p (I tk),.p (I ti),.p (.str tn),.p (.lst (List.map B4 tl)),.p (.lst (A6 [GN,(.mk k1k k1i k1n k1l k1s:Tm)]))]:AV)=_;rw[IL,hKe,Ln hk5 (fun e y hy=>by simp_all [Tm.kids])]<;>rfl,rfl⟩
  (try simp only[sd,se] at c2);have hn5:¬(tk=5∧K.length=2):=by
   rintro⟨q1,q2⟩;simp[q1,q2] at c2
  refine BR (Gq [1,2,3] 87 (fun y=>y= .p (.bool (((tk:Int)==(8:Int))&&(((K.length:Nat):Int)==(3:Int))))) ?_ ?_)
  ·refine Be (BT tab 4 [2] O (D6 91 O (fun g=>?_) (fun g=>?_)))
   ·(try simp only[sd,se] at g);exact DW O (Bh O) (DW O (JO BS O (A8 _)) (BK tab 3 [] O (⟨O,O,AQ,AJ,⟨O,O,O,Aw⟩⟩)))
   (try simp only[sd,se] at g);exact BK tab 5 [] O (⟨O,O,AQ,AJ,⟨O,O,O,Aw⟩⟩)
  rintro _ rfl;refine BX O (fun c3=>?_) (fun c3=>?_)
  ·(try simp only[sd,se] at c3);obtain⟨hk8,hl3⟩:tk=8∧K.length=3:=by
    have q:=c3;exact⟨q.1,by omega⟩
   obtain⟨k0,k1,k2,rfl⟩:=tp hl3;obtain⟨hk1n,hk1w,hk1z,hk1v⟩:=hKp k1 Av;obtain⟨hk2n,hk2w,hk2z,hk2v⟩:=hKp k2 Av;refine BQ (BT tab 2 [] O (I4 (i:=0) O AT fun b hb=>?_));subst hb;refine BA O (CJ BS O O Au AT) (BA O (C7 (i:=0) (j:=0) CN O O O AT O O O O (MP [k0,k1,k2] 0 (.mk 1 0 ⟨#[]⟩ [] []:Tm))) (Ch O (BR (A5 (Cf (i:=0) (j:=2) (q:=4) (rows:=A6 [GN,k1,k2]) [3,96] O O O (DA ⟨O,O,Aw⟩)) (eg [.val (.p (.lst (A6 [GN,k1,k2]))),.val (.ref (BD k1)),.val (.agg ((BD k1).map .p)),.val (.p (.lst (A6 [GN,k1,k2]))),.val (.ref (BD k2)),.val (.agg ((BD k2).map .p)),.new [.p (I 0),.p (I 0),.p (.str ⟨#[]⟩),.p (.nils),.p (.nils)],.new [.p (I 0),.p (I 0),.p (.str ⟨#[]⟩),.p (.nils),.p (.nils)]] [.p .any,.p .any] [3,4,5] Ot O Ap Ap Ap (C3 O (fun Bs=>Bh O) (C3 O (fun Bs=>A0 BS O O Au (BO O) (A7 _)) (C3 O (fun Bs=>Bk CN O (A7 _)) (C3 O (fun Bs=>Bh O) ?_)))))))));refine C3 O (fun Bs=>A0 BS O O Au (BO O) (A7 _)) (C3 O (fun Bs=>Bk CN O (A7 _)) (M4 O (fun Bs=>Az Ba O) fun b9=>M4 O (fun Bs=>Az Ba O) fun b10=>KL (Ry [.box b9 ((BD k1).map .p),.box b10 [.p (I 0),.p (I 0),.p (.str ⟨#[]⟩),.p (.nils),.p (.nils)]] O (DX (i:=0) CN O O O Am Ag (Gd _)) (Ry [.box b9 ((BD k1).map .p),.box b10 ((BD k2).map .p)] O (DX (i:=1) CN O O O Am Ag (Gd _)) (Oi (BR (Gq [1,2,9] 135 (fun y=>y= .p (.bool (Pl k1 k2))) ?_ ?_)))))))
   ·refine Hg (fun k=>false) Ot (A3 O (fun _=>BG S1 O O) Aw ?_);obtain⟨k1k,k1i,k1n,k1l,k1s⟩:=k1;(try simp only[Tm.kids] at hl1);have hn1:=hk1n;simp only[Nd,Db] at hn1;simp only[size] at hk1z;refine DO tab 3 [0] O (Da 108 O (fun g=>?_) (fun g=>?_))
    ·(try simp only[sd,se] at g);refine DO tab 1 [] O ?_;obtain⟨k2k,k2i,k2n,k2l,k2s⟩:=k2;have hn2:=hk2n;simp only[Nd,Db] at hn2;simp only[size] at hk2z;refine DO tab 4 [1] O (Da 113 O (fun g1=>?_) (fun g1=>?_))
     ·(try simp only[sd,se] at g1);refine DO tab 2 [0] O (Bx O (fun _=>Ct BS O (A8 _)) Aw (DO tab 3 [] O (Da 119 O (fun g2=>?_) (fun g2=>?_))))
      ·(try simp only[sd,se] at g2);refine DO tab 2 [1] O (Bx O (fun _=>Ct BS O (A8 _)) Aw (DO tab 3 [] O (Da 125 O (fun g3=>?_) (fun g3=>?_))))
       ·(try simp only[sd,se] at g3);refine DO tab 2 [0] O ?_;obtain⟨x,hx⟩:=A1 (l:=k1s) (i:=0) Au;refine Bx O (fun _=>A0 BS O O Au (BO hx) (A7 _)) Aw (DO tab 3 [1] O ?_);obtain⟨x1,hx1⟩:=A1 (l:=k2s) (i:=0) Au;exact Bx O (fun _=>A0 BS O O Au (BO hx1) (A7 _)) Aw (DO tab 1 [] O (Bx O (fun _=>BF O O (pD _ x x1 (Nat.le_refl _) (DV hn1.2.2.2.2.1 hx)) O) Aw (CY tab 1 [] O (⟨O,O,AQ,(by refine pB ?_;simp_all [YW,Pl,Tm.kind,Tm.kids,Tm.index,List.getD_eq_getElem?_getD]),⟨O,O,O,Aw⟩⟩))))
       (try simp only[sd,se] at g3);exact CY tab 10 [] O (⟨O,O,AQ,(by refine pB ?_;simp_all [YW,Pl,Tm.kind,Tm.kids,Tm.index,List.getD_eq_getElem?_getD]),⟨O,O,O,Aw⟩⟩)
      (try simp only[sd,se] at g2);exact CY tab 16 [] O (⟨O,O,AQ,(by refine pB ?_;simp_all [YW,Pl,Tm.kind,Tm.kids,Tm.index,List.getD_eq_getElem?_getD]),⟨O,O,O,Aw⟩⟩)
     (try simp only[sd,se] at g1);exact CY tab 22 [] O (⟨O,O,AQ,(by refine pB ?_;simp_all [YW,Pl,Tm.kind,Tm.kids,Tm.index,List.getD_eq_getElem?_getD]),⟨O,O,O,Aw⟩⟩)
    (try simp only[sd,se] at g);exact CY tab 27 [] O (⟨O,O,AQ,(by refine pB ?_;simp_all [YW,Pl,Tm.kind,Tm.kids,Tm.index,List.getD_eq_getElem?_getD]),⟨O,O,O,Aw⟩⟩)
   rintro _ rfl;refine BX O (fun c4=>?_) (fun c4=>?_)
   ·(try simp only[sd,se] at c4);have hce:=c4;have hl1:=(Wy hce).1;refine BQ (BA O (BG S1 O O) ?_);obtain⟨k1k,k1i,k1n,k1l,k1s⟩:=k1;(try simp only[Tm.kids] at hl1);have hn1:=hk1n;simp only[Nd,Db] at hn1;simp only[size] at hk1z;refine BA O (Bt (i:=0) JW O O O) ?_;obtain⟨x,hx⟩:=A1 (l:=k1s) (i:=0) Au;refine BA O (A0 BS O O Au (BO hx) (A7 _)) (BK tab 2 [2,1] O (CB (⟨O,_,_,⟨_,_,O,(DR (i:=2) CN O O Am),O⟩,(List.nil_sublist _),?_⟩)))
    all_goals exact⟨by show (.agg ((BD x).map .p):AV)=_;rw[IL,hKe,SE hk8 hce hx]<;>rfl,rfl⟩
   (try simp only[sd,se] at c4);have hce:=c4;refine Bn (BZ tab 2 [3,2,0] O (CB (⟨O,_,_,⟨_,_,O,(DR (i:=2) CN O O O),O⟩,(List.nil_sublist _),?_⟩)))
   all_goals exact⟨by show (.agg [.p (I tk),.p (I ti),.p (.str tn),.p (.lst (List.map B4 tl)),.p (.lst (A6 [GN,k1,k2]))]:AV)=_;rw[IL,hKe,TJ hk8 (by simpa using hce)]<;>rfl,rfl⟩
  (try simp only[sd,se] at c3);have hn8:¬(tk=8∧K.length=3):=by
   rintro⟨q1,q2⟩;simp[q1,q2] at c3
  refine Bn (BQ (BH (Cf (i:=0) (j:=2) (q:=4) (rows:=A6 K) [3] O O O (DA ⟨O,Aw⟩)) (BK tab 2 [1,0,0] O (CB (⟨O,_,_,⟨_,_,O,(DR (i:=0) CN O O O),O⟩,(List.nil_sublist _),?_⟩)))))
  all_goals exact⟨by show (.agg [.p (I tk),.p (I ti),.p (.str tn),.p (.lst (List.map B4 tl)),.p (.lst (A6 K))]:AV)=_;rw[IL,hKe,Ni hn5 hn8]<;>rfl,rfl⟩
theorem Yh:∀(n:Nat) (l:List Tm) (most:Int),BB l≤n→nc l→l.length<wide→En Tryz.prog 27 [.p (I most),xD l] (.p (I (Ew l most 0))):=by
 intro n
 induction n using Nat.strongRecOn with
 | ind n ih =>
  intro l most hs hnd hlen;simp only[wide] at hlen;refine Cb Tryz.func27 O xM (n:=29) O O (BZ tab 1 [] O (BZ tab 1 [] O (BR (BQ (D3 O (BA O (Dv BS O) (BK tab 1 [] O (B3 (Er (α:=Nat×Int) (fun s=>⟨29,mk [(0,.p (I most)),(5,.p (I s.2)),(8,xD l),(9,.p (I (A6 l).length)),(10,.p (I s.1))],[],[]⟩) (fun s=>l.length - s.1) (fun s=>s.1≤l.length∧Ew (l.drop s.1) most s.2=Ew l most 0) ((0,0)) Av ?_ ?_)))))))))
  ·exact G5 ⟨O,O,O,O,O,Aw⟩ AA
  rintro⟨i,m⟩ ⟨hi,hC⟩;simp only at hi hC;refine BZ tab 1 [] O (BR (BX O (fun c1=>?_) (fun c1=>?_)))
  ·(try simp only[sd] at c1);have hi2:i<l.length:=by rw[A8] at c1;omega
   obtain⟨t,hk⟩:=A1 hi2;have hks:=CU hk;obtain⟨kd,ix,nm,ls,ks⟩:=t;have hnt:=Rw hnd hk;simp only[Wd] at hnt;simp only[size] at hks;refine Bn (BR (B3 (BQ (BA O (A0 BS O O Au (BO hk) (A7 _)) (BA O (Bk CN O (A7 _)) (C8 O (Az Ba O) fun b7=>BK tab 1 [0,0] O (BR (BZ tab 3 [] O (BX O (fun c2=>?_) (fun c2=>?_))))))))))
   ·(try simp only[sd] at c2);refine BZ tab 2 [] O (CB ⟨O,_,[],Dx O,List.nil_sublist _,?_⟩);exact⟨pI (by rw[←hC,WE hk,if_pos Au]),O⟩
   (try simp only[sd] at c2);refine Bn (Be (BT tab 3 [] O (BA O (J4 O O) (BT tab 2 [0] O (BA O (BF O O (ih (BB ks) Au ks _ (Nat.le_refl _) hnt.2.2.2.2.1 hnt.2.2.2.1) O) (BA O (Eg O O) (BA O (Eg O O) (BK tab 1 [] O (Be (BK tab 2 [] O ?_))))))))));exact⟨(i+1,wr (m+wr (1+Ew ks (wr (most - m)) 0))),Ao,⟨by omega,by rw[←hC,WE hk,if_neg Au,E8]⟩,G5 ⟨rfl,rfl,rfl,rfl,rfl,trivial⟩ AA⟩
  (try simp only[sd] at c1);have hi2:i=l.length:=by rw[A8] at c1;omega
  refine EN (BZ tab 2 [] O (CB ⟨O,_,[],Dx O,List.nil_sublist _,?_⟩));exact⟨pI (by rw[←hC,hi2,List.drop_length];rfl),O⟩
theorem sm : ∀ (x : CX), (ud x) → En Tryz.prog 101 [.agg ((B4 x).map .p)] (.p (.bool (decide ((x.vars.length : Int) > 20)))) := by
 intro x h1
 refine DI Tryz.func101 ?_
 refine CG [0] O O fun b1 => ?_
 refine CA [3, 0] O O (List.length_map _) ?_
 refine A9 [2] O (Bg [] [] O O ⟨O, O⟩)
theorem uD : ∀ (l : List CX), (l.length < wide) → (∀ x ∈ l, ud x) → Hd Tryz.prog 134 [.p (.lst (List.map B4 l)), .p (.fn 101)] (fun v => ∃ r : Int, v = .p (I r) ∧ (r < 0 → ∀ x ∈ l, x.vars.length ≤ 20)) := by
 intro l h1 h2
 simp only [wide] at h1
 refine DI Tryz.func134 ?_
 refine CA [2] O O (List.length_map _) ?_
 refine GG (α := Nat) [1] [0, 1, 7] [] (fun i => [(8, .p (I (i : Int)))]) (fun _ => []) (fun i => l.length - i) (fun i => i ≤ l.length ∧ (∀ j, j < i → ∀ x, l[j]? = some x → x.vars.length ≤ 20)) 0 O O O (⟨by omega, fun j h => by omega⟩) ?_
 rintro i hC
 try simp only at hC
 obtain ⟨hi, hC⟩ := hC
 refine BC [1] rfl ?_ ?_ <;> intro c
 ·refine D7 [5] l i O O O (H5 E3) (fun x hx => ?_)
  refine CQ [1] O (sm x (h2 x (List.mem_of_getElem? hx))) ?_
  refine BC [0] rfl ?_ ?_ <;> intro c1
  ·refine A9 [2] O ?_
   refine ⟨O, _, [], Dx O, List.nil_sublist _, ⟨⟨_, O, ?_⟩, O⟩⟩
   exact fun h => by omega
  exact FR [2] 0 (i + 1) O (⟨by omega, Cg hC hx Au⟩)
 refine DF [0] O ?_
 refine A9 [1] O ?_
 refine ⟨O, _, [], Dx O, List.nil_sublist _, ⟨⟨_, O, ?_⟩, O⟩⟩
 exact fun _ x hx => by obtain ⟨j, hj⟩ := MF hx; exact hC j (by have := (List.getElem?_eq_some_iff.1 hj).1; omega) x hj
theorem ny:∀(l:List CX),(l.length<wide)→(∀x∈l,ud x)→Hd Tryz.prog 100 [.p (.lst (List.map B4 l)),.p (.fn 101)] (fun v=>∃b:Bool,v= .p (.bool b)∧(b=false→∀x∈l,x.vars.length≤20)):=by
 intro l h1 h2;refine DI Tryz.func100 (DS [3] O (EF O O (B7 O O (uD l h1 h2) (.inl O)) ?_));rintro _ ⟨r,rfl,hr⟩;refine BW (A9 [2] O ?_);refine⟨O,_,[],Dx O,List.nil_sublist _,⟨⟨_,O,?_⟩,O⟩⟩;exact fun h=>hr (by simp at h;omega)
theorem uq : ∀ (n : Nat) (l : List Tm), (BB l ≤ n) → (nc l) → (l.length < wide) → Hd Tryz.prog 50 [.p (.lst (A6 l))] (fun v => ∃ b : Bool, v = .p (.bool b) ∧ (b = true → dC l)) := by
 intro n
 induction n using Nat.strongRecOn with
 | ind n ih =>
  intro l h1 h2 h3
  have h3b := h3
  simp only [wide] at h3b
  refine DI Tryz.func50 ?_
  refine CQ [2] O (Yh _ l 200 (Nat.le_refl _) h2 h3) ?_
  refine ID [1] O O (fun c => ?_) (fun c => ?_)
  ·have cR := c
   (try simp only [sd, se] at c)
   refine A9 [1] O ?_
   refine ⟨O, _, [], Dx O, List.nil_sublist _, ⟨⟨_, O, ?_⟩, O⟩⟩
   exact fun h => absurd h As
  have cR := c
  (try simp only [sd, se] at c)
  refine CA [1] O O (A8 _) ?_
  refine GG (α := Nat) [1] [8, 9] [] (fun i => [(10, .p (I (i : Int)))]) (fun _ => []) (fun i => l.length - i) (fun i => i ≤ l.length ∧ (∀ j, j < i → ∀ x, l[j]? = some x → ie x)) 0 O O O (⟨by omega, fun j h => by omega⟩) ?_
  rintro i hC
  try simp only at hC
  obtain ⟨hi, hC⟩ := hC
  refine ID [1] O O (fun c1 => ?_) (fun c1 => ?_)
  ·have c1R := c1
   (try simp only [sd, se] at c1)
   refine D7 [0] l i O O O (IH _) (fun t ht => ?_)
   refine Bp [1] O (Az Ba O) fun b4 => ?_
   obtain ⟨tk, ti, tn, tl, ts⟩ := t
   have hnt := Rw h2 ht
   simp only [Wd] at hnt
   have hks := CU ht
   simp only [size] at hks
   refine Fo [1, 0, 1] 6 [8, 9, 10] 34 (fun y => ∃ b : Bool, y = .p (.bool b) ∧ (b = false → ie (.mk tk ti tn tl ts))) O O ?_ ?_
   ·refine A2 [2, 0] O (G8 rj O) ?_
    refine Bc [2] 18 rfl rfl ?_ ?_ <;> intro g
    ·exact CT [16] O (hr := (by first | exact ⟨_, rfl, fun h => absurd h As⟩ | exact ⟨_, rfl, fun h => by simp only [Bool.not_eq_false'] at h; exact ⟨by omega, by omega, hb Aq, (hb1 h).sz, (hb1 h).nd, (hb1 h).fw⟩⟩))
    refine CA [2, 0] O O (List.length_map _) ?_
    refine Bc [3] 24 rfl rfl ?_ ?_ <;> intro g1
    ·exact CT [10] O (hr := (by first | exact ⟨_, rfl, fun h => absurd h As⟩ | exact ⟨_, rfl, fun h => by simp only [Bool.not_eq_false'] at h; exact ⟨by omega, by omega, hb Aq, (hb1 h).sz, (hb1 h).nd, (hb1 h).fw⟩⟩))
    refine DS [2, 0] O ?_
    refine I6 O O O O (B7 O O (ny tl hnt.2.1 hnt.2.2.1) (.inl O)) ?_
    rintro _ ⟨b, rfl, hb⟩
    refine BW (Bc [2] 29 rfl rfl ?_ ?_) <;> intro g2
    ·exact CT [5] O (hr := (by first | exact ⟨_, rfl, fun h => absurd h As⟩ | exact ⟨_, rfl, fun h => by simp only [Bool.not_eq_false'] at h; exact ⟨by omega, by omega, hb Aq, (hb1 h).sz, (hb1 h).nd, (hb1 h).fw⟩⟩))
    refine DS [2, 0] O ?_
    refine I6 O O O O (B7 O O (ih (BB ts) Au ts (Nat.le_refl _) hnt.2.2.2.2.1 hnt.2.2.2.1) (.inl O)) ?_
    rintro _ ⟨b1, rfl, hb1⟩
    refine BW (Ks [2] O ?_)
    exact ⟨O, O, AQ, (by first | exact ⟨_, rfl, fun h => absurd h As⟩ | exact ⟨_, rfl, fun h => by simp only [Bool.not_eq_false'] at h; exact ⟨by omega, by omega, hb Aq, (hb1 h).sz, (hb1 h).nd, (hb1 h).fw⟩⟩), ⟨O, O, O, Aw⟩⟩
   rintro _ ⟨q, rfl, hq⟩
   refine ID [0] O O (fun c2 => ?_) (fun c2 => ?_)
   ·have c2R := c2
    (try simp only [sd, se] at c2)
    refine A9 [1] O ?_
    refine ⟨O, _, [], Dx O, List.nil_sublist _, ⟨⟨_, O, ?_⟩, O⟩⟩
    exact fun h => absurd h As
   have c2R := c2
   (try simp only [sd, se] at c2)
   exact FR [2] 1 (i + 1) O (⟨by omega, Cg hC ht (hq (by simpa using c2))⟩)
  have c1R := c1
  (try simp only [sd, se] at c1)
  refine DF [0] O ?_
  refine A9 [1] O ?_
  refine ⟨O, _, [], Dx O, List.nil_sublist _, ⟨⟨_, O, ?_⟩, O⟩⟩
  exact fun _ => q9 (m := i) Au h2 h3 Au hC
theorem Xz:∀(l:List ByteArray) (s:ByteArray),(l.length<9000000)→En Tryz.prog 159 [.p (.lst (List.map Ib l)),.p (.str s)] (.p (.bool (II l s))):=by
 intro l s h1;refine DI Tryz.func159 ?_;refine GG (α:=Nat) [2] [0,1] [] (fun i=>[(5,.p (I (i:Int)))]) (fun _=>[]) (fun i=>l.length - i) (fun i=>i≤l.length∧(∀j,j<i→∀y,l[j]?=some y→y≠s)) 0 O O O (⟨by omega,fun j h=>by omega⟩) ?_;rintro i hC
 try simp only at hC
 obtain⟨hi,hC⟩:=hC;refine CA [2] O O (List.length_map _) ?_;refine BC [1] rfl ?_ ?_<;>intro c
 ·refine D7 [2] l i O O O (H5 (f:=Ib) fun _=>O) (fun x hx=>?_);refine A2 [2] O (Gs O O) ?_;refine BC [0] rfl ?_ ?_<;>intro c1
  ·refine A9 [1] O (Bg [] [] O O ⟨by rw[jh hx (Gk (by simpa using c1))];try rfl,rfl⟩)
  exact FR [3] 0 (i+1) O (⟨by omega,Cg (p:=fun _ (y:ByteArray)=>y≠s) hC hx (fun e=>by subst e;simp at c1)⟩)
 refine DF [0] O ?_;refine A9 [1] O (Bg [] [] O O ⟨by rw[iA fun j hj=>hC j Au];try rfl,rfl⟩)
theorem _root_.Go.AE {α:Prop}(h:α:=by simp only[List.length_map,List.length_append,List.length_cons,List.length_nil,List.length_take];omega):α:=h
theorem Np : ∀ (d : B8), (d.ctors.length < 2000000) → (d.funs.length < 2000000) → (d.name.size < 2000000) → En Tryz.prog 160 [.agg ((B1 d).map .p)] (.p (.lst (List.map Ib (DU d)))) := by
 intro d h1 h2 h3
 refine DI Tryz.func160 ?_
 refine CG [0] O O fun b1 => ?_
 refine A2 [2] O (Ax (i := 0) Dz O O (EU _)) ?_
 refine CI [2] 999999 [1, 8] 9 (decide (d.kind = 0 ∨ d.kind = 1 ∨ d.kind = 2)) O O ?_ ?_
 ·refine BC [0] rfl ?_ ?_ <;> intro c
  ·exact CT [0] O (hr := (by refine pB (Bool.eq_iff_iff.2 ?_); simp only [beq_iff_eq, decide_eq_true_eq]; omega))
  refine BC [2] rfl ?_ ?_ <;> intro c1
  ·exact CT [0] O (hr := (by refine pB (Bool.eq_iff_iff.2 ?_); simp only [beq_iff_eq, decide_eq_true_eq]; omega))
  exact CT [2] O (hr := (by refine pB (Bool.eq_iff_iff.2 ?_); simp only [beq_iff_eq, decide_eq_true_eq]; omega))
 refine BC [0] rfl ?_ ?_ <;> intro c
 ·refine A2 [1] O (Ax (i := 0) N7 O O (DZ _)) ?_
  refine A2 [0] O (BJ Je qQ O O O O O) ?_
  refine A9 [1] O (Bg [] [] O O ⟨by rw [DU, if_pos (by simpa using c)]; try rfl, rfl⟩)
 refine BC [2] rfl ?_ ?_ <;> intro c1
 ·refine A2 [1] O (Ax (i := 0) N7 O O (DZ _)) ?_
  refine DS [0] O ?_
  refine P7 O O (Rk (rows := List.map Ib [d.name]) Je qQ O O O O O) fun b20 cp => ?_
  refine BW (GG (α := Nat × Option Nat × Nat) [2] [1] [0, 1] (fun (i, o, cp1) => [(3, .vs o (List.map Ib (d.name :: (d.ctors.take i).map LQ.name)).length cp1), (4, .p (I (i : Int)))]) (fun (i, o, cp1) => [(0, .vec o 1 (List.map Ib (d.name :: (d.ctors.take i).map LQ.name)) cp1)]) (fun (i, o, cp1) => d.ctors.length - i) (fun (i, o, cp1) => i ≤ d.ctors.length) ⟨0, (some b20), cp⟩ O O O AY ?_)
  rintro ⟨i, o, cp1⟩ hC
  try simp only at hC
  have hi := hC
  refine A2 [2] O (Ax (i := 1) GC O O (B5 _)) ?_
  refine CA [0] O O (List.length_map _) ?_
  refine BC [1] rfl ?_ ?_ <;> intro c2
  ·refine A2 [2] O (Ax (i := 1) GC O O (B5 _)) ?_
   refine D7 [1] d.ctors i O O O (H5 Ei) (fun x hx => ?_)
   refine A2 [1] O (DQ N7 O (GR _)) ?_
   refine A2 [0] O (BJ Je qQ O O O O O) ?_
   refine DS [0] O ?_
   refine ET O O (Bi (i := 0) (rows' := List.map Ib [x.name]) Je Je qQ O O O O O O (LN _) AE (Fx (f := Ib) (d.name :: (d.ctors.take i).map LQ.name) [x.name])) fun o1 cp2 => ?_
   exact BW (FR [4] 0 ⟨i + 1, o1, cp2⟩ O Au (e1 := ⟨we (FQ (f := Ib) ((d.name :: (d.ctors.take i).map LQ.name) ++ [x.name]) (by simp [List.take_add_one, hx])), we O, Aw⟩) (e2 := wl (Eo (f := Ib) ((d.name :: (d.ctors.take i).map LQ.name) ++ [x.name]) (by simp [List.take_add_one, hx])) (wl (oe O) (Ih))))
  refine DF [0] O ?_
  refine A2 [2] O (Ax (i := 1) N7 O O (DZ _)) ?_
  refine A2 [0] O (Tw O O (by have : (⟨#[46, 114, 101, 99]⟩ : ByteArray).size = 4 := rfl; omega)) ?_
  refine A2 [0] O (BJ Je qQ O O O O O) ?_
  refine DS [0] O ?_
  refine ET O O (Bi (i := 0) (rows' := List.map Ib ([(d.name ++ ⟨#[46, 114, 101, 99]⟩)])) Je Je qQ O O O O O O (LN _) AE (Fx (f := Ib) (d.name :: (d.ctors.take i).map LQ.name) ([(d.name ++ ⟨#[46, 114, 101, 99]⟩)]))) fun o1 cp2 => ?_
  refine BW (CK [1] O ?_)
  refine A5 (CL (i := 0) [42, 2] O (DA ⟨O, O, Aw⟩)) ?_
  refine BP (A9 [0] O (Bg [] [] O O ⟨by rw [DU, if_neg (by simpa using c), if_pos (by simpa using c1), List.take_of_length_le Au]; rfl, rfl⟩))
 refine BC [2] rfl ?_ ?_ <;> intro c2
 ·refine CK [2] O ?_
  refine A5 (DH (t := 5) (sz := 1) O) ?_
  refine BP (GG (α := Nat × Option Nat × Nat) [0] [1] [0, 1] (fun (i, o, cp) => [(5, .vs o (List.map Ib ((d.funs.take i).map I9.name)).length cp), (6, .p (I (i : Int)))]) (fun (i, o, cp) => [(0, .vec o 1 (List.map Ib ((d.funs.take i).map I9.name)) cp)]) (fun (i, o, cp) => d.funs.length - i) (fun (i, o, cp) => i ≤ d.funs.length) ⟨0, none, 0⟩ O O O AY ?_)
  rintro ⟨i, o, cp⟩ hC
  try simp only at hC
  have hi := hC
  refine A2 [2] O (Ax (i := 1) F6 O O (CD _)) ?_
  refine CA [0] O O (List.length_map _) ?_
  refine BC [1] rfl ?_ ?_ <;> intro c3
  ·refine A2 [2] O (Ax (i := 1) F6 O O (CD _)) ?_
   refine D7 [1] d.funs i O O O (H5 Eh) (fun x hx => ?_)
   refine A2 [1] O (DQ N7 O (Jk _)) ?_
   refine A2 [0] O (BJ Je qQ O O O O O) ?_
   refine DS [0] O ?_
   refine ET O O (Bi (i := 0) (rows' := List.map Ib [x.name]) Je Je qQ O O O O O O (LN _) AE (Fx (f := Ib) ((d.funs.take i).map I9.name) [x.name])) fun o1 cp1 => ?_
   exact BW (FR [4] 0 ⟨i + 1, o1, cp1⟩ O Au (e1 := ⟨we (FQ (f := Ib) (((d.funs.take i).map I9.name) ++ [x.name]) (by simp [List.take_add_one, hx])), we O, Aw⟩) (e2 := wl (Eo (f := Ib) (((d.funs.take i).map I9.name) ++ [x.name]) (by simp [List.take_add_one, hx])) (wl (oe O) (Ih))))
  refine DF [0] O ?_
  refine CK [2] O ?_
  refine A5 (CL (i := 0) [5, 61, 2] O (DA ⟨O, O, O, Aw⟩)) ?_
  refine BP (A9 [0] O (Bg [] [] O O ⟨by rw [DU, if_neg (by simpa using c), if_neg (by simpa using c1), if_pos (by simpa using c2), List.take_of_length_le Au]; try rfl, rfl⟩))
 refine CK [1] O ?_
 refine A5 (Fg 2) ?_
 refine BP (A9 [0] O (Bg [] [] O O ⟨by rw [DU, if_neg (by simpa using c), if_neg (by simpa using c1), if_neg (by simpa using c2)]; try rfl, rfl⟩))
set_option maxHeartbeats 2000000 in
theorem WG : ∀ (d : B8) (ix : Int) (nm : ByteArray), (d.ctors.length < 2000000) → (d.funs.length < 2000000) → En Tryz.prog 161 [.agg ((B1 d).map .p), .p (I ix), .p (.str nm)] (.agg ((GH (Gv d ix nm)).map .p)) := by
 intro d ix nm h1 h2
 refine DI Tryz.func161 ?_
 refine CG [0] O O fun b3 => ?_
 refine Bp [0] O (Az GL O) fun b6 => ?_
 refine A2 [2] O (Ax (i := 1) Dz O O (Cv _)) ?_
 refine A2 [1] O (Bq (i := 1) CN O O (Fk _) (A7 _)) ?_
 refine A2 [0] O (EW MT GL (lg O O O)) ?_
 refine Bp [0] O (Az GL O) fun b7 => ?_
 refine A2 [2, 0, 1] O (Ax (i := 2) Dz O O (EU _)) ?_
 refine BC [2] rfl ?_ ?_ <;> intro c
 ·refine A2 [1] O (EI (i := 0) (ds := (GH (IJ.mk 0 ix 0 d.params d.type)).map .p) Dz O O O O O O O) ?_
  refine A9 [2, 0, 1, 1] O (Bg [1] [] O O ⟨by rw [OX (.inl (by simpa using c)) (k := 0) (by simpa using c)]; try rfl, rfl⟩)
 refine BC [2] rfl ?_ ?_ <;> intro c1
 ·refine A2 [1] O (EI (i := 0) (ds := (GH (IJ.mk 1 ix 0 d.params d.type)).map .p) Dz O O O O O O O) ?_
  refine A9 [2, 0, 1, 1] O (Bg [1] [] O O ⟨by rw [OX (.inr (.inl (by simpa using c1))) (k := 1) (by simpa using c1)]; try rfl, rfl⟩)
 refine BC [2] rfl ?_ ?_ <;> intro c2
 ·refine A2 [1] O (EI (i := 0) (ds := (GH (IJ.mk 2 ix 0 d.params d.type)).map .p) Dz O O O O O O O) ?_
  refine A9 [2, 0, 1, 1] O (Bg [1] [] O O ⟨by rw [OX (.inr (.inr (by simpa using c2))) (k := 2) (by simpa using c2)]; try rfl, rfl⟩)
 refine BC [2] rfl ?_ ?_ <;> intro c3
 ·refine A2 [1] O (EI (i := 0) (ds := (GH (IJ.mk 3 ix 0 d.params d.type)).map .p) Dz O O O O O O O) ?_
  refine A2 [2] O (Ax (i := 2) N7 O O (DZ _)) ?_
  refine A2 [0] O (Gs O O) ?_
  refine BC [0] rfl ?_ ?_ <;> intro c4
  ·refine A9 [2, 0, 1, 1] O (Bg [1] [] O O ⟨by rw [ij (by simpa using c3) (Gk (by simpa using c4))]; try rfl, rfl⟩)
  refine GG (α := Nat) [1] [1, 2, 3, 6] [1, 2] (fun i => [(8, .p (I (i : Int)))]) (fun _ => []) (fun i => d.ctors.length - i) (fun i => i ≤ d.ctors.length ∧ (∀ j, j < i → ∀ y, d.ctors[j]? = some y → y.name ≠ nm)) 0 O O O (⟨by omega, fun j h => by omega⟩) ?_
  rintro i hC
  try simp only at hC
  obtain ⟨hi, hC⟩ := hC
  refine A2 [2] O (Ax (i := 1) GC O O (B5 _)) ?_
  refine CA [0] O O (List.length_map _) ?_
  refine BC [1] rfl ?_ ?_ <;> intro c5
  ·refine A2 [1] O (Ax (i := 1) GC O O (B5 _)) ?_
   refine D7 [1] d.ctors i O O O (H5 Ei) (fun x hx => ?_)
   refine A2 [1] O (DQ N7 O (GR _)) ?_
   refine A2 [1] O (Gs O O) ?_
   refine BC [0] rfl ?_ ?_ <;> intro c6
   ·refine E2 [0] [] O ?_
    refine Bb [3] O ?_
    refine CF (j := 1) O O O (fun H i hi => Ax (i := i) Dz O hi (Cv _)) AB Aw ?_
    refine A3 O (fun _ => BG Kc O O) Aw ?_
    refine CF (j := 1) O O O (fun H i hi => Ax (i := i) GC O hi (B5 _)) AB Aw ?_
    refine A3 O (fun _ => Bh O) Aw ?_
    refine A3 O (fun _ => A0 Km O O Au (Gr hx) (Ei _)) Aw ?_
    refine A3 O (fun _ => DN UG O O) Aw ?_
    refine A3 O (fun _ => Dh CN O (GW _) (A7 _)) Aw ?_
    refine A3 O (fun _ => EW MT GL (PC O O O O O)) Aw ?_
    refine Dj [1, 0, 1] O (A9 [0] O (Bg [0] [] O O ⟨by rw [bX (j := i) (by simpa using c3) (fun h => by subst h; simp at c4) hx (Gk (by simpa using c6)) hC], rfl⟩))
   exact FR [3] 0 (i + 1) O (⟨by omega, Cg (p := fun _ (y : LQ) => y.name ≠ nm) hC hx (fun e => by subst e; simp at c6)⟩)
  refine DF [0] O ?_
  refine A2 [3] O (Ax (i := 1) Dz O O (Du _)) ?_
  refine A2 [2] O (Bq (i := 1) CN O O (Fa _) (A7 _)) ?_
  refine A2 [0] O (EW MT GL (eK O O O O)) ?_
  refine A9 [1, 0, 1] O (Bg [0] [] O O ⟨by rw [fp (by simpa using c3) (fun h => by subst h; simp at c4) fun j hj => hC j Au], rfl⟩)
 refine GG (α := Nat) [1] [1, 2, 3, 6, 7] [0, 1, 2] (fun i => [(9, .p (I (i : Int)))]) (fun _ => []) (fun i => d.funs.length - i) (fun i => i ≤ d.funs.length ∧ (∀ j, j < i → ∀ y, d.funs[j]? = some y → y.name ≠ nm)) 0 O O O (⟨by omega, fun j h => by omega⟩) ?_
 rintro i hC
 try simp only at hC
 obtain ⟨hi, hC⟩ := hC
 refine A2 [2] O (Ax (i := 2) F6 O O (CD _)) ?_
 refine CA [0] O O (List.length_map _) ?_
 refine BC [1] rfl ?_ ?_ <;> intro c4
 ·refine A2 [1] O (Ax (i := 2) F6 O O (CD _)) ?_
  refine D7 [1] d.funs i O O O (H5 Eh) (fun x hx => ?_)
  refine A2 [1] O (DQ N7 O (Jk _)) ?_
  refine A2 [1] O (Gs O O) ?_
  refine BC [0] rfl ?_ ?_ <;> intro c5
  ·refine E2 [0] [] O ?_
   refine Bb [3] O ?_
   refine CF (j := 2) O O O (fun H i hi => Ax (i := i) Dz O hi (Cv _)) AB Aw ?_
   refine A3 O (fun _ => BG Kc O O) Aw ?_
   refine CF (j := 2) O O O (fun H i hi => Ax (i := i) F6 O hi (CD _)) AB Aw ?_
   refine A3 O (fun _ => Bh O) Aw ?_
   refine A3 O (fun _ => A0 J2 O O Au (Fe hx) (Eh _)) Aw ?_
   refine A3 O (fun _ => DN O2 O O) Aw ?_
   refine A3 O (fun _ => Dh CN O (Ji _) (A7 _)) Aw ?_
   refine A3 O (fun _ => EW MT GL (PC O O O O O)) Aw ?_
   refine Dj [1, 1, 1] O (A9 [0] O (Bg [1] [] O O ⟨by rw [gK (j := i) (not_or.2 ⟨(by simpa using c), not_or.2 ⟨(by simpa using c1), (by simpa using c2)⟩⟩) (by simpa using c3) hx (Gk (by simpa using c5)) hC]; try rfl, rfl⟩))
  exact FR [3] 0 (i + 1) O (⟨by omega, Cg (p := fun _ (y : I9) => y.name ≠ nm) hC hx (fun e => by subst e; simp at c5)⟩)
 refine DF [0] O ?_
 refine A9 [2, 0, 1, 1] O (Bg [1] [] O O ⟨by rw [iw (not_or.2 ⟨(by simpa using c), not_or.2 ⟨(by simpa using c1), (by simpa using c2)⟩⟩) (by simpa using c3) fun j hj => hC j Au]; try rfl, rfl⟩)
theorem Ms:∀(ds:List B8) (nm:ByteArray),(IT ds)→En Tryz.prog 118 [.p (.lst (List.map B1 ds)),.p (.str nm)] (.tup [.agg ((GH ((BY ds nm).1)).map .p),.p (I ((BY ds nm).2))]):=by
 intro ds nm h1;have hl:=h1.len;refine DI Tryz.func118 (Bp [0] O (Az GL O) fun b4=>?_);refine GG (α:=Nat) [2] [0,1,4] [0] (fun i=>[(6,.p (I (i:Int)))]) (fun _=>[]) (fun i=>ds.length - i) (fun i=>i≤ds.length∧(∀j,j<i→∀y,ds[j]?=some y→II (DU y) nm=false)) 0 O O O (⟨by omega,fun j h=>by omega⟩) ?_;rintro i hC
 try simp only at hC
 obtain⟨hi,hC⟩:=hC;refine CA [2] O O (List.length_map _) ?_;refine BC [1] rfl ?_ ?_<;>intro c
 ·obtain⟨x,hx⟩:=A1 (l:=ds) (i:=i) Au;have hD:=h1.all _ (List.mem_of_getElem? hx);have hcl:=hD.cl;have hfl:=hD.fl;refine A2 [2] O (A0 Qb O O Au (G4 hx) (DJ _)) (CQ [1] O (Np x hD.cl hD.fl hD.nm) (CQ [1] O (Xz (DU x) nm (by have:=Og x;omega)) ?_));refine BC [0] rfl ?_ ?_<;>intro c1
  ·refine A2 [2] O (A0 Qb O O Au (G4 hx) (DJ _)) (CQ [3] O (WG x (i:Int) nm hD.cl hD.fl) ?_);refine A9 [2,0,1] O (Bg [0] [] O O ⟨by rw[ga hx hC (by simpa using c1)];try rfl,rfl⟩)
  exact FR [3] 0 (i+1) O (⟨by omega,Cg (p:=fun _ (y:B8)=>II (DU y) nm=false) hC hx (by simpa using c1)⟩)
 refine DF [0] O (CK [3,0,0] O (A5 (BE (i:=0) O) ?_));refine BP (A9 [0] O (Bg [0] [] O O ⟨by rw[dE fun j hj=>hC j Au];rfl,rfl⟩))
theorem LX : ∀ (t : Tm), (Nd t) → En Tryz.prog 168 [.agg ((BD t).map .p)] (.p (.bool (ML t BN))) := by
 intro t h1
 refine DI Tryz.func168 ?_
 refine CG [0] O O fun b1 => ?_
 refine A2 [3, 0] O (IW O O (XS _ t (.mk 0 0 ⟨#[]⟩ [] [] : Tm) (Nat.le_refl _) h1) (aw (we O) (aw (FW O) (HT)))) ?_
 refine A9 [1] O (Bg [] [] O O ⟨O, O⟩)
theorem S8 : ∀ (ds : List B8) (nm : ByteArray), (IT ds) → En Tryz.prog 123 [.p (.lst (List.map B1 ds)), .p (.str nm)] (.tup [.agg ((B1 ((Co ds nm).1)).map .p), .p (I ((Co ds nm).2.1)), .p (.bool ((Co ds nm).2.2))]) := by
 intro ds nm h1
 have hl := h1.len
 refine DI Tryz.func123 ?_
 refine Bp [0] O (Az Ie O) fun b4 => ?_
 refine CQ [4] O (Ms ds nm h1) ?_
 refine Bp [3] O (Az GL O) fun b7 => ?_
 refine BC [4, 0, 1] rfl ?_ ?_ <;> intro c
 ·refine CK [4, 1, 0] O ?_
  refine A5 (BE (i := 1) O) ?_
  refine BP (A9 [0] O (Bg [1] [] O O ⟨by rw [dX Au]; rfl, rfl⟩))
 obtain ⟨fi, fd, hfi, hfo⟩ := Ps (ds := ds) (nm := nm) Au
 have hdl := hfo.decl
 have hfl := (List.getElem?_eq_some_iff.1 hfi).1
 refine A2 [1] O (Ax (i := 0) Dz O O (FZ _)) ?_
 refine BC [2] rfl ?_ ?_ <;> intro c1
 ·refine A2 [2] O (Ax (i := 0) Dz O O (EJ _)) ?_
  refine D7 [0] ds ((((BY ds nm).1).decl : Int).toNat) O O O (H5 DJ) (fun x hx => ?_)
  refine A9 [4, 1, 1] O (Bg [1] [] O O ⟨by rw [rq Au Au hx]; try rfl, rfl⟩)
 refine BC [2] rfl ?_ ?_ <;> intro c2
 ·refine E2 [0] [] O ?_
  refine Bb [2] O ?_
  refine CF (j := 0) O O O (fun H i hi => Ax (i := i) Dz O hi (EJ _)) AB Aw ?_
  obtain ⟨x, hx⟩ := A1 (l := ds) (i := (((BY ds nm).1).decl : Int).toNat) Au
  refine A3 O (fun _ => A0 Qb O O Au (G4 hx) (DJ _)) Aw ?_
  refine Bb [2] O ?_
  refine CF (j := 0) O O O (fun H i hi => Ax (i := i) Dz O hi (GS _)) AB Aw ?_
  refine Dj [3, 1, 1] O (A9 [0] O (Bg [1] [] O O ⟨by rw [rk Au Au hx]; try rfl, rfl⟩))
 refine BC [2] rfl ?_ ?_ <;> intro c3
 ·refine A2 [2] O (Ax (i := 0) Dz O O (EJ _)) ?_
  refine D7 [0] ds ((((BY ds nm).1).decl : Int).toNat) O O O (H5 DJ) (fun x hx => ?_)
  refine A9 [4, 1, 1] O (Bg [1] [] O O ⟨by rw [ld Au Au hx]; try rfl, rfl⟩)
 refine CK [4, 1, 0] O ?_
 refine A5 (BE (i := 1) O) ?_
 refine BP (A9 [0] O (Bg [1] [] O O ⟨by rw [lK Au Au Au]; rfl, rfl⟩))
end Go.Proofs.YtldfmjoncbjldaaGreat
