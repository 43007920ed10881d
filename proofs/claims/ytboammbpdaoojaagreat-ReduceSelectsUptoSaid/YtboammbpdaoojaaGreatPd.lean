/- Part of the proofs: an abstract program logic, plain models and contracts of functions. -/
import Derived.Test.YtboammbpdaoojaaGreatPc
import Derived.Test.YtboammbpdaoojaaGreatProg
import Derived.Test.YtboammbpdaoojaaGreatPb
set_option linter.unusedVariables false
set_option linter.unusedSimpArgs false
set_option maxRecDepth 100000
namespace Go.Abs
def TW (P:Program) (ops:Array Oper) (H₀:List BI):Nat→(Nat→AV)→List BI→List AV→((Nat→AV)→List BI→Prop)→Prop
 | _,τ,H,[],K=>K τ H
 | k,τ,H,v::r,K=>∃o H',ops[k]?=some o∧o.guard=none∧Dh P o (ev τ) (H++H₀) v (H'++H₀)∧TW P ops H₀ (k+1) (put τ o.dst v) H' r K
def gG (fl:List Nat) (base:List Ez):Bool:=fl.all fun j=>match base.getD j .skip with | .val _=>true | _=>false
def fI (ops:Array Oper) (e:Nat) (fl:List Nat):Bool:=(List.range ops.size).all fun i=>Nat.blt i e||(List.range i).all fun j=>(Nat.blt j e&&fl.contains j)||M8 ops j i
theorem LI {ops:Array Oper}{e:Nat}{fl:List Nat}(h:fI ops e fl=true) {i j:Nat}(hi:e≤i) (hs:i<ops.size) (hj:j<i) (hf:¬(j<e∧j∈fl)):Pred ops j i:=by
 have:=List.all_eq_true.1 h i (by simpa using hs);simp only[Bool.or_eq_true] at this;rcases this with h1 | h1
 ·rw[Nat.blt_eq] at h1;omega
 have h2:=List.all_eq_true.1 h1 j (by simpa using hj);simp only[Bool.or_eq_true,Bool.and_eq_true,Nat.blt_eq] at h2;rcases h2 with h2 | h2
 ·exact absurd ⟨h2.1,by simpa using h2.2⟩ hf
 exact Em h2
theorem EV.facts4 {P:Program}{ops:Array Oper}{H₀:List BI}{τ:Nat→AV}{base fb:List Ez}(hf:∀j,j<base.length→j<fb.length∧fb.getD j .skip=base.getD j .skip) (β:Nat→BV):∀(r:List Ez) (k:Nat) (τk:Nat→AV) (K:(Nat→AV)→List BI→Prop),base.drop k=r→k+r.length=base.length→τk=τS ops (FZ β 0 fb) τ k→EV P ops H₀ k τk r K→(∀j,k≤j→j<base.length→(base.getD j .skip).ok (β j)) →
  (∀j,k≤j→j<base.length→∃o,ops[j]?=some o∧Vs P ops H₀ o (τS ops (FZ β 0 fb) τ j) (base.getD j .skip))∧K (τS ops (FZ β 0 fb) τ base.length) (gI β k r)
 | [],k,τk,K,hd,hk,ht,h,hβ=>by
  simp only[List.length_nil,Nat.add_zero] at hk;subst hk;exact⟨fun j h1 h2=>by omega,by rw[←ht];exact h⟩
 | e::r,k,τk,K,hd,hk,ht,h,hβ=>by
  obtain⟨o,ho,hok,hn⟩:=h;simp only[List.length_cons] at hk;have hb:base.getD k .skip=e:=by
   have:(base.drop k)[0]?=some e:=by rw[hd];rfl
   rw[List.getElem?_drop] at this;rw[List.getD_eq_getElem?_getD,show k=k+0 by omega,this];rfl
  have hd2:base.drop (k+1)=r:=by
   rw[←List.drop_drop,hd];rfl
  obtain⟨f1,f2⟩:=hf k An;obtain⟨h1,h2⟩:=EV.facts4 (τ:=τ) (base:=base) hf β r (k+1) _ _ hd2 An (by simp only[τS,ho,Option.bind_some];rw[EH β f1,f2,hb,←ht]) (hn (β k) (by have:=hβ k (Nat.le_refl _) An;rwa [hb] at this)) (fun j h1 h2=>hβ j An h2);refine⟨fun j hj hl=>?_,h2⟩;by_cases e2:j=k
  ·subst e2;exact⟨o,ho,by rw[hb,←ht];exact hok⟩
  exact h1 j An hl
theorem TW.facts {P:Program}{ops:Array Oper}{H₀:List BI}{τ:Nat→AV}{fb:List Ez}(β:Nat→BV):∀(r:List AV) (k:Nat) (τk:Nat→AV) (H:List BI) (K:(Nat→AV)→List BI→Prop),(∀m,m<r.length→k+m<fb.length∧fb.getD (k+m) .skip= .val (r.getD m (.p .any)))→τk=τS ops (FZ β 0 fb) τ k→TW P ops H₀ k τk H r K →
  ∃Hm:Nat→List BI,Hm k=H∧(∀j,k≤j→j<k+r.length→∃o,ops[j]?=some o∧o.guard=none∧Dh P o (ev (τS ops (FZ β 0 fb) τ j)) (Hm j++H₀) ((fb.getD j .skip).v (β j)) (Hm (j+1)++H₀))∧K (τS ops (FZ β 0 fb) τ (k+r.length)) (Hm (k+r.length))
 | [],k,τk,H,K,hf,ht,h=>⟨fun _=>H,rfl,fun j h1 h2=>by simp at h2;omega,by simp only[List.length_nil,Nat.add_zero];rw[←ht];exact h⟩
 | v::r,k,τk,H,K,hf,ht,h=>by
  obtain⟨o,H',ho,hg,hop,hn⟩:=h;obtain⟨f1,f2⟩:=hf 0 Ao;simp only[Nat.add_zero,List.getD_cons_zero] at f1 f2;obtain⟨Hm,h1,h2,h3⟩:=TW.facts (τ:=τ) (fb:=fb) β r (k+1) _ H' K (fun m hm=>by have:=hf (m+1) (by simpa using hm);rw[show k+(m+1)=k+1+m by omega] at this;simpa using this) (by simp only[τS,ho,Option.bind_some];rw[EH β f1,f2,←ht];rfl) hn;refine⟨fun j=>if j=k then H else Hm j,by simp,fun j hj hl=>?_,?_⟩
  ·by_cases e:j=k
   ·subst e;refine⟨o,ho,hg,?_⟩;rw[f2,←ht];show Dh P o (ev τk) ((if j=j then H else Hm j)++H₀) v ((if j+1=j then H else Hm (j+1))++H₀);rw[if_pos rfl,if_neg An,h1];exact hop
   show ∃o,ops[j]?=some o∧o.guard=none∧Dh P o _ ((if j=k then H else Hm j)++H₀) _ ((if j+1=k then H else Hm (j+1))++H₀);rw[if_neg e,if_neg An];exact h2 j An (by simp only[List.length_cons] at hl;omega)
  show K _ (if k+(v::r).length=k then H else Hm (k+(v::r).length));simp only[List.length_cons];rw[if_neg An,show k+(r.length+1)=k+1+r.length by omega];exact h3
theorem XD {β:Nat→BV}{l:Nat→Bool}:∀(r:List Ez) (k:Nat),(∀j,j<r.length→l (k+j)=true∨∃v,r.getD j .skip= .val v)→Ww β l k r=gI β k r
 | [],k,h=>rfl
 | e::r,k,h=>by
  simp only[Ww,gI];rw[XD r (k+1) fun j hj=>by have:=h (j+1) (by simpa using hj);rw[show k+(j+1)=k+1+j by omega] at this;simpa using this];rcases h 0 Ao with h1 | ⟨v,h1⟩
  ·rw[Nat.add_zero] at h1;rw[if_pos h1]
  simp only[List.getD_cons_zero] at h1;subst h1;split<;>rfl
theorem gX {P:Program}{r:Option Nat}{ops:Array Oper}{id n:Nat}{τ:Nat→AV}{H:List BI}{D:List EN}{Q:Cx→Br→Prop}(base:List Ez) (tl:List AV) (fl:List Nat) (hm:P.follows .mixedOrders=true)
  (he:base.length+tl.length=ops.size) (chk:ND ops n []=true) (late:fI ops base.length fl=true) (hfl:gG fl base=true) (hne:bV base)
  (h:EV P ops H 0 τ base (fun τ' Hs=>TW P ops H base.length τ' Hs tl (fun τ'' Bs=>Q .normal ⟨n,τ'',Bs++H,D⟩))):I3 P r (.region id ops true) ⟨n,τ,H,D⟩ Q:=by
 intro F₀ a₀ w₀ hs₀;refine wpIn_region_any hm ?_;have same:DV F₀ w₀ F₀ { w₀ with drawn:=w₀.drawn+1 }:=⟨Nat.le_refl _,fun _ _ _=>rfl,fun _ h _=>h⟩;have t₀:Trans F₀ H w₀ F₀ H { w₀ with drawn:=w₀.drawn+1 } :=
  ⟨Nat.le_refl _,fun _ _ _=>rfl,fun _ h _=>h,fun _ h=> .inl h,fun o ho b hb=> .inl ⟨o,ho,hb⟩,rfl,rfl,rfl⟩
 have hs₁:Di F₀ ⟨n,τ,H,D⟩ a₀ { w₀ with drawn:=w₀.drawn+1 } :=
  ⟨hs₀.size,fun t=>CE.mono same _ _ (hs₀.tmp t),hs₀.heap.stable' same (fun _ h=>h) (fun _ _ _ _=>rfl) hs₀.heap.bd,FG.mono same _ _ hs₀.defs⟩
 obtain⟨hdst,c0,c1,c2,_⟩:=KN chk;obtain⟨fb,hfb⟩:∃fb,fb=base++tl.map Ez.val:=⟨_,rfl⟩;have hfl1:fb.length=ops.size:=by rw[hfb];simp;omega
 have hf1:∀j,j<base.length→j<fb.length∧fb.getD j .skip=base.getD j .skip:=fun j hj=>⟨by omega,by
  rw[hfb,List.getD_eq_getElem?_getD,List.getD_eq_getElem?_getD,List.getElem?_append_left hj]⟩
 have hf2:∀m,m<tl.length→base.length+m<fb.length∧fb.getD (base.length+m) .skip= .val (tl.getD m (.p .any)):=fun m hm=>⟨by omega,by
  rw[hfb,List.getD_eq_getElem?_getD,List.getElem?_append_right An,Nat.add_sub_cancel_left,List.getElem?_map,List.getElem?_eq_getElem hm];simp[List.getElem?_eq_getElem hm]⟩
 have hd:∀β,O1 P ops n (fun _=>False) τ H (FZ β 0 fb):=fun β =>
  ⟨hdst,fun _ _ _ h=>h.elim,c0,c1,c2,fun i k _ _ h _=>(by rw[Ux] at h;cases h),fun i e ob v _ _ _ h _ _=>absurd h (Rs β fb 0 i ob v)⟩
 have flv:∀j,j∈fl→∃v,base.getD j .skip= .val v:=fun j hj=>by
  have:=List.all_eq_true.1 hfl j hj;cases hq:base.getD j .skip with
  | val v=>exact⟨v,rfl⟩
  | _=>simp only[hq] at this;cases this
 have hE:∀β,(∀j,j<base.length→(base.getD j .skip).ok (β j))→(∀j,j<base.length→∃o,ops[j]?=some o∧Vs P ops H o (τS ops (FZ β 0 fb) τ j) (base.getD j .skip)) ∧
   ∃Hm:Nat→List BI,Hm base.length=gI β 0 base∧(∀j,base.length≤j→j<ops.size→∃o,ops[j]?=some o∧o.guard=none∧Dh P o (ev (τS ops (FZ β 0 fb) τ j)) (Hm j++H) ((fb.getD j .skip).v (β j)) (Hm (j+1)++H))∧Q .normal ⟨n,τS ops (FZ β 0 fb) τ ops.size,Hm ops.size++H,D⟩:=fun β hβ=>by
  obtain⟨h1,h2⟩:=EV.facts4 (base:=base) (fb:=fb) hf1 β base 0 τ _ Ao Ao rfl h (fun j _ h=>hβ j h);obtain⟨Hm,g1,g2,g3⟩:=TW.facts (fb:=fb) β tl base.length _ _ _ hf2 rfl h2;rw[he] at g2 g3;exact⟨fun j hj=>h1 j (Nat.zero_le _) hj,Hm,g1,g2,g3⟩
 obtain⟨I,hI0⟩:∃I:Array Bool→Act→World→Prop,I=fun l a w=>l.size=ops.size∧∃β τ' F Hb,(∀j,j<base.length→(base.getD j .skip).ok (β j))∧Down ops (fun i=>l.getD i false=true)∧Ga ops (FZ β 0 fb) τ (fun i=>l.getD i false=true) τ'∧Di F ⟨n,τ',Hb++H,D⟩ a w∧Trans F₀ H w₀ F (Hb++H) w ∧
  (((∀k,base.length≤k→l.getD k false=false)∧Hb.Perm (Ww β (fun k=>l.getD k false) 0 base)) ∨
   (∃(m:Nat) (Hm:Nat→List BI),(∀j,base.length≤j→j<ops.size→∃o,ops[j]?=some o∧o.guard=none∧Dh P o (ev (τS ops (FZ β 0 fb) τ j)) (Hm j++H) ((fb.getD j .skip).v (β j)) (Hm (j+1)++H))∧Q .normal ⟨n,τS ops (FZ β 0 fb) τ ops.size,Hm ops.size++H,D⟩∧base.length≤m∧m≤ops.size∧(∀k,base.length≤k→(l.getD k false=true↔k<m))∧(∀k,k<base.length→k ∉ fl→l.getD k false=true)∧Hb=Hm m)):=⟨_,rfl⟩
 refine KS (I:=I) (fun l a w h=>by rw[hI0] at h;exact h.1) ?_ ?_ _ _ _ _ ?_ ?_
 ·intro l a w hI i hi;rw[hI0] at hI;obtain⟨hsz,β,τ',F,Hb,hβ,hdown,hτ,hs,ht,hI⟩:=hI;obtain⟨hun,o,ho,hall⟩:=mem_ready.1 hi;have hlt:i<ops.size:=by
   rcases Nat.lt_or_ge i ops.size with h | h
   ·exact h
   simp[Array.getElem?_eq_none h] at ho
  have hil:i<l.size:=by omega
  have hnot:l.getD i false=false:=by
   have:l[i]=false:=by simpa [hil] using hun
   simp[hil,this]
  have hr:∀j∈EF o,l.getD j false=true:=by
   intro j hj;simp only[EF,List.mem_map,List.mem_filter] at hj;obtain⟨e,⟨he,hb⟩,rfl⟩:=hj;exact hall e (by simpa using he) hb
  have hset:∀k,(l.setIfInBounds i true).getD k false=true↔(l.getD k false=true∨k=i):=by
   intro k;by_cases hk:k=i
   ·subst hk;simp[hil]
   simp[Array.getElem?_setIfInBounds_ne (Ne.symm hk),hk]
  have hset2:∀k,(l.setIfInBounds i true).getD k false=(l.getD k false||k==i):=by
   intro k;by_cases hk:k=i
   ·subst hk;simp[hil]
   simp[Array.getElem?_setIfInBounds_ne (Ne.symm hk),hk]
  have hsz':(l.setIfInBounds i true).size=ops.size:=by simp[hsz]
  have hdown':Down ops (fun k=>(l.setIfInBounds i true).getD k false=true):=by
   intro k o' j ho' hk hj;rcases (hset k).1 hk with h | h
   ·exact(hset j).2 (.inl (hdown k o' j ho' h hj))
   subst h;rw[ho] at ho';injection ho' with ho';subst ho';exact(hset j).2 (.inl (hr j hj))
  have hlook:∀t∈looks ops o,τ' t=τS ops (FZ β 0 fb) τ i t:=fun t ht=>KO (hd β) hdown hτ ho (by rw[hnot];decide) hr ht;have hops:∀x∈o.op.operands.toList,ev τ' x=ev (τS ops (FZ β 0 fb) τ i) x:=by
   intro x hx;cases x with
   | tmp t=>exact hlook t (List.mem_append_left _ (List.mem_filterMap.2 ⟨.tmp t,hx,rfl⟩))
   | _=>rfl
  have hguard:∀j want d,o.guard=some (j,want)→(ops[j]?).bind (·.dst)=some d→τ' d=τS ops (FZ β 0 fb) τ i d:=by
   intro j want d hg hj;refine hlook d (List.mem_append_right _ ?_);simp[hg,hj]
  have hpred:∀{a},Pred ops a i→l.getD a false=true:=by
   have:∀{a b},Pred ops a b→b=i→l.getD a false=true:=by
    intro a b hab
    induction hab with
    | base ho' hj=>intro e;subst e;rw[ho] at ho';injection ho' with ho';subst ho';exact hr _ hj
    | trans p1 _ _ ih2=>intro e;exact hdown.pred p1 (ih2 e)
   exact fun {a} h=>this h O
  have wants:Cw ops ⟨0,τS ops (FZ β 0 fb) τ i,[],[]⟩ o→Cw ops ⟨n,τ',Hb++H,D⟩ o:=by
   intro h;unfold Cw at *;cases hg:o.guard with
   | none=>simp[hg]
   | some jw =>
    obtain⟨j,want⟩:=jw;simp only[hg] at h ⊢;obtain⟨d,h1,h2⟩:=h;exact⟨d,h1,by rw[←h2];exact hguard j want d hg h1⟩
  -- one operation
  have exec:∀{Hx:List BI} {C:AV→List BI→Prop},Di F ⟨n,τ',Hx,D⟩ a w→Cw ops ⟨n,τ',Hx,D⟩ o→DP P o (ev (τS ops (FZ β 0 fb) τ i)) Hx (fun r H'=>match r with | .val v=>C v H' | .panic _=>False)→(∀v H' a' w' F',C v H'→Di F' ⟨n,put τ' o.dst v,H',D⟩ a' w'→Trans F Hx w F' H' w'→I (l.setIfInBounds i true) a' w')→wpOpIn (W r) 0 P ops (post F₀ H w₀ Q) i (fun a' w'=>I (l.setIfInBounds i true) a' w') a w:=by
   intro Hx C hs hwant hop close;unfold wpOpIn;simp only[ho,H8 hs hwant,if_true];have hw:=hop r F _ a w hs rfl (fun x hx=>hops x hx) (fun t ht=>hdst i o t ho ht);unfold Oper.wpIn at *;refine⟨hw.1,?_⟩;replace hw:=hw.2;generalize (o.semAt (W r).round a.eval).run P w=rr at *;cases rr with
   | ok nx w' =>
    cases nx<;>simp only[Oper.uponIn] at hw ⊢
    case value u=>obtain⟨v',H'',F',h1,h3,h4⟩:=hw;exact close _ _ _ _ _ h1 h3 h4
    case skip=>obtain⟨v',H'',F',h1,h3,h4⟩:=hw;exact close _ _ _ _ _ h1 h3 h4
    case defer d=>obtain⟨v',H'',F',h1,h3,h4⟩:=hw;exact close _ _ _ _ _ h1 h3 h4
    case enter f args =>
     refine⟨hw.1,hw.2.mono fun e w'' he=>?_⟩;cases e with
     | returned u=>obtain⟨v',H'',F',h1,h3,h4⟩:=he;exact close _ _ _ _ _ h1 h3 h4
     | panicked c=>obtain⟨_,_,_,_,h,_⟩:=he;exact h.elim
     | outgrown=>obtain⟨_,_,_,_,_,_,h,_⟩:=he;exact h.elim
    case row row args=>exact⟨hw.1,hw.2.mono fun u w'' h=>by obtain⟨v',H'',F',h1,h3,h4⟩:=h;exact close _ _ _ _ _ h1 h3 h4⟩
    case round l' f tmps assign body =>
     refine⟨hw.1,hw.2.mono fun e w'' he=>?_⟩;cases e with
     | returned u=>obtain⟨v',H'',F',h1,h3,h4⟩:=he;exact close _ _ _ _ _ h1 h3 h4
     | panicked c=>obtain⟨_,_,_,_,h,_⟩:=he;exact h.elim
     | outgrown=>obtain⟨_,_,_,_,_,_,h,_⟩:=he;exact h.elim
   | halt x w' =>
    cases x<;>simp only[Oper.uponIn] at hw ⊢
    case panic u=>obtain⟨_,_,_,_,h,_⟩:=hw;exact h.elim
  have hτput:∀{v:AV},v=((FZ β 0 fb).getD i .skip).val→Ga ops (FZ β 0 fb) τ (fun k=>(l.setIfInBounds i true).getD k false=true) (put τ' o.dst v):=by
   intro v hv;have hτ3:=hτ.put (hd β) ho;rw[←hv] at hτ3;intro t;exact⟨fun k o' a1 a2 a3=>(hτ3 t).1 k o' a1 a2 ((hset k).1 a3),fun hn=>(hτ3 t).2 fun k o' a1 a2 a3=>hn k o' a1 a2 ((hset k).2 a3)⟩
  -- a tail operation
  have goTail:∀Hm:Nat→List BI,(∀j,base.length≤j→j<ops.size→∃o,ops[j]?=some o∧o.guard=none∧Dh P o (ev (τS ops (FZ β 0 fb) τ j)) (Hm j++H) ((fb.getD j .skip).v (β j)) (Hm (j+1)++H))→Q .normal ⟨n,τS ops (FZ β 0 fb) τ ops.size,Hm ops.size++H,D⟩→base.length≤i→(∀k,base.length≤k→(l.getD k false=true↔k<i))→(∀k,k<base.length→k ∉ fl→l.getD k false=true)→Di F ⟨n,τ',Hm i++H,D⟩ a w→Trans F₀ H w₀ F (Hm i++H) w→wpOpIn (W r) 0 P ops (post F₀ H w₀ Q) i (fun a' w'=>I (l.setIfInBounds i true) a' w') a w:=by
   intro Hm g2 g3 hbi hk1 hk2 hs ht;obtain⟨o',ho',hg,hop⟩:=g2 i hbi hlt;rw[ho] at ho';injection ho' with ho';subst ho';refine exec (C:=fun v H'=>v=(fb.getD i .skip).v (β i)∧H'=Hm (i+1)++H) hs (by unfold Cw;rw[hg];trivial) (DP.mono hop (by
    intro r H' hR;cases r with
    | val v'=>exact hR
    | panic v'=>exact hR.elim)) ?_
   rintro v H' a' w' F' ⟨hv,rfl⟩ h3 h4;rw[hI0];refine⟨hsz',β,_,F',Hm (i+1),hβ,hdown',hτput (by rw[hv,EH β An]),h3,ht.trans hs₀.heap.bd h4,.inr ⟨i+1,Hm,g2,g3,by omega,by omega,fun k hk=>?_,fun k h1 h2=>(hset k).2 (.inl (hk2 k h1 h2)),rfl⟩⟩;rw[hset k,hk1 k hk];omega
  rcases hI with ⟨hno,hp⟩ | ⟨m,Hm,g2,g3,hm1,hm2,hk1,hk2,rfl⟩
  ·rcases Nat.lt_or_ge i base.length with hib | hib
   ·-- of the first part
    obtain⟨o',ho',hok⟩:=(hE β hβ).1 i hib;rw[ho] at ho';injection ho' with ho';subst ho';have hno':∀k,base.length≤k→(l.setIfInBounds i true).getD k false=false:=by
     intro k hk;rw[hset2 k,hno k hk];simp;omega
    generalize hbe:base.getD i .skip=e at hok;have close:∀{a' w' F' b H'},e.ok b→H'=e.box b++(Hb++H)→Di F' ⟨n,put τ' o.dst (e.v b),H',D⟩ a' w'→Trans F (Hb++H) w F' H' w'→I (l.setIfInBounds i true) a' w':=by
     intro a' w' F' b H' hb0 hH h3 h4;subst hH;rw[hI0];have hspn:∀k,k<fb.length→((FZ (fun j=>if j=i then b else β j) 0 fb).getD k .skip).val=(fb.getD k .skip).v (if k=i then b else β k):=fun k hk=>EH _ hk;refine⟨hsz',fun j=>if j=i then b else β j,put τ' o.dst (e.v b),F',e.box b++Hb,(fun j hj=>by
      by_cases e3:j=i
      ·subst e3;simp only[if_true];rw[hbe];exact hb0
      simp only[if_neg e3];exact hβ j hj),hdown',?_,by rw[List.append_assoc];exact h3,by rw[List.append_assoc];exact ht.trans hs₀.heap.bd h4,.inl ⟨hno',?_⟩⟩
     ·have hτ2:Ga ops (FZ (fun j=>if j=i then b else β j) 0 fb) τ (fun k=>l.getD k false=true) τ':=by
       intro t;refine⟨fun k o' a1 a2 a3=>?_,(hτ t).2⟩;have a4:l.getD k false=true:=a3;have hki:k≠i:=fun e=>by subst e;rw[hnot] at a4;cases a4
       rw[(hτ t).1 k o' a1 a2 a3];rcases Nat.lt_or_ge k fb.length with hk | hk
       ·rw[EH _ hk,EH _ hk,if_neg hki]
       rw[Jp _ hk,Jp _ hk]
      have hτ3:=hτ2.put (hd _) ho;rw[EH _ An,if_pos rfl,(hf1 i hib).2,hbe] at hτ3;intro t;exact⟨fun k o' a1 a2 a3=>(hτ3 t).1 k o' a1 a2 ((hset k).1 a3),fun hn=>(hτ3 t).2 fun k o' a1 a2 a3=>hn k o' a1 a2 ((hset k).2 a3)⟩
     have h1:=Qn (β:=β) (l:=fun k=>l.getD k false) (i:=i) (b:=b) hnot base 0 (Nat.zero_le _) An;rw[Nat.sub_zero,hbe] at h1;refine(hp.append_left _).trans (h1.trans (List.Perm.of_eq ?_));exact KW base 0 fun j _=>⟨(hset2 j).symm,fun _=>O⟩
    have yields:Cw ops ⟨n,τ',Hb++H,D⟩ o→DP P o (ev (τS ops (FZ β 0 fb) τ i)) (Hb++H) (fun r H'=>match r with | .val v=>∃b,e.ok b∧v=e.v b∧H'=e.box b++(Hb++H) | .panic _=>False)→wpOpIn (W r) 0 P ops (post F₀ H w₀ Q) i (fun a' w'=>I (l.setIfInBounds i true) a' w') a w:=fun h1 h2 =>
     exec (C:=fun v H'=>∃b,e.ok b∧v=e.v b∧H'=e.box b++(Hb++H)) hs h1 h2 (by rintro v H' a' w' F' ⟨b,h0,rfl,h1⟩ h3 h4;exact close h0 h1 h3 h4)
    cases e with
    | val v=>exact yields (wants hok.1) ((hok.2 Hb).mono (by
      intro r H' hR;cases r with
      | val v'=>obtain⟨rfl,rfl⟩:=hR;exact⟨(0,0,.p .any),trivial,rfl,rfl⟩
      | panic v'=>exact hR.elim))
    | new cs =>
     refine yields (by unfold Cw;rw[hok.1];trivial) ((hok.2 _).mono ?_);intro r H' hR;cases r with
     | val v'=>obtain⟨b,rfl,rfl⟩:=hR;exact⟨(b,0,.p .any),trivial,rfl,rfl⟩
     | panic v'=>exact hR.elim
    | newv sz rows =>
     refine yields (by unfold Cw;rw[hok.1];trivial) ((hok.2 _).mono ?_);intro r H' hR;cases r with
     | val v'=>obtain⟨b,c,rfl,rfl⟩:=hR;exact⟨(b,c,.p .any),trivial,rfl,rfl⟩
     | panic v'=>exact hR.elim
    | rel R =>
     refine yields (by unfold Cw;rw[hok.1];trivial) ((hok.2 _).mono ?_);intro r H' hR;cases r with
     | val v'=>obtain⟨h1,rfl⟩:=hR;exact⟨(0,0,v'),h1,rfl,rfl⟩
     | panic v'=>exact hR.elim
    | skip =>
     obtain⟨j,want,d,hg,hj,hb⟩:=hok;have hw:Region.wanted o (yielded ops a.tmps)=false:=Ka (S:=⟨n,τ',Hb++H,D⟩) hs hg hj (by show gL (τ' d) want;rw[hguard j want d hg hj];exact hb);unfold wpOpIn;simp only[ho,hw,Bool.false_eq_true,if_false];refine⟨fun _ _=>Ap,close (b:=(0,0,.p .any)) Ap O ?_ .refl⟩;exact hs.put (fun t ht=>hdst i o t ho ht) ⟨Nat.le_refl _,fun _ _ _=>O,fun _ h _=>h⟩ hs.heap (by simp only[Ez.v,CE,B0,undef];exact⟨[],rfl,rfl⟩)
   -- the first of the rest
   have hpre:∀j,j<i→¬(j<base.length∧j∈fl)→l.getD j false=true:=fun j hj hf=>hpred (LI late hib hlt hj hf);have hie:i=base.length:=by
    rcases Nat.lt_or_ge base.length i with h | h
    ·have h1:=hpre base.length h (fun h=>Nat.lt_irrefl _ h.1);rw[hno base.length (Nat.le_refl _)] at h1;cases h1
    omega
   obtain⟨Hm,g1,g2,g3⟩:=(hE β hβ).2;have hp2:(Hb++H).Perm (Hm i++H):=by
    rw[hie,g1];refine List.Perm.append_right H (hp.trans (List.Perm.of_eq (XD base 0 fun j hj=>?_)));rw[Nat.zero_add];by_cases hq:j∈fl
    ·exact .inr (flv j hq)
    exact .inl (hpre j An fun h=>hq h.2)
   refine goTail Hm g2 g3 hib (fun k hk=>⟨fun h=>?_,fun h=>by omega⟩) (fun k h1 h2=>hpre k An fun h=>h2 h.2) ⟨hs.size,hs.tmp,hs.heap.perm hp2,hs.defs⟩ { ht with keys:=fun o ho=>ht.keys o (hp2.mem_iff.2 ho) };rw[hno k hk] at h;cases h
  rcases Nat.lt_or_ge i base.length with hib | hib
  ·-- a value that floats
   have hif:i∈fl:=Classical.byContradiction fun hq=>by rw[hk2 i hib hq] at hnot;cases hnot
   obtain⟨v,hv⟩:=flv i hif;obtain⟨o',ho',hok⟩:=(hE β hβ).1 i hib;rw[ho] at ho';injection ho' with ho';subst ho';rw[hv] at hok;refine exec (C:=fun v' H'=>v'=v∧H'=Hm m++H) hs (wants hok.1) ((hok.2 (Hm m)).mono (by
    intro r H' hR;cases r with
    | val v'=>exact hR
    | panic v'=>exact hR.elim)) ?_
   rintro v' H' a' w' F' ⟨rfl,rfl⟩ h3 h4;rw[hI0];refine⟨hsz',β,_,F',Hm m,hβ,hdown',hτput (by rw[EH β An,(hf1 i hib).2,hv];rfl),h3,ht.trans hs₀.heap.bd h4,.inr ⟨m,Hm,g2,g3,hm1,hm2,fun k hk=>?_,fun k h1 h2=>(hset k).2 (.inl (hk2 k h1 h2)),O⟩⟩;rw[hset k,hk1 k hk];exact⟨fun h=>h.resolve_right An,.inl⟩
  have him:i=m:=by
   rcases Nat.lt_trichotomy i m with h | h | h
   ·rw[(hk1 i hib).2 h] at hnot;cases hnot
   ·exact h
   have:=hpred (LI late (by omega:base.length≤i) hlt h (fun h=>by omega));have:=(hk1 m hm1).1 this;omega
  subst him;exact goTail Hm g2 g3 hib hk1 hk2 hs ht
 ·intro l a w hI hr;rw[hI0] at hI;obtain⟨hsz,β,τ',F,Hb,hβ,hdown,hτ,hs,ht,hI⟩:=hI;have hall:∀i,i<ops.size→l.getD i false=true:=by
   intro i
   induction i using Nat.strongRecOn with
   | _ i ih =>
    intro hi;cases hq:l.getD i false with
    | true=>rfl
    | false =>
     have ho:ops[i]?=some ops[i]:=Array.getElem?_eq_getElem hi;have:i∈Region.ready .any ops l:=by
      refine mem_ready.2 ⟨?_,ops[i],ho,?_⟩
      ·have:i<l.size:=by omega
       simp[this] at hq ⊢;exact hq
      intro e he hb;have hj:e.on∈EF ops[i]:=by
       simp only[EF,List.mem_map,List.mem_filter];exact⟨e,⟨by simpa using he,hb⟩,rfl⟩
      have hlt:=c0 i _ _ ho hj;exact ih e.on hlt An
     rw[hr] at this;cases this
  have hτe:τ'=τS ops (FZ β 0 fb) τ ops.size:=by
   funext t;have h2:=Mm (hd β) ops.size (Nat.le_refl _) t;by_cases hw:∃(k:Nat) (o':Oper),ops[k]?=some o'∧o'.dst=some t
   ·obtain⟨k,o',ho',hk⟩:=hw;have hlt:k<ops.size:=by
     rcases Nat.lt_or_ge k ops.size with h | h
     ·exact h
     simp[Array.getElem?_eq_none h] at ho'
    rw[(hτ t).1 k o' ho' hk (hall k hlt),h2.1 k o' ho' hk hlt]
   rw[(hτ t).2 fun k o' h1 h2 _=>hw ⟨k,o',h1,h2⟩,h2.2 fun k o' h1 h2 _=>hw ⟨k,o',h1,h2⟩]
  have fin:∀Hx:List BI,(Hb++H).Perm (Hx++H)→Q .normal ⟨n,τS ops (FZ β 0 fb) τ ops.size,Hx++H,D⟩→post F₀ H w₀ Q .normal a w:=fun Hx hp hq =>
   ⟨.normal,_,F,hq,rfl,⟨by exact hs.size,by rw[←hτe];exact hs.tmp,hs.heap.perm hp,hs.defs⟩,{ ht with keys:=fun o ho=>ht.keys o (hp.mem_iff.2 ho) }⟩
  rcases hI with ⟨hno,hp⟩ | ⟨m,Hm,g2,g3,hm1,hm2,hk1,hk2,rfl⟩
  ·have hbs:base.length=ops.size:=by
    rcases Nat.lt_or_ge base.length ops.size with h | h
    ·have:=hall base.length h;rw[hno base.length (Nat.le_refl _)] at this;cases this
    omega
   obtain⟨Hm,g1,g2,g3⟩:=(hE β hβ).2;refine fin (Hm ops.size) ?_ g3;rw[←hbs,g1];exact List.Perm.append_right H (hp.trans (List.Perm.of_eq (U1 base 0 fun j _ hj=>hall j An)))
  have hms:m=ops.size:=by
   rcases Nat.lt_or_ge m ops.size with h | h
   ·have:=(hk1 m hm1).1 (hall m h);omega
   omega
  subst hms;exact fin _ (List.Perm.refl _) g3
 ·obtain⟨β0,hβ0⟩:=bV.pick base hne;rw[hI0];refine⟨by simp,β0,τ,F₀,[],hβ0,?_,?_,hs₁,t₀,.inl ⟨?_,?_⟩⟩
  ·intro i o j ho hi;by_cases h:i<ops.size<;>simp[h] at hi
  ·intro t;refine⟨fun k o ho hk hl=>?_,fun _=>O⟩;by_cases h:k<ops.size<;>simp[h] at hl
  ·intro k _;by_cases h:k<ops.size<;>simp[h]
  rw[Oh base 0 fun j=>by by_cases h:j<ops.size<;>simp[h]]
 have:=List.length_filter_le (fun b:Bool=> !b) (Array.replicate ops.size false).toList;simp at this ⊢
section
variable {P:Program}{ops:Array Oper}{H₀:List BI}{k:Nat}{τ:Nat→AV}{r:List AV}{K:(Nat→AV)→List BI→Prop}{dst:Option Tmp}{op:Op}{ty:TypeId}{pos:String}{aft:Array Edge}{v:AV}{H:List BI}
theorem YU (H':List BI) (ho:ops[k]?=some ⟨dst,op,ty,pos,aft,none⟩) (h:Dh P ⟨dst,op,ty,pos,aft,none⟩ (ev τ) (H++H₀) v (H'++H₀)) (next:TW P ops H₀ (k+1) (put τ dst v) H' r K):TW P ops H₀ k τ H (v::r) K :=
 ⟨_,H',ho,rfl,h,next⟩
theorem km (h:K τ H):TW P ops H₀ k τ H [] K:=h
end
def gK (P:Program) (ops:Array Oper) (H₀ H₁:List BI) (i₀:Nat) (fl:List Nat) (k:Nat) (o:Oper) (τ:Nat→AV) (e:Ez):Prop :=
 if k=i₀ then ∃v,e= .val v∧o.guard=none∧∀Bs,Dh P o (ev τ) (Bs++H₀) v (Bs++H₁) else Vs P ops H₀ o τ e∧Vs P ops H₁ o τ e∧(fl.contains k=true→∀v,e= .val v→∀X,Dh P o (ev τ) X v X)
def E5 (P:Program) (ops:Array Oper) (H₀ H₁:List BI) (i₀:Nat) (fl:List Nat):Nat→(Nat→AV)→List Ez→((Nat→AV)→List BI→Prop)→Prop
 | _,τ,[],K=>K τ []
 | k,τ,e::r,K=>∃o,ops[k]?=some o∧gK P ops H₀ H₁ i₀ fl k o τ e∧∀b,e.ok b→E5 P ops H₀ H₁ i₀ fl (k+1) (put τ o.dst (e.v b)) r (fun τ' Hs=>K τ' (e.box b++Hs))
theorem E5.facts {P:Program}{ops:Array Oper}{H₀ H₁:List BI}{i₀:Nat}{fl:List Nat}{τ:Nat→AV}{base fb:List Ez}(hf:∀j,j<base.length→j<fb.length∧fb.getD j .skip=base.getD j .skip) (β:Nat→BV):∀(r:List Ez) (k:Nat) (τk:Nat→AV) (K:(Nat→AV)→List BI→Prop),base.drop k=r→k+r.length=base.length→τk=τS ops (FZ β 0 fb) τ k→E5 P ops H₀ H₁ i₀ fl k τk r K→(∀j,k≤j→j<base.length→(base.getD j .skip).ok (β j)) →
  (∀j,k≤j→j<base.length→∃o,ops[j]?=some o∧gK P ops H₀ H₁ i₀ fl j o (τS ops (FZ β 0 fb) τ j) (base.getD j .skip))∧K (τS ops (FZ β 0 fb) τ base.length) (gI β k r)
 | [],k,τk,K,hd,hk,ht,h,hβ=>by
  simp only[List.length_nil,Nat.add_zero] at hk;subst hk;exact⟨fun j h1 h2=>by omega,by rw[←ht];exact h⟩
 | e::r,k,τk,K,hd,hk,ht,h,hβ=>by
  obtain⟨o,ho,hok,hn⟩:=h;simp only[List.length_cons] at hk;have hb:base.getD k .skip=e:=by
   have:(base.drop k)[0]?=some e:=by rw[hd];rfl
   rw[List.getElem?_drop] at this;rw[List.getD_eq_getElem?_getD,show k=k+0 by omega,this];rfl
  have hd2:base.drop (k+1)=r:=by
   rw[←List.drop_drop,hd];rfl
  obtain⟨f1,f2⟩:=hf k An;obtain⟨h1,h2⟩:=E5.facts (τ:=τ) (base:=base) hf β r (k+1) _ _ hd2 An (by simp only[τS,ho,Option.bind_some];rw[EH β f1,f2,hb,←ht]) (hn (β k) (by have:=hβ k (Nat.le_refl _) An;rwa [hb] at this)) (fun j h1 h2=>hβ j An h2);refine⟨fun j hj hl=>?_,h2⟩;by_cases e2:j=k
  ·subst e2;exact⟨o,ho,by rw[hb,←ht];exact hok⟩
  exact h1 j An hl
def TV (P:Program) (ops:Array Oper):Nat→(Nat→AV)→List BI→List AV→((Nat→AV)→List BI→Prop)→Prop
 | _,τ,H,[],K=>K τ H
 | k,τ,H,v::r,K=>∃o H',ops[k]?=some o∧o.guard=none∧Dh P o (ev τ) H v H'∧TV P ops (k+1) (put τ o.dst v) H' r K
theorem TV.facts {P:Program}{ops:Array Oper}{τ:Nat→AV}{fb:List Ez}(β:Nat→BV):∀(r:List AV) (k:Nat) (τk:Nat→AV) (H:List BI) (K:(Nat→AV)→List BI→Prop),(∀m,m<r.length→k+m<fb.length∧fb.getD (k+m) .skip= .val (r.getD m (.p .any)))→τk=τS ops (FZ β 0 fb) τ k→TV P ops k τk H r K →
  ∃Hm:Nat→List BI,Hm k=H∧(∀j,k≤j→j<k+r.length→∃o,ops[j]?=some o∧o.guard=none∧Dh P o (ev (τS ops (FZ β 0 fb) τ j)) (Hm j) ((fb.getD j .skip).v (β j)) (Hm (j+1)))∧K (τS ops (FZ β 0 fb) τ (k+r.length)) (Hm (k+r.length))
 | [],k,τk,H,K,hf,ht,h=>⟨fun _=>H,rfl,fun j h1 h2=>by simp at h2;omega,by simp only[List.length_nil,Nat.add_zero];rw[←ht];exact h⟩
 | v::r,k,τk,H,K,hf,ht,h=>by
  obtain⟨o,H',ho,hg,hop,hn⟩:=h;obtain⟨f1,f2⟩:=hf 0 Ao;simp only[Nat.add_zero,List.getD_cons_zero] at f1 f2;obtain⟨Hm,h1,h2,h3⟩:=TV.facts (τ:=τ) (fb:=fb) β r (k+1) _ H' K (fun m hm=>by have:=hf (m+1) (by simpa using hm);rw[show k+(m+1)=k+1+m by omega] at this;simpa using this) (by simp only[τS,ho,Option.bind_some];rw[EH β f1,f2,←ht];rfl) hn;refine⟨fun j=>if j=k then H else Hm j,by simp,fun j hj hl=>?_,?_⟩
  ·by_cases e:j=k
   ·subst e;refine⟨o,ho,hg,?_⟩;rw[f2,←ht];show Dh P o (ev τk) (if j=j then H else Hm j) v (if j+1=j then H else Hm (j+1));rw[if_pos rfl,if_neg An,h1];exact hop
   show ∃o,ops[j]?=some o∧o.guard=none∧Dh P o _ (if j=k then H else Hm j) _ (if j+1=k then H else Hm (j+1));rw[if_neg e,if_neg An];exact h2 j An (by simp only[List.length_cons] at hl;omega)
  show K _ (if k+(v::r).length=k then H else Hm (k+(v::r).length));simp only[List.length_cons];rw[if_neg An,show k+(r.length+1)=k+1+r.length by omega];exact h3
theorem ID {P:Program}{r:Option Nat}{ops:Array Oper}{id n:Nat}{τ:Nat→AV}{H:List BI}{D:List EN}{Q:Cx→Br→Prop}(H₁:List BI) (i₀:Nat) (base:List Ez) (tl:List AV) (fl:List Nat) (hm:P.follows .mixedOrders=true)
  (he:base.length+tl.length=ops.size) (chk:ND ops n []=true) (late:fI ops base.length fl=true) (hfl:gG fl base=true) (hi0:(Nat.blt i₀ base.length&& !fl.contains i₀)=true) (hne:bV base)
  (h:E5 P ops H H₁ i₀ fl 0 τ base (fun τ' Hs=>TV P ops base.length τ' (Hs++H₁) tl (fun τ'' Bs=>Q .normal ⟨n,τ'',Bs,D⟩))):I3 P r (.region id ops true) ⟨n,τ,H,D⟩ Q:=by
 intro F₀ a₀ w₀ hs₀;rw[Bool.and_eq_true,Nat.blt_eq] at hi0;have hi1:i₀ ∉ fl:=by simpa using hi0.2
 have hi0:=hi0.1;refine wpIn_region_any hm ?_;have same:DV F₀ w₀ F₀ { w₀ with drawn:=w₀.drawn+1 }:=⟨Nat.le_refl _,fun _ _ _=>rfl,fun _ h _=>h⟩;have t₀:Trans F₀ H w₀ F₀ H { w₀ with drawn:=w₀.drawn+1 } :=
  ⟨Nat.le_refl _,fun _ _ _=>rfl,fun _ h _=>h,fun _ h=> .inl h,fun o ho b hb=> .inl ⟨o,ho,hb⟩,rfl,rfl,rfl⟩
 have hs₁:Di F₀ ⟨n,τ,H,D⟩ a₀ { w₀ with drawn:=w₀.drawn+1 } :=
  ⟨hs₀.size,fun t=>CE.mono same _ _ (hs₀.tmp t),hs₀.heap.stable' same (fun _ h=>h) (fun _ _ _ _=>rfl) hs₀.heap.bd,FG.mono same _ _ hs₀.defs⟩
 obtain⟨hdst,c0,c1,c2,_⟩:=KN chk;obtain⟨fb,hfb⟩:∃fb,fb=base++tl.map Ez.val:=⟨_,rfl⟩;have hfl1:fb.length=ops.size:=by rw[hfb];simp;omega
 have hf1:∀j,j<base.length→j<fb.length∧fb.getD j .skip=base.getD j .skip:=fun j hj=>⟨by omega,by
  rw[hfb,List.getD_eq_getElem?_getD,List.getD_eq_getElem?_getD,List.getElem?_append_left hj]⟩
 have hf2:∀m,m<tl.length→base.length+m<fb.length∧fb.getD (base.length+m) .skip= .val (tl.getD m (.p .any)):=fun m hm=>⟨by omega,by
  rw[hfb,List.getD_eq_getElem?_getD,List.getElem?_append_right An,Nat.add_sub_cancel_left,List.getElem?_map,List.getElem?_eq_getElem hm];simp[List.getElem?_eq_getElem hm]⟩
 have hd:∀β,O1 P ops n (fun _=>False) τ H (FZ β 0 fb):=fun β =>
  ⟨hdst,fun _ _ _ h=>h.elim,c0,c1,c2,fun i k _ _ h _=>(by rw[Ux] at h;cases h),fun i e ob v _ _ _ h _ _=>absurd h (Rs β fb 0 i ob v)⟩
 have flv:∀j,j∈fl→∃v,base.getD j .skip= .val v:=fun j hj=>by
  have:=List.all_eq_true.1 hfl j hj;cases hq:base.getD j .skip with
  | val v=>exact⟨v,rfl⟩
  | _=>simp only[hq] at this;cases this
 have hE:∀β,(∀j,j<base.length→(base.getD j .skip).ok (β j))→(∀j,j<base.length→∃o,ops[j]?=some o∧gK P ops H H₁ i₀ fl j o (τS ops (FZ β 0 fb) τ j) (base.getD j .skip)) ∧
   ∃Hm:Nat→List BI,Hm base.length=gI β 0 base++H₁∧(∀j,base.length≤j→j<ops.size→∃o,ops[j]?=some o∧o.guard=none∧Dh P o (ev (τS ops (FZ β 0 fb) τ j)) (Hm j) ((fb.getD j .skip).v (β j)) (Hm (j+1)))∧Q .normal ⟨n,τS ops (FZ β 0 fb) τ ops.size,Hm ops.size,D⟩:=fun β hβ=>by
  obtain⟨h1,h2⟩:=E5.facts (base:=base) (fb:=fb) hf1 β base 0 τ _ Ao Ao rfl h (fun j _ h=>hβ j h);obtain⟨Hm,g1,g2,g3⟩:=TV.facts (fb:=fb) β tl base.length _ _ _ hf2 rfl h2;rw[he] at g2 g3;exact⟨fun j hj=>h1 j (Nat.zero_le _) hj,Hm,g1,g2,g3⟩
 obtain⟨I,hI0⟩:∃I:Array Bool→Act→World→Prop,I=fun l a w=>l.size=ops.size∧∃β τ' F Hx,(∀j,j<base.length→(base.getD j .skip).ok (β j))∧Down ops (fun i=>l.getD i false=true)∧Ga ops (FZ β 0 fb) τ (fun i=>l.getD i false=true) τ'∧Di F ⟨n,τ',Hx,D⟩ a w∧Trans F₀ H w₀ F Hx w ∧
  ((∃Hb,Hx=Hb++(if l.getD i₀ false=true then H₁ else H)∧(∀k,base.length≤k→l.getD k false=false)∧Hb.Perm (Ww β (fun k=>l.getD k false) 0 base)) ∨
   (∃(m:Nat) (Hm:Nat→List BI),(∀j,base.length≤j→j<ops.size→∃o,ops[j]?=some o∧o.guard=none∧Dh P o (ev (τS ops (FZ β 0 fb) τ j)) (Hm j) ((fb.getD j .skip).v (β j)) (Hm (j+1)))∧Q .normal ⟨n,τS ops (FZ β 0 fb) τ ops.size,Hm ops.size,D⟩∧base.length≤m∧m≤ops.size∧(∀k,base.length≤k→(l.getD k false=true↔k<m))∧(∀k,k<base.length→k ∉ fl→l.getD k false=true)∧Hx=Hm m)):=⟨_,rfl⟩
 refine KS (I:=I) (fun l a w h=>by rw[hI0] at h;exact h.1) ?_ ?_ _ _ _ _ ?_ ?_
 ·intro l a w hI i hi;rw[hI0] at hI;obtain⟨hsz,β,τ',F,Hx,hβ,hdown,hτ,hs,ht,hI⟩:=hI;obtain⟨hun,o,ho,hall⟩:=mem_ready.1 hi;have hlt:i<ops.size:=by
   rcases Nat.lt_or_ge i ops.size with h | h
   ·exact h
   simp[Array.getElem?_eq_none h] at ho
  have hil:i<l.size:=by omega
  have hnot:l.getD i false=false:=by
   have:l[i]=false:=by simpa [hil] using hun
   simp[hil,this]
  have hr:∀j∈EF o,l.getD j false=true:=by
   intro j hj;simp only[EF,List.mem_map,List.mem_filter] at hj;obtain⟨e,⟨he,hb⟩,rfl⟩:=hj;exact hall e (by simpa using he) hb
  have hset:∀k,(l.setIfInBounds i true).getD k false=true↔(l.getD k false=true∨k=i):=by
   intro k;by_cases hk:k=i
   ·subst hk;simp[hil]
   simp[Array.getElem?_setIfInBounds_ne (Ne.symm hk),hk]
  have hset2:∀k,(l.setIfInBounds i true).getD k false=(l.getD k false||k==i):=by
   intro k;by_cases hk:k=i
   ·subst hk;simp[hil]
   simp[Array.getElem?_setIfInBounds_ne (Ne.symm hk),hk]
  have hsz':(l.setIfInBounds i true).size=ops.size:=by simp[hsz]
  have hdown':Down ops (fun k=>(l.setIfInBounds i true).getD k false=true):=by
   intro k o' j ho' hk hj;rcases (hset k).1 hk with h | h
   ·exact(hset j).2 (.inl (hdown k o' j ho' h hj))
   subst h;rw[ho] at ho';injection ho' with ho';subst ho';exact(hset j).2 (.inl (hr j hj))
  have hlook:∀t∈looks ops o,τ' t=τS ops (FZ β 0 fb) τ i t:=fun t ht=>KO (hd β) hdown hτ ho (by rw[hnot];decide) hr ht;have hops:∀x∈o.op.operands.toList,ev τ' x=ev (τS ops (FZ β 0 fb) τ i) x:=by
   intro x hx;cases x with
   | tmp t=>exact hlook t (List.mem_append_left _ (List.mem_filterMap.2 ⟨.tmp t,hx,rfl⟩))
   | _=>rfl
  have hguard:∀j want d,o.guard=some (j,want)→(ops[j]?).bind (·.dst)=some d→τ' d=τS ops (FZ β 0 fb) τ i d:=by
   intro j want d hg hj;refine hlook d (List.mem_append_right _ ?_);simp[hg,hj]
  have hpred:∀{a},Pred ops a i→l.getD a false=true:=by
   have:∀{a b},Pred ops a b→b=i→l.getD a false=true:=by
    intro a b hab
    induction hab with
    | base ho' hj=>intro e;subst e;rw[ho] at ho';injection ho' with ho';subst ho';exact hr _ hj
    | trans p1 _ _ ih2=>intro e;exact hdown.pred p1 (ih2 e)
   exact fun {a} h=>this h O
  have wants:Cw ops ⟨0,τS ops (FZ β 0 fb) τ i,[],[]⟩ o→Cw ops ⟨n,τ',Hx,D⟩ o:=by
   intro h;unfold Cw at *;cases hg:o.guard with
   | none=>simp[hg]
   | some jw =>
    obtain⟨j,want⟩:=jw;simp only[hg] at h ⊢;obtain⟨d,h1,h2⟩:=h;exact⟨d,h1,by rw[←h2];exact hguard j want d hg h1⟩
  -- one operation
  have exec:∀{Hx:List BI} {C:AV→List BI→Prop},Di F ⟨n,τ',Hx,D⟩ a w→Cw ops ⟨n,τ',Hx,D⟩ o→DP P o (ev (τS ops (FZ β 0 fb) τ i)) Hx (fun r H'=>match r with | .val v=>C v H' | .panic _=>False)→(∀v H' a' w' F',C v H'→Di F' ⟨n,put τ' o.dst v,H',D⟩ a' w'→Trans F Hx w F' H' w'→I (l.setIfInBounds i true) a' w')→wpOpIn (W r) 0 P ops (post F₀ H w₀ Q) i (fun a' w'=>I (l.setIfInBounds i true) a' w') a w:=by
   intro Hx C hs hwant hop close;unfold wpOpIn;simp only[ho,H8 hs hwant,if_true];have hw:=hop r F _ a w hs rfl (fun x hx=>hops x hx) (fun t ht=>hdst i o t ho ht);unfold Oper.wpIn at *;refine⟨hw.1,?_⟩;replace hw:=hw.2;generalize (o.semAt (W r).round a.eval).run P w=rr at *;cases rr with
   | ok nx w' =>
    cases nx<;>simp only[Oper.uponIn] at hw ⊢
    case value u=>obtain⟨v',H'',F',h1,h3,h4⟩:=hw;exact close _ _ _ _ _ h1 h3 h4
    case skip=>obtain⟨v',H'',F',h1,h3,h4⟩:=hw;exact close _ _ _ _ _ h1 h3 h4
    case defer d=>obtain⟨v',H'',F',h1,h3,h4⟩:=hw;exact close _ _ _ _ _ h1 h3 h4
    case enter f args =>
     refine⟨hw.1,hw.2.mono fun e w'' he=>?_⟩;cases e with
     | returned u=>obtain⟨v',H'',F',h1,h3,h4⟩:=he;exact close _ _ _ _ _ h1 h3 h4
     | panicked c=>obtain⟨_,_,_,_,h,_⟩:=he;exact h.elim
     | outgrown=>obtain⟨_,_,_,_,_,_,h,_⟩:=he;exact h.elim
    case row row args=>exact⟨hw.1,hw.2.mono fun u w'' h=>by obtain⟨v',H'',F',h1,h3,h4⟩:=h;exact close _ _ _ _ _ h1 h3 h4⟩
    case round l' f tmps assign body =>
     refine⟨hw.1,hw.2.mono fun e w'' he=>?_⟩;cases e with
     | returned u=>obtain⟨v',H'',F',h1,h3,h4⟩:=he;exact close _ _ _ _ _ h1 h3 h4
     | panicked c=>obtain⟨_,_,_,_,h,_⟩:=he;exact h.elim
     | outgrown=>obtain⟨_,_,_,_,_,_,h,_⟩:=he;exact h.elim
   | halt x w' =>
    cases x<;>simp only[Oper.uponIn] at hw ⊢
    case panic u=>obtain⟨_,_,_,_,h,_⟩:=hw;exact h.elim
  have hτput:∀{v:AV},v=((FZ β 0 fb).getD i .skip).val→Ga ops (FZ β 0 fb) τ (fun k=>(l.setIfInBounds i true).getD k false=true) (put τ' o.dst v):=by
   intro v hv;have hτ3:=hτ.put (hd β) ho;rw[←hv] at hτ3;intro t;exact⟨fun k o' a1 a2 a3=>(hτ3 t).1 k o' a1 a2 ((hset k).1 a3),fun hn=>(hτ3 t).2 fun k o' a1 a2 a3=>hn k o' a1 a2 ((hset k).2 a3)⟩
  -- a tail operation
  have goTail:∀Hm:Nat→List BI,(∀j,base.length≤j→j<ops.size→∃o,ops[j]?=some o∧o.guard=none∧Dh P o (ev (τS ops (FZ β 0 fb) τ j)) (Hm j) ((fb.getD j .skip).v (β j)) (Hm (j+1)))→Q .normal ⟨n,τS ops (FZ β 0 fb) τ ops.size,Hm ops.size,D⟩→base.length≤i→(∀k,base.length≤k→(l.getD k false=true↔k<i))→(∀k,k<base.length→k ∉ fl→l.getD k false=true)→Di F ⟨n,τ',Hm i,D⟩ a w→Trans F₀ H w₀ F (Hm i) w→wpOpIn (W r) 0 P ops (post F₀ H w₀ Q) i (fun a' w'=>I (l.setIfInBounds i true) a' w') a w:=by
   intro Hm g2 g3 hbi hk1 hk2 hs ht;obtain⟨o',ho',hg,hop⟩:=g2 i hbi hlt;rw[ho] at ho';injection ho' with ho';subst ho';refine exec (C:=fun v H'=>v=(fb.getD i .skip).v (β i)∧H'=Hm (i+1)) hs (by unfold Cw;rw[hg];trivial) (DP.mono hop (by
    intro r H' hR;cases r with
    | val v'=>exact hR
    | panic v'=>exact hR.elim)) ?_
   rintro v H' a' w' F' ⟨hv,rfl⟩ h3 h4;rw[hI0];refine⟨hsz',β,put τ' o.dst v,F',Hm (i+1),hβ,hdown',hτput (by rw[hv,EH β An]),h3,ht.trans hs₀.heap.bd h4,.inr ⟨i+1,Hm,g2,g3,by omega,by omega,fun k hk=>?_,fun k h1 h2=>(hset k).2 (.inl (hk2 k h1 h2)),rfl⟩⟩;rw[hset k,hk1 k hk];omega
  rcases hI with ⟨Hb,rfl,hno,hp⟩ | ⟨m,Hm,g2,g3,hm1,hm2,hk1,hk2,rfl⟩
  ·rcases Nat.lt_or_ge i base.length with hib | hib
   ·-- of the first part
    obtain⟨o',ho',hok⟩:=(hE β hβ).1 i hib;rw[ho] at ho';injection ho' with ho';subst ho';have hno':∀k,base.length≤k→(l.setIfInBounds i true).getD k false=false:=by
     intro k hk;rw[hset2 k,hno k hk];simp;omega
    generalize hbe:base.getD i .skip=e at hok;have close:∀{a' w' F' b H'},e.ok b→H'=e.box b++(Hb++(if (l.setIfInBounds i true).getD i₀ false=true then H₁ else H))→Di F' ⟨n,put τ' o.dst (e.v b),H',D⟩ a' w'→Trans F (Hb++(if l.getD i₀ false=true then H₁ else H)) w F' H' w'→I (l.setIfInBounds i true) a' w':=by
     intro a' w' F' b H' hb0 hH h3 h4;subst hH;rw[hI0];have hspn:∀k,k<fb.length→((FZ (fun j=>if j=i then b else β j) 0 fb).getD k .skip).val=(fb.getD k .skip).v (if k=i then b else β k):=fun k hk=>EH _ hk;refine⟨hsz',fun j=>if j=i then b else β j,put τ' o.dst (e.v b),F',e.box b++(Hb++(if (l.setIfInBounds i true).getD i₀ false=true then H₁ else H)),(fun j hj=>by
      by_cases e3:j=i
      ·subst e3;simp only[if_true];rw[hbe];exact hb0
      simp only[if_neg e3];exact hβ j hj),hdown',?_,h3,ht.trans hs₀.heap.bd h4,.inl ⟨e.box b++Hb,by rw[List.append_assoc],hno',?_⟩⟩
     ·have hτ2:Ga ops (FZ (fun j=>if j=i then b else β j) 0 fb) τ (fun k=>l.getD k false=true) τ':=by
       intro t;refine⟨fun k o' a1 a2 a3=>?_,(hτ t).2⟩;have a4:l.getD k false=true:=a3;have hki:k≠i:=fun e=>by subst e;rw[hnot] at a4;cases a4
       rw[(hτ t).1 k o' a1 a2 a3];rcases Nat.lt_or_ge k fb.length with hk | hk
       ·rw[EH _ hk,EH _ hk,if_neg hki]
       rw[Jp _ hk,Jp _ hk]
      have hτ3:=hτ2.put (hd _) ho;rw[EH _ An,if_pos rfl,(hf1 i hib).2,hbe] at hτ3;intro t;exact⟨fun k o' a1 a2 a3=>(hτ3 t).1 k o' a1 a2 ((hset k).1 a3),fun hn=>(hτ3 t).2 fun k o' a1 a2 a3=>hn k o' a1 a2 ((hset k).2 a3)⟩
     have h1:=Qn (β:=β) (l:=fun k=>l.getD k false) (i:=i) (b:=b) hnot base 0 (Nat.zero_le _) An;rw[Nat.sub_zero,hbe] at h1;refine(hp.append_left _).trans (h1.trans (List.Perm.of_eq ?_));exact KW base 0 fun j _=>⟨(hset2 j).symm,fun _=>O⟩
    have yields:Cw ops ⟨n,τ',Hb++(if l.getD i₀ false=true then H₁ else H),D⟩ o→DP P o (ev (τS ops (FZ β 0 fb) τ i)) (Hb++(if l.getD i₀ false=true then H₁ else H)) (fun r H'=>match r with | .val v=>∃b,e.ok b∧v=e.v b∧H'=e.box b++(Hb++(if (l.setIfInBounds i true).getD i₀ false=true then H₁ else H)) | .panic _=>False)→wpOpIn (W r) 0 P ops (post F₀ H w₀ Q) i (fun a' w'=>I (l.setIfInBounds i true) a' w') a w:=fun h1 h2 =>
     exec (C:=fun v H'=>∃b,e.ok b∧v=e.v b∧H'=e.box b++(Hb++(if (l.setIfInBounds i true).getD i₀ false=true then H₁ else H))) hs h1 h2 (by rintro v H' a' w' F' ⟨b,h0,rfl,h1⟩ h3 h4;exact close h0 h1 h3 h4)
    by_cases hii:i=i₀
    ·rw[gK,if_pos hii] at hok;obtain⟨v,rfl,hg,hop⟩:=hok;have e1:(if (l.setIfInBounds i true).getD i₀ false=true then H₁ else H)=H₁:=if_pos ((hset i₀).2 (.inr hii.symm));have e2:(if l.getD i₀ false=true then H₁ else H)=H:=if_neg (by rw[←hii,hnot];simp);refine yields (by unfold Cw;rw[hg];trivial) ?_;rw[e2];refine(hop Hb).mono ?_;intro r H' hR;cases r with
     | val v'=>obtain⟨rfl,rfl⟩:=hR;exact⟨(0,0,.p .any),trivial,rfl,by rw[e1];rfl⟩
     | panic v'=>exact hR.elim
    rw[gK,if_neg hii] at hok;have heq:(if (l.setIfInBounds i true).getD i₀ false=true then H₁ else H)=(if l.getD i₀ false=true then H₁ else H):=by
     rw[hset2 i₀];simp[Ne.symm hii]
    have hok:Vs P ops (if l.getD i₀ false=true then H₁ else H) o (τS ops (FZ β 0 fb) τ i) e:=by
     split
     ·exact hok.2.1
     exact hok.1
    cases e with
    | val v=>exact yields (wants hok.1) ((hok.2 Hb).mono (by
      intro r H' hR;cases r with
      | val v'=>obtain⟨rfl,rfl⟩:=hR;exact⟨(0,0,.p .any),trivial,rfl,by rw[heq];rfl⟩
      | panic v'=>exact hR.elim))
    | new cs =>
     refine yields (by unfold Cw;rw[hok.1];trivial) ((hok.2 _).mono ?_);intro r H' hR;cases r with
     | val v'=>obtain⟨b,rfl,rfl⟩:=hR;exact⟨(b,0,.p .any),trivial,rfl,by rw[heq];rfl⟩
     | panic v'=>exact hR.elim
    | newv sz rows =>
     refine yields (by unfold Cw;rw[hok.1];trivial) ((hok.2 _).mono ?_);intro r H' hR;cases r with
     | val v'=>obtain⟨b,c,rfl,rfl⟩:=hR;exact⟨(b,c,.p .any),trivial,rfl,by rw[heq];rfl⟩
     | panic v'=>exact hR.elim
    | rel R =>
     refine yields (by unfold Cw;rw[hok.1];trivial) ((hok.2 _).mono ?_);intro r H' hR;cases r with
     | val v'=>obtain⟨h1,rfl⟩:=hR;exact⟨(0,0,v'),h1,rfl,by rw[heq];rfl⟩
     | panic v'=>exact hR.elim
    | skip =>
     obtain⟨j,want,d,hg,hj,hb⟩:=hok;have hw:Region.wanted o (yielded ops a.tmps)=false:=Ka (S:=⟨n,τ',Hb++(if l.getD i₀ false=true then H₁ else H),D⟩) hs hg hj (by show gL (τ' d) want;rw[hguard j want d hg hj];exact hb);unfold wpOpIn;simp only[ho,hw,Bool.false_eq_true,if_false];refine⟨fun _ _=>Ap,close (b:=(0,0,.p .any)) Ap (by rw[heq];rfl) ?_ .refl⟩;exact hs.put (fun t ht=>hdst i o t ho ht) ⟨Nat.le_refl _,fun _ _ _=>O,fun _ h _=>h⟩ hs.heap (by simp only[Ez.v,CE,B0,undef];exact⟨[],rfl,rfl⟩)
   -- the first of the rest
   have hpre:∀j,j<i→¬(j<base.length∧j∈fl)→l.getD j false=true:=fun j hj hf=>hpred (LI late hib hlt hj hf);have hie:i=base.length:=by
    rcases Nat.lt_or_ge base.length i with h | h
    ·have h1:=hpre base.length h (fun h=>Nat.lt_irrefl _ h.1);rw[hno base.length (Nat.le_refl _)] at h1;cases h1
    omega
   obtain⟨Hm,g1,g2,g3⟩:=(hE β hβ).2;have hl0:(if l.getD i₀ false=true then H₁ else H)=H₁:=if_pos (hpre i₀ An fun h=>hi1 h.2);rw[hl0] at hs ht;have hp2:(Hb++H₁).Perm (Hm i):=by
    rw[hie,g1];refine List.Perm.append_right H₁ (hp.trans (List.Perm.of_eq (XD base 0 fun j hj=>?_)));rw[Nat.zero_add];by_cases hq:j∈fl
    ·exact .inr (flv j hq)
    exact .inl (hpre j An fun h=>hq h.2)
   refine goTail Hm g2 g3 hib (fun k hk=>⟨fun h=>?_,fun h=>by omega⟩) (fun k h1 h2=>hpre k An fun h=>h2 h.2) ⟨hs.size,hs.tmp,hs.heap.perm hp2,hs.defs⟩ { ht with keys:=fun o ho=>ht.keys o (hp2.mem_iff.2 ho) };rw[hno k hk] at h;cases h
  rcases Nat.lt_or_ge i base.length with hib | hib
  ·-- a value that floats
   have hif:i∈fl:=Classical.byContradiction fun hq=>by rw[hk2 i hib hq] at hnot;cases hnot
   obtain⟨v,hv⟩:=flv i hif;obtain⟨o',ho',hok⟩:=(hE β hβ).1 i hib;rw[ho] at ho';injection ho' with ho';subst ho';rw[hv,gK,if_neg (fun q:i=i₀=>hi1 (q▸hif))] at hok;refine exec (C:=fun v' H'=>v'=v∧H'=Hm m) hs (wants hok.1.1) ((hok.2.2 (by simpa using hif) v O (Hm m)).mono (by
    intro r H' hR;cases r with
    | val v'=>exact hR
    | panic v'=>exact hR.elim)) ?_
   rintro v' H' a' w' F' ⟨rfl,rfl⟩ h3 h4;rw[hI0];refine⟨hsz',β,put τ' o.dst v',F',Hm m,hβ,hdown',hτput (by rw[EH β An,(hf1 i hib).2,hv];rfl),h3,ht.trans hs₀.heap.bd h4,.inr ⟨m,Hm,g2,g3,hm1,hm2,fun k hk=>?_,fun k h1 h2=>(hset k).2 (.inl (hk2 k h1 h2)),O⟩⟩;rw[hset k,hk1 k hk];exact⟨fun h=>h.resolve_right An,.inl⟩
  have him:i=m:=by
   rcases Nat.lt_trichotomy i m with h | h | h
   ·rw[(hk1 i hib).2 h] at hnot;cases hnot
   ·exact h
   have:=hpred (LI late (by omega:base.length≤i) hlt h (fun h=>by omega));have:=(hk1 m hm1).1 this;omega
  subst him;exact goTail Hm g2 g3 hib hk1 hk2 hs ht
 ·intro l a w hI hr;rw[hI0] at hI;obtain⟨hsz,β,τ',F,Hx,hβ,hdown,hτ,hs,ht,hI⟩:=hI;have hall:∀i,i<ops.size→l.getD i false=true:=by
   intro i
   induction i using Nat.strongRecOn with
   | _ i ih =>
    intro hi;cases hq:l.getD i false with
    | true=>rfl
    | false =>
     have ho:ops[i]?=some ops[i]:=Array.getElem?_eq_getElem hi;have:i∈Region.ready .any ops l:=by
      refine mem_ready.2 ⟨?_,ops[i],ho,?_⟩
      ·have:i<l.size:=by omega
       simp[this] at hq ⊢;exact hq
      intro e he hb;have hj:e.on∈EF ops[i]:=by
       simp only[EF,List.mem_map,List.mem_filter];exact⟨e,⟨by simpa using he,hb⟩,rfl⟩
      have hlt:=c0 i _ _ ho hj;exact ih e.on hlt An
     rw[hr] at this;cases this
  have hτe:τ'=τS ops (FZ β 0 fb) τ ops.size:=by
   funext t;have h2:=Mm (hd β) ops.size (Nat.le_refl _) t;by_cases hw:∃(k:Nat) (o':Oper),ops[k]?=some o'∧o'.dst=some t
   ·obtain⟨k,o',ho',hk⟩:=hw;have hlt:k<ops.size:=by
     rcases Nat.lt_or_ge k ops.size with h | h
     ·exact h
     simp[Array.getElem?_eq_none h] at ho'
    rw[(hτ t).1 k o' ho' hk (hall k hlt),h2.1 k o' ho' hk hlt]
   rw[(hτ t).2 fun k o' h1 h2 _=>hw ⟨k,o',h1,h2⟩,h2.2 fun k o' h1 h2 _=>hw ⟨k,o',h1,h2⟩]
  have fin:∀Hy:List BI,Hx.Perm Hy→Q .normal ⟨n,τS ops (FZ β 0 fb) τ ops.size,Hy,D⟩→post F₀ H w₀ Q .normal a w:=fun Hy hp hq =>
   ⟨.normal,_,F,hq,rfl,⟨by exact hs.size,by rw[←hτe];exact hs.tmp,hs.heap.perm hp,hs.defs⟩,{ ht with keys:=fun o ho=>ht.keys o (hp.mem_iff.2 ho) }⟩
  rcases hI with ⟨Hb,rfl,hno,hp⟩ | ⟨m,Hm,g2,g3,hm1,hm2,hk1,hk2,rfl⟩
  ·have hbs:base.length=ops.size:=by
    rcases Nat.lt_or_ge base.length ops.size with h | h
    ·have:=hall base.length h;rw[hno base.length (Nat.le_refl _)] at this;cases this
    omega
   obtain⟨Hm,g1,g2,g3⟩:=(hE β hβ).2;refine fin (Hm ops.size) ?_ g3;rw[←hbs,g1,if_pos (hall i₀ An)];exact List.Perm.append_right H₁ (hp.trans (List.Perm.of_eq (U1 base 0 fun j _ hj=>hall j An)))
  have hms:m=ops.size:=by
   rcases Nat.lt_or_ge m ops.size with h | h
   ·have:=(hk1 m hm1).1 (hall m h);omega
   omega
  subst hms;exact fin _ (List.Perm.refl _) g3
 ·obtain⟨β0,hβ0⟩:=bV.pick base hne;rw[hI0];refine⟨by simp,β0,τ,F₀,H,hβ0,?_,?_,hs₁,t₀,.inl ⟨[],by rw[if_neg (by by_cases h:i₀<ops.size<;>simp[h])];rfl,?_,?_⟩⟩
  ·intro i o j ho hi;by_cases h:i<ops.size<;>simp[h] at hi
  ·intro t;refine⟨fun k o ho hk hl=>?_,fun _=>O⟩;by_cases h:k<ops.size<;>simp[h] at hl
  ·intro k _;by_cases h:k<ops.size<;>simp[h]
  rw[Oh base 0 fun j=>by by_cases h:j<ops.size<;>simp[h]]
 have:=List.length_filter_le (fun b:Bool=> !b) (Array.replicate ops.size false).toList;simp at this ⊢
section
variable {P:Program}{ops:Array Oper}{H₀ H₁:List BI}{i₀:Nat}{fl:List Nat}{k:Nat}{τ:Nat→AV}{r:List Ez}{K:(Nat→AV)→List BI→Prop}{dst:Option Tmp}{op:Op}{ty:TypeId}{pos:String}{aft:Array Edge}{v:AV}
theorem Fz (ho:ops[k]?=some ⟨dst,op,ty,pos,aft,none⟩) (hk:Nat.beq k i₀=false) (hf:fl.contains k=false) (h:∀Bs,Dh P ⟨dst,op,ty,pos,aft,none⟩ (ev τ) (Bs++H₀) v (Bs++H₀)) (h':∀Bs,Dh P ⟨dst,op,ty,pos,aft,none⟩ (ev τ) (Bs++H₁) v (Bs++H₁)) (next:E5 P ops H₀ H₁ i₀ fl (k+1) (put τ dst v) r K):E5 P ops H₀ H₁ i₀ fl k τ (.val v::r) K :=
 ⟨_,ho,by rw[gK,if_neg (fun e=>by rw[e] at hk;simp at hk)];exact⟨⟨trivial,h⟩,⟨trivial,h'⟩,fun q=>by rw[hf] at q;cases q⟩,fun _ _=>next⟩
theorem Bk (ho:ops[k]?=some ⟨dst,op,ty,pos,aft,none⟩) (hk:Nat.beq k i₀=false) (h:∀Bs,Dh P ⟨dst,op,ty,pos,aft,none⟩ (ev τ) Bs v Bs) (next:E5 P ops H₀ H₁ i₀ fl (k+1) (put τ dst v) r K):E5 P ops H₀ H₁ i₀ fl k τ (.val v::r) K :=
 ⟨_,ho,by rw[gK,if_neg (fun e=>by rw[e] at hk;simp at hk)];exact⟨⟨trivial,fun Bs=>h _⟩,⟨trivial,fun Bs=>h _⟩,fun _ v' e X=>by cases e;exact h X⟩,fun _ _=>next⟩
theorem KB (ho:ops[i₀]?=some ⟨dst,op,ty,pos,aft,none⟩) (h:∀Bs,Dh P ⟨dst,op,ty,pos,aft,none⟩ (ev τ) (Bs++H₀) v (Bs++H₁)) (next:E5 P ops H₀ H₁ i₀ fl (i₀+1) (put τ dst v) r K):E5 P ops H₀ H₁ i₀ fl i₀ τ (.val v::r) K :=
 ⟨_,ho,by rw[gK,if_pos rfl];exact⟨v,rfl,rfl,h⟩,fun _ _=>next⟩
theorem Pk {cs:List AV}(ho:ops[k]?=some ⟨dst,op,ty,pos,aft,none⟩) (hk:Nat.beq k i₀=false) (h:∀Bs,DP P ⟨dst,op,ty,pos,aft,none⟩ (ev τ) Bs (Ic cs Bs)) (next:∀b,E5 P ops H₀ H₁ i₀ fl (k+1) (put τ dst (.ptr b 0)) r (fun τ' Hs=>K τ' (.box b cs::Hs))):E5 P ops H₀ H₁ i₀ fl k τ (.new cs::r) K :=
 ⟨_,ho,by rw[gK,if_neg (fun e=>by rw[e] at hk;simp at hk)];exact⟨⟨rfl,fun Bs=>h _⟩,⟨rfl,fun Bs=>h _⟩,fun _ v' e=>by cases e⟩,fun b _=>next b.1⟩
theorem Dv {H:List BI}{l:List AV}{C:(Nat→AV)→List BI→Prop}(H':List BI) (ho:ops[k]?=some ⟨dst,op,ty,pos,aft,none⟩) (h:Dh P ⟨dst,op,ty,pos,aft,none⟩ (ev τ) H v H') (next:TV P ops (k+1) (put τ dst v) H' l C):TV P ops k τ H (v::l) C :=
 ⟨_,H',ho,rfl,h,next⟩
theorem J0 {H:List BI}{C:(Nat→AV)→List BI→Prop}(h:C τ H):TV P ops k τ H [] C:=h
theorem Gx {c:Call}{f:Operand}{fid:FuncId}{first caps A:List AV}{ρ:Operand→AV}{H Hs Hs':List BI}{g:Option (Nat×Bool)}{Bs:List BI}(is:List Nat) (hc:c.callee= .value f) (hf:(ρ f= .p (.fn fid)∧first=[]∧caps=[])∨ρ f= .fn (.func fid) first caps) (h:Bo P fid A Hs (GU v Hs')) (hg:FO H is Hs) (hn:is.Nodup) (hl:Hs'.length=Hs.length) (hA:F8 (first++c.args.toList.map ρ++caps) A) :
  Dh P ⟨dst,.call c,ty,pos,aft,g⟩ ρ (Bs++H) v (Bs++Lb H is Hs'):=by
 have hp:(Bs++H).Perm (Hs++(Bs++C4 is 0 H)):=by
  refine((DT hn hg).append_left Bs).trans ?_;rw[←List.append_assoc,←List.append_assoc];exact List.perm_append_comm.append_right _
 refine DP.permR (GJ (H:=Bs++H) hc hf hp (h.args hA) (.inl O)) ?_;rintro r H' ⟨Hs2,h1,rfl⟩;cases r with
 | val v' =>
  obtain⟨rfl,rfl⟩:=h1;refine⟨Bs++Lb H is Hs2,?_,O,O⟩;have hq:=(Md hn hg hl).append_left Bs;refine List.Perm.trans ?_ hq.symm;rw[←List.append_assoc,←List.append_assoc];exact List.perm_append_comm.append_right _
 | panic v'=>exact h1.elim
def jh (P:Program) (T:TypeId):Bool:=match P.underlying T with
 | some (.interface _)=>false
 | some _=>true
 | none=>false
theorem Tb {P:Program}{T:TypeId}(h:jh P T=true):∃d,P.underlying T=some d∧(∀ms,d≠ .interface ms)∧(match d with | .interface _=>false | _=>true)=true:=by
 unfold jh at h;cases hd:P.underlying T with
 | none=>rw[hd] at h;cases h
 | some d =>
  rw[hd] at h;refine⟨d,O,fun ms e=>?_,?_⟩
  ·subst e;cases h
  cases d<;>first | rfl | exact h
theorem JU {T:TypeId}{x:Operand}{ρ:Operand→AV}{H:List BI}{g:Option (Nat×Bool)}(hc:jh P T=true) (hx:ρ x= .agg []):Dh P ⟨dst,.makeInterface T x,ty,pos,aft,g⟩ ρ H (.p (.iface T .unit)) H :=
 CN fun F w E hH hE=>by
  have h1:=hE x Aa;rw[hx] at h1;simp only[CE] at h1;obtain⟨vs,h2,h3⟩:=h1;simp only[B0] at h3;subst h3;obtain⟨d,hu,hd,_⟩:=Tb hc;refine⟨.iface T (E x),?_,by simp only[CE,CI];exact⟨_,rfl,h2⟩⟩;cases d<;>simp_all [execOp,Instr.makeInterface,Sem.run_bind,run_underlying hu]
theorem VI {T A:TypeId}{x:Operand}{ρ:Operand→AV}{H:List BI}{c:PV}{g:Option (Nat×Bool)}(hc:jh P A=true) (hx:ρ x= .p (.iface A c)):Dh P ⟨dst,.typeAssert x T A true,ty,pos,aft,g⟩ ρ H (.tup [.p c,.p (.bool true)]) H:=by
 obtain⟨d,hu,_,hd⟩:=Tb hc;exact Q6 hu (by cases d<;>first | rfl | exact hd) hx
theorem J6 (h:K τ []):E5 P ops H₀ H₁ i₀ fl k τ [] K:=h
end
def gv (P:Program) (ops:Array Oper) (H:List BI) (u:AV) (i₀ k:Nat) (o:Oper) (τ:Nat→AV) (e:Ez):Prop :=
 if k=i₀ then o.guard=none∧∀Bs,DP P o (ev τ) (Bs++H) (fun r _=>r= .panic u) else M8 ops i₀ k=true∨Vs P ops H o τ e
def E7 (P:Program) (ops:Array Oper) (H:List BI) (u:AV) (i₀:Nat):Nat→(Nat→AV)→List Ez→Prop
 | _,τ,[]=>True
 | k,τ,e::r=>∃o,ops[k]?=some o∧gv P ops H u i₀ k o τ e∧∀b,e.ok b→E7 P ops H u i₀ (k+1) (put τ o.dst (e.v b)) r
theorem E7.facts {P:Program}{ops:Array Oper}{H₀:List BI}{τ:Nat→AV}{base:List Ez}{u:AV}{i₀:Nat}(β:Nat→BV):∀(r:List Ez) (k:Nat) (τk:Nat→AV),base.drop k=r→k+r.length=base.length→τk=τS ops (FZ β 0 base) τ k→E7 P ops H₀ u i₀ k τk r→(∀j,k≤j→j<base.length→(base.getD j .skip).ok (β j)) →
  (∀j,k≤j→j<base.length→∃o,ops[j]?=some o∧gv P ops H₀ u i₀ j o (τS ops (FZ β 0 base) τ j) (base.getD j .skip))
 | [],k,τk,hd,hk,ht,h,hβ=>by
  simp only[List.length_nil,Nat.add_zero] at hk;subst hk;exact fun j h1 h2=>by omega
 | e::r,k,τk,hd,hk,ht,h,hβ=>by
  obtain⟨o,ho,hok,hn⟩:=h;simp only[List.length_cons] at hk;have hb:base.getD k .skip=e:=by
   have:(base.drop k)[0]?=some e:=by rw[hd];rfl
   rw[List.getElem?_drop] at this;rw[List.getD_eq_getElem?_getD,show k=k+0 by omega,this];rfl
  have hd2:base.drop (k+1)=r:=by
   rw[←List.drop_drop,hd];rfl
  have h1:=E7.facts (τ:=τ) (base:=base) β r (k+1) _ hd2 An (by simp only[τS,ho,Option.bind_some];rw[EH β An,hb,←ht]) (hn (β k) (by have:=hβ k (Nat.le_refl _) An;rwa [hb] at this)) (fun j h1 h2=>hβ j An h2);intro j hj hl;by_cases e2:j=k
  ·subst e2;exact⟨o,ho,by rw[hb,←ht];exact hok⟩
  exact h1 j An hl
theorem Iv {P:Program}{r:Option Nat}{ops:Array Oper}{id n:Nat}{τ:Nat→AV}{H:List BI}{D:List EN}{Q:Cx→Br→Prop}(u:AV) (i₀:Nat) (base:List Ez) (hm:P.follows .mixedOrders=true)
  (he:base.length=ops.size) (chk:ND ops n []=true) (hi0:Nat.blt i₀ base.length=true) (hne:bV base) (hQ:∀τ' H',Q (.panic u) ⟨n,τ',H',D⟩)
  (h:E7 P ops H u i₀ 0 τ base):I3 P r (.region id ops true) ⟨n,τ,H,D⟩ Q:=by
 intro F₀ a₀ w₀ hs₀;rw[Nat.blt_eq] at hi0;refine wpIn_region_any hm ?_;have same:DV F₀ w₀ F₀ { w₀ with drawn:=w₀.drawn+1 }:=⟨Nat.le_refl _,fun _ _ _=>rfl,fun _ h _=>h⟩;have t₀:Trans F₀ H w₀ F₀ H { w₀ with drawn:=w₀.drawn+1 } :=
  ⟨Nat.le_refl _,fun _ _ _=>rfl,fun _ h _=>h,fun _ h=> .inl h,fun o ho b hb=> .inl ⟨o,ho,hb⟩,rfl,rfl,rfl⟩
 have hs₁:Di F₀ ⟨n,τ,H,D⟩ a₀ { w₀ with drawn:=w₀.drawn+1 } :=
  ⟨hs₀.size,fun t=>CE.mono same _ _ (hs₀.tmp t),hs₀.heap.stable' same (fun _ h=>h) (fun _ _ _ _=>rfl) hs₀.heap.bd,FG.mono same _ _ hs₀.defs⟩
 obtain⟨hdst,c0,c1,c2,_⟩:=KN chk;have hd:∀β,O1 P ops n (fun _=>False) τ H (FZ β 0 base):=fun β =>
  ⟨hdst,fun _ _ _ h=>h.elim,c0,c1,c2,fun i k _ _ h _=>(by rw[Ux] at h;cases h),fun i e ob v _ _ _ h _ _=>absurd h (Rs β base 0 i ob v)⟩
 have hE:∀β,(∀j,j<base.length→(base.getD j .skip).ok (β j))→∀j,j<base.length→∃o,ops[j]?=some o∧gv P ops H u i₀ j o (τS ops (FZ β 0 base) τ j) (base.getD j .skip):=fun β hβ j hj =>
  E7.facts (base:=base) β base 0 τ Ao Ao rfl h (fun j _ h=>hβ j h) j (Nat.zero_le _) hj
 obtain⟨I,hI0⟩:∃I:Array Bool→Act→World→Prop,I=fun l a w=>l.size=ops.size∧l.getD i₀ false=false∧∃β τ' F Hb,(∀j,j<base.length→(base.getD j .skip).ok (β j))∧Down ops (fun i=>l.getD i false=true)∧Ga ops (FZ β 0 base) τ (fun i=>l.getD i false=true) τ'∧Di F ⟨n,τ',Hb++H,D⟩ a w∧Trans F₀ H w₀ F (Hb++H) w ∧
  Hb.Perm (Ww β (fun k=>l.getD k false) 0 base):=⟨_,rfl⟩
 refine KS (I:=I) (fun l a w h=>by rw[hI0] at h;exact h.1) ?_ ?_ _ _ _ _ ?_ ?_
 ·intro l a w hI i hi;rw[hI0] at hI;obtain⟨hsz,hl0,β,τ',F,Hb,hβ,hdown,hτ,hs,ht,hp⟩:=hI;obtain⟨hun,o,ho,hall⟩:=mem_ready.1 hi;have hlt:i<ops.size:=by
   rcases Nat.lt_or_ge i ops.size with h | h
   ·exact h
   simp[Array.getElem?_eq_none h] at ho
  have hil:i<l.size:=by omega
  have hnot:l.getD i false=false:=by
   have:l[i]=false:=by simpa [hil] using hun
   simp[hil,this]
  have hr:∀j∈EF o,l.getD j false=true:=by
   intro j hj;simp only[EF,List.mem_map,List.mem_filter] at hj;obtain⟨e,⟨he,hb⟩,rfl⟩:=hj;exact hall e (by simpa using he) hb
  have hset:∀k,(l.setIfInBounds i true).getD k false=true↔(l.getD k false=true∨k=i):=by
   intro k;by_cases hk:k=i
   ·subst hk;simp[hil]
   simp[Array.getElem?_setIfInBounds_ne (Ne.symm hk),hk]
  have hset2:∀k,(l.setIfInBounds i true).getD k false=(l.getD k false||k==i):=by
   intro k;by_cases hk:k=i
   ·subst hk;simp[hil]
   simp[Array.getElem?_setIfInBounds_ne (Ne.symm hk),hk]
  have hsz':(l.setIfInBounds i true).size=ops.size:=by simp[hsz]
  have hdown':Down ops (fun k=>(l.setIfInBounds i true).getD k false=true):=by
   intro k o' j ho' hk hj;rcases (hset k).1 hk with h | h
   ·exact(hset j).2 (.inl (hdown k o' j ho' h hj))
   subst h;rw[ho] at ho';injection ho' with ho';subst ho';exact(hset j).2 (.inl (hr j hj))
  have hlook:∀t∈looks ops o,τ' t=τS ops (FZ β 0 base) τ i t:=fun t ht=>KO (hd β) hdown hτ ho (by rw[hnot];decide) hr ht;have hops:∀x∈o.op.operands.toList,ev τ' x=ev (τS ops (FZ β 0 base) τ i) x:=by
   intro x hx;cases x with
   | tmp t=>exact hlook t (List.mem_append_left _ (List.mem_filterMap.2 ⟨.tmp t,hx,rfl⟩))
   | _=>rfl
  have hguard:∀j want d,o.guard=some (j,want)→(ops[j]?).bind (·.dst)=some d→τ' d=τS ops (FZ β 0 base) τ i d:=by
   intro j want d hg hj;refine hlook d (List.mem_append_right _ ?_);simp[hg,hj]
  have hpred:∀{a},Pred ops a i→l.getD a false=true:=by
   have:∀{a b},Pred ops a b→b=i→l.getD a false=true:=by
    intro a b hab
    induction hab with
    | base ho' hj=>intro e;subst e;rw[ho] at ho';injection ho' with ho';subst ho';exact hr _ hj
    | trans p1 _ _ ih2=>intro e;exact hdown.pred p1 (ih2 e)
   exact fun {a} h=>this h O
  have wants:Cw ops ⟨0,τS ops (FZ β 0 base) τ i,[],[]⟩ o→Cw ops ⟨n,τ',Hb++H,D⟩ o:=by
   intro h;unfold Cw at *;cases hg:o.guard with
   | none=>simp[hg]
   | some jw =>
    obtain⟨j,want⟩:=jw;simp only[hg] at h ⊢;obtain⟨d,h1,h2⟩:=h;exact⟨d,h1,by rw[←h2];exact hguard j want d hg h1⟩
  -- one operation
  have exec:∀{C:ER→List BI→Prop},Cw ops ⟨n,τ',Hb++H,D⟩ o→DP P o (ev (τS ops (FZ β 0 base) τ i)) (Hb++H) C→(∀v H' a' w' F',C (.val v) H'→Di F' ⟨n,put τ' o.dst v,H',D⟩ a' w'→Trans F (Hb++H) w F' H' w'→I (l.setIfInBounds i true) a' w')→(∀v H',C (.panic v) H'→v=u)→wpOpIn (W r) 0 P ops (post F₀ H w₀ Q) i (fun a' w'=>I (l.setIfInBounds i true) a' w') a w:=by
   intro C hwant hop close hpv;unfold wpOpIn;simp only[ho,H8 hs hwant,if_true];have hw:=hop r F _ a w hs rfl (fun x hx=>hops x hx) (fun t ht=>hdst i o t ho ht);unfold Oper.wpIn at *;refine⟨hw.1,?_⟩;replace hw:=hw.2;have pans:∀{e a' w'},(∃v H' F' u',C (.panic v) H'∧e= .panic [{ v:=u',recovered:=false }]∧CE F' w' v u'∧Di F' ⟨n,τ',H',D⟩ a' w'∧Trans F (Hb++H) w F' H' w')→post F₀ H w₀ Q e a' w':=by
    rintro e a' w' ⟨v,H',F',u',h1,rfl,h2,h3,h4⟩;have:=hpv v H' h1;subst this;exact⟨.panic v,_,F',hQ τ' H',⟨u',O,h2⟩,h3,ht.trans hs₀.heap.bd h4⟩
   generalize (o.semAt (W r).round a.eval).run P w=rr at *;cases rr with
   | ok nx w' =>
    cases nx<;>simp only[Oper.uponIn] at hw ⊢
    case value u=>obtain⟨v',H'',F',h1,h3,h4⟩:=hw;exact close _ _ _ _ _ h1 h3 h4
    case skip=>obtain⟨v',H'',F',h1,h3,h4⟩:=hw;exact close _ _ _ _ _ h1 h3 h4
    case defer d=>obtain⟨v',H'',F',h1,h3,h4⟩:=hw;exact close _ _ _ _ _ h1 h3 h4
    case enter f args =>
     refine⟨hw.1,hw.2.mono fun e w'' he=>?_⟩;cases e with
     | returned u=>obtain⟨v',H'',F',h1,h3,h4⟩:=he;exact close _ _ _ _ _ h1 h3 h4
     | panicked c=>exact pans he
     | outgrown=>obtain⟨_,_,_,_,_,_,_,h,_⟩:=he;cases h
    case row row args=>exact⟨hw.1,hw.2.mono fun u w'' h=>by obtain⟨v',H'',F',h1,h3,h4⟩:=h;exact close _ _ _ _ _ h1 h3 h4⟩
    case round l' f tmps assign body =>
     refine⟨hw.1,hw.2.mono fun e w'' he=>?_⟩;cases e with
     | returned u=>obtain⟨v',H'',F',h1,h3,h4⟩:=he;exact close _ _ _ _ _ h1 h3 h4
     | panicked c=>exact pans he
     | outgrown=>obtain⟨_,_,_,_,_,_,_,h,_⟩:=he;cases h
   | halt x w' =>
    cases x<;>simp only[Oper.uponIn] at hw ⊢
    case panic u=>exact pans hw
  have hib:i<base.length:=by omega
  obtain⟨o',ho',hok⟩:=hE β hβ i hib;rw[ho] at ho';injection ho' with ho';subst ho';by_cases hii:i=i₀
  ·rw[gv,if_pos hii] at hok;exact exec (by unfold Cw;rw[hok.1];trivial) (hok.2 Hb) (fun v H' a' w' F' h=>by cases h) (fun v H' h=>by injection h)
  rw[gv,if_neg hii] at hok;rcases hok with hok | hok
  ·exact absurd (hpred (Em hok)) (by rw[hl0];simp)
  have hl2:(l.setIfInBounds i true).getD i₀ false=false:=by rw[hset2 i₀,hl0];simp[Ne.symm hii]
  generalize hbe:base.getD i .skip=e at hok;have close:∀{a' w' F' b H'},e.ok b→H'=e.box b++(Hb++H)→Di F' ⟨n,put τ' o.dst (e.v b),H',D⟩ a' w'→Trans F (Hb++H) w F' H' w'→I (l.setIfInBounds i true) a' w':=by
   intro a' w' F' b H' hb0 hH h3 h4;subst hH;rw[hI0]
   skip
   refine⟨hsz',hl2,fun j=>if j=i then b else β j,put τ' o.dst (e.v b),F',e.box b++Hb,(fun j hj=>by
    by_cases e3:j=i
    ·subst e3;simp only[if_true];rw[hbe];exact hb0
    simp only[if_neg e3];exact hβ j hj),hdown',?_,by rw[List.append_assoc];exact h3,by rw[List.append_assoc];exact ht.trans hs₀.heap.bd h4,?_⟩
   ·have hτ2:Ga ops (FZ (fun j=>if j=i then b else β j) 0 base) τ (fun k=>l.getD k false=true) τ':=by
     intro t;refine⟨fun k o' a1 a2 a3=>?_,(hτ t).2⟩;have a4:l.getD k false=true:=a3;have hki:k≠i:=fun e=>by subst e;rw[hnot] at a4;cases a4
     rw[(hτ t).1 k o' a1 a2 a3];rcases Nat.lt_or_ge k base.length with hk | hk
     ·rw[EH _ hk,EH _ hk,if_neg hki]
     rw[Jp _ hk,Jp _ hk]
    have hτ3:=hτ2.put (hd _) ho;rw[EH _ An,if_pos rfl,hbe] at hτ3;intro t;exact⟨fun k o' a1 a2 a3=>(hτ3 t).1 k o' a1 a2 ((hset k).1 a3),fun hn=>(hτ3 t).2 fun k o' a1 a2 a3=>hn k o' a1 a2 ((hset k).2 a3)⟩
   have h1:=Qn (β:=β) (l:=fun k=>l.getD k false) (i:=i) (b:=b) hnot base 0 (Nat.zero_le _) An;rw[Nat.sub_zero,hbe] at h1;refine(hp.append_left _).trans (h1.trans (List.Perm.of_eq ?_));exact KW base 0 fun j _=>⟨(hset2 j).symm,fun _=>O⟩
  have yields:Cw ops ⟨n,τ',Hb++H,D⟩ o→DP P o (ev (τS ops (FZ β 0 base) τ i)) (Hb++H) (fun r H'=>match r with | .val v=>∃b,e.ok b∧v=e.v b∧H'=e.box b++(Hb++H) | .panic _=>False)→wpOpIn (W r) 0 P ops (post F₀ H w₀ Q) i (fun a' w'=>I (l.setIfInBounds i true) a' w') a w:=fun h1 h2 =>
   exec (C:=fun r H'=>match r with | .val v=>∃b,e.ok b∧v=e.v b∧H'=e.box b++(Hb++H) | .panic _=>False) h1 h2 (by rintro v H' a' w' F' ⟨b,h0,rfl,h1⟩ h3 h4;exact close h0 h1 h3 h4) (fun _ _ h=>h.elim)
  cases e with
  | val v=>exact yields (wants hok.1) ((hok.2 Hb).mono (by
    intro r H' hR;cases r with
    | val v'=>obtain⟨rfl,rfl⟩:=hR;exact⟨(0,0,.p .any),trivial,rfl,rfl⟩
    | panic v'=>exact hR.elim))
  | new cs =>
   refine yields (by unfold Cw;rw[hok.1];trivial) ((hok.2 _).mono ?_);intro r H' hR;cases r with
   | val v'=>obtain⟨b,rfl,rfl⟩:=hR;exact⟨(b,0,.p .any),trivial,rfl,rfl⟩
   | panic v'=>exact hR.elim
  | newv sz rows =>
   refine yields (by unfold Cw;rw[hok.1];trivial) ((hok.2 _).mono ?_);intro r H' hR;cases r with
   | val v'=>obtain⟨b,c,rfl,rfl⟩:=hR;exact⟨(b,c,.p .any),trivial,rfl,rfl⟩
   | panic v'=>exact hR.elim
  | rel R =>
   refine yields (by unfold Cw;rw[hok.1];trivial) ((hok.2 _).mono ?_);intro r H' hR;cases r with
   | val v'=>obtain⟨h1,rfl⟩:=hR;exact⟨(0,0,v'),h1,rfl,rfl⟩
   | panic v'=>exact hR.elim
  | skip =>
   obtain⟨j,want,d,hg,hj,hb⟩:=hok;have hw:Region.wanted o (yielded ops a.tmps)=false:=Ka (S:=⟨n,τ',Hb++H,D⟩) hs hg hj (by show gL (τ' d) want;rw[hguard j want d hg hj];exact hb);unfold wpOpIn;simp only[ho,hw,Bool.false_eq_true,if_false];refine⟨fun _ _=>Ap,close (b:=(0,0,.p .any)) Ap O ?_ .refl⟩;exact hs.put (fun t ht=>hdst i o t ho ht) ⟨Nat.le_refl _,fun _ _ _=>O,fun _ h _=>h⟩ hs.heap (by simp only[Ez.v,CE,B0,undef];exact⟨[],rfl,rfl⟩)
 ·intro l a w hI hr;rw[hI0] at hI;obtain⟨hsz,hl0,β,τ',F,Hb,hβ,hdown,hτ,hs,ht,hI⟩:=hI;have hall:∀i,i<ops.size→l.getD i false=true:=by
   intro i
   induction i using Nat.strongRecOn with
   | _ i ih =>
    intro hi;cases hq:l.getD i false with
    | true=>rfl
    | false =>
     have ho:ops[i]?=some ops[i]:=Array.getElem?_eq_getElem hi;have:i∈Region.ready .any ops l:=by
      refine mem_ready.2 ⟨?_,ops[i],ho,?_⟩
      ·have:i<l.size:=by omega
       simp[this] at hq ⊢;exact hq
      intro e he hb;have hj:e.on∈EF ops[i]:=by
       simp only[EF,List.mem_map,List.mem_filter];exact⟨e,⟨by simpa using he,hb⟩,rfl⟩
      have hlt:=c0 i _ _ ho hj;exact ih e.on hlt An
     rw[hr] at this;cases this
  rw[hall i₀ An] at hl0;cases hl0
 ·obtain⟨β0,hβ0⟩:=bV.pick base hne;rw[hI0];refine⟨by simp,by by_cases h:i₀<ops.size<;>simp[h],β0,τ,F₀,[],hβ0,?_,?_,hs₁,t₀,?_⟩
  ·intro i o j ho hi;by_cases h:i<ops.size<;>simp[h] at hi
  ·intro t;refine⟨fun k o ho hk hl=>?_,fun _=>O⟩;by_cases h:k<ops.size<;>simp[h] at hl
  rw[Oh base 0 fun j=>by by_cases h:j<ops.size<;>simp[h]]
 have:=List.length_filter_le (fun b:Bool=> !b) (Array.replicate ops.size false).toList;simp at this ⊢
section
variable {P:Program}{ops:Array Oper}{H:List BI}{u:AV}{i₀:Nat}{k:Nat}{τ:Nat→AV}{r:List Ez}{dst:Option Tmp}{op:Op}{ty:TypeId}{pos:String}{aft:Array Edge}{v:AV}
theorem B7 (ho:ops[k]?=some ⟨dst,op,ty,pos,aft,none⟩) (hk:Nat.beq k i₀=false) (h:∀Bs,Dh P ⟨dst,op,ty,pos,aft,none⟩ (ev τ) (Bs++H) v (Bs++H)) (next:E7 P ops H u i₀ (k+1) (put τ dst v) r):E7 P ops H u i₀ k τ (.val v::r) :=
 ⟨_,ho,by rw[gv,if_neg (fun e=>by rw[e] at hk;simp at hk)];exact .inr ⟨trivial,h⟩,fun _ _=>next⟩
theorem U8 {cs:List AV}(ho:ops[k]?=some ⟨dst,op,ty,pos,aft,none⟩) (hk:Nat.beq k i₀=false) (h:∀Bs,DP P ⟨dst,op,ty,pos,aft,none⟩ (ev τ) Bs (Ic cs Bs)) (next:∀b,E7 P ops H u i₀ (k+1) (put τ dst (.ptr b 0)) r):E7 P ops H u i₀ k τ (.new cs::r) :=
 ⟨_,ho,by rw[gv,if_neg (fun e=>by rw[e] at hk;simp at hk)];exact .inr ⟨rfl,fun Bs=>h _⟩,fun b _=>next b.1⟩
theorem C9 {o:Oper}(ho:ops[k]?=some o) (hk:Nat.beq k i₀=false) (hp:M8 ops i₀ k=true) (next:E7 P ops H u i₀ (k+1) (put τ o.dst (.p .any)) r):E7 P ops H u i₀ k τ (.val (.p .any)::r) :=
 ⟨_,ho,by rw[gv,if_neg (fun e=>by rw[e] at hk;simp at hk)];exact .inl hp,fun _ _=>next⟩
theorem K4:E7 P ops H u i₀ k τ []:=trivial
theorem Kr {c:Call}{f:Operand}{fid:FuncId}{first caps A:List AV}{Hs:List BI}{α:Type}{mkv:α→AV}{mkp:Int→AV}{C:α→List BI→Prop}{x:Except Int α}{e:Int}(is:List Nat) (hx:x= .error e) (ho:ops[i₀]?=some ⟨dst,.call c,ty,pos,aft,none⟩) (hc:c.callee= .value f) (hf:(ev τ f= .p (.fn fid)∧first=[]∧caps=[])∨ev τ f= .fn (.func fid) first caps) (h:Bo P fid A Hs (Km mkv mkp C x)) (hg:FO H is Hs) (hn:is.Nodup) (hA:F8 (first++c.args.toList.map (ev τ)++caps) A)
  (next:E7 P ops H (mkp e) i₀ (i₀+1) (put τ dst (.p .any)) r):E7 P ops H (mkp e) i₀ i₀ τ (.val (.p .any)::r):=by
 refine⟨_,ho,?_,fun _ _=>next⟩;rw[gv,if_pos rfl];refine⟨O,fun Bs=>?_⟩;have hp:(Bs++H).Perm (Hs++(Bs++C4 is 0 H)):=by
  refine((DT hn hg).append_left Bs).trans ?_;rw[←List.append_assoc,←List.append_assoc];exact List.perm_append_comm.append_right _
 refine DP.mono (GJ (H:=Bs++H) hc hf hp (h.args hA) (.inl O)) ?_;rintro r H' ⟨Hs',h1,rfl⟩;cases r with
 | val v'=>obtain⟨a,h2,_⟩:=h1;rw[hx] at h2;cases h2
 | panic v'=>obtain⟨e',h2,h3⟩:=h1;rw[hx] at h2;cases h2;rw[h3]
theorem FK {α:Type}(x:Except Int α):(∃e,x= .error e)∨∃a,x= .ok a:=by
 cases x with
 | error e=>exact .inl ⟨e,rfl⟩
 | ok a=>exact .inr ⟨a,rfl⟩
theorem K6 {fid:FuncId}{A:List AV}{Hs:List BI}{α:Type}{mkv:α→AV}{mkp:Int→AV}{G:α→List BI}{x:Except Int α}{a:α}(hx:x= .ok a) (h:Bo P fid A Hs (Km mkv mkp (fun r H'=>H'=G r) x)):Bo P fid A Hs (GU (mkv a) (G a)) :=
 h.mono (by
  intro r H' h1;cases r with
  | val v=>obtain⟨b,h2,h3,h4⟩:=h1;rw[hx] at h2;cases h2;exact⟨h3,h4⟩
  | panic v=>obtain⟨e,h2,_⟩:=h1;rw[hx] at h2;cases h2)
end
section
variable {P:Program}{dst:Option Tmp}{ty:TypeId}{pos:String}{aft:Array Edge}{g:Option (Nat×Bool)}{ρ:Operand→AV}{H:List BI}{x y:Operand}
theorem E6 {T e:TypeId}{len:Nat}{k:IntKind}{i:Int}{j:Nat}{cs:List AV}{v:AV}(hu:P.underlying T=some (.array len e)) (ht:EB P e=some (false,1)) (hx:ρ x= .agg cs) (hy:ρ y= .p (.int k i)) (hi:i=j) (hj:cs[j]?=some v) (hl:j<len) :
  Dh P ⟨dst,.index T x y,ty,pos,aft,g⟩ ρ H v H :=
 CN fun F w E hH hE=>by
  have h1:=hE x Aa;have h2:=hE y Aa;rw[hx] at h1;rw[hy] at h2;simp only[CE,CI] at h1 h2;obtain⟨vs,h3,h4⟩:=h1;obtain⟨u,h5,h6⟩:=h4.get hj;obtain⟨d,hd,hr,hs⟩:=FT ht;obtain⟨inf,hinf,hsz⟩:=Ub ht;refine⟨u,?_,h6⟩;have hso:(sizeOf e).run P w= .ok 1 w:=by
   rw[run_sizeOf w hinf];simp[Program.cellsOf,hinf,hsz]
  have hag:=Mj hd false hr w;subst hi;have h7:(⟨vs⟩:Array Value)[j*1]?=some u:=by rw[Nat.mul_one];simpa using h5
  have h8:(0:Int)≤(j:Int)∧(j:Int)<(len:Int):=by omega
  simp[execOp,Instr.index,h2,h3,asIntOf,Sem.run_bind,run_underlying hu,h8,hso,part,hag];rw[show vs[j]?=some u from h5];simp;intro hlj;omega
theorem HD {T U:TypeId}{b:Bool}(hT:(match P.underlying T with | some (.func _ _ _)=>true | _=>false)=true) (hx:(ρ x= .p .nilFn∧b=true)∨(∃f first caps,ρ x= .fn f first caps)∧b=false) (hy:ρ y= .p .nilFn):Dh P ⟨dst,.binOp .eql T x y U,ty,pos,aft,g⟩ ρ H (.p (.bool b)) H :=
 CN fun F w E hH hE=>by
  have e1:=hE x Aa;have e2:=hE y Aa;rw[hy] at e2;simp only[CE,CI] at e2;obtain⟨a1,a2,a3,hu⟩:∃a1 a2 a3,P.underlying T=some (.func a1 a2 a3):=by
   cases hd:P.underlying T with
   | none=>rw[hd] at hT;cases hT
   | some d =>
    rw[hd] at hT;cases d<;>first | exact⟨_,_,_,rfl⟩ | cases hT
  refine⟨.bool b,?_,by simp[CE,CI]⟩;have hg:∀a,(eqGuard .eql T x y a .nilFunc).run P w= .ok () w:=by
   intro a;unfold eqGuard;cases a<;>rfl
  rcases hx with ⟨hx,rfl⟩ | ⟨⟨f,first,caps,hx⟩,rfl⟩
  ·rw[hx] at e1;simp only[CE,CI] at e1;have hq:(Op.equal T .nilFunc .nilFunc).run P w= .ok true w:=by
    have h:∀d:Nat,(Op.equalIn (d+1) T .nilFunc .nilFunc).run P w= .ok true w:=fun d=>by simp[Op.equalIn,run_underlying hu]
    simp[Op.equal,Op.maxDepth,h 9999]
   simp[execOp,Sem.run_bind,hg,e1,e2,binOp,hq]
  rw[hx] at e1;simp only[CE] at e1;obtain⟨fs,cs,e1,_,_⟩:=e1;have hq:(Op.equal T (.func f ⟨fs⟩ ⟨cs⟩) .nilFunc).run P w= .ok false w:=by
   have h:∀d:Nat,(Op.equalIn (d+1) T (.func f ⟨fs⟩ ⟨cs⟩) .nilFunc).run P w= .ok false w:=fun d=>by simp[Op.equalIn,run_underlying hu]
   simp[Op.equal,Op.maxDepth,h 9999]
  simp[execOp,Sem.run_bind,hg,e1,e2,binOp,hq]
theorem RJ {T:TypeId}{bl:Bool}{b o:Nat}(hT:EB P T=some (bl,0)) (hx:ρ x= .ptr b o) (hy:Ee (ρ y)=some []):Dh P ⟨dst,.store T x y,ty,pos,aft,g⟩ ρ H (.p .any) H :=
 IC fun F w E hH hE=>by
  have e1:=hE x Aa;have e2:=hE y Aa;rw[hx] at e1;simp only[CE] at e1;obtain⟨ws,hc,hl⟩:=Kl e2 hy;simp only[B0] at hl;subst hl;obtain⟨d,hu,hd,hz⟩:=FT hT;refine⟨w,_,F,?_,⟨O,O⟩,.refl,hH⟩;cases hq:P.info? T with
  | none=>simp[hq] at hz
  | some i =>
   have hs:i.size=0:=by simpa [hq] using hz
   simp[execOp,Instr.storeAt,e1,Instr.sureAddr,Sem.run_bind,Sem.run_pure,Result.andThen_ok,storeVar,sizeOf,typeInfo,hq,hc,hs,storeCells]
end
theorem QW {P:Program}{ops:Array Oper}{r:Option Nat}{Q:Cx→Br→Prop}{k n:Nat}{τ:Nat→AV}{H Hs:List BI}{D:List EN}{dst:Option Tmp}{ty:TypeId}{pos:String}{aft:Array Edge}{c:Call}{f:Operand}{fid:FuncId}{first caps A:List AV}{v:AV}(is:List Nat) (ho:ops[k]?=some ⟨dst,.call c,ty,pos,aft,none⟩) (hd:Gm dst n=true)
  (hc:c.callee= .value f) (hf:(ev τ f= .p (.fn fid)∧first=[]∧caps=[])∨ev τ f= .fn (.func fid) first caps) (h:Bo P fid A Hs (GU v [])) (hg:FO H is Hs) (hn:is.Nodup) (hA:F8 (first++c.args.toList.map (ev τ)++caps) A)
  (next:AL P r ops (k+1) ⟨n,put τ dst v,C4 is 0 H,D⟩ Q):AL P r ops k ⟨n,τ,H,D⟩ Q :=
 It ho hd hc hf (DT hn hg) (h.args hA) (.inl rfl) (fun v' H' h'=>by obtain⟨h1,h2⟩:=h';subst h1;subst h2;exact next) (fun _ _ h=>h.elim)
structure YL (P:Program) where
 fd:Nat→Option (List (Nat×Nat))
 ty:Nat→Option (Bool×Nat)
 zr:Nat→Option (List AV)
 hfd:∀T l,fd T=some l→fieldsOf P T=some l
 hty:∀T l,ty T=some l→EB P T=some l
 hzr:∀T l,zr T=some l→∃z,zeroOf P T=some z∧z.cells.toList.map Gt=l
def qi (op:BinOp) (m n:Int):Option Bool :=
 match op with | .eql=>some (m==n) | .neq=>some (m !=n) | .lss=>some (decide (m<n)) | .leq=>some (decide (m≤n)) | .gtr=>some (decide (m > n)) | .geq=>some (decide (m≥n)) | _=>none
def py (op:BinOp) (m n:Int):Option Int :=
 match op with | .add=>some (m+n) | .sub=>some (m - n) | .mul=>some (m*n) | _=>none
abbrev oq:=AV×List BI×List Nat×Prop
def gB (op:BinOp) (H:List BI) (is:List Nat) (C:Prop):AV→AV→Option oq
 | .p (.int k m),.p (.int k' n) =>
  match qi op m n with
  | some b=>some (.p (.bool b),H,is,C∧k=k')
  | none =>
   match k,k',py op m n with
   | .i64,.i64,some r=>some (.p (.int .i64 r),H,is,(C∧ -9223372036854775808≤r)∧r≤9223372036854775807)
   | _,_,_=>none
 | _,_=>none
def Uy (H:List BI) (is:List Nat) (C:Prop) (t:Bool×Nat):AV→Option oq
 | .ref cells =>
  bif t.1 then some (.agg (cells.map .p),H,is,C∧cells.length=t.2)
  else match cells with
   | c::_=>some (.p c,H,is,C)
   | []=>none
 | .ptr b o =>
  match is with
  | []=>none
  | i::is =>
   match H[i]? with
   | some (.box b' cs) =>
    bif t.1 then (match o with | 0=>some (.agg cs,H,is,(C∧b'=b)∧cs.length=t.2) | _+1=>none)
    else (match cs[o]? with | some v=>some (v,H,is,C∧b'=b) | none=>none)
   | _=>none
 | _=>none
def UR (H:List BI) (is:List Nat) (C:Prop) (t:Bool×Nat) (y:AV):AV→Option oq
 | .ptr b o =>
  match is with
  | i::w::is =>
   match H[i]?,Ee y,t.2 with
   | some (.box b' cs),some us,n+1 =>
    match w with
    | 0=>some (.p .any,H.set i (.box b (splice cs o us)),is,(((C∧b'=b)∧us.length=n+1)∧Nat.ble (o+(n+1)) cs.length=true)∧us.all one=true)
    | _+1=>match o with
     | 0=>some (.p .any,H.set i (.box b us),is,(((C∧b'=b)∧us.length=n+1)∧cs.length=n+1)∧us.all one=true)
     | _+1=>none
   | _,_,_=>none
  | _=>none
 | _=>none
def Uq (H:List BI) (is:List Nat) (C:Prop) (off:Nat):AV→Option oq
 | .ptr b o=>some (.ptr b (o+off),H,is,C)
 | .ref cells=>some (.ref (cells.drop off),H,is,C)
 | _=>none
def OQ {P:Program}(tb:YL P) (ρ:Operand→AV) (H:List BI) (is:List Nat) (C:Prop):Op→Option oq
 | .move x=>some (ρ x,H,is,C)
 | .assign x=>some (ρ x,H,is,C)
 | .pick x y z=>match ρ x with | .p (.bool b)=>some (bif b then ρ y else ρ z,H,is,C) | _=>none
 | .extract x i=>match ρ x with | .tup xs=>(match xs[i]? with | some v=>some (v,H,is,C) | none=>none) | _=>none
 | .nilCheck x=>match ρ x with | .ptr b o=>some (.ptr b o,H,is,C) | _=>none
 | .makeFunc fn first caps=>some (.fn fn (first.toList.map ρ) (caps.toList.map ρ),H,is,C)
 | .unOp .not T x=>match ρ x with | .p (.bool b)=>some (.p (.bool (!b)),H,is,C) | _=>none
 | .binOp op T x y U=>gB op H is C (ρ x) (ρ y)
 | .fieldAddr T x i=>match tb.fd T with
  | some lay=>(match lay[i]? with | some (off,_+1)=>Uq H is C off (ρ x) | _=>none)
  | none=>none
 | .build T parts=>match tb.fd T,tb.zr T with
  | some lay,some z=>(match FY (lay[·]?) z (parts.toList.map fun p=>(p.1,ρ p.2)) with | some cs=>some (.agg cs,H,is,C) | none=>none)
  | _,_=>none
 | .load T x=>match tb.ty T with | some t=>Uy H is C t (ρ x) | none=>none
 | .store T x y=>match tb.ty T with | some t=>UR H is C t (ρ y) (ρ x) | none=>none
 | _=>none
section
variable {P:Program}{tb:YL P}{ρ:Operand→AV}{H H':List BI}{is is':List Nat}{C C':Prop}{v:AV}
 {dst:Option Tmp} {ty:TypeId} {pos:String} {aft:Array Edge} {g:Option (Nat×Bool)}
theorem HE {op:Op}(h:OQ tb ρ H is C op=some (v,H',is',C')) (c:C'):C∧Dh P ⟨dst,op,ty,pos,aft,g⟩ ρ H v H':=by
 unfold OQ at h;split at h
 ·injection h with h;simp only[Prod.mk.injEq] at h;obtain⟨rfl,rfl,rfl,rfl⟩:=h;exact⟨c,BZ rfl⟩
 ·injection h with h;simp only[Prod.mk.injEq] at h;obtain⟨rfl,rfl,rfl,rfl⟩:=h;exact⟨c,ED rfl⟩
 ·split at h
  ·rename_i b hb;injection h with h;simp only[Prod.mk.injEq] at h;obtain⟨rfl,rfl,rfl,rfl⟩:=h;exact⟨c,ew hb rfl⟩
  cases h
 ·split at h
  ·rename_i xs hx;split at h
   ·rename_i u hu;injection h with h;simp only[Prod.mk.injEq] at h;obtain⟨rfl,rfl,rfl,rfl⟩:=h;exact⟨c,DR hx hu⟩
   cases h
  cases h
 ·split at h
  ·rename_i b o hx;injection h with h;simp only[Prod.mk.injEq] at h;obtain⟨rfl,rfl,rfl,rfl⟩:=h;exact⟨c,OW hx⟩
  cases h
 ·injection h with h;simp only[Prod.mk.injEq] at h;obtain⟨rfl,rfl,rfl,rfl⟩:=h;exact⟨c,Ei rfl rfl⟩
 ·split at h
  ·rename_i b hb;injection h with h;simp only[Prod.mk.injEq] at h;obtain⟨rfl,rfl,rfl,rfl⟩:=h;exact⟨c,jz hb⟩
  cases h
 ·rename_i op T x y U;generalize hx:ρ x=vx at h;generalize hy:ρ y=vy at h;unfold gB at h;split at h
  ·rename_i k m k' n;split at h
   ·rename_i b hb;injection h with h;simp only[Prod.mk.injEq] at h;obtain⟨rfl,rfl,rfl,rfl⟩:=h;obtain⟨c,rfl⟩:=c;exact⟨c,gd hx hy hb⟩
   split at h
   ·rename_i r hr;injection h with h;simp only[Prod.mk.injEq] at h;obtain⟨rfl,rfl,rfl,rfl⟩:=h;obtain⟨⟨c,c1⟩,c2⟩:=c;refine⟨c,?_⟩;unfold py at hr;split at hr
    ·injection hr with hr;subst hr;exact K7 hx hy c1 c2
    ·injection hr with hr;subst hr;exact Kw hx hy c1 c2
    ·injection hr with hr;subst hr;exact iA hx hy c1 c2
    cases hr
   cases h
  cases h
 ·rename_i T x i;split at h
  ·rename_i lay hl;split at h
   ·rename_i off sz hi;generalize hx:ρ x=vx at h;unfold Uq at h;split at h
    ·injection h with h;simp only[Prod.mk.injEq] at h;obtain⟨rfl,rfl,rfl,rfl⟩:=h;exact⟨c,A0 (tb.hfd _ _ hl) hi hx⟩
    ·injection h with h;simp only[Prod.mk.injEq] at h;obtain⟨rfl,rfl,rfl,rfl⟩:=h;exact⟨c,By (tb.hfd _ _ hl) hi hx⟩
    cases h
   cases h
  cases h
 ·rename_i T parts;split at h
  ·rename_i lay z hl hz;split at h
   ·rename_i cs hc;injection h with h;simp only[Prod.mk.injEq] at h;obtain⟨rfl,rfl,rfl,rfl⟩:=h;obtain⟨z',hz',rfl⟩:=tb.hzr _ _ hz;exact⟨c,CP (tb.hfd _ _ hl) hz' hc⟩
   cases h
  cases h
 ·rename_i T x;split at h
  ·rename_i t ht;have ht:=tb.hty _ _ ht;obtain⟨tb1,tn⟩:=t;generalize hx:ρ x=vx at h;unfold Uy at h;split at h
   ·rename_i cells;cases tb1 with
    | true =>
     simp only[cond_true] at h;injection h with h;simp only[Prod.mk.injEq] at h;obtain⟨rfl,rfl,rfl,rfl⟩:=h;exact⟨c.1,BM ht hx c.2⟩
    | false =>
     simp only[cond_false] at h;split at h
     ·injection h with h;simp only[Prod.mk.injEq] at h;obtain⟨rfl,rfl,rfl,rfl⟩:=h;exact⟨c,E8 ht hx⟩
     cases h
   ·rename_i b o;split at h
    ·cases h
    rename_i i is1;split at h
    ·rename_i b' cs hi;cases tb1 with
     | true =>
      simp only[cond_true] at h;split at h
      ·injection h with h;simp only[Prod.mk.injEq] at h;obtain⟨rfl,rfl,rfl,rfl⟩:=h;obtain⟨⟨c,rfl⟩,c2⟩:=c;exact⟨c,BT ht hx hi c2⟩
      ·cases h
     | false =>
      simp only[cond_false] at h;split at h
      ·rename_i u hu;injection h with h;simp only[Prod.mk.injEq] at h;obtain⟨rfl,rfl,rfl,rfl⟩:=h;obtain⟨c,rfl⟩:=c;exact⟨c,B5 ht hx hi hu⟩
      cases h
    cases h
   cases h
  cases h
 ·rename_i T x y;split at h
  ·rename_i t ht;have ht:=tb.hty _ _ ht;obtain⟨tb1,tn⟩:=t;generalize hx:ρ x=vx at h;generalize hy:ρ y=vy at h;unfold UR at h;split at h
   ·rename_i b o;split at h
    ·rename_i i w is1;simp only at h;split at h
     ·rename_i b' cs us n hi hu hn;split at h
      ·injection h with h;simp only[Prod.mk.injEq] at h;obtain⟨rfl,rfl,rfl,rfl⟩:=h;obtain⟨⟨⟨⟨c,rfl⟩,c1⟩,c2⟩,c3⟩:=c;exact⟨c,J1 ht hx hi (by rw[hy];exact hu) c1 c2 c3⟩
      split at h
      ·injection h with h;simp only[Prod.mk.injEq] at h;obtain⟨rfl,rfl,rfl,rfl⟩:=h;obtain⟨⟨⟨⟨c,rfl⟩,c1⟩,c2⟩,c3⟩:=c;exact⟨c,Cd ht hx hi (by rw[hy];exact hu) c1 c2 c3⟩
      cases h
     cases h
    cases h
   cases h
  cases h
 cases h
def runs (tb:YL P) (ops:Array Oper) (n:Nat):Nat→Nat→(Nat→AV)→List BI→List Nat→Prop→Option ((Nat→AV)×List BI×Prop)
 | 0,_,τ,H,_,C=>some (τ,H,C)
 | m+1,k,τ,H,is,C =>
  match ops[k]? with
  | none=>none
  | some ⟨dst,op,_,_,_,g⟩ =>
   bif Gm dst n then
    match g with
    | none =>
     (match OQ tb (ev τ) H is C op with
     | some (v,H',is',C')=>runs tb ops n m (k+1) (put τ dst v) H' is' C'
     | none=>none)
    | some (j,want) =>
     match (ops[j]?).bind (·.dst) with
     | none=>none
     | some d =>
      match τ d with
      | .p (.bool b) =>
       bif b==want then
        (match OQ tb (ev τ) H is C op with
        | some (v,H',is',C')=>runs tb ops n m (k+1) (put τ dst v) H' is' C'
        | none=>none)
       else runs tb ops n m (k+1) (put τ dst (.tup [])) H is C
      | .tup []=>runs tb ops n m (k+1) (put τ dst (.tup [])) H is C
      | _=>none
   else none
end
section
variable {P:Program}{r:Option Nat}{ops:Array Oper}{n:Nat}{D:List EN}{Q:Cx→Br→Prop}
theorem Oe (tb:YL P):∀(m k:Nat) {τ τ':Nat→AV}{H H':List BI}{is:List Nat}{C C':Prop},runs tb ops n m k τ H is C=some (τ',H',C')→C' →
  C∧(AL P r ops (k+m) ⟨n,τ',H',D⟩ Q→AL P r ops k ⟨n,τ,H,D⟩ Q)
 | 0,k,τ,τ',H,H',is,C,C',h,c=>by
  simp only[runs,Option.some.injEq,Prod.mk.injEq] at h;obtain⟨rfl,rfl,rfl⟩:=h;exact⟨c,fun h=>h⟩
 | m+1,k,τ,τ',H,H',is,C,C',h,c=>by
  rw[runs] at h;split at h
  ·cases h
  rename_i dst op ty pos aft g ho;cases hd:Gm dst n with
  | false=>rw[hd] at h;cases h
  | true =>
   rw[hd,cond_true] at h;rw[show k+(m+1)=k+1+m by omega];split at h
   ·split at h
    ·rename_i v H1 is1 C1 hv;obtain⟨c1,ih⟩:=Oe tb m (k+1) h c;obtain⟨c2,hop⟩:=HE (dst:=dst) (ty:=ty) (pos:=pos) (aft:=aft) (g:=none) hv c1;exact⟨c2,fun hq=>Qc ho hd hop (ih hq)⟩
    cases h
   rename_i j want;split at h
   ·cases h
   rename_i d hj;split at h
   ·rename_i b hb;cases hw:b==want with
    | true =>
     rw[hw,cond_true] at h;split at h
     ·rename_i v H1 is1 C1 hv;obtain⟨c1,ih⟩:=Oe tb m (k+1) h c;obtain⟨c2,hop⟩:=HE (dst:=dst) (ty:=ty) (pos:=pos) (aft:=aft) (g:=some (j,want)) hv c1;have hbw:b=want:=by simpa using hw
      exact⟨c2,fun hq=>VK ho hj (by rw[hb,hbw]) hd hop (ih hq)⟩
     ·cases h
    | false =>
     rw[hw,cond_false] at h;obtain⟨c1,ih⟩:=Oe tb m (k+1) h c;exact⟨c1,fun hq=>jl ho hj hb hw hd (ih hq)⟩
   ·rename_i hb;obtain⟨c1,ih⟩:=Oe tb m (k+1) h c;exact⟨c1,fun hq=>cf ho hj hb hd (ih hq)⟩
   cases h
end
def look {α:Type}:List (Nat×α)→Nat→Option α
 | [],_=>none
 | (a,v)::r,t=>bif Nat.beq a t then some v else look r t
def WE {α:Type}(f:Nat→Option α):List (Nat×α)→Prop
 | []=>True
 | (a,v)::r=>f a=some v∧WE f r
theorem Ql {α:Type}{f:Nat→Option α}{T:Nat}{v:α}:∀{l:List (Nat×α)},WE f l→look l T=some v→f T=some v
 | [],_,h=>by cases h
 | (a,u)::r,ha,h=>by
  unfold look at h;cases hb:Nat.beq a T with
  | true=>rw[hb,cond_true] at h;injection h with h;subst h;rw[←Nat.eq_of_beq_eq_true hb];exact ha.1
  | false=>rw[hb,cond_false] at h;exact Ql ha.2 h
def U4 (P:Program) (T:Nat):Option (List AV):=(zeroOf P T).map fun z=>z.cells.toList.map Gt
def mX {P:Program}{fd:List (Nat×List (Nat×Nat))}{ty:List (Nat×Bool×Nat)}{zr:List (Nat×List AV)}(hf:WE (fieldsOf P) fd) (ht:WE (EB P) ty) (hz:WE (U4 P) zr):YL P where
 fd:=look fd
 ty:=look ty
 zr:=look zr
 hfd _ _ h:=Ql hf h
 hty _ _ h:=Ql ht h
 hzr T l h:=by
  have h1:=Ql hz h;unfold U4 at h1;cases hq:zeroOf P T with
  | none=>rw[hq] at h1;cases h1
  | some z=>rw[hq] at h1;injection h1 with h1;exact⟨z,rfl,h1⟩
end Go.Abs
namespace Go.Abs
open Go.Eu
section
variable {P:Program}{r:Option Nat}{ops:Array Oper}{n k:Nat}{D:List EN}{Q:Cx→Br→Prop}{τ τ':Nat→AV}{H H':List BI}{C:Prop}
theorem jU {C:Prop}(c:C:=by repeat' first | exact trivial | refine And.intro ?_ ?_ | (simp only[List.length_map,BD,V8,Cm,DJ,Cl,DO,aJ,D5,KY];done) | exact FP _ | exact iT _ | exact iQ _ | exact jC _ | exact iq _ | exact UA _ | exact jd _ | exact gq _ | exact rfl | omega):C:=c
theorem Ax (tb:YL P) (m:Nat) (is:List Nat) (h:runs tb ops n m k τ H is True=some (τ',H',C)) (next:AL P r ops (k+m) ⟨n,τ',H',D⟩ Q) (c:C:=by exact jU):AL P r ops k ⟨n,τ,H,D⟩ Q:=(Oe tb m k h c).2 next
theorem Ar (tb:YL P) (m:Nat) (is:List Nat) (h:runs tb ops n m k τ H is True=some (τ',H',C)) (next:Q .normal ⟨n,τ',H',D⟩) (hk:ops.size - (k+m)=0:=by exact rfl) (c:C:=by exact jU):AL P r ops k ⟨n,τ,H,D⟩ Q:=Ax tb m is h (Bg hk next) c
theorem Au {id:Nat}{c₂:Code}(tb:YL P) (m:Nat) (is:List Nat) (h:runs tb ops n m 0 τ H is True=some (τ',H',C)) (next:I3 P r c₂ ⟨n,τ',H',D⟩ Q) (hk:ops.size - (0+m)=0:=by exact rfl) (c:C:=by exact jU):I3 P r (.seq (.region id ops false) c₂) ⟨n,τ,H,D⟩ Q:=Aw (Ar tb m is h next hk c)
end
end Go.Abs
namespace Go.Abs
section
variable {P:Program}{tb:YL P}{ρ:Operand→AV}{H H':List BI}{is is':List Nat}{C C':Prop}{v:AV}
 {dst:Option Tmp} {ty:TypeId} {pos:String} {aft:Array Edge} {g:Option (Nat×Bool)}
theorem Zy {op:Op}(h:OQ tb ρ [] [] C op=some (v,H',is',C')) (H:List BI) (is:List Nat):OQ tb ρ H is C op=some (v,H,is,C'):=by
 unfold OQ at h ⊢;split at h
 ·injection h with h;simp only[Prod.mk.injEq] at h;obtain⟨rfl,rfl,rfl,rfl⟩:=h;rfl
 ·injection h with h;simp only[Prod.mk.injEq] at h;obtain⟨rfl,rfl,rfl,rfl⟩:=h;rfl
 ·split at h
  ·rename_i b hb;injection h with h;simp only[Prod.mk.injEq] at h;obtain⟨rfl,rfl,rfl,rfl⟩:=h;simp only[hb]
  cases h
 ·split at h
  ·rename_i xs hx;split at h
   ·rename_i u hu;injection h with h;simp only[Prod.mk.injEq] at h;obtain⟨rfl,rfl,rfl,rfl⟩:=h;simp only[hx,hu]
   cases h
  cases h
 ·split at h
  ·rename_i b o hx;injection h with h;simp only[Prod.mk.injEq] at h;obtain⟨rfl,rfl,rfl,rfl⟩:=h;simp only[hx]
  cases h
 ·injection h with h;simp only[Prod.mk.injEq] at h;obtain⟨rfl,rfl,rfl,rfl⟩:=h;rfl
 ·split at h
  ·rename_i b hb;injection h with h;simp only[Prod.mk.injEq] at h;obtain⟨rfl,rfl,rfl,rfl⟩:=h;simp only[hb]
  cases h
 ·rename_i op T x y U
  try dsimp only
  generalize hx:ρ x=vx at h ⊢;generalize hy:ρ y=vy at h ⊢;unfold gB at h ⊢;split at h
  ·rename_i k m k' n
   try dsimp only
   split at h
   ·rename_i b hb;injection h with h;simp only[Prod.mk.injEq] at h;obtain⟨rfl,rfl,rfl,rfl⟩:=h;simp only[hb]
   rename_i hb;split at h
   ·rename_i r hr;injection h with h;simp only[Prod.mk.injEq] at h;obtain⟨rfl,rfl,rfl,rfl⟩:=h;simp only[hb,hr]
   cases h
  cases h
 ·rename_i T x i;split at h
  ·rename_i lay hl;split at h
   ·rename_i off sz hi
    try dsimp only
    generalize hx:ρ x=vx at h ⊢;unfold Uq at h ⊢;split at h
    ·injection h with h;simp only[Prod.mk.injEq] at h;obtain⟨rfl,rfl,rfl,rfl⟩:=h;simp only[hl,hi]
    ·injection h with h;simp only[Prod.mk.injEq] at h;obtain⟨rfl,rfl,rfl,rfl⟩:=h;simp only[hl,hi]
    cases h
   cases h
  cases h
 ·rename_i T parts;split at h
  ·rename_i lay z hl hz;split at h
   ·rename_i cs hc;injection h with h;simp only[Prod.mk.injEq] at h;obtain⟨rfl,rfl,rfl,rfl⟩:=h;simp only[hl,hz,hc]
   cases h
  cases h
 ·rename_i T x;split at h
  ·rename_i t ht
   try dsimp only
   try rw[ht]
   try dsimp only
   generalize hx:ρ x=vx at h ⊢;unfold Uy at h ⊢;split at h
   ·rename_i cells
    try dsimp only
    cases hb:t.1 with
    | true =>
     rw[hb,cond_true] at h;injection h with h;simp only[Prod.mk.injEq] at h;obtain⟨rfl,rfl,rfl,rfl⟩:=h;rfl
    | false =>
     rw[hb,cond_false] at h;rw[cond_false];split at h
     ·injection h with h;simp only[Prod.mk.injEq] at h;obtain⟨rfl,rfl,rfl,rfl⟩:=h;rfl
     cases h
   ·cases h
   cases h
  cases h
 ·rename_i T x y;split at h
  ·rename_i t ht;generalize hx:ρ x=vx at h;unfold UR at h;split at h
   ·cases h
   cases h
  cases h
 cases h
theorem aB {T:TypeId}{x:Operand}{ob:BI}{i:Nat}(h:OQ tb ρ [ob] [0] C (.load T x)=some (v,H',is',C')) (h0:OQ tb ρ [] [] C (.load T x)=none) (hi:H[i]?=some ob):OQ tb ρ H [i] C (.load T x)=some (v,H,[],C'):=by
 unfold OQ at h h0 ⊢;dsimp only at h h0 ⊢;split at h
 ·rename_i t ht
  try simp only[ht] at h0
  skip
  generalize hx:ρ x=vx at h h0 ⊢;unfold Uy at h h0 ⊢;split at h
  ·rename_i cells;dsimp only at h0;cases hb:t.1 with
   | true=>rw[hb,cond_true] at h0;cases h0
   | false =>
    rw[hb,cond_false] at h h0;split at h
    ·cases h0
    cases h
  ·rename_i b o;dsimp only at h ⊢;rw[hi];simp only[List.getElem?_cons_zero] at h;cases ob with
   | box b' cs =>
    dsimp only at h ⊢;cases hb:t.1 with
    | true =>
     rw[hb,cond_true] at h;rw[cond_true];split at h
     ·injection h with h;simp only[Prod.mk.injEq] at h;obtain⟨rfl,rfl,rfl,rfl⟩:=h;rfl
     ·cases h
    | false =>
     rw[hb,cond_false] at h;rw[cond_false];split at h
     ·rename_i u hu;injection h with h;simp only[Prod.mk.injEq] at h;obtain⟨rfl,rfl,rfl,rfl⟩:=h;rfl
     ·cases h
   | _=>cases h
  cases h
 cases h
def Ti (tb:YL P) (ops:Array Oper) (k:Nat) (ρ:Operand→AV) (H:List BI) (rd:Wv) (ef:Wa) (is:List Nat) (C:Prop) (op:Op):Option (Sp×List Nat×Prop) :=
 match OQ tb ρ [] [] C op with
 | some (v,_,_,C')=>some (.free v,is,C')
 | none =>
  match op with
  | .load T x =>
   match is with
   | i::is' =>
    match H[i]? with
    | some ob =>
     match OQ tb ρ [ob] [0] C (.load T x) with
     | some (v,_,_,C')=>some (.read [ob] v,is',C'∧XT ops k ob ef)
     | none=>none
    | none=>none
   | []=>none
  | .store T x y =>
   match OQ tb ρ H is C (.store T x y) with
   | some (v,H',is',C')=>some (.eff v H',is',C'∧KT ops k H H' rd)
   | none=>none
  | _=>none
theorem L9 {ops:Array Oper}{k:Nat}{τ:Nat→AV}{rd:Wv}{ef:Wa}{op:Op}{s:Sp}(h:Ti tb ops k (ev τ) H rd ef is C op=some (s,is',C')) (c:C') (hw:Cw ops ⟨0,τ,[],[]⟩ ⟨dst,op,ty,pos,aft,g⟩) :
  C∧fo P ops ⟨dst,op,ty,pos,aft,g⟩ τ H s∧kx ops k H rd ef s:=by
 unfold Ti at h;split at h
 ·rename_i v H1 is1 C1 hv;injection h with h;simp only[Prod.mk.injEq] at h;obtain⟨rfl,rfl,rfl⟩:=h;exact⟨(HE (dst:=dst) (ty:=ty) (pos:=pos) (aft:=aft) (g:=g) hv c).1,⟨hw,fun H=>(HE (Zy hv H []) c).2⟩,Ap⟩
 rename_i hn;split at h
 ·split at h
  ·rename_i i is2;split at h
   ·rename_i ob hi;split at h
    ·rename_i v H1 is1 C1 hv;injection h with h;simp only[Prod.mk.injEq] at h;obtain⟨rfl,rfl,rfl⟩:=h;obtain⟨c1,c2⟩:=c;refine⟨(HE (dst:=dst) (ty:=ty) (pos:=pos) (aft:=aft) (g:=g) hv c1).1,⟨hw,fun ob' hm=>?_,fun H hm=>?_⟩,fun ob' hm=>?_⟩
     ·rw[List.mem_singleton] at hm;subst hm;exact List.mem_of_getElem? hi
     ·obtain⟨i',hi'⟩:=List.mem_iff_getElem?.1 (hm ob List.mem_cons_self);exact(HE (aB hv hn hi') c1).2
     rw[List.mem_singleton] at hm;subst hm;exact c2
    cases h
   cases h
  cases h
 ·split at h
  ·rename_i v H1 is1 C1 hv;injection h with h;simp only[Prod.mk.injEq] at h;obtain⟨rfl,rfl,rfl⟩:=h;obtain⟨c1,c2⟩:=c;obtain⟨c0,hop⟩:=HE (dst:=dst) (ty:=ty) (pos:=pos) (aft:=aft) (g:=g) hv c1;exact⟨c0,⟨hw,hop⟩,c2⟩
  cases h
 cases h
def mR (k:Nat) (s:Sp) (C:Prop):List (Nat×Sp)→Prop
 | []=>C
 | p::r=>C∧HR k s (p::r)
theorem Ls {k:Nat}{s:Sp}{C:Prop}:∀{fx:List (Nat×Sp)},mR k s C fx→C∧HR k s fx
 | [],h=>⟨h,trivial⟩
 | p::r,h=>h
abbrev rX:=(Nat→AV)×List BI×Wv×Wa×List Bool×Prop
def Un (k:Nat) (τ:Nat→AV) (dst:Option Tmp) (H:List BI) (rd:Wv) (ef:Wa) (effs:List Bool) (fx:List (Nat×Sp)) (f:(Nat→AV)→List BI→Wv→Wa→List Bool→List Nat→Prop→Option rX):Option (Sp×List Nat×Prop)→Option rX
 | some (.free v,is,C)=>f (put τ dst v) H rd ef (false::effs) is (mR k (.free v) C fx)
 | some (.read [ob] v,is,C)=>f (put τ dst v) H ((k,ob)::rd) ef (false::effs) is (mR k (.read [ob] v) C fx)
 | some (.eff v H',is,C)=>f (put τ dst v) H' rd ((k,H,H')::ef) (true::effs) is (mR k (.eff v H') C fx)
 | _=>none
def M3 (tb:YL P) (ops:Array Oper) (opn:Nat→Bool) (fx:List (Nat×Sp)):Nat→Nat→(Nat→AV)→List BI→Wv→Wa→List Bool→List Nat→Prop→Option rX
 | 0,_,τ,H,rd,ef,effs,_,C=>some (τ,H,rd,ef,effs,C)
 | m+1,k,τ,H,rd,ef,effs,is,C =>
  match ops[k]? with
  | none=>none
  | some ⟨dst,op,_,_,_,g⟩ =>
   bif opn k then none else
    match g with
    | none=>Un k τ dst H rd ef effs fx (M3 tb ops opn fx m (k+1)) (Ti tb ops k (ev τ) H rd ef is C op)
    | some (j,want) =>
     match (ops[j]?).bind (·.dst) with
     | none=>none
     | some d =>
      match τ d with
      | .p (.bool b) =>
       bif b==want then Un k τ dst H rd ef effs fx (M3 tb ops opn fx m (k+1)) (Ti tb ops k (ev τ) H rd ef is C op)
       else M3 tb ops opn fx m (k+1) (put τ dst (.tup [])) H rd ef (false::effs) is (mR k .skip C fx)
      | .tup []=>M3 tb ops opn fx m (k+1) (put τ dst (.tup [])) H rd ef (false::effs) is (mR k .skip C fx)
      | _=>none
end
section
variable {P:Program}{ops:Array Oper}{n:Nat}{τ₀:Nat→AV}{D:List EN}{Q:Cx→Br→Prop}{opn:Nat→Bool}{fx:List (Nat×Sp)}
theorem MQ (tb:YL P):∀(m k:Nat) {τ τ':Nat→AV}{H H':List BI}{rd rd':Wv}{ef ef':Wa}{effs effs':List Bool}{is:List Nat}{C C':Prop},M3 tb ops opn fx m k τ H rd ef effs is C=some (τ',H',rd',ef',effs',C')→C' →
  C∧(Dr P ops n τ₀ D Q opn (k+m) τ' H' rd' ef' effs' fx→Dr P ops n τ₀ D Q opn k τ H rd ef effs fx)
 | 0,k,τ,τ',H,H',rd,rd',ef,ef',effs,effs',is,C,C',h,c=>by
  simp only[M3,Option.some.injEq,Prod.mk.injEq] at h;obtain⟨rfl,rfl,rfl,rfl,rfl,rfl⟩:=h;exact⟨c,fun h=>h⟩
 | m+1,k,τ,τ',H,H',rd,rd',ef,ef',effs,effs',is,C,C',h,c=>by
  rw[M3] at h;split at h
  ·cases h
  rename_i dst op ty pos aft g ho;cases hn:opn k with
  | true=>rw[hn] at h;cases h
  | false =>
   rw[hn,cond_false] at h;rw[show k+(m+1)=k+1+m by omega];have key:Cw ops ⟨0,τ,[],[]⟩ ⟨dst,op,ty,pos,aft,g⟩→Un k τ dst H rd ef effs fx (M3 tb ops opn fx m (k+1)) (Ti tb ops k (ev τ) H rd ef is C op)=some (τ',H',rd',ef',effs',C')→C∧(Dr P ops n τ₀ D Q opn (k+1+m) τ' H' rd' ef' effs' fx→Dr P ops n τ₀ D Q opn k τ H rd ef effs fx):=by
    intro hw h;generalize hs:Ti tb ops k (ev τ) H rd ef is C op=so at h;unfold Un at h;split at h
    ·rename_i v is1 C1;obtain⟨c1,ih⟩:=MQ tb m (k+1) h c;obtain⟨c1,hfx⟩:=Ls c1;obtain⟨c2,hok,howe⟩:=L9 hs c1 hw;exact⟨c2,fun hq=> .step (.free v) ho (.inl hn) hok howe hfx (ih hq)⟩
    ·rename_i ob v is1 C1;obtain⟨c1,ih⟩:=MQ tb m (k+1) h c;obtain⟨c1,hfx⟩:=Ls c1;obtain⟨c2,hok,howe⟩:=L9 hs c1 hw;exact⟨c2,fun hq=> .step (.read [ob] v) ho (.inl hn) hok howe hfx (ih hq)⟩
    ·rename_i v H1 is1 C1;obtain⟨c1,ih⟩:=MQ tb m (k+1) h c;obtain⟨c1,hfx⟩:=Ls c1;obtain⟨c2,hok,howe⟩:=L9 hs c1 hw;exact⟨c2,fun hq=> .step (.eff v H1) ho (.inl hn) hok howe hfx (ih hq)⟩
    cases h
   split at h
   ·exact key Ah h
   rename_i j want;split at h
   ·cases h
   rename_i d hj;split at h
   ·rename_i b hb;cases hw:b==want with
    | true =>
     rw[hw,cond_true] at h;have hbw:b=want:=by simpa using hw
     exact key (by simp only[Cw];exact⟨d,hj,by rw[hb,hbw]⟩) h
    | false =>
     rw[hw,cond_false] at h;obtain⟨c1,ih⟩:=MQ tb m (k+1) h c;obtain⟨c1,hfx⟩:=Ls c1;exact⟨c1,fun hq=>ie ho hn hj hb hw hfx (ih hq)⟩
   ·rename_i hb;obtain⟨c1,ih⟩:=MQ tb m (k+1) h c;obtain⟨c1,hfx⟩:=Ls c1;exact⟨c1,fun hq=>dT ho hn hj hb hfx (ih hq)⟩
   cases h
variable {k:Nat}{τ τ':Nat→AV}{H H':List BI}{rd rd':Wv}{ef ef':Wa}{effs effs':List Bool}{C:Prop}
theorem j5 {C:Prop}(c:C:=by repeat' first | exact trivial | refine And.intro ?_ ?_ | ((refine Or.inr (And.intro ?_ ?_)<;>repeat (first | exact List.Mem.head _ | apply List.Mem.tail));done) | exact Or.inl Aj | exact jU):C:=c
theorem BP (tb:YL P) (m:Nat) (is:List Nat) (h:M3 tb ops opn fx m k τ H rd ef effs is True=some (τ',H',rd',ef',effs',C)) (next:Dr P ops n τ₀ D Q opn (k+m) τ' H' rd' ef' effs' fx) (c:C:=by exact j5):Dr P ops n τ₀ D Q opn k τ H rd ef effs fx:=(MQ tb m k h c).2 next
theorem Bj (tb:YL P) (m:Nat) (is:List Nat) (h:M3 tb ops opn fx m k τ H rd ef effs is True=some (τ',H',rd',ef',effs',C)) (next:Q .normal ⟨n,τ',H',D⟩) (hk:k+m=ops.size:=by exact rfl) (chk:ND ops n effs'.reverse=true:=by kernel_rfl) (c:C:=by exact j5):Dr P ops n τ₀ D Q opn k τ H rd ef effs fx:=BP tb m is h (JJ hk chk next) c
end
end Go.Abs
namespace Go.Proofs.YtboammbpdaoojaaGreat
open Go.Abs
def uG:List (Nat×Bool×Nat):=[(26,true,5),(3,false,1),(24,false,1),(66,true,23),(115,true,2),(113,false,1),(9,false,1),(69,true,8),(51,true,9),(61,false,1),(23,false,1),(62,false,1),(4,false,1),(162,true,2),(67,false,1),(22,false,1),(71,true,15),(200,true,25),(29,false,1),(263,false,1),(137,false,1),(120,true,10),(104,false,1),(229,false,1),(170,false,1),(204,false,1),(205,false,1),(139,true,2),(192,true,2),(168,true,65),(210,true,1),(117,true,6),(64,true,7),(122,true,0),(165,false,1),(208,false,1),(87,false,1),(216,false,1)]
def uK:List (Nat×List (Nat×Nat)):=[(26,[(0,1),(1,1),(2,1),(3,1),(4,1)]),(66,[(0,1),(1,1),(2,1),(3,5),(8,5),(13,1),(14,1),(15,7),(22,1)]),(115,[(0,1),(1,1)]),(69,[(0,1),(1,5),(6,1),(7,1)]),(51,[(0,1),(1,1),(2,1),(3,1),(4,5)]),(162,[(0,1),(1,1)]),(71,[(0,1),(1,5),(6,1),(7,8)]),(36,[(0,1),(1,1),(2,1),(3,1),(4,1)]),(64,[(0,1),(1,5),(6,1)]),(120,[(0,1),(1,1),(2,8)]),(117,[(0,1),(1,5)]),(148,[(0,1),(1,1)]),(167,[(0,1),(1,1),(2,1),(3,1),(4,1)]),(200,[(0,1),(1,1),(2,23)]),(125,[(0,1),(1,1)]),(231,[(0,1),(1,1)]),(139,[(0,1),(1,1)]),(192,[(0,1),(1,1)]),(207,[(0,1)]),(210,[(0,1)]),(122,[])]
def tX:List (Nat×List AV):=[(26,[.p (.int .i64 0),.p (.int .i64 0),.p (.str ⟨#[]⟩),.p .nils,.p .nils]),(115,[.p (.int .i64 0),.p .nils]),(167,[.p (.bool false),.p (.bool false),.p (.int .i64 0),.p (.int .i64 0),.p (.int .i64 0)]),(66,[.p (.int .i64 0),.p (.str ⟨#[]⟩),.p (.int .i64 0),.p (.int .i64 0),.p (.int .i64 0),.p (.str ⟨#[]⟩),.p .nils,.p .nils,.p (.int .i64 0),.p (.int .i64 0),.p (.str ⟨#[]⟩),.p .nils,.p .nils,.p (.int .i64 0),.p .nils,.p (.int .i64 0),.p (.int .i64 0),.p (.int .i64 0),.p (.str ⟨#[]⟩),.p .nils,.p .nils,.p .nils,.p .nils]),(51,[.p (.int .i64 0),.p (.int .i64 0),.p (.int .i64 0),.p (.int .i64 0),.p (.int .i64 0),.p (.int .i64 0),.p (.str ⟨#[]⟩),.p .nils,.p .nils]),(69,[.p (.int .i64 0),.p (.int .i64 0),.p (.int .i64 0),.p (.str ⟨#[]⟩),.p .nils,.p .nils,.p (.int .i64 0),.p .nils]),(162,[.p (.int .i64 0),.p (.int .i64 0)]),(122,[]),(148,[.p (.int .i64 0),.p (.int .i64 0)]),(210,[.p .nilFn]),(117,[.p (.str ⟨#[]⟩),.p (.int .i64 0),.p (.int .i64 0),.p (.str ⟨#[]⟩),.p .nils,.p .nils]),(120,[.p (.str ⟨#[]⟩),.p (.bool false),.p (.int .i64 0),.p (.int .i64 0),.p (.int .i64 0),.p (.str ⟨#[]⟩),.p .nils,.p .nils,.p (.int .i64 0),.p .nils]),(139,[.p (.int .i64 0),.p .nils]),(192,[.p (.int .i64 0),.p .nils]),(36,[.p (.int .i64 0),.p (.int .i64 0),.p (.int .i64 0),.p (.int .i64 0),.p (.bool false)]),(64,[.p (.int .i64 0),.p (.int .i64 0),.p (.int .i64 0),.p (.str ⟨#[]⟩),.p .nils,.p .nils,.p .nils]),(71,[.p (.str ⟨#[]⟩),.p (.int .i64 0),.p (.int .i64 0),.p (.str ⟨#[]⟩),.p .nils,.p .nils,.p (.int .i64 0),.p (.int .i64 0),.p (.int .i64 0),.p (.int .i64 0),.p (.str ⟨#[]⟩),.p .nils,.p .nils,.p (.int .i64 0),.p .nils]),(125,[.p .nils,.p (.int .i64 0)]),(200,[.p .nils,.p .nils,.p (.int .i64 0),.p (.str ⟨#[]⟩),.p (.int .i64 0),.p (.int .i64 0),.p (.int .i64 0),.p (.str ⟨#[]⟩),.p .nils,.p .nils,.p (.int .i64 0),.p (.int .i64 0),.p (.str ⟨#[]⟩),.p .nils,.p .nils,.p (.int .i64 0),.p .nils,.p (.int .i64 0),.p (.int .i64 0),.p (.int .i64 0),.p (.str ⟨#[]⟩),.p .nils,.p .nils,.p .nils,.p .nils]),(207,[.p (.int .i64 0)]),(231,[.p .any,.p (.int .i64 0)])]
theorem uC:WE (EB Tryz.prog) uG:=And.intro Aj <| And.intro Aj <| And.intro Aj <| And.intro Aj <| And.intro Aj <| And.intro Aj <| And.intro Aj <| And.intro Aj <| And.intro Aj <| And.intro Aj <| And.intro Aj <| And.intro Aj <| And.intro Aj <| And.intro Aj <| And.intro Aj <| And.intro Aj <| And.intro Aj <| And.intro Aj <| And.intro Aj <| And.intro Aj <| And.intro Aj <| And.intro Aj <| And.intro Aj <| And.intro Aj <| And.intro Aj <| And.intro Aj <| And.intro Aj <| And.intro Aj <| And.intro Aj <| And.intro Aj <| And.intro Aj <| And.intro Aj <| And.intro Aj <| And.intro Aj <| And.intro Aj <| And.intro Aj <| And.intro Aj <| And.intro Aj <| trivial
theorem uO:WE (fieldsOf Tryz.prog) uK:=And.intro Aj <| And.intro Aj <| And.intro Aj <| And.intro Aj <| And.intro Aj <| And.intro Aj <| And.intro Aj <| And.intro Aj <| And.intro Aj <| And.intro Aj <| And.intro Aj <| And.intro Aj <| And.intro Aj <| And.intro Aj <| And.intro Aj <| And.intro Aj <| And.intro Aj <| And.intro Aj <| And.intro Aj <| And.intro Aj <| And.intro Aj <| trivial
theorem tx:WE (U4 Tryz.prog) tX:=And.intro Aj <| And.intro Aj <| And.intro Aj <| And.intro Aj <| And.intro Aj <| And.intro Aj <| And.intro Aj <| And.intro Aj <| And.intro Aj <| And.intro Aj <| And.intro Aj <| And.intro Aj <| And.intro Aj <| And.intro Aj <| And.intro Aj <| And.intro Aj <| And.intro Aj <| And.intro Aj <| And.intro Aj <| And.intro Aj <| And.intro Aj <| trivial
def Ay:YL Tryz.prog:=mX uO uC tx
end Go.Proofs.YtboammbpdaoojaaGreat
namespace Go.Proofs.YtboammbpdaoojaaGreat
open Go.Abs Go.Eu
theorem _root_.Go.AK {α:Prop}(h:α:=by first | exact List.Sublist.refl _ | exact List.sublist_cons_self _ _):α:=h
theorem V9:∀(c:Int),F7 Tryz.prog 147 [.p (.int .u8 c)] Ge:=by
 intro c;refine A5 Tryz.func147 O qE (n:=21) O O (Au Ay 1 [] O (As (BS [0] 2 Ge ?_ ?_)))
 ·refine A2 (Ax Ay 3 [] O (BL 5 O (fun g1=>?_) (fun g1=>?_)))
  ·(try simp only[sd] at g1);refine Ax Ay 4 [] O (BL 9 O (fun g2=>?_) (fun g2=>?_))
   ·(try simp only[sd] at g2);refine Ax Ay 8 [] O (BL 17 O (fun g3=>?_) (fun g3=>?_))
    ·(try simp only[sd] at g3);exact Ar Ay 4 [] O (⟨O,O,AK,⟨_,O⟩,⟨O,Ap⟩⟩)
    (try simp only[sd] at g3);exact Ar Ay 4 [] O (⟨O,O,AK,⟨_,O⟩,⟨O,Ap⟩⟩)
   (try simp only[sd] at g2);refine Ax Ay 3 [] O (BL 12 O (fun g4=>?_) (fun g4=>?_))
   ·(try simp only[sd] at g4);refine Ax Ay 5 [] O (BL 17 O (fun g5=>?_) (fun g5=>?_))
    ·(try simp only[sd] at g5);exact Ar Ay 4 [] O (⟨O,O,AK,⟨_,O⟩,⟨O,Ap⟩⟩)
    (try simp only[sd] at g5);exact Ar Ay 4 [] O (⟨O,O,AK,⟨_,O⟩,⟨O,Ap⟩⟩)
   (try simp only[sd] at g4);refine Ax Ay 5 [] O (BL 17 O (fun g6=>?_) (fun g6=>?_))
   ·(try simp only[sd] at g6);exact Ar Ay 4 [] O (⟨O,O,AK,⟨_,O⟩,⟨O,Ap⟩⟩)
   (try simp only[sd] at g6);exact Ar Ay 4 [] O (⟨O,O,AK,⟨_,O⟩,⟨O,Ap⟩⟩)
  (try simp only[sd] at g1);refine Ax Ay 4 [] O (BL 9 O (fun g7=>?_) (fun g7=>?_))
  ·(try simp only[sd] at g7);refine Ax Ay 8 [] O (BL 17 O (fun g8=>?_) (fun g8=>?_))
   ·(try simp only[sd] at g8);exact Ar Ay 4 [] O (⟨O,O,AK,⟨_,O⟩,⟨O,Ap⟩⟩)
   (try simp only[sd] at g8);exact Ar Ay 4 [] O (⟨O,O,AK,⟨_,O⟩,⟨O,Ap⟩⟩)
  (try simp only[sd] at g7);refine Ax Ay 3 [] O (BL 12 O (fun g9=>?_) (fun g9=>?_))
  ·(try simp only[sd] at g9);refine Ax Ay 5 [] O (BL 17 O (fun g10=>?_) (fun g10=>?_))
   ·(try simp only[sd] at g10);exact Ar Ay 4 [] O (⟨O,O,AK,⟨_,O⟩,⟨O,Ap⟩⟩)
   (try simp only[sd] at g10);exact Ar Ay 4 [] O (⟨O,O,AK,⟨_,O⟩,⟨O,Ap⟩⟩)
  (try simp only[sd] at g9);refine Ax Ay 5 [] O (BL 17 O (fun g11=>?_) (fun g11=>?_))
  ·(try simp only[sd] at g11);exact Ar Ay 4 [] O (⟨O,O,AK,⟨_,O⟩,⟨O,Ap⟩⟩)
  (try simp only[sd] at g11);exact Ar Ay 4 [] O (⟨O,O,AK,⟨_,O⟩,⟨O,Ap⟩⟩)
 rintro _ ⟨q1,rfl⟩;refine Az (⟨O,_,[],Bi O,List.nil_sublist _,⟨⟨_,O⟩,O⟩⟩)
theorem _root_.Go.Ac {α:Prop}(h:α:=by simp_all [arity]):α:=h
theorem eX:∀(k:Int),EZ Tryz.prog 146 [.p (I k)] (.p (I (arity k))):=by
 intro k;refine A5 Tryz.func146 O nW (n:=15) O O (Au Ay 1 [] O (As (Au Ay 1 [] O (A8 (As (Au Ay 2 [] O (Av O (fun c1=>?_) (fun c1=>?_))))))))
 ·(try simp only[sd] at c1);refine A1 (Av O (fun c2=>?_) (fun c2=>?_))
  ·(try simp only[sd] at c2);refine Au Ay 1 [] O (Az ⟨O,_,[],Bi O,List.nil_sublist _,?_⟩);exact⟨pI Ac,O⟩
  (try simp only[sd] at c2);refine As (Au Ay 2 [] O (Av O (fun c3=>?_) (fun c3=>?_)))
  ·(try simp only[sd] at c3);refine A1 (Av O (fun c4=>?_) (fun c4=>?_))
   ·(try simp only[sd] at c4);refine Au Ay 1 [] O (Az ⟨O,_,[],Bi O,List.nil_sublist _,?_⟩);exact⟨pI Ac,O⟩
   (try simp only[sd] at c4);refine As (Au Ay 2 [] O (Av O (fun c5=>?_) (fun c5=>?_)))
   ·(try simp only[sd] at c5);refine A1 (Av O (fun c6=>?_) (fun c6=>?_))
    ·(try simp only[sd] at c6);refine Au Ay 1 [] O (Az ⟨O,_,[],Bi O,List.nil_sublist _,?_⟩);exact⟨pI Ac,O⟩
    (try simp only[sd] at c6);refine A1 (Au Ay 1 [] O (Az ⟨O,_,[],Bi O,List.nil_sublist _,?_⟩));exact⟨pI Ac,O⟩
   (try simp only[sd] at c5);refine A2 (Ar Ay 2 [] O (Av O (fun c7=>?_) (fun c7=>?_)))
   ·(try simp only[sd] at c7);refine Au Ay 1 [] O (Az ⟨O,_,[],Bi O,List.nil_sublist _,?_⟩);exact⟨pI Ac,O⟩
   (try simp only[sd] at c7);refine A1 (Au Ay 1 [] O (Az ⟨O,_,[],Bi O,List.nil_sublist _,?_⟩));exact⟨pI Ac,O⟩
  (try simp only[sd] at c3);refine A2 (Ar Ay 2 [] O (Av O (fun c8=>?_) (fun c8=>?_)))
  ·(try simp only[sd] at c8);refine Au Ay 1 [] O (Az ⟨O,_,[],Bi O,List.nil_sublist _,?_⟩);exact⟨pI Ac,O⟩
  (try simp only[sd] at c8);refine As (Au Ay 2 [] O (Av O (fun c9=>?_) (fun c9=>?_)))
  ·(try simp only[sd] at c9);refine A1 (Av O (fun c10=>?_) (fun c10=>?_))
   ·(try simp only[sd] at c10);refine Au Ay 1 [] O (Az ⟨O,_,[],Bi O,List.nil_sublist _,?_⟩);exact⟨pI Ac,O⟩
   (try simp only[sd] at c10);refine A1 (Au Ay 1 [] O (Az ⟨O,_,[],Bi O,List.nil_sublist _,?_⟩));exact⟨pI Ac,O⟩
  (try simp only[sd] at c9);refine A2 (Ar Ay 2 [] O (Av O (fun c11=>?_) (fun c11=>?_)))
  ·(try simp only[sd] at c11);refine Au Ay 1 [] O (Az ⟨O,_,[],Bi O,List.nil_sublist _,?_⟩);exact⟨pI Ac,O⟩
  (try simp only[sd] at c11);refine A1 (Au Ay 1 [] O (Az ⟨O,_,[],Bi O,List.nil_sublist _,?_⟩));exact⟨pI Ac,O⟩
 (try simp only[sd] at c1);refine Au Ay 2 [] O (Av O (fun c12=>?_) (fun c12=>?_))
 ·(try simp only[sd] at c12);refine A1 (Av O (fun c13=>?_) (fun c13=>?_))
  ·(try simp only[sd] at c13);refine Au Ay 1 [] O (Az ⟨O,_,[],Bi O,List.nil_sublist _,?_⟩);exact⟨pI Ac,O⟩
  (try simp only[sd] at c13);refine As (Au Ay 2 [] O (Av O (fun c14=>?_) (fun c14=>?_)))
  ·(try simp only[sd] at c14);refine A1 (Av O (fun c15=>?_) (fun c15=>?_))
   ·(try simp only[sd] at c15);refine Au Ay 1 [] O (Az ⟨O,_,[],Bi O,List.nil_sublist _,?_⟩);exact⟨pI Ac,O⟩
   (try simp only[sd] at c15);refine As (Au Ay 2 [] O (Av O (fun c16=>?_) (fun c16=>?_)))
   ·(try simp only[sd] at c16);refine A1 (Av O (fun c17=>?_) (fun c17=>?_))
    ·(try simp only[sd] at c17);refine Au Ay 1 [] O (Az ⟨O,_,[],Bi O,List.nil_sublist _,?_⟩);exact⟨pI Ac,O⟩
    (try simp only[sd] at c17);refine A1 (Au Ay 1 [] O (Az ⟨O,_,[],Bi O,List.nil_sublist _,?_⟩));exact⟨pI Ac,O⟩
   (try simp only[sd] at c16);refine A2 (Ar Ay 2 [] O (Av O (fun c18=>?_) (fun c18=>?_)))
   ·(try simp only[sd] at c18);refine Au Ay 1 [] O (Az ⟨O,_,[],Bi O,List.nil_sublist _,?_⟩);exact⟨pI Ac,O⟩
   (try simp only[sd] at c18);refine A1 (Au Ay 1 [] O (Az ⟨O,_,[],Bi O,List.nil_sublist _,?_⟩));exact⟨pI Ac,O⟩
  (try simp only[sd] at c14);refine A2 (Ar Ay 2 [] O (Av O (fun c19=>?_) (fun c19=>?_)))
  ·(try simp only[sd] at c19);refine Au Ay 1 [] O (Az ⟨O,_,[],Bi O,List.nil_sublist _,?_⟩);exact⟨pI Ac,O⟩
  (try simp only[sd] at c19);refine As (Au Ay 2 [] O (Av O (fun c20=>?_) (fun c20=>?_)))
  ·(try simp only[sd] at c20);refine A1 (Av O (fun c21=>?_) (fun c21=>?_))
   ·(try simp only[sd] at c21);refine Au Ay 1 [] O (Az ⟨O,_,[],Bi O,List.nil_sublist _,?_⟩);exact⟨pI Ac,O⟩
   (try simp only[sd] at c21);refine A1 (Au Ay 1 [] O (Az ⟨O,_,[],Bi O,List.nil_sublist _,?_⟩));exact⟨pI Ac,O⟩
  (try simp only[sd] at c20);refine A2 (Ar Ay 2 [] O (Av O (fun c22=>?_) (fun c22=>?_)))
  ·(try simp only[sd] at c22);refine Au Ay 1 [] O (Az ⟨O,_,[],Bi O,List.nil_sublist _,?_⟩);exact⟨pI Ac,O⟩
  (try simp only[sd] at c22);refine A1 (Au Ay 1 [] O (Az ⟨O,_,[],Bi O,List.nil_sublist _,?_⟩));exact⟨pI Ac,O⟩
 (try simp only[sd] at c12);refine Au Ay 2 [] O (Av O (fun c23=>?_) (fun c23=>?_))
 ·(try simp only[sd] at c23);refine A1 (Av O (fun c24=>?_) (fun c24=>?_))
  ·(try simp only[sd] at c24);refine Au Ay 1 [] O (Az ⟨O,_,[],Bi O,List.nil_sublist _,?_⟩);exact⟨pI Ac,O⟩
  (try simp only[sd] at c24);refine As (Au Ay 2 [] O (Av O (fun c25=>?_) (fun c25=>?_)))
  ·(try simp only[sd] at c25);refine A1 (Av O (fun c26=>?_) (fun c26=>?_))
   ·(try simp only[sd] at c26);refine Au Ay 1 [] O (Az ⟨O,_,[],Bi O,List.nil_sublist _,?_⟩);exact⟨pI Ac,O⟩
   (try simp only[sd] at c26);refine As (Au Ay 2 [] O (Av O (fun c27=>?_) (fun c27=>?_)))
   ·(try simp only[sd] at c27);refine A1 (Av O (fun c28=>?_) (fun c28=>?_))
    ·(try simp only[sd] at c28);refine Au Ay 1 [] O (Az ⟨O,_,[],Bi O,List.nil_sublist _,?_⟩);exact⟨pI Ac,O⟩
    (try simp only[sd] at c28);refine A1 (Au Ay 1 [] O (Az ⟨O,_,[],Bi O,List.nil_sublist _,?_⟩));exact⟨pI Ac,O⟩
   (try simp only[sd] at c27);refine A2 (Ar Ay 2 [] O (Av O (fun c29=>?_) (fun c29=>?_)))
   ·(try simp only[sd] at c29);refine Au Ay 1 [] O (Az ⟨O,_,[],Bi O,List.nil_sublist _,?_⟩);exact⟨pI Ac,O⟩
   (try simp only[sd] at c29);refine A1 (Au Ay 1 [] O (Az ⟨O,_,[],Bi O,List.nil_sublist _,?_⟩));exact⟨pI Ac,O⟩
  (try simp only[sd] at c25);refine A2 (Ar Ay 2 [] O (Av O (fun c30=>?_) (fun c30=>?_)))
  ·(try simp only[sd] at c30);refine Au Ay 1 [] O (Az ⟨O,_,[],Bi O,List.nil_sublist _,?_⟩);exact⟨pI Ac,O⟩
  (try simp only[sd] at c30);refine As (Au Ay 2 [] O (Av O (fun c31=>?_) (fun c31=>?_)))
  ·(try simp only[sd] at c31);refine A1 (Av O (fun c32=>?_) (fun c32=>?_))
   ·(try simp only[sd] at c32);refine Au Ay 1 [] O (Az ⟨O,_,[],Bi O,List.nil_sublist _,?_⟩);exact⟨pI Ac,O⟩
   (try simp only[sd] at c32);refine A1 (Au Ay 1 [] O (Az ⟨O,_,[],Bi O,List.nil_sublist _,?_⟩));exact⟨pI Ac,O⟩
  (try simp only[sd] at c31);refine A2 (Ar Ay 2 [] O (Av O (fun c33=>?_) (fun c33=>?_)))
  ·(try simp only[sd] at c33);refine Au Ay 1 [] O (Az ⟨O,_,[],Bi O,List.nil_sublist _,?_⟩);exact⟨pI Ac,O⟩
  (try simp only[sd] at c33);refine A1 (Au Ay 1 [] O (Az ⟨O,_,[],Bi O,List.nil_sublist _,?_⟩));exact⟨pI Ac,O⟩
 (try simp only[sd] at c23);refine A2 (Ar Ay 2 [] O (Av O (fun c34=>?_) (fun c34=>?_)))
 ·(try simp only[sd] at c34);refine Au Ay 1 [] O (Az ⟨O,_,[],Bi O,List.nil_sublist _,?_⟩);exact⟨pI Ac,O⟩
 (try simp only[sd] at c34);refine As (Au Ay 2 [] O (Av O (fun c35=>?_) (fun c35=>?_)))
 ·(try simp only[sd] at c35);refine A1 (Av O (fun c36=>?_) (fun c36=>?_))
  ·(try simp only[sd] at c36);refine Au Ay 1 [] O (Az ⟨O,_,[],Bi O,List.nil_sublist _,?_⟩);exact⟨pI Ac,O⟩
  (try simp only[sd] at c36);refine As (Au Ay 2 [] O (Av O (fun c37=>?_) (fun c37=>?_)))
  ·(try simp only[sd] at c37);refine A1 (Av O (fun c38=>?_) (fun c38=>?_))
   ·(try simp only[sd] at c38);refine Au Ay 1 [] O (Az ⟨O,_,[],Bi O,List.nil_sublist _,?_⟩);exact⟨pI Ac,O⟩
   (try simp only[sd] at c38);refine A1 (Au Ay 1 [] O (Az ⟨O,_,[],Bi O,List.nil_sublist _,?_⟩));exact⟨pI Ac,O⟩
  (try simp only[sd] at c37);refine A2 (Ar Ay 2 [] O (Av O (fun c39=>?_) (fun c39=>?_)))
  ·(try simp only[sd] at c39);refine Au Ay 1 [] O (Az ⟨O,_,[],Bi O,List.nil_sublist _,?_⟩);exact⟨pI Ac,O⟩
  (try simp only[sd] at c39);refine A1 (Au Ay 1 [] O (Az ⟨O,_,[],Bi O,List.nil_sublist _,?_⟩));exact⟨pI Ac,O⟩
 (try simp only[sd] at c35);refine A2 (Ar Ay 2 [] O (Av O (fun c40=>?_) (fun c40=>?_)))
 ·(try simp only[sd] at c40);refine Au Ay 1 [] O (Az ⟨O,_,[],Bi O,List.nil_sublist _,?_⟩);exact⟨pI Ac,O⟩
 (try simp only[sd] at c40);refine As (Au Ay 2 [] O (Av O (fun c41=>?_) (fun c41=>?_)))
 ·(try simp only[sd] at c41);refine A1 (Av O (fun c42=>?_) (fun c42=>?_))
  ·(try simp only[sd] at c42);refine Au Ay 1 [] O (Az ⟨O,_,[],Bi O,List.nil_sublist _,?_⟩);exact⟨pI Ac,O⟩
  (try simp only[sd] at c42);refine A1 (Au Ay 1 [] O (Az ⟨O,_,[],Bi O,List.nil_sublist _,?_⟩));exact⟨pI Ac,O⟩
 (try simp only[sd] at c41);refine A2 (Ar Ay 2 [] O (Av O (fun c43=>?_) (fun c43=>?_)))
 ·(try simp only[sd] at c43);refine Au Ay 1 [] O (Az ⟨O,_,[],Bi O,List.nil_sublist _,?_⟩);exact⟨pI Ac,O⟩
 (try simp only[sd] at c43);refine A1 (Au Ay 1 [] O (Az ⟨O,_,[],Bi O,List.nil_sublist _,?_⟩));exact⟨pI Ac,O⟩
theorem _root_.Go.Al {α:Prop}(h:α:=by simp_all):α:=h
theorem UG : ∀ (k i : Int), EZ Tryz.prog 124 [.p (I k), .p (I i)] (.p (I (below k i))) := by
 intro k i
 refine A5 Tryz.func124 O qK (n := 27) O O ?_
 refine Au Ay 1 [] O ?_
 refine As ?_
 refine As ?_
 refine BS [0, 1, 4] 26 (fun y => y = .p (.bool ((i == 1 && (k == 5 || k == 6 || k == 7)) || (i == 2 && k == 11)))) ?_ ?_
 ·refine A2 ?_
  refine Ax Ay 3 [] O ?_
  refine BL 7 O (fun g1 => ?_) (fun g1 => ?_)
  ·(try simp only [sd] at g1)
   refine Ax Ay 3 [] O ?_
   refine BL 10 O (fun g2 => ?_) (fun g2 => ?_)
   ·(try simp only [sd] at g2)
    refine Ax Ay 4 [] O ?_
    refine BL 14 O (fun g3 => ?_) (fun g3 => ?_)
    ·(try simp only [sd] at g3)
     refine Ax Ay 5 [] O ?_
     refine BL 19 O (fun g4 => ?_) (fun g4 => ?_)
     ·(try simp only [sd] at g4)
      refine Ar Ay 7 [] O ?_
      exact ⟨O, O, AK, pB Al, ⟨O, O, O, Ap⟩⟩
     (try simp only [sd] at g4)
     refine Ax Ay 3 [] O ?_
     refine BL 22 O (fun g5 => ?_) (fun g5 => ?_)
     ·(try simp only [sd] at g5)
      refine Ar Ay 4 [] O ?_
      exact ⟨O, O, AK, pB Al, ⟨O, O, O, Ap⟩⟩
     (try simp only [sd] at g5)
     refine Ar Ay 4 [] O ?_
     exact ⟨O, O, AK, pB Al, ⟨O, O, O, Ap⟩⟩
    (try simp only [sd] at g3)
    refine Ax Ay 5 [] O ?_
    refine BL 19 O (fun g6 => ?_) (fun g6 => ?_)
    ·(try simp only [sd] at g6)
     refine Ar Ay 7 [] O ?_
     exact ⟨O, O, AK, pB Al, ⟨O, O, O, Ap⟩⟩
    (try simp only [sd] at g6)
    refine Ax Ay 3 [] O ?_
    refine BL 22 O (fun g7 => ?_) (fun g7 => ?_)
    ·(try simp only [sd] at g7)
     refine Ar Ay 4 [] O ?_
     exact ⟨O, O, AK, pB Al, ⟨O, O, O, Ap⟩⟩
    (try simp only [sd] at g7)
    refine Ar Ay 4 [] O ?_
    exact ⟨O, O, AK, pB Al, ⟨O, O, O, Ap⟩⟩
   (try simp only [sd] at g2)
   refine Ax Ay 4 [] O ?_
   refine BL 14 O (fun g8 => ?_) (fun g8 => ?_)
   ·(try simp only [sd] at g8)
    refine Ax Ay 5 [] O ?_
    refine BL 19 O (fun g9 => ?_) (fun g9 => ?_)
    ·(try simp only [sd] at g9)
     refine Ar Ay 7 [] O ?_
     exact ⟨O, O, AK, pB Al, ⟨O, O, O, Ap⟩⟩
    (try simp only [sd] at g9)
    refine Ax Ay 3 [] O ?_
    refine BL 22 O (fun g10 => ?_) (fun g10 => ?_)
    ·(try simp only [sd] at g10)
     refine Ar Ay 4 [] O ?_
     exact ⟨O, O, AK, pB Al, ⟨O, O, O, Ap⟩⟩
    (try simp only [sd] at g10)
    refine Ar Ay 4 [] O ?_
    exact ⟨O, O, AK, pB Al, ⟨O, O, O, Ap⟩⟩
   (try simp only [sd] at g8)
   refine Ax Ay 5 [] O ?_
   refine BL 19 O (fun g11 => ?_) (fun g11 => ?_)
   ·(try simp only [sd] at g11)
    refine Ar Ay 7 [] O ?_
    exact ⟨O, O, AK, pB Al, ⟨O, O, O, Ap⟩⟩
   (try simp only [sd] at g11)
   refine Ax Ay 3 [] O ?_
   refine BL 22 O (fun g12 => ?_) (fun g12 => ?_)
   ·(try simp only [sd] at g12)
    refine Ar Ay 4 [] O ?_
    exact ⟨O, O, AK, pB Al, ⟨O, O, O, Ap⟩⟩
   (try simp only [sd] at g12)
   refine Ar Ay 4 [] O ?_
   exact ⟨O, O, AK, pB Al, ⟨O, O, O, Ap⟩⟩
  (try simp only [sd] at g1)
  refine Ax Ay 12 [] O ?_
  refine BL 19 O (fun g13 => ?_) (fun g13 => ?_)
  ·(try simp only [sd] at g13)
   refine Ar Ay 7 [] O ?_
   exact ⟨O, O, AK, pB Al, ⟨O, O, O, Ap⟩⟩
  (try simp only [sd] at g13)
  refine Ax Ay 3 [] O ?_
  refine BL 22 O (fun g14 => ?_) (fun g14 => ?_)
  ·(try simp only [sd] at g14)
   refine Ar Ay 4 [] O ?_
   exact ⟨O, O, AK, pB Al, ⟨O, O, O, Ap⟩⟩
  (try simp only [sd] at g14)
  refine Ar Ay 4 [] O ?_
  exact ⟨O, O, AK, pB Al, ⟨O, O, O, Ap⟩⟩
 rintro _ rfl
 refine Av O (fun c15 => ?_) (fun c15 => ?_)
 ·(try simp only [sd] at c15)
  refine Au Ay 1 [] O ?_
  refine Az ?_
  refine ⟨O, _, [], Bi O, List.nil_sublist _, ?_⟩
  exact ⟨pI (by simp only [below, *]; rfl), O⟩
 (try simp only [sd] at c15)
 refine A1 ?_
 refine Au Ay 1 [] O ?_
 refine Az ?_
 refine ⟨O, _, [], Bi O, List.nil_sublist _, ?_⟩
 exact ⟨pI (by simp only [below, *]; rfl), O⟩
theorem _root_.Go.AA {α:Prop}(h:α:=by first | exact List.Sublist.refl _ | exact .cons _ (.refl _) | exact .cons _ (.cons _ (.refl _)) | exact .cons _ (.cons _ (.cons _ (.refl _))) | exact .cons _ (.cons _ (.cons _ (.cons _ (.refl _))))):α:=h
theorem fc:∀(s:ByteArray),s.size<Dc→F7 Tryz.prog 122 [.p (.str s)] Ge:=by
 intro s hs;simp only[Dc] at hs;refine A5 Tryz.func122 O mh (n:=45) O O (Au Ay 1 [] O (As (As (BS [0,2,3,4,5] 12 Ge ?_ ?_))))
 ·refine A2 (Bq O (Aq O (Fu O O) (Bq O (BL 8 O (fun g1=>?_) (fun g1=>?_)))))
  ·(try simp only[sd] at g1);exact Ar Ay 4 [] O (⟨O,O,AK,⟨_,O⟩,⟨O,O,O,O,O,Ap⟩⟩)
  (try simp only[sd] at g1);exact BB O (BZ O) (BB O (GF kK O) (Ar Ay 2 [] O (⟨O,O,AK,⟨_,O⟩,⟨O,O,O,O,O,Ap⟩⟩)))
 rintro _ ⟨q1,rfl⟩;refine Av O (fun c2=>?_) (fun c2=>?_)
 ·(try simp only[sd] at c2);refine Au Ay 1 [] O (Az (⟨O,_,[],Bi O,List.nil_sublist _,⟨⟨_,O⟩,O⟩⟩))
 (try simp only[sd] at c2);refine A1 (Au Ay 1 [] O (As (Au Ay 1 [] O (A8 (Bb (α:=Nat×Bool) (fun x=>⟨45,mk [(0,.p (.str s)),(3,.p (.bool x.2)),(4,.p (I x.1))],[],[]⟩) (fun x=>s.size - x.1) (fun x=>x.1≤s.size) ((0,true)) Ao ?_ ?_)))))
 ·exact D8 ⟨O,O,O,Ap⟩ AA
 rintro⟨i,f⟩ hi;simp only at hi;refine As (Aw (Ax Ay 2 [] O (Aq O (GF kK O) (Ar Ay 1 [] O (Av O (fun c3=>?_) (fun c3=>?_))))))
 ·(try simp only[sd] at c3);have hi2:i<s.size:=by omega
  obtain⟨ch,hch⟩:∃ch,s[i]?=some ch:=⟨_,getElem?_pos s i hi2⟩;refine A1 (As (A8 (Aw (Ax Ay 2 [] O (Aq O (SP kK O O An (by simpa using hch)) (Ar Ay 1 [] O (As (Au Ay 1 [] O (Av O (fun c4=>?_) (fun c4=>?_))))))))))
  ·(try simp only[sd] at c4);refine As (Aw (Bq O (Ds O O (CA O O (V9 _) (.inl O)) ?_)));rintro _ ⟨q,rfl⟩;refine Ar Ay 1 [] O (Av O (fun c5=>?_) (fun c5=>?_))
   ·(try simp only[sd] at c5);refine Au Ay 1 [] O (Az (⟨O,_,[],Bi O,List.nil_sublist _,⟨⟨_,O⟩,O⟩⟩))
   (try simp only[sd] at c5);exact A1 (Au Ay 1 [] O (Bf (A2 (Ar Ay 3 [] O (⟨(i+1,_),Ab,Ab,D8 ⟨O,O,O,Ap⟩ AA⟩)))))
  (try simp only[sd] at c4);refine A1 (As (Au Ay 2 [] O (Av O (fun c6=>?_) (fun c6=>?_))))
  ·(try simp only[sd] at c6);exact Au Ay 1 [] O (Bf (A2 (Ar Ay 3 [] O (⟨(i+1,_),Ab,Ab,D8 ⟨O,O,O,Ap⟩ AA⟩))))
  (try simp only[sd] at c6);refine A1 (As (BS [0,2,3,4,5] 42 Ge ?_ ?_))
  ·refine A2 (Bq O (Ds O O (CA O O (V9 _) (.inl O)) ?_));rintro _ ⟨q,rfl⟩;refine Ax Ay 2 [] O (BL 31 O (fun g7=>?_) (fun g7=>?_))
   ·(try simp only[sd] at g7);refine Ax Ay 4 [] O (BL 35 O (fun g8=>?_) (fun g8=>?_))
    ·(try simp only[sd] at g8);refine Ax Ay 3 [] O (BL 38 O (fun g9=>?_) (fun g9=>?_))
     ·(try simp only[sd] at g9);exact Ar Ay 4 [] O (⟨O,O,AK,⟨_,O⟩,⟨O,O,O,O,O,Ap⟩⟩)
     (try simp only[sd] at g9);exact Ar Ay 4 [] O (⟨O,O,AK,⟨_,O⟩,⟨O,O,O,O,O,Ap⟩⟩)
    (try simp only[sd] at g8);exact Ar Ay 7 [] O (⟨O,O,AK,⟨_,O⟩,⟨O,O,O,O,O,Ap⟩⟩)
   (try simp only[sd] at g7);refine Ax Ay 4 [] O (BL 35 O (fun g10=>?_) (fun g10=>?_))
   ·(try simp only[sd] at g10);refine Ax Ay 3 [] O (BL 38 O (fun g11=>?_) (fun g11=>?_))
    ·(try simp only[sd] at g11);exact Ar Ay 4 [] O (⟨O,O,AK,⟨_,O⟩,⟨O,O,O,O,O,Ap⟩⟩)
    (try simp only[sd] at g11);exact Ar Ay 4 [] O (⟨O,O,AK,⟨_,O⟩,⟨O,O,O,O,O,Ap⟩⟩)
   (try simp only[sd] at g10);exact Ar Ay 7 [] O (⟨O,O,AK,⟨_,O⟩,⟨O,O,O,O,O,Ap⟩⟩)
  rintro _ ⟨q14,rfl⟩;refine Av O (fun c12=>?_) (fun c12=>?_)
  ·(try simp only[sd] at c12);refine Au Ay 1 [] O (Az (⟨O,_,[],Bi O,List.nil_sublist _,⟨⟨_,O⟩,O⟩⟩))
  (try simp only[sd] at c12);exact A1 (A2 (Ar Ay 3 [] O (⟨(i+1,_),Ab,Ab,D8 ⟨O,O,O,Ap⟩ AA⟩)))
 (try simp only[sd] at c3);refine Bf (Au Ay 3 [] O (Az (⟨O,_,[],Bi O,List.nil_sublist _,⟨⟨_,O⟩,O⟩⟩)))
theorem j2:∀(l:CV),Mw l→F7 Tryz.prog 148 [LV l] Ge:=by
 intro l hn;obtain⟨lc,lv⟩:=l;have hb:=hn.vars;simp only[Dc] at hb;refine A5 Tryz.func148 O kL (n:=67) O O (Aw (BF O (BN O) fun b1=>Ar Ay 1 [] O (As (As (BS [0,1,2,3,4] 12 Ge ?_ ?_)))))
 ·refine A2 (Ax Ay 4 [0] O (BL 8 O (fun g1=>?_) (fun g1=>?_)))
  ·(try simp only[sd] at g1);exact Ar Ay 4 [] O (⟨O,O,AK,⟨_,O⟩,⟨O,O,O,O,O,Ap⟩⟩)
  (try simp only[sd] at g1);exact Ar Ay 4 [0] O (⟨O,O,AK,⟨_,O⟩,⟨O,O,O,O,O,Ap⟩⟩)
 rintro _ ⟨q1,rfl⟩;refine Av O (fun c2=>?_) (fun c2=>?_)
 ·(try simp only[sd] at c2);refine Au Ay 1 [] O (Az (⟨O,_,[],Bi O,List.nil_sublist _,⟨⟨_,O⟩,O⟩⟩))
 (try simp only[sd] at c2);refine A1 (As (Au Ay 1 [] O (A8 (IS (lv.length) (fun _=>True) (fun i=>⟨67,mk [(1,.ptr b1 0),(3,.p (I i))],[.box b1 ((Bz ⟨lc,lv⟩).map .p)],[]⟩) (0) An (Ap) ?_ ?_))))
 ·exact D8 ⟨O,O,Ap⟩ AA
 intro i hi hC;refine As (Aw (Ax Ay 3 [0] O (Aq O (Cy CS O) (Ar Ay 1 [] O (Av O (fun c3=>?_) (fun c3=>?_))))))
 ·(try simp only[sd] at c3);have hi2:i<lv.length:=by simp at c3;omega
  obtain⟨v,hv⟩:=A6 hi2;obtain⟨w,hw⟩:=A6 (l:=lv) (i:=i - 1) An;refine A1 (As (A8 (Aw (Ax Ay 3 [0] O (Aq O (A4 CS O O An (Ci hv) (O)) (Aq O (BM NA O (O)) (BF O (A7 Fp O) fun b4=>Ar Ay 1 [0,0] O (As (As (BS [0,1,2,3,4] 42 Ge ?_ ?_))))))))))
  ·refine A2 (Ax Ay 4 [0] O (BL 28 O (fun g4=>?_) (fun g4=>?_)))
   ·(try simp only[sd] at g4);refine Ax Ay 5 [] O (BL 33 O (fun g5=>?_) (fun g5=>?_))
    ·(try simp only[sd] at g5);refine Ax Ay 5 [] O (BL 38 O (fun g6=>?_) (fun g6=>?_))
     ·(try simp only[sd] at g6);exact Ar Ay 4 [] O (⟨O,O,AK,⟨_,O⟩,⟨O,O,O,O,O,Ap⟩⟩)
     (try simp only[sd] at g6);exact Ar Ay 4 [0] O (⟨O,O,AK,⟨_,O⟩,⟨O,O,O,O,O,Ap⟩⟩)
    (try simp only[sd] at g5);refine Ax Ay 5 [0] O (BL 38 O (fun g7=>?_) (fun g7=>?_))
    ·(try simp only[sd] at g7);exact Ar Ay 4 [] O (⟨O,O,AK,⟨_,O⟩,⟨O,O,O,O,O,Ap⟩⟩)
    (try simp only[sd] at g7);exact Ar Ay 4 [0] O (⟨O,O,AK,⟨_,O⟩,⟨O,O,O,O,O,Ap⟩⟩)
   (try simp only[sd] at g4);refine Ax Ay 5 [0] O (BL 33 O (fun g8=>?_) (fun g8=>?_))
   ·(try simp only[sd] at g8);refine Ax Ay 5 [] O (BL 38 O (fun g9=>?_) (fun g9=>?_))
    ·(try simp only[sd] at g9);exact Ar Ay 4 [] O (⟨O,O,AK,⟨_,O⟩,⟨O,O,O,O,O,Ap⟩⟩)
    (try simp only[sd] at g9);exact Ar Ay 4 [0] O (⟨O,O,AK,⟨_,O⟩,⟨O,O,O,O,O,Ap⟩⟩)
   (try simp only[sd] at g8);refine Ax Ay 5 [0] O (BL 38 O (fun g10=>?_) (fun g10=>?_))
   ·(try simp only[sd] at g10);exact Ar Ay 4 [] O (⟨O,O,AK,⟨_,O⟩,⟨O,O,O,O,O,Ap⟩⟩)
   (try simp only[sd] at g10);exact Ar Ay 4 [0] O (⟨O,O,AK,⟨_,O⟩,⟨O,O,O,O,O,Ap⟩⟩)
  rintro _ ⟨q7,rfl⟩;refine Av O (fun c11=>?_) (fun c11=>?_)
  ·(try simp only[sd] at c11);refine Au Ay 1 [] O (Az (⟨O,_,[],Bi O,List.nil_sublist _,⟨⟨_,O⟩,O⟩⟩))
  (try simp only[sd] at c11);refine A1 (As (As (BS [0,1,2,3,4] 56 Ge ?_ ?_)))
  ·refine Bt (fun k=>false) Dn (BP Ay 3 [] O (Du 45 O (fun g12=>?_) (fun g12=>?_)))
   ·(try simp only[sd] at g12);refine BP Ay 4 [1] O ?_;refine CZ O (fun _=>A4 CS O O (by simp_all;omega) (by rw[show ((i:Int) - 1).toNat=i - 1 by omega];exact Ci hw) (O)) Ap ?_;exact Bj Ay 6 [0] O (⟨O,O,AK,⟨_,O⟩,⟨O,O,O,O,O,Ap⟩⟩)
   (try simp only[sd] at g12);exact Bj Ay 11 [] O (⟨O,O,AK,⟨_,O⟩,⟨O,O,O,O,O,Ap⟩⟩)
  rintro _ ⟨q9,rfl⟩;refine Av O (fun c13=>?_) (fun c13=>?_)
  ·(try simp only[sd] at c13);refine Au Ay 1 [] O (Az (⟨O,_,[],Bi O,List.nil_sublist _,⟨⟨_,O⟩,O⟩⟩))
  (try simp only[sd] at c13);refine A1 (As (BS [0,1,2,3,4] 66 Ge ?_ ?_))
  ·refine A2 (Ax Ay 4 [1] O (BL 60 O (fun g14=>?_) (fun g14=>?_)))
   ·(try simp only[sd] at g14);exact Ar Ay 6 [0,1] O (⟨O,O,AK,⟨_,O⟩,⟨O,O,O,O,O,Ap⟩⟩)
   (try simp only[sd] at g14);exact Ar Ay 6 [] O (⟨O,O,AK,⟨_,O⟩,⟨O,O,O,O,O,Ap⟩⟩)
  rintro _ ⟨q11,rfl⟩;refine Av O (fun c15=>?_) (fun c15=>?_)
  ·(try simp only[sd] at c15);refine Au Ay 1 [] O (Az (⟨O,_,[],Bi O,List.nil_sublist _,⟨⟨_,O⟩,O⟩⟩))
  (try simp only[sd] at c15);exact A1 (A2 (Ar Ay 3 [] O (⟨by omega,trivial,D8 ⟨rfl,rfl,trivial⟩ AA⟩)))
 (try simp only[sd] at c3);refine Bf (Au Ay 1 [] O (Az (⟨O,_,[],Bi O,List.nil_sublist _,⟨⟨_,O⟩,O⟩⟩)))
theorem jb:∀(l:CV) (a b:Int),Mw l→F7 Tryz.prog 123 [LV l,.p (I a),.p (I b)] Yr:=by
 intro l pa pb hn;have hn0:=hn;obtain⟨lc,lv⟩:=l;have hb:=hn.vars;simp only[Dc] at hb;refine A5 Tryz.func123 O pz (n:=61) O O (Aw (BF O (BN O) fun b3=>Ar Ay 1 [] O (As (Aw (Aq O (BT (i:=0) DY O O O) (Ds O O (CA O O (j2 _ hn0) (.inl O)) ?_))))));rintro _ ⟨q,rfl⟩;refine Ar Ay 1 [] O (Av O (fun c1=>?_) (fun c1=>?_))
 ·(try simp only[sd] at c1);refine Au Ay 1 [] O (Az (⟨O,_,[],Bi O,List.nil_sublist _,⟨⟨_,O⟩,O⟩⟩))
 (try simp only[sd] at c1);refine A1 (As (Au Ay 1 [] O (A8 (IS (lv.length) (fun _=>True) (fun i=>⟨61,mk [(1,.p (I pa)),(2,.p (I pb)),(3,.ptr b3 0),(7,.p (I i))],[.box b3 ((Bz ⟨lc,lv⟩).map .p)],[]⟩) (0) An (Ap) ?_ ?_))))
 ·exact D8 ⟨O,O,O,O,Ap⟩ AA
 intro i hi hC;refine As (Aw (Ax Ay 3 [0] O (Aq O (Cy CS O) (Ar Ay 1 [] O (Av O (fun c2=>?_) (fun c2=>?_))))))
 ·(try simp only[sd] at c2);have hi2:i<lv.length:=by simp at c2;omega
  obtain⟨v,hv⟩:=A6 hi2;refine A1 (As (A8 (As (BS [0,1,2,3,6,7,8] 35 Ge ?_ ?_))))
  ·refine A2 (Ax Ay 3 [0] O (Aq O (A4 CS O O An (Ci hv) (O)) (Ax Ay 4 [] O (BL 26 O (fun g3=>?_) (fun g3=>?_)))))
   ·(try simp only[sd] at g3);exact Ax Ay 3 [0] O (BB O (A4 CS O O An (Ci hv) (O)) (Ar Ay 5 [] O (⟨O,O,AK,⟨_,O⟩,⟨O,O,O,O,O,O,O,Ap⟩⟩)))
   (try simp only[sd] at g3);exact Ar Ay 9 [] O (⟨O,O,AK,⟨_,O⟩,⟨O,O,O,O,O,O,O,Ap⟩⟩)
  rintro _ ⟨q6,rfl⟩;refine Av O (fun c4=>?_) (fun c4=>?_)
  ·(try simp only[sd] at c4);refine Au Ay 1 [] O (Az (⟨O,_,[],Bi O,List.nil_sublist _,⟨⟨_,O⟩,O⟩⟩))
  (try simp only[sd] at c4);exact A1 (A2 (Ar Ay 3 [] O (⟨by omega,trivial,D8 ⟨rfl,rfl,rfl,rfl,trivial⟩ AA⟩)))
 (try simp only[sd] at c2);refine Bf (As (Au Ay 1 [] O (A8 (IS (lv.length) (fun _=>True) (fun i=>⟨61,mk [(1,.p (I pa)),(2,.p (I pb)),(3,.ptr b3 0),(8,.p (I i))],[.box b3 ((Bz ⟨lc,lv⟩).map .p)],[]⟩) (0) An (Ap) ?_ ?_))))
 ·exact D8 ⟨O,O,O,O,Ap⟩ AA
 intro i hi hC;refine As (Aw (Ax Ay 3 [0] O (Aq O (Cy CS O) (Ar Ay 1 [] O (Av O (fun c5=>?_) (fun c5=>?_))))))
 ·(try simp only[sd] at c5);have hi2:i<lv.length:=by simp at c5;omega
  obtain⟨v,hv⟩:=A6 hi2;refine A1 (As (A8 (As (BS [0,1,2,3,6,7,8] 60 Ge ?_ ?_))))
  ·refine A2 (Ax Ay 3 [0] O (Aq O (A4 CS O O An (Ci hv) (O)) (Ax Ay 4 [] O (BL 50 O (fun g6=>?_) (fun g6=>?_)))))
   ·(try simp only[sd] at g6);exact Ax Ay 3 [0] O (BB O (A4 CS O O An (Ci hv) (O)) (Ax Ay 2 [] O (BB O (JS O O) (Ar Ay 3 [] O (⟨O,O,AK,⟨_,O⟩,⟨O,O,O,O,O,O,O,Ap⟩⟩)))))
   (try simp only[sd] at g6);exact Ar Ay 10 [] O (⟨O,O,AK,⟨_,O⟩,⟨O,O,O,O,O,O,O,Ap⟩⟩)
  rintro _ ⟨q11,rfl⟩;refine Av O (fun c7=>?_) (fun c7=>?_)
  ·(try simp only[sd] at c7);refine Au Ay 1 [] O (Az (⟨O,_,[],Bi O,List.nil_sublist _,⟨⟨_,O⟩,O⟩⟩))
  (try simp only[sd] at c7);exact A1 (A2 (Ar Ay 3 [] O (⟨by omega,trivial,D8 ⟨rfl,rfl,rfl,rfl,trivial⟩ AA⟩)))
 (try simp only[sd] at c5);refine Bf (Au Ay 1 [] O (Az (⟨O,_,[],Bi O,List.nil_sublist _,⟨⟨_,O⟩,O⟩⟩)))
theorem lX:∀(t:Tm),F7 Tryz.prog 121 [TV t] (fun v=>∃b:Bool,v= .p (.bool b)∧(b=true→W7 t)):=by
 intro t;obtain⟨kd,ix,nm,ls,ks⟩:=t;refine A5 Tryz.func121 O pw (n:=57) O O (Aw (BF O (BN O) fun b1=>Ar Ay 1 [] O (As (As (BS [0,1,2] 19 (fun y=>y= .p (.bool (decide (kd<0)||decide (kd≥13)||((BE ks).length:Int) !=arity kd))) ?_ ?_)))))
 ·refine Bt (fun k=>false) Dn (BP Ay 4 [0] O (Du 6 O (fun g1=>?_) (fun g1=>?_)))
  ·(try simp only[sd] at g1);refine BP Ay 5 [] O (Du 11 O (fun g2=>?_) (fun g2=>?_))
   ·(try simp only[sd] at g2);refine Bj Ay 8 [] O ?_;exact⟨rfl,rfl,AK,pB (by simp_all<;>(try (intros;omega))),⟨rfl,rfl,rfl,trivial⟩⟩
   (try simp only[sd] at g2);refine BP Ay 2 [0] O (CZ O (fun _=>Cy Be O) Ap (BP Ay 2 [0] O (CZ O (fun _=>BC O O (eX kd) O) Ap (Bj Ay 2 [] O ?_))));exact⟨rfl,rfl,AK,pB (by simp_all<;>(try (intros;omega))),⟨rfl,rfl,rfl,trivial⟩⟩
  (try simp only[sd] at g1);refine BP Ay 5 [0] O (Du 11 O (fun g3=>?_) (fun g3=>?_))
  ·(try simp only[sd] at g3);refine Bj Ay 8 [] O ?_;exact⟨rfl,rfl,AK,pB (by simp_all<;>(try (intros;omega))),⟨rfl,rfl,rfl,trivial⟩⟩
  (try simp only[sd] at g3);refine BP Ay 2 [0] O (CZ O (fun _=>Cy Be O) Ap (BP Ay 2 [0] O (CZ O (fun _=>BC O O (eX kd) O) Ap (Bj Ay 2 [] O ?_))));exact⟨rfl,rfl,AK,pB (by simp_all<;>(try (intros;omega))),⟨rfl,rfl,rfl,trivial⟩⟩
 rintro _ rfl;refine Av O (fun c4=>?_) (fun c4=>?_)
 ·(try simp only[sd] at c4);refine Au Ay 1 [] O (Az (⟨O,_,[],Bi O,List.nil_sublist _,⟨⟨_,O,?_⟩,O⟩⟩))
  first | exact(fun _=>hf) | exact(fun h=>by cases h)
 (try simp only[sd] at c4);have hf:W7 (.mk kd ix nm ls ks):=by simp[BQ] at c4;exact⟨c4.1.1,c4.1.2,c4.2⟩
 refine A1 (As (As (BS [0,1,2] 32 Ge ?_ ?_)))
 ·refine A2 (Ax Ay 4 [0] O (BL 23 O (fun g5=>?_) (fun g5=>?_)))
  ·(try simp only[sd] at g5);refine Ax Ay 5 [0] O (BL 28 O (fun g6=>?_) (fun g6=>?_))
   ·(try simp only[sd] at g6);exact Ar Ay 4 [0] O (⟨O,O,AK,⟨_,O⟩,⟨O,O,O,Ap⟩⟩)
   (try simp only[sd] at g6);exact Ar Ay 4 [] O (⟨O,O,AK,⟨_,O⟩,⟨O,O,O,Ap⟩⟩)
  (try simp only[sd] at g5);refine Ax Ay 5 [] O (BL 28 O (fun g7=>?_) (fun g7=>?_))
  ·(try simp only[sd] at g7);exact Ar Ay 4 [0] O (⟨O,O,AK,⟨_,O⟩,⟨O,O,O,Ap⟩⟩)
  (try simp only[sd] at g7);exact Ar Ay 4 [] O (⟨O,O,AK,⟨_,O⟩,⟨O,O,O,Ap⟩⟩)
 rintro _ ⟨q3,rfl⟩;refine Av O (fun c8=>?_) (fun c8=>?_)
 ·(try simp only[sd] at c8);refine Au Ay 1 [] O (Az (⟨O,_,[],Bi O,List.nil_sublist _,⟨⟨_,O,?_⟩,O⟩⟩))
  first | exact(fun _=>hf) | exact(fun h=>by cases h)
 (try simp only[sd] at c8);refine A1 (As (As (BS [0,1,2] 40 Ge ?_ ?_)))
 ·refine A2 (Ax Ay 2 [0] O (Aq O (I1 O O) (Bq O (BL 36 O (fun g9=>?_) (fun g9=>?_)))))
  ·(try simp only[sd] at g9);exact Ar Ay 4 [0] O (⟨O,O,AK,⟨_,O⟩,⟨O,O,O,Ap⟩⟩)
  (try simp only[sd] at g9);exact Ar Ay 4 [] O (⟨O,O,AK,⟨_,O⟩,⟨O,O,O,Ap⟩⟩)
 rintro _ ⟨q5,rfl⟩;refine Av O (fun c10=>?_) (fun c10=>?_)
 ·(try simp only[sd] at c10);refine Au Ay 1 [] O (Az (⟨O,_,[],Bi O,List.nil_sublist _,⟨⟨_,O,?_⟩,O⟩⟩))
  first | exact(fun _=>hf) | exact(fun h=>by cases h)
 (try simp only[sd] at c10);refine A1 (As (Au Ay 3 [0] O (Av O (fun c11=>?_) (fun c11=>?_))))
 ·(try simp only[sd] at c11);refine Aw (Ax Ay 2 [0] O (Aq O (Cy EX O) (Ar Ay 2 [] O (Az (⟨O,_,[],Bi O,List.nil_sublist _,⟨⟨_,O,?_⟩,O⟩⟩)))))
  first | exact(fun _=>hf) | exact(fun h=>by cases h)
 (try simp only[sd] at c11);refine A1 (As (BS [0,1] 2 Ge ?_ ?_))
 ·refine A2 (Ax Ay 2 [0] O (Aq O (Cy EX O) (Ax Ay 2 [] O (BL 52 O (fun g12=>?_) (fun g12=>?_)))))
  ·(try simp only[sd] at g12);exact Ar Ay 5 [] O (⟨O,O,AK,⟨_,O⟩,⟨O,O,Ap⟩⟩)
  (try simp only[sd] at g12);exact Ar Ay 5 [0] O (⟨O,O,AK,⟨_,O⟩,⟨O,O,Ap⟩⟩)
 rintro _ ⟨q9,rfl⟩;refine Az (⟨O,_,[],Bi O,List.nil_sublist _,⟨⟨_,O,?_⟩,O⟩⟩)
 first | exact(fun _=>hf) | exact(fun h=>by cases h)
theorem _root_.Go.Ak {α:Prop}(h:α:=by assumption):α:=h
theorem ib:∀(n:Nat) (t:Tm) (d vars params metas levels:Int),size t≤n→Nd t→0≤d→d+n<Dc→F7 Tryz.prog 92 [TV t,.p (I d),.p (I vars),.p (I params),.p (I metas),.p (I levels)] (fun v=>∃e:Int,v= .p (I e)∧(e=0→wf vars metas d t)):=by
 intro n
 induction n with
 | zero=>intro t d vars params metas levels h;cases t;simp[size] at h
 | succ n ih =>
  intro t d vars params metas levels hs hnd hd0 hdn;obtain⟨kd,ix,nm,ls,ks⟩:=t;simp only[size] at hs;simp only[Nd,Iz,Dc] at hnd hdn;obtain⟨hn1,hn2,hn3,hn4,hn5,hn6,hn7⟩:=hnd;refine A5 Tryz.func92 O sO (n:=107) O O (Aw (BF O (BN O) fun b6=>Ar Ay 1 [] O (As (Aw (Aq O (BT (i:=0) BY O O O) (Ds O O (CA O O (lX (.mk kd ix nm ls ks)) (.inl O)) ?_))))));rintro _ ⟨fb,rfl,hfb⟩;refine Ar Ay 1 [] O (Av O (fun c1=>?_) (fun c1=>?_))
  ·(try simp only[sd] at c1);refine Au Ay 1 [] O (Az (⟨O,_,[],Bi O,List.nil_sublist _,⟨⟨_,O,?_⟩,O⟩⟩))
   first | exact(fun h=>absurd h Am) | exact(fun h=>absurd h Ak) | exact(fun _=>⟨hf.1,hf.2.1,hf.2.2,hv1,hv2,LF fun j t ht=>by have:=hC j (by have:=(List.getElem?_eq_some_iff.1 ht).1;omega) t ht;simpa using this⟩)
  (try simp only[sd] at c1);have hf:W7 (.mk kd ix nm ls ks):=hfb (by simpa using c1);refine A1 (As (As (BS [0,1,2,3,4,5,6,12,13,14,15,16] 28 Ge ?_ ?_)))
  ·refine A2 (Ax Ay 4 [0] O (BL 23 O (fun g2=>?_) (fun g2=>?_)))
   ·(try simp only[sd] at g2);refine Ax Ay 2 [0] O (HZ O O O O (CA O O (fc nm hn1) (.inl O)) ?_);rintro _ ⟨q,rfl⟩;exact Ar Ay 2 [] O (⟨O,O,AK,⟨_,O⟩,⟨O,O,O,O,O,O,O,O,O,O,O,O,Ap⟩⟩)
   (try simp only[sd] at g2);exact Ar Ay 5 [] O (⟨O,O,AK,⟨_,O⟩,⟨O,O,O,O,O,O,O,O,O,O,O,O,Ap⟩⟩)
  rintro _ ⟨q3,rfl⟩;refine Av O (fun c3=>?_) (fun c3=>?_)
  ·(try simp only[sd] at c3);refine Au Ay 1 [] O (Az (⟨O,_,[],Bi O,List.nil_sublist _,⟨⟨_,O,?_⟩,O⟩⟩))
   first | exact(fun h=>absurd h Am) | exact(fun h=>absurd h Ak) | exact(fun _=>⟨hf.1,hf.2.1,hf.2.2,hv1,hv2,LF fun j t ht=>by have:=hC j (by have:=(List.getElem?_eq_some_iff.1 ht).1;omega) t ht;simpa using this⟩)
  (try simp only[sd] at c3);refine A1 (As (Aw (Ax Ay 2 [0] O (Aq O (Cy EX O) (Ar Ay 1 [] O (Av O (fun c4=>?_) (fun c4=>?_)))))))
  ·(try simp only[sd] at c4);refine Au Ay 1 [] O (Az (⟨O,_,[],Bi O,List.nil_sublist _,⟨⟨_,O,?_⟩,O⟩⟩))
   first | exact(fun h=>absurd h Am) | exact(fun h=>absurd h Ak) | exact(fun _=>⟨hf.1,hf.2.1,hf.2.2,hv1,hv2,LF fun j t ht=>by have:=hC j (by have:=(List.getElem?_eq_some_iff.1 ht).1;omega) t ht;simpa using this⟩)
  (try simp only[sd] at c4);refine A1 (As (Au Ay 1 [] O (A8 (IS (ls.length) (fun _=>True) (fun i=>⟨107,mk [(1,.p (I d)),(2,.p (I vars)),(3,.p (I params)),(4,.p (I metas)),(5,.p (I levels)),(6,.ptr b6 0),(13,.p (I i))],[.box b6 ((BO (.mk kd ix nm ls ks)).map .p)],[]⟩) (0) An (Ap) ?_ ?_))))
  ·exact D8 ⟨O,O,O,O,O,O,O,Ap⟩ AA
  intro i hi hC;refine As (Aw (Ax Ay 3 [0] O (Aq O (Cy EX O) (Ar Ay 1 [] O (Av O (fun c5=>?_) (fun c5=>?_))))))
  ·(try simp only[sd] at c5);have hi2:i<ls.length:=by simp at c5;omega
   obtain⟨x,hx⟩:=A6 hi2;refine A1 (As (A8 (Aw (Ax Ay 3 [0] O (Aq O (A4 EX O O An (Fs hx) (Dg _)) (Ax Ay 3 [] O (Ds O O (CA O O (jb x params levels (hn3 x (List.mem_of_getElem? hx))) (.inl O)) ?_)))))));rintro _ ⟨le,rfl⟩;refine Ar Ay 1 [] O (Au Ay 2 [] O (Av O (fun c6=>?_) (fun c6=>?_)))
   ·(try simp only[sd] at c6);refine Au Ay 2 [] O (Az (⟨O,_,[],Bi O,List.nil_sublist _,⟨⟨_,O,?_⟩,O⟩⟩))
    first | exact(fun h=>absurd h Am) | exact(fun h=>absurd h Ak) | exact(fun _=>⟨hf.1,hf.2.1,hf.2.2,hv1,hv2,LF fun j t ht=>by have:=hC j (by have:=(List.getElem?_eq_some_iff.1 ht).1;omega) t ht;simpa using this⟩)
   (try simp only[sd] at c6);exact A1 (A2 (Ar Ay 3 [] O (⟨by omega,trivial,D8 ⟨rfl,rfl,rfl,rfl,rfl,rfl,rfl,trivial⟩ AA⟩)))
  (try simp only[sd] at c5);refine Bf (As (As (BS [0,1,2,3,4,5,6,12,13,14,15,16] 66 (fun y=>y= .p (.bool (kd==0&&(decide (ix<0)||decide (ix - d≥vars))))) ?_ ?_)))
  ·refine A2 (Ax Ay 4 [0] O (BL 54 O (fun g7=>?_) (fun g7=>?_)))
   ·(try simp only[sd] at g7);refine Ax Ay 4 [0] O (BL 58 O (fun g8=>?_) (fun g8=>?_))
    ·(try simp only[sd] at g8);refine Ar Ay 8 [] O ?_;exact⟨rfl,rfl,AK,pB (by simp_all<;>(try (intros;omega))),⟨rfl,rfl,rfl,rfl,rfl,rfl,rfl,rfl,rfl,rfl,rfl,rfl,trivial⟩⟩
    (try simp only[sd] at g8);refine Ar Ay 8 [0] O ?_;exact⟨rfl,rfl,AK,pB (by simp_all<;>(try (intros;omega))),⟨rfl,rfl,rfl,rfl,rfl,rfl,rfl,rfl,rfl,rfl,rfl,rfl,trivial⟩⟩
   (try simp only[sd] at g7);refine Ar Ay 12 [] O ?_;exact⟨rfl,rfl,AK,pB (by simp_all<;>(try (intros;omega))),⟨rfl,rfl,rfl,rfl,rfl,rfl,rfl,rfl,rfl,rfl,rfl,rfl,trivial⟩⟩
  rintro _ rfl;refine Av O (fun c9=>?_) (fun c9=>?_)
  ·(try simp only[sd] at c9);refine Au Ay 1 [] O (Az (⟨O,_,[],Bi O,List.nil_sublist _,⟨⟨_,O,?_⟩,O⟩⟩))
   first | exact(fun h=>absurd h Am) | exact(fun h=>absurd h Ak) | exact(fun _=>⟨hf.1,hf.2.1,hf.2.2,hv1,hv2,LF fun j t ht=>by have:=hC j (by have:=(List.getElem?_eq_some_iff.1 ht).1;omega) t ht;simpa using this⟩)
  (try simp only[sd] at c9);have hv1:kd=0→0≤ix∧ix - d<vars:=by intro h;simp[h] at c9;omega
  refine A1 (As (As (BS [0,1,2,3,4,5,6,12,13,14,15,16] 80 (fun y=>y= .p (.bool (kd==12&&(decide (ix<0)||decide (ix≥metas))))) ?_ ?_)))
  ·refine A2 (Ax Ay 4 [0] O (BL 70 O (fun g10=>?_) (fun g10=>?_)))
   ·(try simp only[sd] at g10);refine Ax Ay 4 [0] O (BL 74 O (fun g11=>?_) (fun g11=>?_))
    ·(try simp only[sd] at g11);refine Ar Ay 6 [] O ?_;exact⟨rfl,rfl,AK,pB (by simp_all<;>(try (intros;omega))),⟨rfl,rfl,rfl,rfl,rfl,rfl,rfl,rfl,rfl,rfl,rfl,rfl,trivial⟩⟩
    (try simp only[sd] at g11);refine Ar Ay 6 [0] O ?_;exact⟨rfl,rfl,AK,pB (by simp_all<;>(try (intros;omega))),⟨rfl,rfl,rfl,rfl,rfl,rfl,rfl,rfl,rfl,rfl,rfl,rfl,trivial⟩⟩
   (try simp only[sd] at g10);refine Ar Ay 10 [] O ?_;exact⟨rfl,rfl,AK,pB (by simp_all<;>(try (intros;omega))),⟨rfl,rfl,rfl,rfl,rfl,rfl,rfl,rfl,rfl,rfl,rfl,rfl,trivial⟩⟩
  rintro _ rfl;refine Av O (fun c12=>?_) (fun c12=>?_)
  ·(try simp only[sd] at c12);refine Au Ay 1 [] O (Az (⟨O,_,[],Bi O,List.nil_sublist _,⟨⟨_,O,?_⟩,O⟩⟩))
   first | exact(fun h=>absurd h Am) | exact(fun h=>absurd h Ak) | exact(fun _=>⟨hf.1,hf.2.1,hf.2.2,hv1,hv2,LF fun j t ht=>by have:=hC j (by have:=(List.getElem?_eq_some_iff.1 ht).1;omega) t ht;simpa using this⟩)
  (try simp only[sd] at c12);have hv2:kd=12→0≤ix∧ix<metas:=by intro h;simp[h] at c12;omega
  refine A1 (As (Au Ay 1 [] O (A8 ?_)));refine IS (ks.length) (fun i=>∀j,j<i→∀t,ks[j]?=some t→wf vars metas (d+below kd j) t) (fun i=>⟨107,mk [(1,.p (I d)),(2,.p (I vars)),(3,.p (I params)),(4,.p (I metas)),(5,.p (I levels)),(6,.ptr b6 0),(15,.p (I i))],[.box b6 ((BO (.mk kd ix nm ls ks)).map .p)],[]⟩) (0) An (fun j h=>by omega) ?_ ?_
  ·exact D8 ⟨O,O,O,O,O,O,O,Ap⟩ AA
  intro i hi hC;refine As (Aw (Ax Ay 3 [0] O (Aq O (Cy Be O) (Ar Ay 1 [] O (Av O (fun c13=>?_) (fun c13=>?_))))))
  ·(try simp only[sd] at c13);have hi2:i<ks.length:=by simp[BQ] at c13;omega
   obtain⟨x,hx⟩:=A6 hi2;have hbl:=C0 kd i;refine A1 (As (A8 (As (Bt (fun k=>Nat.beq k 15) Dn (BP Ay 3 [0] O (BG O (fun _=>A4 Be O O An (Bd hx) (BD _)) Ap (BP Ay 5 [0] O (BG O (fun _=>BC O O (UG kd i) O) Ap (BP Ay 5 [] O ?_)))))))));refine J2 [] rfl rfl (CA rfl rfl (ih x (d+below kd i) vars params metas levels (by have:=Cc hx;omega) (DQ hn5 hx) (by have:=C0 kd i;omega) (by have:=C0 kd i;simp only[Dc];omega)) (.inl rfl)) Aj (⟨_,1,rfl,fun h=>absurd h Am⟩) (by repeat' first | exact trivial | refine And.intro ?_ ?_ | exact Or.inl Aj | (refine Or.inr (And.intro ?_ ?_)<;>repeat (first | exact List.Mem.head _ | apply List.Mem.tail))) ?_;rintro _ ⟨ce,rfl,hce⟩;refine⟨Ap,?_⟩;refine Bj Ay 1 [] O (Au Ay 2 [] O (Av O (fun c14=>?_) (fun c14=>?_)))
   ·(try simp only[sd] at c14);refine Au Ay 2 [] O (Az (⟨O,_,[],Bi O,List.nil_sublist _,⟨⟨_,O,?_⟩,O⟩⟩))
    first | exact(fun h=>absurd h Am) | exact(fun h=>absurd h Ak) | exact(fun _=>⟨hf.1,hf.2.1,hf.2.2,hv1,hv2,LF fun j t ht=>by have:=hC j (by have:=(List.getElem?_eq_some_iff.1 ht).1;omega) t ht;simpa using this⟩)
   (try simp only[sd] at c14);have hce0:=hce (by simpa using c14);exact A1 (A2 (Ar Ay 3 [] O (⟨by omega,Cu hC hx hce0,D8 ⟨rfl,rfl,rfl,rfl,rfl,rfl,rfl,trivial⟩ AA⟩)))
  (try simp only[sd] at c13);have hi2:i=ks.length:=by simp[BQ] at c13;omega
  refine Bf (Au Ay 1 [] O (Az (⟨O,_,[],Bi O,List.nil_sublist _,⟨⟨_,O,?_⟩,O⟩⟩)))
  first | exact(fun h=>absurd h Am) | exact(fun h=>absurd h Ak) | exact(fun _=>⟨hf.1,hf.2.1,hf.2.2,hv1,hv2,LF fun j t ht=>by have:=hC j (by have:=(List.getElem?_eq_some_iff.1 ht).1;omega) t ht;simpa using this⟩)
theorem gw:∀(a b:CV),a.vars.length<Dc→EZ Tryz.prog 80 [LV a,LV b] (.p (.bool (NV a b))):=by
 intro a b hb;obtain⟨ac,av⟩:=a;obtain⟨bc,bv⟩:=b;simp only[Dc] at hb;refine A5 Tryz.func80 O qb (n:=38) O O (Aw (BF O (BN O) fun b2=>BF O (BN O) fun b3=>Ar Ay 1 [] O (As (As (BS [0,1,2,3,4,5] 19 (fun y=>y= .p (.bool (ac !=bc||(av.length:Int) !=bv.length))) ?_ ?_)))))
 ·refine A2 (Ax Ay 6 [1,0] O (BL 11 O (fun g1=>?_) (fun g1=>?_)))
  ·(try simp only[sd] at g1);exact Ar Ay 8 [] O (⟨O,O,AK,pB Al,⟨O,O,O,O,O,O,Ap⟩⟩)
  (try simp only[sd] at g1);exact Ax Ay 2 [1] O (BB O (Cy CS O) (Ax Ay 2 [0] O (BB O (Cy CS O) (Ar Ay 2 [] O (⟨O,O,AK,pB Al,⟨O,O,O,O,O,O,Ap⟩⟩)))))
 rintro _ rfl;refine Av O (fun c2=>?_) (fun c2=>?_)
 ·(try simp only[sd] at c2);refine Au Ay 1 [] O (Az ⟨O,_,[],Bi O,List.nil_sublist _,?_⟩);exact⟨pB (Hu (fun h=>by simp at h;simp[h] at *)).symm,rfl⟩
 (try simp only[sd] at c2);have h1:ac=bc∧av.length=bv.length:=by simp at c2;omega
 refine A1 (As (Au Ay 1 [] O (A8 (IS (av.length) (fun i=>agree av bv i) (fun i=>⟨38,mk [(2,.ptr b2 0),(3,.ptr b3 0),(5,.p (I i))],[.box b3 ((Bz ⟨bc,bv⟩).map .p),.box b2 ((Bz ⟨ac,av⟩).map .p)],[]⟩) (0) An (Nk _ _) ?_ ?_))))
 ·exact D8 ⟨O,O,O,Ap⟩ AA
 intro i hi hC;refine As (Aw (Ax Ay 3 [1] O (Aq O (Cy CS O) (Ar Ay 1 [] O (Av O (fun c3=>?_) (fun c3=>?_))))))
 ·(try simp only[sd] at c3);have hi2:i<av.length:=by simp at c3;omega
  obtain⟨x,hx⟩:=A6 hi2;obtain⟨y,hy⟩:=A6 (l:=bv) (i:=i) An;refine A1 (As (A8 (As (Bt (fun k=>false) Dn (BP Ay 3 [1] O (BG O (fun _=>A4 CS O O An (Ci hx) (O)) Ap (BP Ay 4 [0] O (BG O (fun _=>A4 CS O O An (Ci hy) (O)) Ap (BG O (fun _=>BM NA O (O)) Ap (BG O (fun _=>aH nQ O O) Ap (JJ O Aj (Av O (fun c4=>?_) (fun c4=>?_)))))))))))))
  ·(try simp only[sd] at c4);refine Au Ay 1 [] O (Az ⟨O,_,[],Bi O,List.nil_sublist _,?_⟩);exact⟨pB (Hu (fun h=>by simp at h;obtain⟨_,rfl⟩:=h;rw[hx] at hy;injection hy with hy;subst hy;simp_all)).symm,rfl⟩
  (try simp only[sd] at c4);have hxy:x=y:=by obtain⟨x1,x2⟩:=x;obtain⟨y1,y2⟩:=y;simp at c4;simp[c4]
  subst hxy;exact A1 (A2 (Ar Ay 3 [] O (⟨by omega,Np hC hx hy,D8 ⟨rfl,rfl,rfl,trivial⟩ AA⟩)))
 (try simp only[sd] at c3);have hi2:i=av.length:=by simp at c3;omega
 refine Bf (Au Ay 1 [] O (Az ⟨O,_,[],Bi O,List.nil_sublist _,?_⟩));exact⟨pB (GC (by rw[h1.1,PR hC An An])).symm,O⟩
theorem On:∀(a b:List CV),a.length<Dc→(∀l∈a,Mw l)→EZ Tryz.prog 42 [qM a,qM b] (.p (.bool (NV a b))):=by
 intro a b hb hn;simp only[Dc] at hb;refine A5 Tryz.func42 O qS (n:=27) O O (Au Ay 1 [] O (As (Aw (Bq O (Aq O (Cy EX O) (Bq O (Aq O (Cy EX O) (Ar Ay 1 [] O (Av O (fun c1=>?_) (fun c1=>?_))))))))))
 ·(try simp only[sd] at c1);refine Au Ay 1 [] O (Az ⟨O,_,[],Bi O,List.nil_sublist _,?_⟩);exact⟨pB (Hu (fun h=>by subst h;simp at *)).symm,rfl⟩
 (try simp only[sd] at c1);have h1:a.length=b.length:=by simp at c1;omega
 refine A1 (As (Au Ay 1 [] O (A8 (IS (a.length) (fun i=>agree a b i) (fun i=>⟨27,mk [(0,qM a),(1,qM b),(5,.p (I i))],[],[]⟩) (0) An (Nk _ _) ?_ ?_))))
 ·exact D8 ⟨O,O,O,Ap⟩ AA
 intro i hi hC;refine As (Aw (Ax Ay 2 [] O (Aq O (Cy EX O) (Ar Ay 1 [] O (Av O (fun c2=>?_) (fun c2=>?_))))))
 ·(try simp only[sd] at c2);have hi2:i<a.length:=by simp at c2;omega
  obtain⟨x,hx⟩:=A6 hi2;obtain⟨y,hy⟩:=A6 (l:=b) (i:=i) An;refine A1 (As (A8 (As (Bt (fun k=>false) Dn (BP Ay 2 [] O (BG O (fun _=>A4 EX O O An (Fs hx) (Dg _)) Ap (BP Ay 3 [] O (BG O (fun _=>A4 EX O O An (Fs hy) (Dg _)) Ap (BG O (fun _=>BM DY O (Dg _)) Ap (BG O (fun _=>BC O O (gw x y (hn x (List.mem_of_getElem? hx)).vars) O) Ap (Bj Ay 1 [] O (Av O (fun c3=>?_) (fun c3=>?_)))))))))))))
  ·(try simp only[sd] at c3);refine Au Ay 1 [] O (Az ⟨O,_,[],Bi O,List.nil_sublist _,?_⟩);exact⟨pB (Hu (fun h=>by subst h;rw[hx] at hy;injection hy with hy;subst hy;simp[GC] at *)).symm,rfl⟩
  (try simp only[sd] at c3);have hxy:x=y:=IB.1 (by simpa using c3);subst hxy;exact A1 (A2 (Ar Ay 3 [] O (⟨by omega,Np hC hx hy,D8 ⟨rfl,rfl,rfl,trivial⟩ AA⟩)))
 (try simp only[sd] at c2);have hi2:i=a.length:=by simp at c2;omega
 refine Bf (Au Ay 1 [] O (Az ⟨O,_,[],Bi O,List.nil_sublist _,?_⟩));exact⟨pB (GC (PR hC An An)).symm,O⟩
theorem NI:∀(n:Nat) (a b:Tm),size a≤n→Nd a→EZ Tryz.prog 15 [TV a,TV b] (.p (.bool (NV a b))):=by
 intro n
 induction n with
 | zero=>intro a b h;cases a;simp[size] at h
 | succ n ih =>
  intro a b hs hnd;obtain⟨ak,ai,an,al,aks⟩:=a;obtain⟨bk,bi,bn,bl,bks⟩:=b;simp only[size] at hs;simp only[Nd,Dc] at hnd;obtain⟨hn1,hn2,hn3,hn4,hn5,hn6⟩:=hnd;refine A5 Tryz.func15 O sZ (n:=61) O O (Aw (BF O (BN O) fun b2=>BF O (BN O) fun b3=>Ar Ay 1 [] O (As (As (BS [0,1,2,3,4,5] 41 (fun y=>y= .p (.bool (ak !=bk||ai !=bi|| !(an.toList==bn.toList)|| !(NV al bl)||(((BE aks).length:Int) !=(BE bks).length)))) ?_ ?_)))))
  ·refine A2 (Ax Ay 6 [1,0] O (BL 11 O (fun g1=>?_) (fun g1=>?_)))
   ·(try simp only[sd] at g1);refine Ax Ay 7 [] O (BL 18 O (fun g2=>?_) (fun g2=>?_))
    ·(try simp only[sd] at g2);refine Ax Ay 7 [] O (BL 25 O (fun g3=>?_) (fun g3=>?_))
     ·(try simp only[sd] at g3);refine Ax Ay 8 [] O (BL 33 O (fun g4=>?_) (fun g4=>?_))
      ·(try simp only[sd] at g4);exact Ar Ay 8 [] O (⟨O,O,AK,pB Al,⟨O,O,O,O,O,O,Ap⟩⟩)
      (try simp only[sd] at g4);exact Ax Ay 2 [1] O (BB O (Cy Be O) (Ax Ay 2 [0] O (BB O (Cy Be O) (Ar Ay 2 [] O (⟨O,O,AK,pB Al,⟨O,O,O,O,O,O,Ap⟩⟩)))))
     (try simp only[sd] at g3);refine Ax Ay 4 [1,0] O (BB O (BC O O (On al bl hn2 hn3) O) (Ax Ay 3 [] O (BL 33 O (fun g5=>?_) (fun g5=>?_))))
     ·(try simp only[sd] at g5);exact Ar Ay 8 [] O (⟨O,O,AK,pB Al,⟨O,O,O,O,O,O,Ap⟩⟩)
     (try simp only[sd] at g5);exact Ax Ay 2 [1] O (BB O (Cy Be O) (Ax Ay 2 [0] O (BB O (Cy Be O) (Ar Ay 2 [] O (⟨O,O,AK,pB Al,⟨O,O,O,O,O,O,Ap⟩⟩)))))
    (try simp only[sd] at g2);refine Ax Ay 4 [1,0] O (BB O (I1 O O) (Ax Ay 2 [] O (BL 25 O (fun g6=>?_) (fun g6=>?_))))
    ·(try simp only[sd] at g6);refine Ax Ay 8 [] O (BL 33 O (fun g7=>?_) (fun g7=>?_))
     ·(try simp only[sd] at g7);exact Ar Ay 8 [] O (⟨O,O,AK,pB Al,⟨O,O,O,O,O,O,Ap⟩⟩)
     (try simp only[sd] at g7);exact Ax Ay 2 [1] O (BB O (Cy Be O) (Ax Ay 2 [0] O (BB O (Cy Be O) (Ar Ay 2 [] O (⟨O,O,AK,pB Al,⟨O,O,O,O,O,O,Ap⟩⟩)))))
    (try simp only[sd] at g6);refine Ax Ay 4 [1,0] O (BB O (BC O O (On al bl hn2 hn3) O) (Ax Ay 3 [] O (BL 33 O (fun g8=>?_) (fun g8=>?_))))
    ·(try simp only[sd] at g8);exact Ar Ay 8 [] O (⟨O,O,AK,pB Al,⟨O,O,O,O,O,O,Ap⟩⟩)
    (try simp only[sd] at g8);exact Ax Ay 2 [1] O (BB O (Cy Be O) (Ax Ay 2 [0] O (BB O (Cy Be O) (Ar Ay 2 [] O (⟨O,O,AK,pB Al,⟨O,O,O,O,O,O,Ap⟩⟩)))))
   (try simp only[sd] at g1);refine Ax Ay 7 [1,0] O (BL 18 O (fun g9=>?_) (fun g9=>?_))
   ·(try simp only[sd] at g9);refine Ax Ay 7 [] O (BL 25 O (fun g10=>?_) (fun g10=>?_))
    ·(try simp only[sd] at g10);refine Ax Ay 8 [] O (BL 33 O (fun g11=>?_) (fun g11=>?_))
     ·(try simp only[sd] at g11);exact Ar Ay 8 [] O (⟨O,O,AK,pB Al,⟨O,O,O,O,O,O,Ap⟩⟩)
     (try simp only[sd] at g11);exact Ax Ay 2 [1] O (BB O (Cy Be O) (Ax Ay 2 [0] O (BB O (Cy Be O) (Ar Ay 2 [] O (⟨O,O,AK,pB Al,⟨O,O,O,O,O,O,Ap⟩⟩)))))
    (try simp only[sd] at g10);refine Ax Ay 4 [1,0] O (BB O (BC O O (On al bl hn2 hn3) O) (Ax Ay 3 [] O (BL 33 O (fun g12=>?_) (fun g12=>?_))))
    ·(try simp only[sd] at g12);exact Ar Ay 8 [] O (⟨O,O,AK,pB Al,⟨O,O,O,O,O,O,Ap⟩⟩)
    (try simp only[sd] at g12);exact Ax Ay 2 [1] O (BB O (Cy Be O) (Ax Ay 2 [0] O (BB O (Cy Be O) (Ar Ay 2 [] O (⟨O,O,AK,pB Al,⟨O,O,O,O,O,O,Ap⟩⟩)))))
   (try simp only[sd] at g9);refine Ax Ay 4 [1,0] O (BB O (I1 O O) (Ax Ay 2 [] O (BL 25 O (fun g13=>?_) (fun g13=>?_))))
   ·(try simp only[sd] at g13);refine Ax Ay 8 [] O (BL 33 O (fun g14=>?_) (fun g14=>?_))
    ·(try simp only[sd] at g14);exact Ar Ay 8 [] O (⟨O,O,AK,pB Al,⟨O,O,O,O,O,O,Ap⟩⟩)
    (try simp only[sd] at g14);exact Ax Ay 2 [1] O (BB O (Cy Be O) (Ax Ay 2 [0] O (BB O (Cy Be O) (Ar Ay 2 [] O (⟨O,O,AK,pB Al,⟨O,O,O,O,O,O,Ap⟩⟩)))))
   (try simp only[sd] at g13);refine Ax Ay 4 [1,0] O (BB O (BC O O (On al bl hn2 hn3) O) (Ax Ay 3 [] O (BL 33 O (fun g15=>?_) (fun g15=>?_))))
   ·(try simp only[sd] at g15);exact Ar Ay 8 [] O (⟨O,O,AK,pB Al,⟨O,O,O,O,O,O,Ap⟩⟩)
   (try simp only[sd] at g15);exact Ax Ay 2 [1] O (BB O (Cy Be O) (Ax Ay 2 [0] O (BB O (Cy Be O) (Ar Ay 2 [] O (⟨O,O,AK,pB Al,⟨O,O,O,O,O,O,Ap⟩⟩)))))
  rintro _ rfl;refine Av O (fun c16=>?_) (fun c16=>?_)
  ·(try simp only[sd] at c16);refine Au Ay 1 [] O (Az ⟨O,_,[],Bi O,List.nil_sublist _,?_⟩);exact⟨pB (Hu (fun h=>by simp at h;simp[h,GC] at *)).symm,rfl⟩
  (try simp only[sd] at c16);have h1:ak=bk∧ai=bi∧an.toList=bn.toList∧al=bl∧aks.length=bks.length:=by simp[BQ,IB] at c16;obtain⟨⟨⟨⟨e1,e2⟩,e3⟩,e4⟩,e5⟩:=c16;exact⟨e1,e2,e3,e4,by omega⟩
  refine A1 (As (Au Ay 1 [] O (A8 (IS (aks.length) (fun i=>agree aks bks i) (fun i=>⟨61,mk [(2,.ptr b2 0),(3,.ptr b3 0),(5,.p (I i))],[.box b3 ((BO (.mk bk bi bn bl bks)).map .p),.box b2 ((BO (.mk ak ai an al aks)).map .p)],[]⟩) (0) An (Nk _ _) ?_ ?_))))
  ·exact D8 ⟨O,O,O,Ap⟩ AA
  intro i hi hC;refine As (Aw (Ax Ay 3 [1] O (Aq O (Cy Be O) (Ar Ay 1 [] O (Av O (fun c17=>?_) (fun c17=>?_))))))
  ·(try simp only[sd] at c17);have hi2:i<aks.length:=by simp[BQ] at c17;omega
   obtain⟨x,hx⟩:=A6 hi2;obtain⟨y,hy⟩:=A6 (l:=bks) (i:=i) An;refine A1 (As (A8 (As (Bt (fun k=>false) Dn (BP Ay 3 [1] O (BG O (fun _=>A4 Be O O An (Bd hx) (BD _)) Ap (BP Ay 4 [0] O (BG O (fun _=>A4 Be O O An (Bd hy) (BD _)) Ap (BG O (fun _=>BM BY O (BD _)) Ap (BG O (fun _=>BC O O (ih x y (by have:=Cc hx;omega) (DQ hn5 hx)) O) Ap (Bj Ay 1 [] O (Av O (fun c18=>?_) (fun c18=>?_)))))))))))))
   ·(try simp only[sd] at c18);refine Au Ay 1 [] O (Az ⟨O,_,[],Bi O,List.nil_sublist _,?_⟩);exact⟨pB (Hu (fun h=>by simp at h;obtain⟨_,_,_,_,rfl⟩:=h;rw[hx] at hy;injection hy with hy;subst hy;simp[GC] at *)).symm,rfl⟩
   (try simp only[sd] at c18);have hxy:x=y:=IB.1 (by simpa using c18);subst hxy;exact A1 (A2 (Ar Ay 3 [] O (⟨by omega,Np hC hx hy,D8 ⟨rfl,rfl,rfl,trivial⟩ AA⟩)))
  (try simp only[sd] at c17);have hi2:i=aks.length:=by simp[BQ] at c17;omega
  refine Bf (Au Ay 1 [] O (Az ⟨O,_,[],Bi O,List.nil_sublist _,?_⟩));exact⟨pB (GC (by obtain⟨e1,e2,e3,e4,e5⟩:=h1;rw[e1,e2,e4,Gu e3,PR hC An An])).symm,rfl⟩
end Go.Proofs.YtboammbpdaoojaaGreat
namespace Go.Eu
open Go.Abs
def Iq (TA:GR→List BI) (T0:List BI) (nm:ByteArray) (l:List (ByteArray×GR)):List BI:=match Cr nm l with
 | some e=>TA e
 | none=>T0
section
variable {TA:GR→List BI}{T0:List BI}{nm:ByteArray}{d:CH}{i:Int}{j:Nat}
theorem YQ (h:d.kind=0∨d.kind=1∨d.kind=2):Iq TA T0 nm (FU d i)=if d.name=nm then TA ⟨d.kind,i,0,d.params,d.type⟩ else T0:=by
 unfold Iq FU;rw[if_pos h];simp only[Cr];by_cases e:d.name=nm<;>simp[e]
theorem bL (h:d.kind=3) (hn:d.name=nm):Iq TA T0 nm (FU d i)=TA ⟨3,i,0,d.params,d.type⟩:=by
 unfold Iq FU;rw[if_neg An,if_pos h];simp only[Cr,if_pos hn]
theorem XP (h:d.kind=3) (hn:¬d.name=nm) {c:IX}(hx:d.ctors[j]?=some c) (he:c.name=nm) (hb:∀q,q<j→∀y,d.ctors[q]?=some y→y.name≠nm):Iq TA T0 nm (FU d i)=TA ⟨4,i,j,d.params,c.type⟩:=by
 unfold Iq FU;rw[if_neg An,if_pos h];simp only[Cr,if_neg hn,LN,PG hx he hb,Int.zero_add]
theorem aS (h:d.kind=3) (hn:¬d.name=nm) (hb:∀q:Nat,q<d.ctors.length→∀y,d.ctors[q]?=some y→y.name≠nm):Iq TA T0 nm (FU d i)=if Ug d.name=nm then TA ⟨5,i,0,d.recs.params,d.recs.type⟩ else T0:=by
 unfold Iq FU;rw[if_neg An,if_pos h];simp only[Cr,if_neg hn,LN,Ng hb];by_cases e:Ug d.name=nm<;>simp[e]
theorem Zr (h:d.kind=4) {c:G7}(hx:d.funs[j]?=some c) (he:c.name=nm) (hb:∀q,q<j→∀y,d.funs[q]?=some y→y.name≠nm):Iq TA T0 nm (FU d i)=TA ⟨6,i,j,d.params,c.type⟩:=by
 unfold Iq FU;rw[if_neg An,if_neg An,if_pos h];simp only[RK hx he hb,Int.zero_add]
theorem X9 (h:d.kind=4) (hb:∀q:Nat,q<d.funs.length→∀y,d.funs[q]?=some y→y.name≠nm):Iq TA T0 nm (FU d i)=T0:=by
 unfold Iq FU;rw[if_neg An,if_neg An,if_pos h];simp only[PW hb]
theorem Xn (h:¬(d.kind=0∨d.kind=1∨d.kind=2)) (h3:¬d.kind=3) (h4:¬d.kind=4):Iq TA T0 nm (FU d i)=T0:=by
 unfold Iq FU;rw[if_neg h,if_neg h3,if_neg h4];rfl
theorem dh (h:d.kind=0∨d.kind=1∨d.kind=2):(d.name,(⟨d.kind,i,0,d.params,d.type⟩:GR))∈FU d i:=by
 unfold FU;rw[if_pos h];simp
theorem js (h:d.kind=3):(d.name,(⟨3,i,0,d.params,d.type⟩:GR))∈FU d i:=by
 unfold FU;rw[if_neg An,if_pos h];simp
theorem e8 (h:d.kind=3) {c:IX}(hx:d.ctors[j]?=some c):(c.name,(⟨4,i,j,d.params,c.type⟩:GR))∈FU d i:=by
 unfold FU;rw[if_neg An,if_pos h];have:=S5 (i:=i) (p:=d.params) (k:=0) hx;rw[Int.zero_add] at this;simp[this]
theorem gb (h:d.kind=3):(Ug d.name,(⟨5,i,0,d.recs.params,d.recs.type⟩:GR))∈FU d i:=by
 unfold FU;rw[if_neg An,if_pos h];simp
theorem jD (h:d.kind=4) {c:G7}(hx:d.funs[j]?=some c):(c.name,(⟨6,i,j,d.params,c.type⟩:GR))∈FU d i:=by
 unfold FU;rw[if_neg An,if_neg An,if_pos h];have:=VT (i:=i) (p:=d.params) (k:=0) hx
 rwa [Int.zero_add] at this
end
theorem Wb {nm:ByteArray}{e:GR}:∀{ds:List CH}{i:Nat}{k:Int}{d:CH},ds[i]?=some d→(∀j,j<i→∀y,ds[j]?=some y→Cr nm (FU y (k+j))=none)→Cr nm (FU d (k+i))=some e→findF nm ds k=some e
 | [],i,k,d,h,_,_=>by simp at h
 | a::ds,0,k,d,h,_,hn=>by
  simp at h;subst h;rw[findF];rw[show k+((0:Nat):Int)=k by omega] at hn;rw[hn]
 | a::ds,i+1,k,d,h,hb,hn=>by
  have h0:=hb 0 An a rfl;rw[show k+((0:Nat):Int)=k by omega] at h0;rw[findF,h0];exact Wb (by simpa using h) (fun j hj y hy=>by have:=hb (j+1) An y (by simpa using hy);rwa [show k+((j+1:Nat):Int)=k+1+j by omega] at this) (by rwa [show k+((i+1:Nat):Int)=k+1+i by omega] at hn)
theorem WY {nm:ByteArray}:∀{ds:List CH}{k:Int},(∀j,j<ds.length→∀y,ds[j]?=some y→Cr nm (FU y (k+j))=none)→findF nm ds k=none
 | [],k,_=>rfl
 | a::ds,k,hb=>by
  have h0:=hb 0 Ao a rfl;rw[show k+((0:Nat):Int)=k by omega] at h0;rw[findF,h0];exact WY fun j hj y hy=>by have:=hb (j+1) (by simpa using hj) y (by simpa using hy);rwa [show k+((j+1:Nat):Int)=k+1+j by omega] at this
theorem dF {nm:ByteArray}{e:GR}{ds:List CH}{i:Nat}{d:CH}(hx:ds[i]?=some d) (hb:∀j,j<i→∀y,ds[j]?=some y→Cr nm (FU y j)=none) (he:Cr nm (FU d i)=some e):Bp ds nm=(e,0):=by
 rw[Bp,Wb hx (fun j hj y hy=>by rw[Int.zero_add];exact hb j hj y hy) (by rwa [Int.zero_add])]
theorem eD {nm:ByteArray}{ds:List CH}(hb:∀j,j<ds.length→∀y,ds[j]?=some y→Cr nm (FU y j)=none):Bp ds nm=(bY,9):=by
 rw[Bp,WY fun j hj y hy=>by rw[Int.zero_add];exact hb j hj y hy]
def sW (ds:List CH):Prop:=∀d∈ds,d.kind=0∨Ns d
end Go.Eu
namespace Go.Proofs.YtboammbpdaoojaaGreat
open Go.Abs Go.Eu
theorem _root_.Go.AT {α:Prop}(h:α:=by first | omega | (simp only;omega)):α:=h
theorem UD:∀(l:List ByteArray) (s:ByteArray),(l.length<9000000)→EZ Tryz.prog 56 [.p (.lst (List.map Gk l)),.p (.str s)] (.p (.bool (HQ l s))):=by
 intro l s h1;refine A5 Tryz.func56 O qa (n:=18) O O (Au Ay 1 [] O (As (Au Ay 1 [] O (A8 ?_))));refine Bb (α:=Nat) (fun i=>⟨18,mk [(0,.p (.lst (List.map Gk l))),(1,.p (.str s)),(5,.p (I (i:Int)))],[],[]⟩) (fun i=>l.length - i) (fun i=>i≤l.length∧(∀j,j<i→∀y,l[j]?=some y→y≠s)) 0 (⟨by omega,fun j h=>by omega⟩) ?_ ?_
 ·exact BU ⟨we O,we O,we O,Ap⟩ (leH (is:=[]) O (C3))
 rintro i hC
 try simp only at hC
 obtain⟨hi,hC⟩:=hC;refine As (Aw (Ax Ay 2 [] O (Aq O (BK Gq O (List.length_map _)) (Ar Ay 1 [] O (Av O (fun c=>?_) (fun c=>?_))))))
 ·(try simp only[sd,se] at c);refine A1 (As (A8 (Aw (Ax Ay 2 [] O ?_))));obtain⟨x,hx⟩:=A6 (l:=l) (i:=i) An;refine Aq O (A4 Gq O O An (Ou hx) (O)) (Ax Ay 2 [] O (Aq O (Fu O O) (Bg O (Av O (fun c1=>?_) (fun c1=>?_)))))
  ·(try simp only[sd,se] at c1);refine Au Ay 1 [] O (Az (⟨O,_,_,⟨_,_,O,O,O⟩,(List.nil_sublist _),?_⟩))
   all_goals exact⟨by show (.p (.bool true):AV)=_;rw[dm hx (Gu (by simpa using c1))],rfl⟩
  (try simp only[sd,se] at c1);refine A1 (A2 (Ar Ay 3 [] O ?_));refine⟨(i+1),AT,⟨by omega,Cu (p:=fun _ (y:ByteArray)=>y≠s) hC hx (fun e=>by subst e;simp at c1)⟩,BU ⟨we rfl,we rfl,we rfl,trivial⟩ (leH (is:=[]) rfl (C3))⟩
 (try simp only[sd,se] at c);refine Bf (Au Ay 1 [] O (Az (⟨O,_,_,⟨_,_,O,O,O⟩,(List.nil_sublist _),?_⟩)))
 all_goals exact⟨by show (.p (.bool false):AV)=_;rw[Z4 fun j hj=>hC j An],rfl⟩
theorem _root_.Go.AE {α:Prop}(h:α:=by simp only[List.length_map,List.length_append,List.length_cons,List.length_nil,List.length_take];omega):α:=h
theorem _root_.Go.AP {α:Prop}(h:α:=by first | trivial | omega | simp | (simp;omega)):α:=h
theorem Mf:∀(d:CH),(d.ctors.length<2000000)→(d.funs.length<2000000)→(d.name.size<2000000)→EZ Tryz.prog 57 [.agg ((Bh d).map .p)] (.p (.lst (List.map Gk (C2 d)))):=by
 intro d h1 h2 h3;refine A5 Tryz.func57 O rj (n:=62) O O (Aw (BF O (BN O) fun b1=>Ar Ay 1 [] O (As (Aw (Aq O (A0 Cz O O) (Aq O (A3 (i:=0) DN O O (D2 _)) (Bg O (A8 (As (Au Ay 2 [] O (BS [1,8] 9 (fun y=>y= .p (.bool (decide (d.kind=0∨d.kind=1∨d.kind=2)))) ?_ ?_)))))))))))
 ·refine Av O (fun c=>?_) (fun c=>?_)
  ·(try simp only[sd,se] at c);exact A1 (⟨O,O,(List.Sublist.refl _),(by refine pB (Bool.eq_iff_iff.2 ?_);simp only[beq_iff_eq,decide_eq_true_eq];omega),⟨O,O,Ap⟩⟩)
  (try simp only[sd,se] at c);refine Au Ay 2 [] O (Av O (fun c1=>?_) (fun c1=>?_))
  ·(try simp only[sd,se] at c1);exact A1 (⟨O,O,(List.Sublist.refl _),(by refine pB (Bool.eq_iff_iff.2 ?_);simp only[beq_iff_eq,decide_eq_true_eq];omega),⟨O,O,Ap⟩⟩)
  (try simp only[sd,se] at c1);exact A2 (Ar Ay 2 [] O (⟨O,O,(List.Sublist.refl _),(by refine pB (Bool.eq_iff_iff.2 ?_);simp only[beq_iff_eq,decide_eq_true_eq];omega),⟨O,O,Ap⟩⟩))
 rintro _ rfl;refine Av O (fun c=>?_) (fun c=>?_)
 ·(try simp only[sd,se] at c);refine Aw (Aq O (A0 Cz O O) (Aq O (A3 (i:=0) Ln O O (DH _)) (Aq O (Bl Gq iE O O O O O) (Ar Ay 1 [] O (Az (⟨O,_,_,⟨_,_,O,O,O⟩,(List.nil_sublist _),?_⟩))))))
  all_goals exact⟨by show (.p (.lst (List.map Gk [d.name])):AV)=_;rw[C2,if_pos (by simpa using c)],rfl⟩
 (try simp only[sd,se] at c);refine Au Ay 2 [] O (Av O (fun c1=>?_) (fun c1=>?_))
 ·(try simp only[sd,se] at c1);refine Aw (Aq O (A0 Cz O O) (Aq O (A3 (i:=0) Ln O O (DH _)) (R4 O O (QM (rows:=List.map Gk [d.name]) Gq iE O O O O O) fun b20 cp=>Ar Ay 1 [] O (As (Au Ay 1 [] O (A8 (Bb (α:=Nat×Option Nat×Nat) (fun(i,o,cp1)=>⟨62,mk [(1,.ptr b1 0),(3,.vs o (List.map Gk (d.name::(d.ctors.take i).map IX.name)).length cp1),(4,.p (I (i:Int)))],[.vec o 1 (List.map Gk (d.name::(d.ctors.take i).map IX.name)) cp1,.box b1 ((Bh d).map .p)],[]⟩) (fun(i,o,cp1)=>d.ctors.length - i) (fun(i,o,cp1)=>i≤d.ctors.length) ⟨0,(some b20),cp⟩ AP ?_ ?_)))))))
  ·exact BU ⟨we O,we O,we O,Ap⟩ (leH (is:=[0,1]) O (wl (oe O) (wl (oe O) (C3))))
  rintro⟨i,o,cp1⟩ hC
  try simp only at hC
  have hi:=hC;refine As (Aw (Ax Ay 2 [] O (Aq O (A3 (i:=1) Hg O O (B8 _)) (Aq O (BK HN O (List.length_map _)) (Ar Ay 1 [] O (Av O (fun c2=>?_) (fun c2=>?_)))))))
  ·(try simp only[sd,se] at c2);refine A1 (As (A8 (A2 (Ax Ay 2 [] O (Aq O (A3 (i:=1) Hg O O (B8 _)) (Bq O ?_))))));obtain⟨x,hx⟩:=A6 (l:=d.ctors) (i:=i) An;refine Aq O (A4 HN O O An (ES hx) (D5 _)) (Aq O (By Ik O O) (Aq O (C6 Ln O (Fb _)) (Aq O (Bl Gq iE O O O O O) (Er O O (CK (i:=0) (rows':=List.map Gk [x.name]) Gq Gq iE O O O O O O (Kd _) AE (F3 (f:=Gk) (d.name::(d.ctors.take i).map IX.name) [x.name])) fun o1 cp2=>Ar Ay 1 [] O (A2 (Ar Ay 3 [] O ?_))))));refine⟨⟨i+1,o1,cp2⟩,AT,by omega,BU ⟨we rfl,we (F5 (f:=Gk) ((d.name::(d.ctors.take i).map IX.name)++[x.name]) (by simp[List.take_add_one,hx])),we rfl,trivial⟩ (leH (is:=[0,1]) rfl (wl (FJ (f:=Gk) ((d.name::(d.ctors.take i).map IX.name)++[x.name]) (by simp[List.take_add_one,hx])) (wl (oe rfl) (C3))))⟩
  (try simp only[sd,se] at c2);refine Bf (Aw (Ax Ay 2 [] O (Aq O (A3 (i:=1) Ln O O (DH _)) (Aq O (SF O O (by have:(⟨#[46,114,101,99]⟩:ByteArray).size=4:=rfl;omega)) (Aq O (Bl Gq iE O O O O O) (Er O O (CK (i:=0) (rows':=List.map Gk ([(d.name++⟨#[46,114,101,99]⟩)])) Gq Gq iE O O O O O O (Kd _) AE (F3 (f:=Gk) (d.name::(d.ctors.take i).map IX.name) ([(d.name++⟨#[46,114,101,99]⟩)]))) fun o1 cp2=>Ar Ay 1 [] O (BH (Ce (i:=0) [42,2] O (Dx ⟨O,O,Ap⟩)) (Az (⟨O,_,_,⟨_,_,O,O,O⟩,(List.nil_sublist _),?_⟩)))))))))
  all_goals exact⟨by show (.p (.lst (List.map Gk ((d.name::(d.ctors.take i).map IX.name)++([(d.name++⟨#[46,114,101,99]⟩)])))):AV)=_;rw[C2,if_neg (by simpa using c),if_pos (by simpa using c1),List.take_of_length_le An];rfl,rfl⟩
 (try simp only[sd,se] at c1);refine Au Ay 2 [] O (Av O (fun c2=>?_) (fun c2=>?_))
 ·(try simp only[sd,se] at c2);refine Au Ay 1 [] O (As (Au Ay 1 [] O (A8 (BH (D4 (t:=5) (sz:=1) O) (Bb (α:=Nat×Option Nat×Nat) (fun(i,o,cp)=>⟨62,mk [(1,.ptr b1 0),(5,.vs o (List.map Gk ((d.funs.take i).map G7.name)).length cp),(6,.p (I (i:Int)))],[.vec o 1 (List.map Gk ((d.funs.take i).map G7.name)) cp,.box b1 ((Bh d).map .p)],[]⟩) (fun(i,o,cp)=>d.funs.length - i) (fun(i,o,cp)=>i≤d.funs.length) ⟨0,none,0⟩ AP ?_ ?_)))))
  ·exact BU ⟨we O,we O,we O,Ap⟩ (leH (is:=[0,1]) O (wl (oe O) (wl (oe O) (C3))))
  rintro⟨i,o,cp⟩ hC
  try simp only at hC
  have hi:=hC;refine As (Aw (Ax Ay 2 [] O (Aq O (A3 (i:=1) HY O O (CD _)) (Aq O (BK GB O (List.length_map _)) (Ar Ay 1 [] O (Av O (fun c3=>?_) (fun c3=>?_)))))))
  ·(try simp only[sd,se] at c3);refine A1 (As (A8 (A2 (Ax Ay 2 [] O (Aq O (A3 (i:=1) HY O O (CD _)) (Bq O ?_))))));obtain⟨x,hx⟩:=A6 (l:=d.funs) (i:=i) An;refine Aq O (A4 GB O O An (EO hx) (DJ _)) (Aq O (By Gv O O) (Aq O (C6 Ln O (Ix _)) (Aq O (Bl Gq iE O O O O O) (Er O O (CK (i:=0) (rows':=List.map Gk [x.name]) Gq Gq iE O O O O O O (Kd _) AE (F3 (f:=Gk) ((d.funs.take i).map G7.name) [x.name])) fun o1 cp1=>Ar Ay 1 [] O (A2 (Ar Ay 3 [] O ?_))))));refine⟨⟨i+1,o1,cp1⟩,AT,by omega,BU ⟨we rfl,we (F5 (f:=Gk) (((d.funs.take i).map G7.name)++[x.name]) (by simp[List.take_add_one,hx])),we rfl,trivial⟩ (leH (is:=[0,1]) rfl (wl (FJ (f:=Gk) (((d.funs.take i).map G7.name)++[x.name]) (by simp[List.take_add_one,hx])) (wl (oe rfl) (C3))))⟩
  (try simp only[sd,se] at c3);refine Bf (Au Ay 2 [] O (BH (Ce (i:=0) [5,61,2] O (Dx ⟨O,O,O,Ap⟩)) (Az (⟨O,_,_,⟨_,_,O,O,O⟩,(List.nil_sublist _),?_⟩))))
  all_goals exact⟨by show (.p (.lst (List.map Gk ((d.funs.take i).map G7.name))):AV)=_;rw[C2,if_neg (by simpa using c),if_neg (by simpa using c1),if_pos (by simpa using c2),List.take_of_length_le An],rfl⟩
 (try simp only[sd,se] at c2);refine A1 (Au Ay 1 [] O (BH (D7 2) (Az (⟨O,_,_,⟨_,_,O,O,O⟩,(List.nil_sublist _),?_⟩))))
 all_goals exact⟨by show (.p (.lst (List.map Gk [])):AV)=_;rw[C2,if_neg (by simpa using c),if_neg (by simpa using c1),if_neg (by simpa using c2)],rfl⟩
theorem _root_.Go.AB {α:Prop}(h:α:=by repeat' first | exact trivial | refine And.intro ?_ ?_ | ((refine Or.inr (And.intro ?_ ?_)<;>repeat (first | exact List.Mem.head _ | apply List.Mem.tail));done) | exact Or.inl (by kernel_rfl)):α:=h
theorem _root_.Go.Ae {α:Prop}(h:α:=by simp[V8]):α:=h
set_option maxHeartbeats 2000000 in
theorem Ta:∀(d:CH) (ix:Int) (nm:ByteArray),(d.ctors.length<2000000)→(d.funs.length<2000000)→EZ Tryz.prog 58 [.agg ((Bh d).map .p),.p (I ix),.p (.str nm)] (.agg ((DX (Fl d ix nm)).map .p)):=by
 intro d ix nm h1 h2;refine A5 Tryz.func58 O sX (n:=96) O O (Aw (BF O (BN O) fun b3=>BF O (A7 Hw O) fun b6=>Bg O (Aw (Ax Ay 2 [] O (Aq O (A3 (i:=1) DN O O (Co _)) (Aq O (A0 Cz O O) (Aq O (Bu (i:=1) BY O O (E2 _) (BD _)) (Aq O (CP GH Hw (fj O O O)) (BF O (A7 Hw O) fun b7=>Ar Ay 1 [0,1] O (As (Aw (Aq O (A0 Cz O O) (Aq O (A3 (i:=2) DN O O (D2 _)) (Bg O (A8 (Au Ay 2 [] O (Av O (fun c=>?_) (fun c=>?_))))))))))))))))))
 ·(try simp only[sd,se] at c);refine A2 (Aq O (A0 GH O O) (Aq O (Dz (i:=0) (ds:=(DX (GR.mk 0 ix 0 d.params d.type)).map .p) DN O O O O O O O) (Bg O (Au Ay 2 [0,1,1] O (Az (⟨O,_,_,⟨_,_,O,(A9 (i:=1) Ld O O Ae),O⟩,(List.nil_sublist _),?_⟩))))))
  all_goals exact⟨by show (.agg ((DX (GR.mk 0 ix 0 d.params d.type)).map .p):AV)=_;rw[Na (.inl (by simpa using c)) (k:=0) (by simpa using c)],rfl⟩
 (try simp only[sd,se] at c);refine Au Ay 2 [] O (Av O (fun c1=>?_) (fun c1=>?_))
 ·(try simp only[sd,se] at c1);refine A2 (Aq O (A0 GH O O) (Aq O (Dz (i:=0) (ds:=(DX (GR.mk 1 ix 0 d.params d.type)).map .p) DN O O O O O O O) (Bg O (Au Ay 2 [0,1,1] O (Az (⟨O,_,_,⟨_,_,O,(A9 (i:=1) Ld O O Ae),O⟩,(List.nil_sublist _),?_⟩))))))
  all_goals exact⟨by show (.agg ((DX (GR.mk 1 ix 0 d.params d.type)).map .p):AV)=_;rw[Na (.inr (.inl (by simpa using c1))) (k:=1) (by simpa using c1)],rfl⟩
 (try simp only[sd,se] at c1);refine Au Ay 2 [] O (Av O (fun c2=>?_) (fun c2=>?_))
 ·(try simp only[sd,se] at c2);refine A2 (Aq O (A0 GH O O) (Aq O (Dz (i:=0) (ds:=(DX (GR.mk 2 ix 0 d.params d.type)).map .p) DN O O O O O O O) (Bg O (Au Ay 2 [0,1,1] O (Az (⟨O,_,_,⟨_,_,O,(A9 (i:=1) Ld O O Ae),O⟩,(List.nil_sublist _),?_⟩))))))
  all_goals exact⟨by show (.agg ((DX (GR.mk 2 ix 0 d.params d.type)).map .p):AV)=_;rw[Na (.inr (.inr (by simpa using c2))) (k:=2) (by simpa using c2)],rfl⟩
 (try simp only[sd,se] at c2);refine Au Ay 2 [] O (Av O (fun c3=>?_) (fun c3=>?_))
 ·(try simp only[sd,se] at c3);refine Aw (Aq O (A0 GH O O) (Aq O (Dz (i:=0) (ds:=(DX (GR.mk 3 ix 0 d.params d.type)).map .p) DN O O O O O O O) (Bg O (As (Aw (Ax Ay 2 [] O (Aq O (A3 (i:=2) Ln O O (DH _)) (Aq O (Fu O O) (Bg O (Av O (fun c4=>?_) (fun c4=>?_)))))))))))
  ·(try simp only[sd,se] at c4);refine Au Ay 2 [0,1,1] O (Az (⟨O,_,_,⟨_,_,O,(A9 (i:=1) Ld O O Ae),O⟩,(List.nil_sublist _),?_⟩))
   all_goals exact⟨by show (.agg ((DX (GR.mk 3 ix 0 d.params d.type)).map .p):AV)=_;rw[aD (by simpa using c3) (Gu (by simpa using c4))],rfl⟩
  (try simp only[sd,se] at c4);refine A1 (As (Au Ay 1 [] O (A8 ?_)));refine Bb (α:=Nat) (fun i=>⟨96,mk [(1,.p (I ix)),(2,.p (.str nm)),(3,.ptr b3 0),(6,.ptr b6 0),(8,.p (I (i:Int)))],[.box b6 [.p (I 0),.p (I 0),.p (I 0),.p (I 0),.p (I 0),.p (I 0),.p (.str ⟨#[]⟩),.p (.nils),.p (.nils)],.box b3 ((Bh d).map .p)],[]⟩) (fun i=>d.ctors.length - i) (fun i=>i≤d.ctors.length∧(∀j,j<i→∀y,d.ctors[j]?=some y→y.name≠nm)) 0 (⟨by omega,fun j h=>by omega⟩) ?_ ?_
  ·exact BU ⟨we O,we O,we O,we O,we O,Ap⟩ (leH (is:=[1,2]) O (wl (oe O) (wl (oe O) (C3))))
  rintro i hC
  try simp only at hC
  obtain⟨hi,hC⟩:=hC;refine As (Aw (Ax Ay 2 [] O (Aq O (A3 (i:=1) Hg O O (B8 _)) (Aq O (BK HN O (List.length_map _)) (Ar Ay 1 [] O (Av O (fun c5=>?_) (fun c5=>?_)))))))
  ·(try simp only[sd,se] at c5);refine A1 (As (A8 (Aw (Aq O (A0 Cz O O) (Aq O (A3 (i:=1) Hg O O (B8 _)) (Bq O ?_))))));obtain⟨x,hx⟩:=A6 (l:=d.ctors) (i:=i) An;refine Aq O (A4 HN O O An (ES hx) (D5 _)) (Aq O (By Ik O O) (Aq O (C6 Ln O (Fb _)) (Bq O (Aq O (Fu O O) (Bg O (Av O (fun c6=>?_) (fun c6=>?_)))))))
   ·(try simp only[sd,se] at c6);refine As (Bt (fun k=>false) Dn (BP Ay 3 [] O (CU (j:=1) O O O (fun H i hi=>A3 (i:=i) DN O hi (Co _)) AB Ap (BG O (fun _=>A0 Cz O O) Ap (CU (j:=1) O O O (fun H i hi=>A3 (i:=i) Hg O hi (B8 _)) AB Ap (BG O (fun _=>BZ O) Ap (BG O (fun _=>A4 HN O O An (ES hx) (D5 _)) Ap (BG O (fun _=>By Ik O O) Ap (BG O (fun _=>DC BY O (E4 _) (BD _)) Ap (BG O (fun _=>CP GH Hw (OX O O O O O)) Ap (Bj Ay 1 [0,1] O (Az (⟨O,_,_,⟨_,_,O,(A9 (i:=0) Ld O O Ae),O⟩,(List.nil_sublist _),?_⟩)))))))))))))
    all_goals exact⟨by show (.agg ((DX (GR.mk 4 ix (i:Int) d.params x.type)).map .p):AV)=_;rw[Xi (j:=i) (by simpa using c3) (fun h=>by subst h;simp at c4) hx (Gu (by simpa using c6)) hC],rfl⟩
   (try simp only[sd,se] at c6);refine A1 (A2 (Ar Ay 3 [] O ?_));refine⟨(i+1),AT,⟨by omega,Cu (p:=fun _ (y:IX)=>y.name≠nm) hC hx (fun e=>by subst e;simp at c6)⟩,BU ⟨we rfl,we rfl,we rfl,we rfl,we rfl,trivial⟩ (leH (is:=[0,1]) rfl (wl (oe rfl) (wl (oe rfl) (C3))))⟩
  (try simp only[sd,se] at c5);refine Bf (Aw (Ax Ay 3 [] O (Aq O (A3 (i:=1) DN O O (Dd _)) (Ax Ay 2 [] O (Aq O (Bu (i:=1) BY O O (Ev _) (BD _)) (Aq O (CP GH Hw (ZN O O O O)) (Ar Ay 1 [0,1] O (Az (⟨O,_,_,⟨_,_,O,(A9 (i:=0) Ld O O Ae),O⟩,(List.nil_sublist _),?_⟩)))))))))
  all_goals exact⟨by show (.agg ((DX (GR.mk 5 ix 0 d.recs.params d.recs.type)).map .p):AV)=_;rw[ax (by simpa using c3) (fun h=>by subst h;simp at c4) fun j hj=>hC j An],rfl⟩
 (try simp only[sd,se] at c3);refine Au Ay 1 [] O (A8 ?_);refine Bb (α:=Nat) (fun i=>⟨96,mk [(1,.p (I ix)),(2,.p (.str nm)),(3,.ptr b3 0),(6,.ptr b6 0),(7,.ptr b7 0),(9,.p (I (i:Int)))],[.box b7 ((DX (GR.mk 0 ix 0 d.params d.type)).map .p),.box b6 [.p (I 0),.p (I 0),.p (I 0),.p (I 0),.p (I 0),.p (I 0),.p (.str ⟨#[]⟩),.p (.nils),.p (.nils)],.box b3 ((Bh d).map .p)],[]⟩) (fun i=>d.funs.length - i) (fun i=>i≤d.funs.length∧(∀j,j<i→∀y,d.funs[j]?=some y→y.name≠nm)) 0 (⟨by omega,fun j h=>by omega⟩) ?_ ?_
 ·exact BU ⟨we O,we O,we O,we O,we O,we O,Ap⟩ (leH (is:=[0,1,2]) O (wl (oe O) (wl (oe O) (wl (oe O) (C3)))))
 rintro i hC
 try simp only at hC
 obtain⟨hi,hC⟩:=hC;refine As (Aw (Ax Ay 2 [] O (Aq O (A3 (i:=2) HY O O (CD _)) (Aq O (BK GB O (List.length_map _)) (Ar Ay 1 [] O (Av O (fun c4=>?_) (fun c4=>?_)))))))
 ·(try simp only[sd,se] at c4);refine A1 (As (A8 (Aw (Aq O (A0 Cz O O) (Aq O (A3 (i:=2) HY O O (CD _)) (Bq O ?_))))));obtain⟨x,hx⟩:=A6 (l:=d.funs) (i:=i) An;refine Aq O (A4 GB O O An (EO hx) (DJ _)) (Aq O (By Gv O O) (Aq O (C6 Ln O (Ix _)) (Bq O (Aq O (Fu O O) (Bg O (Av O (fun c5=>?_) (fun c5=>?_)))))))
  ·(try simp only[sd,se] at c5);refine As (Bt (fun k=>false) Dn (BP Ay 3 [] O (CU (j:=2) O O O (fun H i hi=>A3 (i:=i) DN O hi (Co _)) AB Ap (BG O (fun _=>A0 Cz O O) Ap (CU (j:=2) O O O (fun H i hi=>A3 (i:=i) HY O hi (CD _)) AB Ap (BG O (fun _=>BZ O) Ap (BG O (fun _=>A4 GB O O An (EO hx) (DJ _)) Ap (BG O (fun _=>By Gv O O) Ap (BG O (fun _=>DC BY O (Ir _) (BD _)) Ap (BG O (fun _=>CP GH Hw (OX O O O O O)) Ap (Bj Ay 1 [1,1] O (Az (⟨O,_,_,⟨_,_,O,(A9 (i:=1) Ld O O Ae),O⟩,(List.nil_sublist _),?_⟩)))))))))))))
   all_goals exact⟨by show (.agg ((DX (GR.mk 6 ix (i:Int) d.params x.type)).map .p):AV)=_;rw[bQ (j:=i) (not_or.2 ⟨(by simpa using c),not_or.2 ⟨(by simpa using c1),(by simpa using c2)⟩⟩) (by simpa using c3) hx (Gu (by simpa using c5)) hC],rfl⟩
  (try simp only[sd,se] at c5);refine A1 (A2 (Ar Ay 3 [] O ?_));refine⟨(i+1),AT,⟨by omega,Cu (p:=fun _ (y:G7)=>y.name≠nm) hC hx (fun e=>by subst e;simp at c5)⟩,BU ⟨we rfl,we rfl,we rfl,we rfl,we rfl,we rfl,trivial⟩ (leH (is:=[0,1,2]) rfl (wl (oe rfl) (wl (oe rfl) (wl (oe rfl) (C3)))))⟩
 (try simp only[sd,se] at c4);refine Bf (Au Ay 2 [0,1,1] O (Az (⟨O,_,_,⟨_,_,O,(A9 (i:=1) Ld O O Ae),O⟩,(List.nil_sublist _),?_⟩)))
 all_goals exact⟨by show (.agg ((DX (GR.mk 0 ix 0 d.params d.type)).map .p):AV)=_;rw[aV (not_or.2 ⟨(by simpa using c),not_or.2 ⟨(by simpa using c1),(by simpa using c2)⟩⟩) (by simpa using c3) fun j hj=>hC j An],rfl⟩
theorem MH:∀(ds:List CH) (nm:ByteArray),(G1 ds)→EZ Tryz.prog 22 [.p (.lst (List.map Bh ds)),.p (.str nm)] (.tup [.agg ((DX ((Bp ds nm).1)).map .p),.p (I ((Bp ds nm).2))]):=by
 intro ds nm h1;have hl:=h1.len;refine A5 Tryz.func22 O sB (n:=28) O O (Aw (BF O (A7 Hw O) fun b4=>Ar Ay 1 [] O (As (Au Ay 1 [] O (A8 ?_)))));refine Bb (α:=Nat) (fun i=>⟨28,mk [(0,.p (.lst (List.map Bh ds))),(1,.p (.str nm)),(4,.ptr b4 0),(6,.p (I (i:Int)))],[.box b4 [.p (I 0),.p (I 0),.p (I 0),.p (I 0),.p (I 0),.p (I 0),.p (.str ⟨#[]⟩),.p (.nils),.p (.nils)]],[]⟩) (fun i=>ds.length - i) (fun i=>i≤ds.length∧(∀j,j<i→∀y,ds[j]?=some y→HQ (C2 y) nm=false)) 0 (⟨by omega,fun j h=>by omega⟩) ?_ ?_
 ·exact BU ⟨we O,we O,we O,we O,Ap⟩ (leH (is:=[0]) O (wl (oe O) (C3)))
 rintro i hC
 try simp only at hC
 obtain⟨hi,hC⟩:=hC;refine As (Aw (Ax Ay 2 [] O (Aq O (BK HT O (List.length_map _)) (Ar Ay 1 [] O (Av O (fun c=>?_) (fun c=>?_))))))
 ·(try simp only[sd,se] at c);refine A1 (As (A8 (Aw (Ax Ay 2 [] O ?_))));obtain⟨x,hx⟩:=A6 (l:=ds) (i:=i) An;have hD:=h1.all _ (List.mem_of_getElem? hx);have hcl:=hD.cl;have hfl:=hD.fl;refine Aq O (A4 HT O O An (D3 hx) (Cm _)) (Aq O (BM FW O (Cm _)) (Aq O (BC O O (Mf x hD.cl hD.fl hD.nm) O) (Bq O (Aq O (BC O O (UD (C2 x) nm (by have:=NL x;omega)) O) (Bg O (Av O (fun c1=>?_) (fun c1=>?_)))))))
  ·(try simp only[sd,se] at c1);refine Aw (Ax Ay 2 [] O (Aq O (A4 HT O O An (D3 hx) (Cm _)) (Ax Ay 3 [] O (Aq O (BC O O (Ta x (i:Int) nm hD.cl hD.fl) O) (Ar Ay 2 [0,1] O (Az (⟨O,_,_,⟨_,_,O,(A9 (i:=0) Ld O O Ae),⟨_,_,O,O,O⟩⟩,(List.nil_sublist _),?_⟩)))))))
   all_goals exact⟨by show (.tup [.agg ((DX (Fl x (i:Int) nm)).map .p),.p (I 0)]:AV)=_;rw[aX hx hC (by simpa using c1)],rfl⟩
  (try simp only[sd,se] at c1);refine A1 (A2 (Ar Ay 3 [] O (⟨(i+1),AT,⟨by omega,Cu (p:=fun _ (y:CH)=>HQ (C2 y) nm=false) hC hx (by simpa using c1)⟩,BU ⟨we rfl,we rfl,we rfl,we rfl,trivial⟩ (leH (is:=[0]) rfl (wl (oe rfl) (C3)))⟩)))
 (try simp only[sd,se] at c);refine Bf (Au Ay 3 [0,0] O (BH (BR (i:=0) O) (Az (⟨O,_,_,⟨_,_,O,(A9 (i:=0) Ld O O O),⟨_,_,O,O,O⟩⟩,(List.nil_sublist _),?_⟩))))
 all_goals exact⟨by show (.tup [.agg [.p (I 0),.p (I 0),.p (I 0),.p (I 0),.p (I 0),.p (I 0),.p (.str ⟨#[]⟩),.p (.lst []),.p (.lst [])],.p (I 9)]:AV)=_;rw[XJ fun j hj=>hC j An];rfl,rfl⟩
theorem KI:∀(t:Tm),(Nd t)→EZ Tryz.prog 149 [.agg ((BO t).map .p)] (.p (.bool (NV t Bc))):=by
 intro t h1;refine A5 Tryz.func149 O qD (n:=6) O O (Aw (BF O (BN O) fun b1=>Ar Ay 1 [] O (Aw (Ax Ay 2 [0] O (Aq O (Gw O O (NI _ t (.mk 0 0 ⟨#[]⟩ [] []:Tm) (Nat.le_refl _) h1) (aw (we O) (aw (Dt O) (Eo)))) (Ar Ay 1 [] O (Az (⟨O,_,_,⟨_,_,O,O,O⟩,(List.nil_sublist _),?_⟩))))))))
 all_goals exact⟨rfl,rfl⟩
end Go.Proofs.YtboammbpdaoojaaGreat
