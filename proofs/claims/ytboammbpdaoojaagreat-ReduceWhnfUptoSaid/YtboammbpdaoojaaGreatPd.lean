/- Part of the proofs: an abstract program logic, plain models and contracts of functions. -/
import Derived.Test.YtboammbpdaoojaaGreatPc
import Derived.Test.YtboammbpdaoojaaGreatProg
import Derived.Test.YtboammbpdaoojaaGreatPb
set_option linter.unusedVariables false
set_option linter.unusedSimpArgs false
set_option maxRecDepth 100000
namespace Go.Abs
def TW (P:Program) (ops:Array Oper) (H₀:List BU):Nat→(Nat→AV)→List BU→List AV→((Nat→AV)→List BU→Prop)→Prop
 | _,τ,H,[],K=>K τ H
 | k,τ,H,v::r,K=>∃o H',ops[k]?=some o∧o.guard=none∧D3 P o (ev τ) (H++H₀) v (H'++H₀)∧TW P ops H₀ (k+1) (put τ o.dst v) H' r K
def eA (fl:List Nat) (base:List Ez):Bool:=fl.all fun j=>match base.getD j .skip with | .val _=>true | _=>false
def e7 (ops:Array Oper) (e:Nat) (fl:List Nat):Bool:=(List.range ops.size).all fun i=>Nat.blt i e||(List.range i).all fun j=>(Nat.blt j e&&fl.contains j)||M3 ops j i
theorem Ky {ops:Array Oper}{e:Nat}{fl:List Nat}(h:e7 ops e fl=true) {i j:Nat}(hi:e≤i) (hs:i<ops.size) (hj:j<i) (hf:¬(j<e∧j∈fl)):Pred ops j i:=by
 have:=List.all_eq_true.1 h i (by simpa using hs);simp only[Bool.or_eq_true] at this;rcases this with h1 | h1
 ·rw[Nat.blt_eq] at h1;omega
 have h2:=List.all_eq_true.1 h1 j (by simpa using hj);simp only[Bool.or_eq_true,Bool.and_eq_true,Nat.blt_eq] at h2;rcases h2 with h2 | h2
 ·exact absurd ⟨h2.1,by simpa using h2.2⟩ hf
 exact FA h2
theorem EV.facts4 {P:Program}{ops:Array Oper}{H₀:List BU}{τ:Nat→AV}{base fb:List Ez}(hf:∀j,j<base.length→j<fb.length∧fb.getD j .skip=base.getD j .skip) (β:Nat→BV):∀(r:List Ez) (k:Nat) (τk:Nat→AV) (K:(Nat→AV)→List BU→Prop),base.drop k=r→k+r.length=base.length→τk=τS ops (Fu β 0 fb) τ k→EV P ops H₀ k τk r K→(∀j,k≤j→j<base.length→(base.getD j .skip).ok (β j)) →
  (∀j,k≤j→j<base.length→∃o,ops[j]?=some o∧Vb P ops H₀ o (τS ops (Fu β 0 fb) τ j) (base.getD j .skip))∧K (τS ops (Fu β 0 fb) τ base.length) (fm β k r)
 | [],k,τk,K,hd,hk,ht,h,hβ=>by
  simp only[List.length_nil,Nat.add_zero] at hk;subst hk;exact⟨fun j h1 h2=>by omega,by rw[←ht];exact h⟩
 | e::r,k,τk,K,hd,hk,ht,h,hβ=>by
  obtain⟨o,ho,hok,hn⟩:=h;simp only[List.length_cons] at hk;have hb:base.getD k .skip=e:=by
   have:(base.drop k)[0]?=some e:=by rw[hd];rfl
   rw[List.getElem?_drop] at this;rw[List.getD_eq_getElem?_getD,show k=k+0 by omega,this];rfl
  have hd2:base.drop (k+1)=r:=by
   rw[←List.drop_drop,hd];rfl
  obtain⟨f1,f2⟩:=hf k Au;obtain⟨h1,h2⟩:=EV.facts4 (τ:=τ) (base:=base) hf β r (k+1) _ _ hd2 Au (by simp only[τS,ho,Option.bind_some];rw[Eb β f1,f2,hb,←ht]) (hn (β k) (by have:=hβ k (Nat.le_refl _) Au;rwa [hb] at this)) (fun j h1 h2=>hβ j Au h2);refine⟨fun j hj hl=>?_,h2⟩;by_cases e2:j=k
  ·subst e2;exact⟨o,ho,by rw[hb,←ht];exact hok⟩
  exact h1 j Au hl
theorem TW.facts {P:Program}{ops:Array Oper}{H₀:List BU}{τ:Nat→AV}{fb:List Ez}(β:Nat→BV):∀(r:List AV) (k:Nat) (τk:Nat→AV) (H:List BU) (K:(Nat→AV)→List BU→Prop),(∀m,m<r.length→k+m<fb.length∧fb.getD (k+m) .skip= .val (r.getD m (.p .any)))→τk=τS ops (Fu β 0 fb) τ k→TW P ops H₀ k τk H r K →
  ∃Hm:Nat→List BU,Hm k=H∧(∀j,k≤j→j<k+r.length→∃o,ops[j]?=some o∧o.guard=none∧D3 P o (ev (τS ops (Fu β 0 fb) τ j)) (Hm j++H₀) ((fb.getD j .skip).v (β j)) (Hm (j+1)++H₀))∧K (τS ops (Fu β 0 fb) τ (k+r.length)) (Hm (k+r.length))
 | [],k,τk,H,K,hf,ht,h=>⟨fun _=>H,rfl,fun j h1 h2=>by simp at h2;omega,by simp only[List.length_nil,Nat.add_zero];rw[←ht];exact h⟩
 | v::r,k,τk,H,K,hf,ht,h=>by
  obtain⟨o,H',ho,hg,hop,hn⟩:=h;obtain⟨f1,f2⟩:=hf 0 Av;simp only[Nat.add_zero,List.getD_cons_zero] at f1 f2;obtain⟨Hm,h1,h2,h3⟩:=TW.facts (τ:=τ) (fb:=fb) β r (k+1) _ H' K (fun m hm=>by have:=hf (m+1) (by simpa using hm);rw[show k+(m+1)=k+1+m by omega] at this;simpa using this) (by simp only[τS,ho,Option.bind_some];rw[Eb β f1,f2,←ht];rfl) hn;refine⟨fun j=>if j=k then H else Hm j,by simp,fun j hj hl=>?_,?_⟩
  ·by_cases e:j=k
   ·subst e;refine⟨o,ho,hg,?_⟩;rw[f2,←ht];show D3 P o (ev τk) ((if j=j then H else Hm j)++H₀) v ((if j+1=j then H else Hm (j+1))++H₀);rw[if_pos rfl,if_neg Au,h1];exact hop
   show ∃o,ops[j]?=some o∧o.guard=none∧D3 P o _ ((if j=k then H else Hm j)++H₀) _ ((if j+1=k then H else Hm (j+1))++H₀);rw[if_neg e,if_neg Au];exact h2 j Au (by simp only[List.length_cons] at hl;omega)
  show K _ (if k+(v::r).length=k then H else Hm (k+(v::r).length));simp only[List.length_cons];rw[if_neg Au,show k+(r.length+1)=k+1+r.length by omega];exact h3
theorem YJ {β:Nat→BV}{l:Nat→Bool}:∀(r:List Ez) (k:Nat),(∀j,j<r.length→l (k+j)=true∨∃v,r.getD j .skip= .val v)→Ws β l k r=fm β k r
 | [],k,h=>rfl
 | e::r,k,h=>by
  simp only[Ws,fm];rw[YJ r (k+1) fun j hj=>by have:=h (j+1) (by simpa using hj);rw[show k+(j+1)=k+1+j by omega] at this;simpa using this];rcases h 0 Av with h1 | ⟨v,h1⟩
  ·rw[Nat.add_zero] at h1;rw[if_pos h1]
  simp only[List.getD_cons_zero] at h1;subst h1;split<;>rfl
theorem iv {P:Program}{r:Option Nat}{ops:Array Oper}{id n:Nat}{τ:Nat→AV}{H:List BU}{D:List Ej}{Q:DJ→B5→Prop}(base:List Ez) (tl:List AV) (fl:List Nat) (hm:P.follows .mixedOrders=true)
  (he:base.length+tl.length=ops.size) (chk:OC ops n []=true) (late:e7 ops base.length fl=true) (hfl:eA fl base=true) (hne:bK base)
  (h:EV P ops H 0 τ base (fun τ' Hs=>TW P ops H base.length τ' Hs tl (fun τ'' Bs=>Q .normal ⟨n,τ'',Bs++H,D⟩))):JH P r (.region id ops true) ⟨n,τ,H,D⟩ Q:=by
 intro F₀ a₀ w₀ hs₀;refine wpIn_region_any hm ?_;have same:Dk F₀ w₀ F₀ { w₀ with drawn:=w₀.drawn+1 }:=⟨Nat.le_refl _,fun _ _ _=>rfl,fun _ h _=>h⟩;have t₀:Trans F₀ H w₀ F₀ H { w₀ with drawn:=w₀.drawn+1 } :=
  ⟨Nat.le_refl _,fun _ _ _=>rfl,fun _ h _=>h,fun _ h=> .inl h,fun o ho b hb=> .inl ⟨o,ho,hb⟩,rfl,rfl,rfl⟩
 have hs₁:Dw F₀ ⟨n,τ,H,D⟩ a₀ { w₀ with drawn:=w₀.drawn+1 } :=
  ⟨hs₀.size,fun t=>CX.mono same _ _ (hs₀.tmp t),hs₀.heap.stable' same (fun _ h=>h) (fun _ _ _ _=>rfl) hs₀.heap.bd,Fb.mono same _ _ hs₀.defs⟩
 obtain⟨hdst,c0,c1,c2,_⟩:=KQ chk;obtain⟨fb,hfb⟩:∃fb,fb=base++tl.map Ez.val:=⟨_,rfl⟩;have hfl1:fb.length=ops.size:=by rw[hfb];simp;omega
 have hf1:∀j,j<base.length→j<fb.length∧fb.getD j .skip=base.getD j .skip:=fun j hj=>⟨by omega,by
  rw[hfb,List.getD_eq_getElem?_getD,List.getD_eq_getElem?_getD,List.getElem?_append_left hj]⟩
 have hf2:∀m,m<tl.length→base.length+m<fb.length∧fb.getD (base.length+m) .skip= .val (tl.getD m (.p .any)):=fun m hm=>⟨by omega,by
  rw[hfb,List.getD_eq_getElem?_getD,List.getElem?_append_right Au,Nat.add_sub_cancel_left,List.getElem?_map,List.getElem?_eq_getElem hm];simp[List.getElem?_eq_getElem hm]⟩
 have hd:∀β,Oc P ops n (fun _=>False) τ H (Fu β 0 fb):=fun β =>
  ⟨hdst,fun _ _ _ h=>h.elim,c0,c1,c2,fun i k _ _ h _=>(by rw[UP] at h;cases h),fun i e ob v _ _ _ h _ _=>absurd h (RU β fb 0 i ob v)⟩
 have flv:∀j,j∈fl→∃v,base.getD j .skip= .val v:=fun j hj=>by
  have:=List.all_eq_true.1 hfl j hj;cases hq:base.getD j .skip with
  | val v=>exact⟨v,rfl⟩
  | _=>simp only[hq] at this;cases this
 have hE:∀β,(∀j,j<base.length→(base.getD j .skip).ok (β j))→(∀j,j<base.length→∃o,ops[j]?=some o∧Vb P ops H o (τS ops (Fu β 0 fb) τ j) (base.getD j .skip)) ∧
   ∃Hm:Nat→List BU,Hm base.length=fm β 0 base∧(∀j,base.length≤j→j<ops.size→∃o,ops[j]?=some o∧o.guard=none∧D3 P o (ev (τS ops (Fu β 0 fb) τ j)) (Hm j++H) ((fb.getD j .skip).v (β j)) (Hm (j+1)++H))∧Q .normal ⟨n,τS ops (Fu β 0 fb) τ ops.size,Hm ops.size++H,D⟩:=fun β hβ=>by
  obtain⟨h1,h2⟩:=EV.facts4 (base:=base) (fb:=fb) hf1 β base 0 τ _ Av Av rfl h (fun j _ h=>hβ j h);obtain⟨Hm,g1,g2,g3⟩:=TW.facts (fb:=fb) β tl base.length _ _ _ hf2 rfl h2;rw[he] at g2 g3;exact⟨fun j hj=>h1 j (Nat.zero_le _) hj,Hm,g1,g2,g3⟩
 obtain⟨I,hI0⟩:∃I:Array Bool→Act→World→Prop,I=fun l a w=>l.size=ops.size∧∃β τ' F Hb,(∀j,j<base.length→(base.getD j .skip).ok (β j))∧Down ops (fun i=>l.getD i false=true)∧Gn ops (Fu β 0 fb) τ (fun i=>l.getD i false=true) τ'∧Dw F ⟨n,τ',Hb++H,D⟩ a w∧Trans F₀ H w₀ F (Hb++H) w ∧
  (((∀k,base.length≤k→l.getD k false=false)∧Hb.Perm (Ws β (fun k=>l.getD k false) 0 base)) ∨
   (∃(m:Nat) (Hm:Nat→List BU),(∀j,base.length≤j→j<ops.size→∃o,ops[j]?=some o∧o.guard=none∧D3 P o (ev (τS ops (Fu β 0 fb) τ j)) (Hm j++H) ((fb.getD j .skip).v (β j)) (Hm (j+1)++H))∧Q .normal ⟨n,τS ops (Fu β 0 fb) τ ops.size,Hm ops.size++H,D⟩∧base.length≤m∧m≤ops.size∧(∀k,base.length≤k→(l.getD k false=true↔k<m))∧(∀k,k<base.length→k ∉ fl→l.getD k false=true)∧Hb=Hm m)):=⟨_,rfl⟩
 refine KU (I:=I) (fun l a w h=>by rw[hI0] at h;exact h.1) ?_ ?_ _ _ _ _ ?_ ?_
 ·intro l a w hI i hi;rw[hI0] at hI;obtain⟨hsz,β,τ',F,Hb,hβ,hdown,hτ,hs,ht,hI⟩:=hI;obtain⟨hun,o,ho,hall⟩:=mem_ready.1 hi;have hlt:i<ops.size:=by
   rcases Nat.lt_or_ge i ops.size with h | h
   ·exact h
   simp[Array.getElem?_eq_none h] at ho
  have hil:i<l.size:=by omega
  have hnot:l.getD i false=false:=by
   have:l[i]=false:=by simpa [hil] using hun
   simp[hil,this]
  have hr:∀j∈EZ o,l.getD j false=true:=by
   intro j hj;simp only[EZ,List.mem_map,List.mem_filter] at hj;obtain⟨e,⟨he,hb⟩,rfl⟩:=hj;exact hall e (by simpa using he) hb
  have hset:∀k,(l.setIfInBounds i true).getD k false=true↔(l.getD k false=true∨k=i):=by
   intro k;by_cases hk:k=i
   ·subst hk;simp[hil]
   simp[Array.getElem?_setIfInBounds_ne (Ne.symm hk),hk]
  have hset2:∀k,(l.setIfInBounds i true).getD k false=(l.getD k false||k==i):=by
   intro k;by_cases hk:k=i
   ·subst hk;simp[hil]
   simp[Array.getElem?_setIfInBounds_ne (Ne.symm hk),hk]
  have hsz':(l.setIfInBounds i true).size=ops.size:=by simp[hsz]
  have hdown':Down ops (fun k=>(l.setIfInBounds i true).getD k false=true):=by
   intro k o' j ho' hk hj;rcases (hset k).1 hk with h | h
   ·exact(hset j).2 (.inl (hdown k o' j ho' h hj))
   subst h;rw[ho] at ho';injection ho' with ho';subst ho';exact(hset j).2 (.inl (hr j hj))
  have hlook:∀t∈looks ops o,τ' t=τS ops (Fu β 0 fb) τ i t:=fun t ht=>KL (hd β) hdown hτ ho (by rw[hnot];decide) hr ht;have hops:∀x∈o.op.operands.toList,ev τ' x=ev (τS ops (Fu β 0 fb) τ i) x:=by
   intro x hx;cases x with
   | tmp t=>exact hlook t (List.mem_append_left _ (List.mem_filterMap.2 ⟨.tmp t,hx,rfl⟩))
   | _=>rfl
  have hguard:∀j want d,o.guard=some (j,want)→(ops[j]?).bind (·.dst)=some d→τ' d=τS ops (Fu β 0 fb) τ i d:=by
   intro j want d hg hj;refine hlook d (List.mem_append_right _ ?_);simp[hg,hj]
  have hpred:∀{a},Pred ops a i→l.getD a false=true:=by
   have:∀{a b},Pred ops a b→b=i→l.getD a false=true:=by
    intro a b hab
    induction hab with
    | base ho' hj=>intro e;subst e;rw[ho] at ho';injection ho' with ho';subst ho';exact hr _ hj
    | trans p1 _ _ ih2=>intro e;exact hdown.pred p1 (ih2 e)
   exact fun {a} h=>this h O
  have wants:DM ops ⟨0,τS ops (Fu β 0 fb) τ i,[],[]⟩ o→DM ops ⟨n,τ',Hb++H,D⟩ o:=by
   intro h;unfold DM at *;cases hg:o.guard with
   | none=>simp[hg]
   | some jw =>
    obtain⟨j,want⟩:=jw;simp only[hg] at h ⊢;obtain⟨d,h1,h2⟩:=h;exact⟨d,h1,by rw[←h2];exact hguard j want d hg h1⟩
  -- one operation
  have exec:∀{Hx:List BU} {C:AV→List BU→Prop},Dw F ⟨n,τ',Hx,D⟩ a w→DM ops ⟨n,τ',Hx,D⟩ o→Dh P o (ev (τS ops (Fu β 0 fb) τ i)) Hx (fun r H'=>match r with | .val v=>C v H' | .panic _=>False)→(∀v H' a' w' F',C v H'→Dw F' ⟨n,put τ' o.dst v,H',D⟩ a' w'→Trans F Hx w F' H' w'→I (l.setIfInBounds i true) a' w')→wpOpIn (W r) 0 P ops (post F₀ H w₀ Q) i (fun a' w'=>I (l.setIfInBounds i true) a' w') a w:=by
   intro Hx C hs hwant hop close;unfold wpOpIn;simp only[ho,IK hs hwant,if_true];have hw:=hop r F _ a w hs rfl (fun x hx=>hops x hx) (fun t ht=>hdst i o t ho ht);unfold Oper.wpIn at *;refine⟨hw.1,?_⟩;replace hw:=hw.2;generalize (o.semAt (W r).round a.eval).run P w=rr at *;cases rr with
   | ok nx w' =>
    cases nx<;>simp only[Oper.uponIn] at hw ⊢
    case value u=>obtain⟨v',H'',F',h1,h3,h4⟩:=hw;exact close _ _ _ _ _ h1 h3 h4
    case skip=>obtain⟨v',H'',F',h1,h3,h4⟩:=hw;exact close _ _ _ _ _ h1 h3 h4
    case defer d=>obtain⟨v',H'',F',h1,h3,h4⟩:=hw;exact close _ _ _ _ _ h1 h3 h4
    case enter f args =>
     refine⟨hw.1,hw.2.mono fun e w'' he=>?_⟩;cases e with
     | returned u=>obtain⟨v',H'',F',h1,h3,h4⟩:=he;exact close _ _ _ _ _ h1 h3 h4
     | panicked c=>obtain⟨_,_,_,_,h,_⟩:=he;exact h.elim
     | outgrown=>obtain⟨_,_,_,_,_,_,h,_⟩:=he;exact h.elim
    case row row args=>exact⟨hw.1,hw.2.mono fun u w'' h=>by obtain⟨v',H'',F',h1,h3,h4⟩:=h;exact close _ _ _ _ _ h1 h3 h4⟩
    case round l' f tmps assign body =>
     refine⟨hw.1,hw.2.mono fun e w'' he=>?_⟩;cases e with
     | returned u=>obtain⟨v',H'',F',h1,h3,h4⟩:=he;exact close _ _ _ _ _ h1 h3 h4
     | panicked c=>obtain⟨_,_,_,_,h,_⟩:=he;exact h.elim
     | outgrown=>obtain⟨_,_,_,_,_,_,h,_⟩:=he;exact h.elim
   | halt x w' =>
    cases x<;>simp only[Oper.uponIn] at hw ⊢
    case panic u=>obtain⟨_,_,_,_,h,_⟩:=hw;exact h.elim
  have hτput:∀{v:AV},v=((Fu β 0 fb).getD i .skip).val→Gn ops (Fu β 0 fb) τ (fun k=>(l.setIfInBounds i true).getD k false=true) (put τ' o.dst v):=by
   intro v hv;have hτ3:=hτ.put (hd β) ho;rw[←hv] at hτ3;intro t;exact⟨fun k o' a1 a2 a3=>(hτ3 t).1 k o' a1 a2 ((hset k).1 a3),fun hn=>(hτ3 t).2 fun k o' a1 a2 a3=>hn k o' a1 a2 ((hset k).2 a3)⟩
  -- a tail operation
  have goTail:∀Hm:Nat→List BU,(∀j,base.length≤j→j<ops.size→∃o,ops[j]?=some o∧o.guard=none∧D3 P o (ev (τS ops (Fu β 0 fb) τ j)) (Hm j++H) ((fb.getD j .skip).v (β j)) (Hm (j+1)++H))→Q .normal ⟨n,τS ops (Fu β 0 fb) τ ops.size,Hm ops.size++H,D⟩→base.length≤i→(∀k,base.length≤k→(l.getD k false=true↔k<i))→(∀k,k<base.length→k ∉ fl→l.getD k false=true)→Dw F ⟨n,τ',Hm i++H,D⟩ a w→Trans F₀ H w₀ F (Hm i++H) w→wpOpIn (W r) 0 P ops (post F₀ H w₀ Q) i (fun a' w'=>I (l.setIfInBounds i true) a' w') a w:=by
   intro Hm g2 g3 hbi hk1 hk2 hs ht;obtain⟨o',ho',hg,hop⟩:=g2 i hbi hlt;rw[ho] at ho';injection ho' with ho';subst ho';refine exec (C:=fun v H'=>v=(fb.getD i .skip).v (β i)∧H'=Hm (i+1)++H) hs (by unfold DM;rw[hg];trivial) (Dh.mono hop (by
    intro r H' hR;cases r with
    | val v'=>exact hR
    | panic v'=>exact hR.elim)) ?_
   rintro v H' a' w' F' ⟨hv,rfl⟩ h3 h4;rw[hI0];refine⟨hsz',β,_,F',Hm (i+1),hβ,hdown',hτput (by rw[hv,Eb β Au]),h3,ht.trans hs₀.heap.bd h4,.inr ⟨i+1,Hm,g2,g3,by omega,by omega,fun k hk=>?_,fun k h1 h2=>(hset k).2 (.inl (hk2 k h1 h2)),rfl⟩⟩;rw[hset k,hk1 k hk];omega
  rcases hI with ⟨hno,hp⟩ | ⟨m,Hm,g2,g3,hm1,hm2,hk1,hk2,rfl⟩
  ·rcases Nat.lt_or_ge i base.length with hib | hib
   ·-- of the first part
    obtain⟨o',ho',hok⟩:=(hE β hβ).1 i hib;rw[ho] at ho';injection ho' with ho';subst ho';have hno':∀k,base.length≤k→(l.setIfInBounds i true).getD k false=false:=by
     intro k hk;rw[hset2 k,hno k hk];simp;omega
    generalize hbe:base.getD i .skip=e at hok;have close:∀{a' w' F' b H'},e.ok b→H'=e.box b++(Hb++H)→Dw F' ⟨n,put τ' o.dst (e.v b),H',D⟩ a' w'→Trans F (Hb++H) w F' H' w'→I (l.setIfInBounds i true) a' w':=by
     intro a' w' F' b H' hb0 hH h3 h4;subst hH;rw[hI0];have hspn:∀k,k<fb.length→((Fu (fun j=>if j=i then b else β j) 0 fb).getD k .skip).val=(fb.getD k .skip).v (if k=i then b else β k):=fun k hk=>Eb _ hk;refine⟨hsz',fun j=>if j=i then b else β j,put τ' o.dst (e.v b),F',e.box b++Hb,(fun j hj=>by
      by_cases e3:j=i
      ·subst e3;simp only[if_true];rw[hbe];exact hb0
      simp only[if_neg e3];exact hβ j hj),hdown',?_,by rw[List.append_assoc];exact h3,by rw[List.append_assoc];exact ht.trans hs₀.heap.bd h4,.inl ⟨hno',?_⟩⟩
     ·have hτ2:Gn ops (Fu (fun j=>if j=i then b else β j) 0 fb) τ (fun k=>l.getD k false=true) τ':=by
       intro t;refine⟨fun k o' a1 a2 a3=>?_,(hτ t).2⟩;have a4:l.getD k false=true:=a3;have hki:k≠i:=fun e=>by subst e;rw[hnot] at a4;cases a4
       rw[(hτ t).1 k o' a1 a2 a3];rcases Nat.lt_or_ge k fb.length with hk | hk
       ·rw[Eb _ hk,Eb _ hk,if_neg hki]
       rw[Js _ hk,Js _ hk]
      have hτ3:=hτ2.put (hd _) ho;rw[Eb _ Au,if_pos rfl,(hf1 i hib).2,hbe] at hτ3;intro t;exact⟨fun k o' a1 a2 a3=>(hτ3 t).1 k o' a1 a2 ((hset k).1 a3),fun hn=>(hτ3 t).2 fun k o' a1 a2 a3=>hn k o' a1 a2 ((hset k).2 a3)⟩
     have h1:=QU (β:=β) (l:=fun k=>l.getD k false) (i:=i) (b:=b) hnot base 0 (Nat.zero_le _) Au;rw[Nat.sub_zero,hbe] at h1;refine(hp.append_left _).trans (h1.trans (List.Perm.of_eq ?_));exact Kk base 0 fun j _=>⟨(hset2 j).symm,fun _=>O⟩
    have yields:DM ops ⟨n,τ',Hb++H,D⟩ o→Dh P o (ev (τS ops (Fu β 0 fb) τ i)) (Hb++H) (fun r H'=>match r with | .val v=>∃b,e.ok b∧v=e.v b∧H'=e.box b++(Hb++H) | .panic _=>False)→wpOpIn (W r) 0 P ops (post F₀ H w₀ Q) i (fun a' w'=>I (l.setIfInBounds i true) a' w') a w:=fun h1 h2 =>
     exec (C:=fun v H'=>∃b,e.ok b∧v=e.v b∧H'=e.box b++(Hb++H)) hs h1 h2 (by rintro v H' a' w' F' ⟨b,h0,rfl,h1⟩ h3 h4;exact close h0 h1 h3 h4)
    cases e with
    | val v=>exact yields (wants hok.1) ((hok.2 Hb).mono (by
      intro r H' hR;cases r with
      | val v'=>obtain⟨rfl,rfl⟩:=hR;exact⟨(0,0,.p .any),trivial,rfl,rfl⟩
      | panic v'=>exact hR.elim))
    | new cs =>
     refine yields (by unfold DM;rw[hok.1];trivial) ((hok.2 _).mono ?_);intro r H' hR;cases r with
     | val v'=>obtain⟨b,rfl,rfl⟩:=hR;exact⟨(b,0,.p .any),trivial,rfl,rfl⟩
     | panic v'=>exact hR.elim
    | newv sz rows =>
     refine yields (by unfold DM;rw[hok.1];trivial) ((hok.2 _).mono ?_);intro r H' hR;cases r with
     | val v'=>obtain⟨b,c,rfl,rfl⟩:=hR;exact⟨(b,c,.p .any),trivial,rfl,rfl⟩
     | panic v'=>exact hR.elim
    | rel R =>
     refine yields (by unfold DM;rw[hok.1];trivial) ((hok.2 _).mono ?_);intro r H' hR;cases r with
     | val v'=>obtain⟨h1,rfl⟩:=hR;exact⟨(0,0,v'),h1,rfl,rfl⟩
     | panic v'=>exact hR.elim
    | skip =>
     obtain⟨j,want,d,hg,hj,hb⟩:=hok;have hw:Region.wanted o (yielded ops a.tmps)=false:=Kc (S:=⟨n,τ',Hb++H,D⟩) hs hg hj (by show fj (τ' d) want;rw[hguard j want d hg hj];exact hb);unfold wpOpIn;simp only[ho,hw,Bool.false_eq_true,if_false];refine⟨fun _ _=>Aw,close (b:=(0,0,.p .any)) Aw O ?_ .refl⟩;exact hs.put (fun t ht=>hdst i o t ho ht) ⟨Nat.le_refl _,fun _ _ _=>O,fun _ h _=>h⟩ hs.heap (by simp only[Ez.v,CX,CD,undef];exact⟨[],rfl,rfl⟩)
   -- the first of the rest
   have hpre:∀j,j<i→¬(j<base.length∧j∈fl)→l.getD j false=true:=fun j hj hf=>hpred (Ky late hib hlt hj hf);have hie:i=base.length:=by
    rcases Nat.lt_or_ge base.length i with h | h
    ·have h1:=hpre base.length h (fun h=>Nat.lt_irrefl _ h.1);rw[hno base.length (Nat.le_refl _)] at h1;cases h1
    omega
   obtain⟨Hm,g1,g2,g3⟩:=(hE β hβ).2;have hp2:(Hb++H).Perm (Hm i++H):=by
    rw[hie,g1];refine List.Perm.append_right H (hp.trans (List.Perm.of_eq (YJ base 0 fun j hj=>?_)));rw[Nat.zero_add];by_cases hq:j∈fl
    ·exact .inr (flv j hq)
    exact .inl (hpre j Au fun h=>hq h.2)
   refine goTail Hm g2 g3 hib (fun k hk=>⟨fun h=>?_,fun h=>by omega⟩) (fun k h1 h2=>hpre k Au fun h=>h2 h.2) ⟨hs.size,hs.tmp,hs.heap.perm hp2,hs.defs⟩ { ht with keys:=fun o ho=>ht.keys o (hp2.mem_iff.2 ho) };rw[hno k hk] at h;cases h
  rcases Nat.lt_or_ge i base.length with hib | hib
  ·-- a value that floats
   have hif:i∈fl:=Classical.byContradiction fun hq=>by rw[hk2 i hib hq] at hnot;cases hnot
   obtain⟨v,hv⟩:=flv i hif;obtain⟨o',ho',hok⟩:=(hE β hβ).1 i hib;rw[ho] at ho';injection ho' with ho';subst ho';rw[hv] at hok;refine exec (C:=fun v' H'=>v'=v∧H'=Hm m++H) hs (wants hok.1) ((hok.2 (Hm m)).mono (by
    intro r H' hR;cases r with
    | val v'=>exact hR
    | panic v'=>exact hR.elim)) ?_
   rintro v' H' a' w' F' ⟨rfl,rfl⟩ h3 h4;rw[hI0];refine⟨hsz',β,_,F',Hm m,hβ,hdown',hτput (by rw[Eb β Au,(hf1 i hib).2,hv];rfl),h3,ht.trans hs₀.heap.bd h4,.inr ⟨m,Hm,g2,g3,hm1,hm2,fun k hk=>?_,fun k h1 h2=>(hset k).2 (.inl (hk2 k h1 h2)),O⟩⟩;rw[hset k,hk1 k hk];exact⟨fun h=>h.resolve_right Au,.inl⟩
  have him:i=m:=by
   rcases Nat.lt_trichotomy i m with h | h | h
   ·rw[(hk1 i hib).2 h] at hnot;cases hnot
   ·exact h
   have:=hpred (Ky late (by omega:base.length≤i) hlt h (fun h=>by omega));have:=(hk1 m hm1).1 this;omega
  subst him;exact goTail Hm g2 g3 hib hk1 hk2 hs ht
 ·intro l a w hI hr;rw[hI0] at hI;obtain⟨hsz,β,τ',F,Hb,hβ,hdown,hτ,hs,ht,hI⟩:=hI;have hall:∀i,i<ops.size→l.getD i false=true:=by
   intro i
   induction i using Nat.strongRecOn with
   | _ i ih =>
    intro hi;cases hq:l.getD i false with
    | true=>rfl
    | false =>
     have ho:ops[i]?=some ops[i]:=Array.getElem?_eq_getElem hi;have:i∈Region.ready .any ops l:=by
      refine mem_ready.2 ⟨?_,ops[i],ho,?_⟩
      ·have:i<l.size:=by omega
       simp[this] at hq ⊢;exact hq
      intro e he hb;have hj:e.on∈EZ ops[i]:=by
       simp only[EZ,List.mem_map,List.mem_filter];exact⟨e,⟨by simpa using he,hb⟩,rfl⟩
      have hlt:=c0 i _ _ ho hj;exact ih e.on hlt Au
     rw[hr] at this;cases this
  have hτe:τ'=τS ops (Fu β 0 fb) τ ops.size:=by
   funext t;have h2:=Mc (hd β) ops.size (Nat.le_refl _) t;by_cases hw:∃(k:Nat) (o':Oper),ops[k]?=some o'∧o'.dst=some t
   ·obtain⟨k,o',ho',hk⟩:=hw;have hlt:k<ops.size:=by
     rcases Nat.lt_or_ge k ops.size with h | h
     ·exact h
     simp[Array.getElem?_eq_none h] at ho'
    rw[(hτ t).1 k o' ho' hk (hall k hlt),h2.1 k o' ho' hk hlt]
   rw[(hτ t).2 fun k o' h1 h2 _=>hw ⟨k,o',h1,h2⟩,h2.2 fun k o' h1 h2 _=>hw ⟨k,o',h1,h2⟩]
  have fin:∀Hx:List BU,(Hb++H).Perm (Hx++H)→Q .normal ⟨n,τS ops (Fu β 0 fb) τ ops.size,Hx++H,D⟩→post F₀ H w₀ Q .normal a w:=fun Hx hp hq =>
   ⟨.normal,_,F,hq,rfl,⟨by exact hs.size,by rw[←hτe];exact hs.tmp,hs.heap.perm hp,hs.defs⟩,{ ht with keys:=fun o ho=>ht.keys o (hp.mem_iff.2 ho) }⟩
  rcases hI with ⟨hno,hp⟩ | ⟨m,Hm,g2,g3,hm1,hm2,hk1,hk2,rfl⟩
  ·have hbs:base.length=ops.size:=by
    rcases Nat.lt_or_ge base.length ops.size with h | h
    ·have:=hall base.length h;rw[hno base.length (Nat.le_refl _)] at this;cases this
    omega
   obtain⟨Hm,g1,g2,g3⟩:=(hE β hβ).2;refine fin (Hm ops.size) ?_ g3;rw[←hbs,g1];exact List.Perm.append_right H (hp.trans (List.Perm.of_eq (Ui base 0 fun j _ hj=>hall j Au)))
  have hms:m=ops.size:=by
   rcases Nat.lt_or_ge m ops.size with h | h
   ·have:=(hk1 m hm1).1 (hall m h);omega
   omega
  subst hms;exact fin _ (List.Perm.refl _) g3
 ·obtain⟨β0,hβ0⟩:=bK.pick base hne;rw[hI0];refine⟨by simp,β0,τ,F₀,[],hβ0,?_,?_,hs₁,t₀,.inl ⟨?_,?_⟩⟩
  ·intro i o j ho hi;by_cases h:i<ops.size<;>simp[h] at hi
  ·intro t;refine⟨fun k o ho hk hl=>?_,fun _=>O⟩;by_cases h:k<ops.size<;>simp[h] at hl
  ·intro k _;by_cases h:k<ops.size<;>simp[h]
  rw[N2 base 0 fun j=>by by_cases h:j<ops.size<;>simp[h]]
 have:=List.length_filter_le (fun b:Bool=> !b) (Array.replicate ops.size false).toList;simp at this ⊢
section
variable {P:Program}{ops:Array Oper}{H₀:List BU}{k:Nat}{τ:Nat→AV}{r:List AV}{K:(Nat→AV)→List BU→Prop}{dst:Option Tmp}{op:Op}{ty:TypeId}{pos:String}{aft:Array Edge}{v:AV}{H:List BU}
theorem Yk (H':List BU) (ho:ops[k]?=some ⟨dst,op,ty,pos,aft,none⟩) (h:D3 P ⟨dst,op,ty,pos,aft,none⟩ (ev τ) (H++H₀) v (H'++H₀)) (next:TW P ops H₀ (k+1) (put τ dst v) H' r K):TW P ops H₀ k τ H (v::r) K :=
 ⟨_,H',ho,rfl,h,next⟩
theorem lg (h:K τ H):TW P ops H₀ k τ H [] K:=h
end
def fh (P:Program) (ops:Array Oper) (H₀ H₁:List BU) (i₀:Nat) (fl:List Nat) (k:Nat) (o:Oper) (τ:Nat→AV) (e:Ez):Prop :=
 if k=i₀ then ∃v,e= .val v∧o.guard=none∧∀Bs,D3 P o (ev τ) (Bs++H₀) v (Bs++H₁) else Vb P ops H₀ o τ e∧Vb P ops H₁ o τ e∧(fl.contains k=true→∀v,e= .val v→∀X,D3 P o (ev τ) X v X)
def E5 (P:Program) (ops:Array Oper) (H₀ H₁:List BU) (i₀:Nat) (fl:List Nat):Nat→(Nat→AV)→List Ez→((Nat→AV)→List BU→Prop)→Prop
 | _,τ,[],K=>K τ []
 | k,τ,e::r,K=>∃o,ops[k]?=some o∧fh P ops H₀ H₁ i₀ fl k o τ e∧∀b,e.ok b→E5 P ops H₀ H₁ i₀ fl (k+1) (put τ o.dst (e.v b)) r (fun τ' Hs=>K τ' (e.box b++Hs))
theorem E5.facts {P:Program}{ops:Array Oper}{H₀ H₁:List BU}{i₀:Nat}{fl:List Nat}{τ:Nat→AV}{base fb:List Ez}(hf:∀j,j<base.length→j<fb.length∧fb.getD j .skip=base.getD j .skip) (β:Nat→BV):∀(r:List Ez) (k:Nat) (τk:Nat→AV) (K:(Nat→AV)→List BU→Prop),base.drop k=r→k+r.length=base.length→τk=τS ops (Fu β 0 fb) τ k→E5 P ops H₀ H₁ i₀ fl k τk r K→(∀j,k≤j→j<base.length→(base.getD j .skip).ok (β j)) →
  (∀j,k≤j→j<base.length→∃o,ops[j]?=some o∧fh P ops H₀ H₁ i₀ fl j o (τS ops (Fu β 0 fb) τ j) (base.getD j .skip))∧K (τS ops (Fu β 0 fb) τ base.length) (fm β k r)
 | [],k,τk,K,hd,hk,ht,h,hβ=>by
  simp only[List.length_nil,Nat.add_zero] at hk;subst hk;exact⟨fun j h1 h2=>by omega,by rw[←ht];exact h⟩
 | e::r,k,τk,K,hd,hk,ht,h,hβ=>by
  obtain⟨o,ho,hok,hn⟩:=h;simp only[List.length_cons] at hk;have hb:base.getD k .skip=e:=by
   have:(base.drop k)[0]?=some e:=by rw[hd];rfl
   rw[List.getElem?_drop] at this;rw[List.getD_eq_getElem?_getD,show k=k+0 by omega,this];rfl
  have hd2:base.drop (k+1)=r:=by
   rw[←List.drop_drop,hd];rfl
  obtain⟨f1,f2⟩:=hf k Au;obtain⟨h1,h2⟩:=E5.facts (τ:=τ) (base:=base) hf β r (k+1) _ _ hd2 Au (by simp only[τS,ho,Option.bind_some];rw[Eb β f1,f2,hb,←ht]) (hn (β k) (by have:=hβ k (Nat.le_refl _) Au;rwa [hb] at this)) (fun j h1 h2=>hβ j Au h2);refine⟨fun j hj hl=>?_,h2⟩;by_cases e2:j=k
  ·subst e2;exact⟨o,ho,by rw[hb,←ht];exact hok⟩
  exact h1 j Au hl
def TV (P:Program) (ops:Array Oper):Nat→(Nat→AV)→List BU→List AV→((Nat→AV)→List BU→Prop)→Prop
 | _,τ,H,[],K=>K τ H
 | k,τ,H,v::r,K=>∃o H',ops[k]?=some o∧o.guard=none∧D3 P o (ev τ) H v H'∧TV P ops (k+1) (put τ o.dst v) H' r K
theorem TV.facts {P:Program}{ops:Array Oper}{τ:Nat→AV}{fb:List Ez}(β:Nat→BV):∀(r:List AV) (k:Nat) (τk:Nat→AV) (H:List BU) (K:(Nat→AV)→List BU→Prop),(∀m,m<r.length→k+m<fb.length∧fb.getD (k+m) .skip= .val (r.getD m (.p .any)))→τk=τS ops (Fu β 0 fb) τ k→TV P ops k τk H r K →
  ∃Hm:Nat→List BU,Hm k=H∧(∀j,k≤j→j<k+r.length→∃o,ops[j]?=some o∧o.guard=none∧D3 P o (ev (τS ops (Fu β 0 fb) τ j)) (Hm j) ((fb.getD j .skip).v (β j)) (Hm (j+1)))∧K (τS ops (Fu β 0 fb) τ (k+r.length)) (Hm (k+r.length))
 | [],k,τk,H,K,hf,ht,h=>⟨fun _=>H,rfl,fun j h1 h2=>by simp at h2;omega,by simp only[List.length_nil,Nat.add_zero];rw[←ht];exact h⟩
 | v::r,k,τk,H,K,hf,ht,h=>by
  obtain⟨o,H',ho,hg,hop,hn⟩:=h;obtain⟨f1,f2⟩:=hf 0 Av;simp only[Nat.add_zero,List.getD_cons_zero] at f1 f2;obtain⟨Hm,h1,h2,h3⟩:=TV.facts (τ:=τ) (fb:=fb) β r (k+1) _ H' K (fun m hm=>by have:=hf (m+1) (by simpa using hm);rw[show k+(m+1)=k+1+m by omega] at this;simpa using this) (by simp only[τS,ho,Option.bind_some];rw[Eb β f1,f2,←ht];rfl) hn;refine⟨fun j=>if j=k then H else Hm j,by simp,fun j hj hl=>?_,?_⟩
  ·by_cases e:j=k
   ·subst e;refine⟨o,ho,hg,?_⟩;rw[f2,←ht];show D3 P o (ev τk) (if j=j then H else Hm j) v (if j+1=j then H else Hm (j+1));rw[if_pos rfl,if_neg Au,h1];exact hop
   show ∃o,ops[j]?=some o∧o.guard=none∧D3 P o _ (if j=k then H else Hm j) _ (if j+1=k then H else Hm (j+1));rw[if_neg e,if_neg Au];exact h2 j Au (by simp only[List.length_cons] at hl;omega)
  show K _ (if k+(v::r).length=k then H else Hm (k+(v::r).length));simp only[List.length_cons];rw[if_neg Au,show k+(r.length+1)=k+1+r.length by omega];exact h3
theorem IN {P:Program}{r:Option Nat}{ops:Array Oper}{id n:Nat}{τ:Nat→AV}{H:List BU}{D:List Ej}{Q:DJ→B5→Prop}(H₁:List BU) (i₀:Nat) (base:List Ez) (tl:List AV) (fl:List Nat) (hm:P.follows .mixedOrders=true)
  (he:base.length+tl.length=ops.size) (chk:OC ops n []=true) (late:e7 ops base.length fl=true) (hfl:eA fl base=true) (hi0:(Nat.blt i₀ base.length&& !fl.contains i₀)=true) (hne:bK base)
  (h:E5 P ops H H₁ i₀ fl 0 τ base (fun τ' Hs=>TV P ops base.length τ' (Hs++H₁) tl (fun τ'' Bs=>Q .normal ⟨n,τ'',Bs,D⟩))):JH P r (.region id ops true) ⟨n,τ,H,D⟩ Q:=by
 intro F₀ a₀ w₀ hs₀;rw[Bool.and_eq_true,Nat.blt_eq] at hi0;have hi1:i₀ ∉ fl:=by simpa using hi0.2
 have hi0:=hi0.1;refine wpIn_region_any hm ?_;have same:Dk F₀ w₀ F₀ { w₀ with drawn:=w₀.drawn+1 }:=⟨Nat.le_refl _,fun _ _ _=>rfl,fun _ h _=>h⟩;have t₀:Trans F₀ H w₀ F₀ H { w₀ with drawn:=w₀.drawn+1 } :=
  ⟨Nat.le_refl _,fun _ _ _=>rfl,fun _ h _=>h,fun _ h=> .inl h,fun o ho b hb=> .inl ⟨o,ho,hb⟩,rfl,rfl,rfl⟩
 have hs₁:Dw F₀ ⟨n,τ,H,D⟩ a₀ { w₀ with drawn:=w₀.drawn+1 } :=
  ⟨hs₀.size,fun t=>CX.mono same _ _ (hs₀.tmp t),hs₀.heap.stable' same (fun _ h=>h) (fun _ _ _ _=>rfl) hs₀.heap.bd,Fb.mono same _ _ hs₀.defs⟩
 obtain⟨hdst,c0,c1,c2,_⟩:=KQ chk;obtain⟨fb,hfb⟩:∃fb,fb=base++tl.map Ez.val:=⟨_,rfl⟩;have hfl1:fb.length=ops.size:=by rw[hfb];simp;omega
 have hf1:∀j,j<base.length→j<fb.length∧fb.getD j .skip=base.getD j .skip:=fun j hj=>⟨by omega,by
  rw[hfb,List.getD_eq_getElem?_getD,List.getD_eq_getElem?_getD,List.getElem?_append_left hj]⟩
 have hf2:∀m,m<tl.length→base.length+m<fb.length∧fb.getD (base.length+m) .skip= .val (tl.getD m (.p .any)):=fun m hm=>⟨by omega,by
  rw[hfb,List.getD_eq_getElem?_getD,List.getElem?_append_right Au,Nat.add_sub_cancel_left,List.getElem?_map,List.getElem?_eq_getElem hm];simp[List.getElem?_eq_getElem hm]⟩
 have hd:∀β,Oc P ops n (fun _=>False) τ H (Fu β 0 fb):=fun β =>
  ⟨hdst,fun _ _ _ h=>h.elim,c0,c1,c2,fun i k _ _ h _=>(by rw[UP] at h;cases h),fun i e ob v _ _ _ h _ _=>absurd h (RU β fb 0 i ob v)⟩
 have flv:∀j,j∈fl→∃v,base.getD j .skip= .val v:=fun j hj=>by
  have:=List.all_eq_true.1 hfl j hj;cases hq:base.getD j .skip with
  | val v=>exact⟨v,rfl⟩
  | _=>simp only[hq] at this;cases this
 have hE:∀β,(∀j,j<base.length→(base.getD j .skip).ok (β j))→(∀j,j<base.length→∃o,ops[j]?=some o∧fh P ops H H₁ i₀ fl j o (τS ops (Fu β 0 fb) τ j) (base.getD j .skip)) ∧
   ∃Hm:Nat→List BU,Hm base.length=fm β 0 base++H₁∧(∀j,base.length≤j→j<ops.size→∃o,ops[j]?=some o∧o.guard=none∧D3 P o (ev (τS ops (Fu β 0 fb) τ j)) (Hm j) ((fb.getD j .skip).v (β j)) (Hm (j+1)))∧Q .normal ⟨n,τS ops (Fu β 0 fb) τ ops.size,Hm ops.size,D⟩:=fun β hβ=>by
  obtain⟨h1,h2⟩:=E5.facts (base:=base) (fb:=fb) hf1 β base 0 τ _ Av Av rfl h (fun j _ h=>hβ j h);obtain⟨Hm,g1,g2,g3⟩:=TV.facts (fb:=fb) β tl base.length _ _ _ hf2 rfl h2;rw[he] at g2 g3;exact⟨fun j hj=>h1 j (Nat.zero_le _) hj,Hm,g1,g2,g3⟩
 obtain⟨I,hI0⟩:∃I:Array Bool→Act→World→Prop,I=fun l a w=>l.size=ops.size∧∃β τ' F Hx,(∀j,j<base.length→(base.getD j .skip).ok (β j))∧Down ops (fun i=>l.getD i false=true)∧Gn ops (Fu β 0 fb) τ (fun i=>l.getD i false=true) τ'∧Dw F ⟨n,τ',Hx,D⟩ a w∧Trans F₀ H w₀ F Hx w ∧
  ((∃Hb,Hx=Hb++(if l.getD i₀ false=true then H₁ else H)∧(∀k,base.length≤k→l.getD k false=false)∧Hb.Perm (Ws β (fun k=>l.getD k false) 0 base)) ∨
   (∃(m:Nat) (Hm:Nat→List BU),(∀j,base.length≤j→j<ops.size→∃o,ops[j]?=some o∧o.guard=none∧D3 P o (ev (τS ops (Fu β 0 fb) τ j)) (Hm j) ((fb.getD j .skip).v (β j)) (Hm (j+1)))∧Q .normal ⟨n,τS ops (Fu β 0 fb) τ ops.size,Hm ops.size,D⟩∧base.length≤m∧m≤ops.size∧(∀k,base.length≤k→(l.getD k false=true↔k<m))∧(∀k,k<base.length→k ∉ fl→l.getD k false=true)∧Hx=Hm m)):=⟨_,rfl⟩
 refine KU (I:=I) (fun l a w h=>by rw[hI0] at h;exact h.1) ?_ ?_ _ _ _ _ ?_ ?_
 ·intro l a w hI i hi;rw[hI0] at hI;obtain⟨hsz,β,τ',F,Hx,hβ,hdown,hτ,hs,ht,hI⟩:=hI;obtain⟨hun,o,ho,hall⟩:=mem_ready.1 hi;have hlt:i<ops.size:=by
   rcases Nat.lt_or_ge i ops.size with h | h
   ·exact h
   simp[Array.getElem?_eq_none h] at ho
  have hil:i<l.size:=by omega
  have hnot:l.getD i false=false:=by
   have:l[i]=false:=by simpa [hil] using hun
   simp[hil,this]
  have hr:∀j∈EZ o,l.getD j false=true:=by
   intro j hj;simp only[EZ,List.mem_map,List.mem_filter] at hj;obtain⟨e,⟨he,hb⟩,rfl⟩:=hj;exact hall e (by simpa using he) hb
  have hset:∀k,(l.setIfInBounds i true).getD k false=true↔(l.getD k false=true∨k=i):=by
   intro k;by_cases hk:k=i
   ·subst hk;simp[hil]
   simp[Array.getElem?_setIfInBounds_ne (Ne.symm hk),hk]
  have hset2:∀k,(l.setIfInBounds i true).getD k false=(l.getD k false||k==i):=by
   intro k;by_cases hk:k=i
   ·subst hk;simp[hil]
   simp[Array.getElem?_setIfInBounds_ne (Ne.symm hk),hk]
  have hsz':(l.setIfInBounds i true).size=ops.size:=by simp[hsz]
  have hdown':Down ops (fun k=>(l.setIfInBounds i true).getD k false=true):=by
   intro k o' j ho' hk hj;rcases (hset k).1 hk with h | h
   ·exact(hset j).2 (.inl (hdown k o' j ho' h hj))
   subst h;rw[ho] at ho';injection ho' with ho';subst ho';exact(hset j).2 (.inl (hr j hj))
  have hlook:∀t∈looks ops o,τ' t=τS ops (Fu β 0 fb) τ i t:=fun t ht=>KL (hd β) hdown hτ ho (by rw[hnot];decide) hr ht;have hops:∀x∈o.op.operands.toList,ev τ' x=ev (τS ops (Fu β 0 fb) τ i) x:=by
   intro x hx;cases x with
   | tmp t=>exact hlook t (List.mem_append_left _ (List.mem_filterMap.2 ⟨.tmp t,hx,rfl⟩))
   | _=>rfl
  have hguard:∀j want d,o.guard=some (j,want)→(ops[j]?).bind (·.dst)=some d→τ' d=τS ops (Fu β 0 fb) τ i d:=by
   intro j want d hg hj;refine hlook d (List.mem_append_right _ ?_);simp[hg,hj]
  have hpred:∀{a},Pred ops a i→l.getD a false=true:=by
   have:∀{a b},Pred ops a b→b=i→l.getD a false=true:=by
    intro a b hab
    induction hab with
    | base ho' hj=>intro e;subst e;rw[ho] at ho';injection ho' with ho';subst ho';exact hr _ hj
    | trans p1 _ _ ih2=>intro e;exact hdown.pred p1 (ih2 e)
   exact fun {a} h=>this h O
  have wants:DM ops ⟨0,τS ops (Fu β 0 fb) τ i,[],[]⟩ o→DM ops ⟨n,τ',Hx,D⟩ o:=by
   intro h;unfold DM at *;cases hg:o.guard with
   | none=>simp[hg]
   | some jw =>
    obtain⟨j,want⟩:=jw;simp only[hg] at h ⊢;obtain⟨d,h1,h2⟩:=h;exact⟨d,h1,by rw[←h2];exact hguard j want d hg h1⟩
  -- one operation
  have exec:∀{Hx:List BU} {C:AV→List BU→Prop},Dw F ⟨n,τ',Hx,D⟩ a w→DM ops ⟨n,τ',Hx,D⟩ o→Dh P o (ev (τS ops (Fu β 0 fb) τ i)) Hx (fun r H'=>match r with | .val v=>C v H' | .panic _=>False)→(∀v H' a' w' F',C v H'→Dw F' ⟨n,put τ' o.dst v,H',D⟩ a' w'→Trans F Hx w F' H' w'→I (l.setIfInBounds i true) a' w')→wpOpIn (W r) 0 P ops (post F₀ H w₀ Q) i (fun a' w'=>I (l.setIfInBounds i true) a' w') a w:=by
   intro Hx C hs hwant hop close;unfold wpOpIn;simp only[ho,IK hs hwant,if_true];have hw:=hop r F _ a w hs rfl (fun x hx=>hops x hx) (fun t ht=>hdst i o t ho ht);unfold Oper.wpIn at *;refine⟨hw.1,?_⟩;replace hw:=hw.2;generalize (o.semAt (W r).round a.eval).run P w=rr at *;cases rr with
   | ok nx w' =>
    cases nx<;>simp only[Oper.uponIn] at hw ⊢
    case value u=>obtain⟨v',H'',F',h1,h3,h4⟩:=hw;exact close _ _ _ _ _ h1 h3 h4
    case skip=>obtain⟨v',H'',F',h1,h3,h4⟩:=hw;exact close _ _ _ _ _ h1 h3 h4
    case defer d=>obtain⟨v',H'',F',h1,h3,h4⟩:=hw;exact close _ _ _ _ _ h1 h3 h4
    case enter f args =>
     refine⟨hw.1,hw.2.mono fun e w'' he=>?_⟩;cases e with
     | returned u=>obtain⟨v',H'',F',h1,h3,h4⟩:=he;exact close _ _ _ _ _ h1 h3 h4
     | panicked c=>obtain⟨_,_,_,_,h,_⟩:=he;exact h.elim
     | outgrown=>obtain⟨_,_,_,_,_,_,h,_⟩:=he;exact h.elim
    case row row args=>exact⟨hw.1,hw.2.mono fun u w'' h=>by obtain⟨v',H'',F',h1,h3,h4⟩:=h;exact close _ _ _ _ _ h1 h3 h4⟩
    case round l' f tmps assign body =>
     refine⟨hw.1,hw.2.mono fun e w'' he=>?_⟩;cases e with
     | returned u=>obtain⟨v',H'',F',h1,h3,h4⟩:=he;exact close _ _ _ _ _ h1 h3 h4
     | panicked c=>obtain⟨_,_,_,_,h,_⟩:=he;exact h.elim
     | outgrown=>obtain⟨_,_,_,_,_,_,h,_⟩:=he;exact h.elim
   | halt x w' =>
    cases x<;>simp only[Oper.uponIn] at hw ⊢
    case panic u=>obtain⟨_,_,_,_,h,_⟩:=hw;exact h.elim
  have hτput:∀{v:AV},v=((Fu β 0 fb).getD i .skip).val→Gn ops (Fu β 0 fb) τ (fun k=>(l.setIfInBounds i true).getD k false=true) (put τ' o.dst v):=by
   intro v hv;have hτ3:=hτ.put (hd β) ho;rw[←hv] at hτ3;intro t;exact⟨fun k o' a1 a2 a3=>(hτ3 t).1 k o' a1 a2 ((hset k).1 a3),fun hn=>(hτ3 t).2 fun k o' a1 a2 a3=>hn k o' a1 a2 ((hset k).2 a3)⟩
  -- a tail operation
  have goTail:∀Hm:Nat→List BU,(∀j,base.length≤j→j<ops.size→∃o,ops[j]?=some o∧o.guard=none∧D3 P o (ev (τS ops (Fu β 0 fb) τ j)) (Hm j) ((fb.getD j .skip).v (β j)) (Hm (j+1)))→Q .normal ⟨n,τS ops (Fu β 0 fb) τ ops.size,Hm ops.size,D⟩→base.length≤i→(∀k,base.length≤k→(l.getD k false=true↔k<i))→(∀k,k<base.length→k ∉ fl→l.getD k false=true)→Dw F ⟨n,τ',Hm i,D⟩ a w→Trans F₀ H w₀ F (Hm i) w→wpOpIn (W r) 0 P ops (post F₀ H w₀ Q) i (fun a' w'=>I (l.setIfInBounds i true) a' w') a w:=by
   intro Hm g2 g3 hbi hk1 hk2 hs ht;obtain⟨o',ho',hg,hop⟩:=g2 i hbi hlt;rw[ho] at ho';injection ho' with ho';subst ho';refine exec (C:=fun v H'=>v=(fb.getD i .skip).v (β i)∧H'=Hm (i+1)) hs (by unfold DM;rw[hg];trivial) (Dh.mono hop (by
    intro r H' hR;cases r with
    | val v'=>exact hR
    | panic v'=>exact hR.elim)) ?_
   rintro v H' a' w' F' ⟨hv,rfl⟩ h3 h4;rw[hI0];refine⟨hsz',β,put τ' o.dst v,F',Hm (i+1),hβ,hdown',hτput (by rw[hv,Eb β Au]),h3,ht.trans hs₀.heap.bd h4,.inr ⟨i+1,Hm,g2,g3,by omega,by omega,fun k hk=>?_,fun k h1 h2=>(hset k).2 (.inl (hk2 k h1 h2)),rfl⟩⟩;rw[hset k,hk1 k hk];omega
  rcases hI with ⟨Hb,rfl,hno,hp⟩ | ⟨m,Hm,g2,g3,hm1,hm2,hk1,hk2,rfl⟩
  ·rcases Nat.lt_or_ge i base.length with hib | hib
   ·-- of the first part
    obtain⟨o',ho',hok⟩:=(hE β hβ).1 i hib;rw[ho] at ho';injection ho' with ho';subst ho';have hno':∀k,base.length≤k→(l.setIfInBounds i true).getD k false=false:=by
     intro k hk;rw[hset2 k,hno k hk];simp;omega
    generalize hbe:base.getD i .skip=e at hok;have close:∀{a' w' F' b H'},e.ok b→H'=e.box b++(Hb++(if (l.setIfInBounds i true).getD i₀ false=true then H₁ else H))→Dw F' ⟨n,put τ' o.dst (e.v b),H',D⟩ a' w'→Trans F (Hb++(if l.getD i₀ false=true then H₁ else H)) w F' H' w'→I (l.setIfInBounds i true) a' w':=by
     intro a' w' F' b H' hb0 hH h3 h4;subst hH;rw[hI0];have hspn:∀k,k<fb.length→((Fu (fun j=>if j=i then b else β j) 0 fb).getD k .skip).val=(fb.getD k .skip).v (if k=i then b else β k):=fun k hk=>Eb _ hk;refine⟨hsz',fun j=>if j=i then b else β j,put τ' o.dst (e.v b),F',e.box b++(Hb++(if (l.setIfInBounds i true).getD i₀ false=true then H₁ else H)),(fun j hj=>by
      by_cases e3:j=i
      ·subst e3;simp only[if_true];rw[hbe];exact hb0
      simp only[if_neg e3];exact hβ j hj),hdown',?_,h3,ht.trans hs₀.heap.bd h4,.inl ⟨e.box b++Hb,by rw[List.append_assoc],hno',?_⟩⟩
     ·have hτ2:Gn ops (Fu (fun j=>if j=i then b else β j) 0 fb) τ (fun k=>l.getD k false=true) τ':=by
       intro t;refine⟨fun k o' a1 a2 a3=>?_,(hτ t).2⟩;have a4:l.getD k false=true:=a3;have hki:k≠i:=fun e=>by subst e;rw[hnot] at a4;cases a4
       rw[(hτ t).1 k o' a1 a2 a3];rcases Nat.lt_or_ge k fb.length with hk | hk
       ·rw[Eb _ hk,Eb _ hk,if_neg hki]
       rw[Js _ hk,Js _ hk]
      have hτ3:=hτ2.put (hd _) ho;rw[Eb _ Au,if_pos rfl,(hf1 i hib).2,hbe] at hτ3;intro t;exact⟨fun k o' a1 a2 a3=>(hτ3 t).1 k o' a1 a2 ((hset k).1 a3),fun hn=>(hτ3 t).2 fun k o' a1 a2 a3=>hn k o' a1 a2 ((hset k).2 a3)⟩
     have h1:=QU (β:=β) (l:=fun k=>l.getD k false) (i:=i) (b:=b) hnot base 0 (Nat.zero_le _) Au;rw[Nat.sub_zero,hbe] at h1;refine(hp.append_left _).trans (h1.trans (List.Perm.of_eq ?_));exact Kk base 0 fun j _=>⟨(hset2 j).symm,fun _=>O⟩
    have yields:DM ops ⟨n,τ',Hb++(if l.getD i₀ false=true then H₁ else H),D⟩ o→Dh P o (ev (τS ops (Fu β 0 fb) τ i)) (Hb++(if l.getD i₀ false=true then H₁ else H)) (fun r H'=>match r with | .val v=>∃b,e.ok b∧v=e.v b∧H'=e.box b++(Hb++(if (l.setIfInBounds i true).getD i₀ false=true then H₁ else H)) | .panic _=>False)→wpOpIn (W r) 0 P ops (post F₀ H w₀ Q) i (fun a' w'=>I (l.setIfInBounds i true) a' w') a w:=fun h1 h2 =>
     exec (C:=fun v H'=>∃b,e.ok b∧v=e.v b∧H'=e.box b++(Hb++(if (l.setIfInBounds i true).getD i₀ false=true then H₁ else H))) hs h1 h2 (by rintro v H' a' w' F' ⟨b,h0,rfl,h1⟩ h3 h4;exact close h0 h1 h3 h4)
    by_cases hii:i=i₀
    ·rw[fh,if_pos hii] at hok;obtain⟨v,rfl,hg,hop⟩:=hok;have e1:(if (l.setIfInBounds i true).getD i₀ false=true then H₁ else H)=H₁:=if_pos ((hset i₀).2 (.inr hii.symm));have e2:(if l.getD i₀ false=true then H₁ else H)=H:=if_neg (by rw[←hii,hnot];simp);refine yields (by unfold DM;rw[hg];trivial) ?_;rw[e2];refine(hop Hb).mono ?_;intro r H' hR;cases r with
     | val v'=>obtain⟨rfl,rfl⟩:=hR;exact⟨(0,0,.p .any),trivial,rfl,by rw[e1];rfl⟩
     | panic v'=>exact hR.elim
    rw[fh,if_neg hii] at hok;have heq:(if (l.setIfInBounds i true).getD i₀ false=true then H₁ else H)=(if l.getD i₀ false=true then H₁ else H):=by
     rw[hset2 i₀];simp[Ne.symm hii]
    have hok:Vb P ops (if l.getD i₀ false=true then H₁ else H) o (τS ops (Fu β 0 fb) τ i) e:=by
     split
     ·exact hok.2.1
     exact hok.1
    cases e with
    | val v=>exact yields (wants hok.1) ((hok.2 Hb).mono (by
      intro r H' hR;cases r with
      | val v'=>obtain⟨rfl,rfl⟩:=hR;exact⟨(0,0,.p .any),trivial,rfl,by rw[heq];rfl⟩
      | panic v'=>exact hR.elim))
    | new cs =>
     refine yields (by unfold DM;rw[hok.1];trivial) ((hok.2 _).mono ?_);intro r H' hR;cases r with
     | val v'=>obtain⟨b,rfl,rfl⟩:=hR;exact⟨(b,0,.p .any),trivial,rfl,by rw[heq];rfl⟩
     | panic v'=>exact hR.elim
    | newv sz rows =>
     refine yields (by unfold DM;rw[hok.1];trivial) ((hok.2 _).mono ?_);intro r H' hR;cases r with
     | val v'=>obtain⟨b,c,rfl,rfl⟩:=hR;exact⟨(b,c,.p .any),trivial,rfl,by rw[heq];rfl⟩
     | panic v'=>exact hR.elim
    | rel R =>
     refine yields (by unfold DM;rw[hok.1];trivial) ((hok.2 _).mono ?_);intro r H' hR;cases r with
     | val v'=>obtain⟨h1,rfl⟩:=hR;exact⟨(0,0,v'),h1,rfl,by rw[heq];rfl⟩
     | panic v'=>exact hR.elim
    | skip =>
     obtain⟨j,want,d,hg,hj,hb⟩:=hok;have hw:Region.wanted o (yielded ops a.tmps)=false:=Kc (S:=⟨n,τ',Hb++(if l.getD i₀ false=true then H₁ else H),D⟩) hs hg hj (by show fj (τ' d) want;rw[hguard j want d hg hj];exact hb);unfold wpOpIn;simp only[ho,hw,Bool.false_eq_true,if_false];refine⟨fun _ _=>Aw,close (b:=(0,0,.p .any)) Aw (by rw[heq];rfl) ?_ .refl⟩;exact hs.put (fun t ht=>hdst i o t ho ht) ⟨Nat.le_refl _,fun _ _ _=>O,fun _ h _=>h⟩ hs.heap (by simp only[Ez.v,CX,CD,undef];exact⟨[],rfl,rfl⟩)
   -- the first of the rest
   have hpre:∀j,j<i→¬(j<base.length∧j∈fl)→l.getD j false=true:=fun j hj hf=>hpred (Ky late hib hlt hj hf);have hie:i=base.length:=by
    rcases Nat.lt_or_ge base.length i with h | h
    ·have h1:=hpre base.length h (fun h=>Nat.lt_irrefl _ h.1);rw[hno base.length (Nat.le_refl _)] at h1;cases h1
    omega
   obtain⟨Hm,g1,g2,g3⟩:=(hE β hβ).2;have hl0:(if l.getD i₀ false=true then H₁ else H)=H₁:=if_pos (hpre i₀ Au fun h=>hi1 h.2);rw[hl0] at hs ht;have hp2:(Hb++H₁).Perm (Hm i):=by
    rw[hie,g1];refine List.Perm.append_right H₁ (hp.trans (List.Perm.of_eq (YJ base 0 fun j hj=>?_)));rw[Nat.zero_add];by_cases hq:j∈fl
    ·exact .inr (flv j hq)
    exact .inl (hpre j Au fun h=>hq h.2)
   refine goTail Hm g2 g3 hib (fun k hk=>⟨fun h=>?_,fun h=>by omega⟩) (fun k h1 h2=>hpre k Au fun h=>h2 h.2) ⟨hs.size,hs.tmp,hs.heap.perm hp2,hs.defs⟩ { ht with keys:=fun o ho=>ht.keys o (hp2.mem_iff.2 ho) };rw[hno k hk] at h;cases h
  rcases Nat.lt_or_ge i base.length with hib | hib
  ·-- a value that floats
   have hif:i∈fl:=Classical.byContradiction fun hq=>by rw[hk2 i hib hq] at hnot;cases hnot
   obtain⟨v,hv⟩:=flv i hif;obtain⟨o',ho',hok⟩:=(hE β hβ).1 i hib;rw[ho] at ho';injection ho' with ho';subst ho';rw[hv,fh,if_neg (fun q:i=i₀=>hi1 (q▸hif))] at hok;refine exec (C:=fun v' H'=>v'=v∧H'=Hm m) hs (wants hok.1.1) ((hok.2.2 (by simpa using hif) v O (Hm m)).mono (by
    intro r H' hR;cases r with
    | val v'=>exact hR
    | panic v'=>exact hR.elim)) ?_
   rintro v' H' a' w' F' ⟨rfl,rfl⟩ h3 h4;rw[hI0];refine⟨hsz',β,put τ' o.dst v',F',Hm m,hβ,hdown',hτput (by rw[Eb β Au,(hf1 i hib).2,hv];rfl),h3,ht.trans hs₀.heap.bd h4,.inr ⟨m,Hm,g2,g3,hm1,hm2,fun k hk=>?_,fun k h1 h2=>(hset k).2 (.inl (hk2 k h1 h2)),O⟩⟩;rw[hset k,hk1 k hk];exact⟨fun h=>h.resolve_right Au,.inl⟩
  have him:i=m:=by
   rcases Nat.lt_trichotomy i m with h | h | h
   ·rw[(hk1 i hib).2 h] at hnot;cases hnot
   ·exact h
   have:=hpred (Ky late (by omega:base.length≤i) hlt h (fun h=>by omega));have:=(hk1 m hm1).1 this;omega
  subst him;exact goTail Hm g2 g3 hib hk1 hk2 hs ht
 ·intro l a w hI hr;rw[hI0] at hI;obtain⟨hsz,β,τ',F,Hx,hβ,hdown,hτ,hs,ht,hI⟩:=hI;have hall:∀i,i<ops.size→l.getD i false=true:=by
   intro i
   induction i using Nat.strongRecOn with
   | _ i ih =>
    intro hi;cases hq:l.getD i false with
    | true=>rfl
    | false =>
     have ho:ops[i]?=some ops[i]:=Array.getElem?_eq_getElem hi;have:i∈Region.ready .any ops l:=by
      refine mem_ready.2 ⟨?_,ops[i],ho,?_⟩
      ·have:i<l.size:=by omega
       simp[this] at hq ⊢;exact hq
      intro e he hb;have hj:e.on∈EZ ops[i]:=by
       simp only[EZ,List.mem_map,List.mem_filter];exact⟨e,⟨by simpa using he,hb⟩,rfl⟩
      have hlt:=c0 i _ _ ho hj;exact ih e.on hlt Au
     rw[hr] at this;cases this
  have hτe:τ'=τS ops (Fu β 0 fb) τ ops.size:=by
   funext t;have h2:=Mc (hd β) ops.size (Nat.le_refl _) t;by_cases hw:∃(k:Nat) (o':Oper),ops[k]?=some o'∧o'.dst=some t
   ·obtain⟨k,o',ho',hk⟩:=hw;have hlt:k<ops.size:=by
     rcases Nat.lt_or_ge k ops.size with h | h
     ·exact h
     simp[Array.getElem?_eq_none h] at ho'
    rw[(hτ t).1 k o' ho' hk (hall k hlt),h2.1 k o' ho' hk hlt]
   rw[(hτ t).2 fun k o' h1 h2 _=>hw ⟨k,o',h1,h2⟩,h2.2 fun k o' h1 h2 _=>hw ⟨k,o',h1,h2⟩]
  have fin:∀Hy:List BU,Hx.Perm Hy→Q .normal ⟨n,τS ops (Fu β 0 fb) τ ops.size,Hy,D⟩→post F₀ H w₀ Q .normal a w:=fun Hy hp hq =>
   ⟨.normal,_,F,hq,rfl,⟨by exact hs.size,by rw[←hτe];exact hs.tmp,hs.heap.perm hp,hs.defs⟩,{ ht with keys:=fun o ho=>ht.keys o (hp.mem_iff.2 ho) }⟩
  rcases hI with ⟨Hb,rfl,hno,hp⟩ | ⟨m,Hm,g2,g3,hm1,hm2,hk1,hk2,rfl⟩
  ·have hbs:base.length=ops.size:=by
    rcases Nat.lt_or_ge base.length ops.size with h | h
    ·have:=hall base.length h;rw[hno base.length (Nat.le_refl _)] at this;cases this
    omega
   obtain⟨Hm,g1,g2,g3⟩:=(hE β hβ).2;refine fin (Hm ops.size) ?_ g3;rw[←hbs,g1,if_pos (hall i₀ Au)];exact List.Perm.append_right H₁ (hp.trans (List.Perm.of_eq (Ui base 0 fun j _ hj=>hall j Au)))
  have hms:m=ops.size:=by
   rcases Nat.lt_or_ge m ops.size with h | h
   ·have:=(hk1 m hm1).1 (hall m h);omega
   omega
  subst hms;exact fin _ (List.Perm.refl _) g3
 ·obtain⟨β0,hβ0⟩:=bK.pick base hne;rw[hI0];refine⟨by simp,β0,τ,F₀,H,hβ0,?_,?_,hs₁,t₀,.inl ⟨[],by rw[if_neg (by by_cases h:i₀<ops.size<;>simp[h])];rfl,?_,?_⟩⟩
  ·intro i o j ho hi;by_cases h:i<ops.size<;>simp[h] at hi
  ·intro t;refine⟨fun k o ho hk hl=>?_,fun _=>O⟩;by_cases h:k<ops.size<;>simp[h] at hl
  ·intro k _;by_cases h:k<ops.size<;>simp[h]
  rw[N2 base 0 fun j=>by by_cases h:j<ops.size<;>simp[h]]
 have:=List.length_filter_le (fun b:Bool=> !b) (Array.replicate ops.size false).toList;simp at this ⊢
section
variable {P:Program}{ops:Array Oper}{H₀ H₁:List BU}{i₀:Nat}{fl:List Nat}{k:Nat}{τ:Nat→AV}{r:List Ez}{K:(Nat→AV)→List BU→Prop}{dst:Option Tmp}{op:Op}{ty:TypeId}{pos:String}{aft:Array Edge}{v:AV}
theorem GH (ho:ops[k]?=some ⟨dst,op,ty,pos,aft,none⟩) (hk:Nat.beq k i₀=false) (hf:fl.contains k=false) (h:∀Bs,D3 P ⟨dst,op,ty,pos,aft,none⟩ (ev τ) (Bs++H₀) v (Bs++H₀)) (h':∀Bs,D3 P ⟨dst,op,ty,pos,aft,none⟩ (ev τ) (Bs++H₁) v (Bs++H₁)) (next:E5 P ops H₀ H₁ i₀ fl (k+1) (put τ dst v) r K):E5 P ops H₀ H₁ i₀ fl k τ (.val v::r) K :=
 ⟨_,ho,by rw[fh,if_neg (fun e=>by rw[e] at hk;simp at hk)];exact⟨⟨trivial,h⟩,⟨trivial,h'⟩,fun q=>by rw[hf] at q;cases q⟩,fun _ _=>next⟩
theorem Bz (ho:ops[k]?=some ⟨dst,op,ty,pos,aft,none⟩) (hk:Nat.beq k i₀=false) (h:∀Bs,D3 P ⟨dst,op,ty,pos,aft,none⟩ (ev τ) Bs v Bs) (next:E5 P ops H₀ H₁ i₀ fl (k+1) (put τ dst v) r K):E5 P ops H₀ H₁ i₀ fl k τ (.val v::r) K :=
 ⟨_,ho,by rw[fh,if_neg (fun e=>by rw[e] at hk;simp at hk)];exact⟨⟨trivial,fun Bs=>h _⟩,⟨trivial,fun Bs=>h _⟩,fun _ v' e X=>by cases e;exact h X⟩,fun _ _=>next⟩
theorem J5 (ho:ops[i₀]?=some ⟨dst,op,ty,pos,aft,none⟩) (h:∀Bs,D3 P ⟨dst,op,ty,pos,aft,none⟩ (ev τ) (Bs++H₀) v (Bs++H₁)) (next:E5 P ops H₀ H₁ i₀ fl (i₀+1) (put τ dst v) r K):E5 P ops H₀ H₁ i₀ fl i₀ τ (.val v::r) K :=
 ⟨_,ho,by rw[fh,if_pos rfl];exact⟨v,rfl,rfl,h⟩,fun _ _=>next⟩
theorem Pd {cs:List AV}(ho:ops[k]?=some ⟨dst,op,ty,pos,aft,none⟩) (hk:Nat.beq k i₀=false) (h:∀Bs,Dh P ⟨dst,op,ty,pos,aft,none⟩ (ev τ) Bs (Iv cs Bs)) (next:∀b,E5 P ops H₀ H₁ i₀ fl (k+1) (put τ dst (.ptr b 0)) r (fun τ' Hs=>K τ' (.box b cs::Hs))):E5 P ops H₀ H₁ i₀ fl k τ (.new cs::r) K :=
 ⟨_,ho,by rw[fh,if_neg (fun e=>by rw[e] at hk;simp at hk)];exact⟨⟨rfl,fun Bs=>h _⟩,⟨rfl,fun Bs=>h _⟩,fun _ v' e=>by cases e⟩,fun b _=>next b.1⟩
theorem EA {H:List BU}{l:List AV}{C:(Nat→AV)→List BU→Prop}(H':List BU) (ho:ops[k]?=some ⟨dst,op,ty,pos,aft,none⟩) (h:D3 P ⟨dst,op,ty,pos,aft,none⟩ (ev τ) H v H') (next:TV P ops (k+1) (put τ dst v) H' l C):TV P ops k τ H (v::l) C :=
 ⟨_,H',ho,rfl,h,next⟩
theorem KC {H:List BU}{C:(Nat→AV)→List BU→Prop}(h:C τ H):TV P ops k τ H [] C:=h
theorem G2 {c:Call}{f:Operand}{fid:FuncId}{first caps A:List AV}{ρ:Operand→AV}{H Hs Hs':List BU}{g:Option (Nat×Bool)}{Bs:List BU}(is:List Nat) (hc:c.callee= .value f) (hf:(ρ f= .p (.fn fid)∧first=[]∧caps=[])∨ρ f= .fn (.func fid) first caps) (h:B4 P fid A Hs (Gx v Hs')) (hg:Fm H is Hs) (hn:is.Nodup) (hl:Hs'.length=Hs.length) (hA:Gc (first++c.args.toList.map ρ++caps) A) :
  D3 P ⟨dst,.call c,ty,pos,aft,g⟩ ρ (Bs++H) v (Bs++Ll H is Hs'):=by
 have hp:(Bs++H).Perm (Hs++(Bs++DO is 0 H)):=by
  refine((Dj hn hg).append_left Bs).trans ?_;rw[←List.append_assoc,←List.append_assoc];exact List.perm_append_comm.append_right _
 refine Dh.permR (Gd (H:=Bs++H) hc hf hp (h.args hA) (.inl O)) ?_;rintro r H' ⟨Hs2,h1,rfl⟩;cases r with
 | val v' =>
  obtain⟨rfl,rfl⟩:=h1;refine⟨Bs++Ll H is Hs2,?_,O,O⟩;have hq:=(Mf hn hg hl).append_left Bs;refine List.Perm.trans ?_ hq.symm;rw[←List.append_assoc,←List.append_assoc];exact List.perm_append_comm.append_right _
 | panic v'=>exact h1.elim
def iy (P:Program) (T:TypeId):Bool:=match P.underlying T with
 | some (.interface _)=>false
 | some _=>true
 | none=>false
theorem TU {P:Program}{T:TypeId}(h:iy P T=true):∃d,P.underlying T=some d∧(∀ms,d≠ .interface ms)∧(match d with | .interface _=>false | _=>true)=true:=by
 unfold iy at h;cases hd:P.underlying T with
 | none=>rw[hd] at h;cases h
 | some d =>
  rw[hd] at h;refine⟨d,O,fun ms e=>?_,?_⟩
  ·subst e;cases h
  cases d<;>first | rfl | exact h
theorem JR {T:TypeId}{x:Operand}{ρ:Operand→AV}{H:List BU}{g:Option (Nat×Bool)}(hc:iy P T=true) (hx:ρ x= .agg []):D3 P ⟨dst,.makeInterface T x,ty,pos,aft,g⟩ ρ H (.p (.iface T .unit)) H :=
 Cf fun F w E hH hE=>by
  have h1:=hE x Ae;rw[hx] at h1;simp only[CX] at h1;obtain⟨vs,h2,h3⟩:=h1;simp only[CD] at h3;subst h3;obtain⟨d,hu,hd,_⟩:=TU hc;refine⟨.iface T (E x),?_,by simp only[CX,Ca];exact⟨_,rfl,h2⟩⟩;cases d<;>simp_all [execOp,Instr.makeInterface,Sem.run_bind,run_underlying hu]
theorem Vr {T A:TypeId}{x:Operand}{ρ:Operand→AV}{H:List BU}{c:PV}{g:Option (Nat×Bool)}(hc:iy P A=true) (hx:ρ x= .p (.iface A c)):D3 P ⟨dst,.typeAssert x T A true,ty,pos,aft,g⟩ ρ H (.tup [.p c,.p (.bool true)]) H:=by
 obtain⟨d,hu,_,hd⟩:=TU hc;exact RM hu (by cases d<;>first | rfl | exact hd) hx
theorem J6 (h:K τ []):E5 P ops H₀ H₁ i₀ fl k τ [] K:=h
end
def iU (P:Program) (ops:Array Oper) (H:List BU) (u:AV) (i₀ k:Nat) (o:Oper) (τ:Nat→AV) (e:Ez):Prop :=
 if k=i₀ then o.guard=none∧∀Bs,Dh P o (ev τ) (Bs++H) (fun r _=>r= .panic u) else M3 ops i₀ k=true∨Vb P ops H o τ e
def E7 (P:Program) (ops:Array Oper) (H:List BU) (u:AV) (i₀:Nat):Nat→(Nat→AV)→List Ez→Prop
 | _,τ,[]=>True
 | k,τ,e::r=>∃o,ops[k]?=some o∧iU P ops H u i₀ k o τ e∧∀b,e.ok b→E7 P ops H u i₀ (k+1) (put τ o.dst (e.v b)) r
theorem E7.facts {P:Program}{ops:Array Oper}{H₀:List BU}{τ:Nat→AV}{base:List Ez}{u:AV}{i₀:Nat}(β:Nat→BV):∀(r:List Ez) (k:Nat) (τk:Nat→AV),base.drop k=r→k+r.length=base.length→τk=τS ops (Fu β 0 base) τ k→E7 P ops H₀ u i₀ k τk r→(∀j,k≤j→j<base.length→(base.getD j .skip).ok (β j)) →
  (∀j,k≤j→j<base.length→∃o,ops[j]?=some o∧iU P ops H₀ u i₀ j o (τS ops (Fu β 0 base) τ j) (base.getD j .skip))
 | [],k,τk,hd,hk,ht,h,hβ=>by
  simp only[List.length_nil,Nat.add_zero] at hk;subst hk;exact fun j h1 h2=>by omega
 | e::r,k,τk,hd,hk,ht,h,hβ=>by
  obtain⟨o,ho,hok,hn⟩:=h;simp only[List.length_cons] at hk;have hb:base.getD k .skip=e:=by
   have:(base.drop k)[0]?=some e:=by rw[hd];rfl
   rw[List.getElem?_drop] at this;rw[List.getD_eq_getElem?_getD,show k=k+0 by omega,this];rfl
  have hd2:base.drop (k+1)=r:=by
   rw[←List.drop_drop,hd];rfl
  have h1:=E7.facts (τ:=τ) (base:=base) β r (k+1) _ hd2 Au (by simp only[τS,ho,Option.bind_some];rw[Eb β Au,hb,←ht]) (hn (β k) (by have:=hβ k (Nat.le_refl _) Au;rwa [hb] at this)) (fun j h1 h2=>hβ j Au h2);intro j hj hl;by_cases e2:j=k
  ·subst e2;exact⟨o,ho,by rw[hb,←ht];exact hok⟩
  exact h1 j Au hl
theorem I7 {P:Program}{r:Option Nat}{ops:Array Oper}{id n:Nat}{τ:Nat→AV}{H:List BU}{D:List Ej}{Q:DJ→B5→Prop}(u:AV) (i₀:Nat) (base:List Ez) (hm:P.follows .mixedOrders=true)
  (he:base.length=ops.size) (chk:OC ops n []=true) (hi0:Nat.blt i₀ base.length=true) (hne:bK base) (hQ:∀τ' H',Q (.panic u) ⟨n,τ',H',D⟩)
  (h:E7 P ops H u i₀ 0 τ base):JH P r (.region id ops true) ⟨n,τ,H,D⟩ Q:=by
 intro F₀ a₀ w₀ hs₀;rw[Nat.blt_eq] at hi0;refine wpIn_region_any hm ?_;have same:Dk F₀ w₀ F₀ { w₀ with drawn:=w₀.drawn+1 }:=⟨Nat.le_refl _,fun _ _ _=>rfl,fun _ h _=>h⟩;have t₀:Trans F₀ H w₀ F₀ H { w₀ with drawn:=w₀.drawn+1 } :=
  ⟨Nat.le_refl _,fun _ _ _=>rfl,fun _ h _=>h,fun _ h=> .inl h,fun o ho b hb=> .inl ⟨o,ho,hb⟩,rfl,rfl,rfl⟩
 have hs₁:Dw F₀ ⟨n,τ,H,D⟩ a₀ { w₀ with drawn:=w₀.drawn+1 } :=
  ⟨hs₀.size,fun t=>CX.mono same _ _ (hs₀.tmp t),hs₀.heap.stable' same (fun _ h=>h) (fun _ _ _ _=>rfl) hs₀.heap.bd,Fb.mono same _ _ hs₀.defs⟩
 obtain⟨hdst,c0,c1,c2,_⟩:=KQ chk;have hd:∀β,Oc P ops n (fun _=>False) τ H (Fu β 0 base):=fun β =>
  ⟨hdst,fun _ _ _ h=>h.elim,c0,c1,c2,fun i k _ _ h _=>(by rw[UP] at h;cases h),fun i e ob v _ _ _ h _ _=>absurd h (RU β base 0 i ob v)⟩
 have hE:∀β,(∀j,j<base.length→(base.getD j .skip).ok (β j))→∀j,j<base.length→∃o,ops[j]?=some o∧iU P ops H u i₀ j o (τS ops (Fu β 0 base) τ j) (base.getD j .skip):=fun β hβ j hj =>
  E7.facts (base:=base) β base 0 τ Av Av rfl h (fun j _ h=>hβ j h) j (Nat.zero_le _) hj
 obtain⟨I,hI0⟩:∃I:Array Bool→Act→World→Prop,I=fun l a w=>l.size=ops.size∧l.getD i₀ false=false∧∃β τ' F Hb,(∀j,j<base.length→(base.getD j .skip).ok (β j))∧Down ops (fun i=>l.getD i false=true)∧Gn ops (Fu β 0 base) τ (fun i=>l.getD i false=true) τ'∧Dw F ⟨n,τ',Hb++H,D⟩ a w∧Trans F₀ H w₀ F (Hb++H) w ∧
  Hb.Perm (Ws β (fun k=>l.getD k false) 0 base):=⟨_,rfl⟩
 refine KU (I:=I) (fun l a w h=>by rw[hI0] at h;exact h.1) ?_ ?_ _ _ _ _ ?_ ?_
 ·intro l a w hI i hi;rw[hI0] at hI;obtain⟨hsz,hl0,β,τ',F,Hb,hβ,hdown,hτ,hs,ht,hp⟩:=hI;obtain⟨hun,o,ho,hall⟩:=mem_ready.1 hi;have hlt:i<ops.size:=by
   rcases Nat.lt_or_ge i ops.size with h | h
   ·exact h
   simp[Array.getElem?_eq_none h] at ho
  have hil:i<l.size:=by omega
  have hnot:l.getD i false=false:=by
   have:l[i]=false:=by simpa [hil] using hun
   simp[hil,this]
  have hr:∀j∈EZ o,l.getD j false=true:=by
   intro j hj;simp only[EZ,List.mem_map,List.mem_filter] at hj;obtain⟨e,⟨he,hb⟩,rfl⟩:=hj;exact hall e (by simpa using he) hb
  have hset:∀k,(l.setIfInBounds i true).getD k false=true↔(l.getD k false=true∨k=i):=by
   intro k;by_cases hk:k=i
   ·subst hk;simp[hil]
   simp[Array.getElem?_setIfInBounds_ne (Ne.symm hk),hk]
  have hset2:∀k,(l.setIfInBounds i true).getD k false=(l.getD k false||k==i):=by
   intro k;by_cases hk:k=i
   ·subst hk;simp[hil]
   simp[Array.getElem?_setIfInBounds_ne (Ne.symm hk),hk]
  have hsz':(l.setIfInBounds i true).size=ops.size:=by simp[hsz]
  have hdown':Down ops (fun k=>(l.setIfInBounds i true).getD k false=true):=by
   intro k o' j ho' hk hj;rcases (hset k).1 hk with h | h
   ·exact(hset j).2 (.inl (hdown k o' j ho' h hj))
   subst h;rw[ho] at ho';injection ho' with ho';subst ho';exact(hset j).2 (.inl (hr j hj))
  have hlook:∀t∈looks ops o,τ' t=τS ops (Fu β 0 base) τ i t:=fun t ht=>KL (hd β) hdown hτ ho (by rw[hnot];decide) hr ht;have hops:∀x∈o.op.operands.toList,ev τ' x=ev (τS ops (Fu β 0 base) τ i) x:=by
   intro x hx;cases x with
   | tmp t=>exact hlook t (List.mem_append_left _ (List.mem_filterMap.2 ⟨.tmp t,hx,rfl⟩))
   | _=>rfl
  have hguard:∀j want d,o.guard=some (j,want)→(ops[j]?).bind (·.dst)=some d→τ' d=τS ops (Fu β 0 base) τ i d:=by
   intro j want d hg hj;refine hlook d (List.mem_append_right _ ?_);simp[hg,hj]
  have hpred:∀{a},Pred ops a i→l.getD a false=true:=by
   have:∀{a b},Pred ops a b→b=i→l.getD a false=true:=by
    intro a b hab
    induction hab with
    | base ho' hj=>intro e;subst e;rw[ho] at ho';injection ho' with ho';subst ho';exact hr _ hj
    | trans p1 _ _ ih2=>intro e;exact hdown.pred p1 (ih2 e)
   exact fun {a} h=>this h O
  have wants:DM ops ⟨0,τS ops (Fu β 0 base) τ i,[],[]⟩ o→DM ops ⟨n,τ',Hb++H,D⟩ o:=by
   intro h;unfold DM at *;cases hg:o.guard with
   | none=>simp[hg]
   | some jw =>
    obtain⟨j,want⟩:=jw;simp only[hg] at h ⊢;obtain⟨d,h1,h2⟩:=h;exact⟨d,h1,by rw[←h2];exact hguard j want d hg h1⟩
  -- one operation
  have exec:∀{C:Ei→List BU→Prop},DM ops ⟨n,τ',Hb++H,D⟩ o→Dh P o (ev (τS ops (Fu β 0 base) τ i)) (Hb++H) C→(∀v H' a' w' F',C (.val v) H'→Dw F' ⟨n,put τ' o.dst v,H',D⟩ a' w'→Trans F (Hb++H) w F' H' w'→I (l.setIfInBounds i true) a' w')→(∀v H',C (.panic v) H'→v=u)→wpOpIn (W r) 0 P ops (post F₀ H w₀ Q) i (fun a' w'=>I (l.setIfInBounds i true) a' w') a w:=by
   intro C hwant hop close hpv;unfold wpOpIn;simp only[ho,IK hs hwant,if_true];have hw:=hop r F _ a w hs rfl (fun x hx=>hops x hx) (fun t ht=>hdst i o t ho ht);unfold Oper.wpIn at *;refine⟨hw.1,?_⟩;replace hw:=hw.2;have pans:∀{e a' w'},(∃v H' F' u',C (.panic v) H'∧e= .panic [{ v:=u',recovered:=false }]∧CX F' w' v u'∧Dw F' ⟨n,τ',H',D⟩ a' w'∧Trans F (Hb++H) w F' H' w')→post F₀ H w₀ Q e a' w':=by
    rintro e a' w' ⟨v,H',F',u',h1,rfl,h2,h3,h4⟩;have:=hpv v H' h1;subst this;exact⟨.panic v,_,F',hQ τ' H',⟨u',O,h2⟩,h3,ht.trans hs₀.heap.bd h4⟩
   generalize (o.semAt (W r).round a.eval).run P w=rr at *;cases rr with
   | ok nx w' =>
    cases nx<;>simp only[Oper.uponIn] at hw ⊢
    case value u=>obtain⟨v',H'',F',h1,h3,h4⟩:=hw;exact close _ _ _ _ _ h1 h3 h4
    case skip=>obtain⟨v',H'',F',h1,h3,h4⟩:=hw;exact close _ _ _ _ _ h1 h3 h4
    case defer d=>obtain⟨v',H'',F',h1,h3,h4⟩:=hw;exact close _ _ _ _ _ h1 h3 h4
    case enter f args =>
     refine⟨hw.1,hw.2.mono fun e w'' he=>?_⟩;cases e with
     | returned u=>obtain⟨v',H'',F',h1,h3,h4⟩:=he;exact close _ _ _ _ _ h1 h3 h4
     | panicked c=>exact pans he
     | outgrown=>obtain⟨_,_,_,_,_,_,_,h,_⟩:=he;cases h
    case row row args=>exact⟨hw.1,hw.2.mono fun u w'' h=>by obtain⟨v',H'',F',h1,h3,h4⟩:=h;exact close _ _ _ _ _ h1 h3 h4⟩
    case round l' f tmps assign body =>
     refine⟨hw.1,hw.2.mono fun e w'' he=>?_⟩;cases e with
     | returned u=>obtain⟨v',H'',F',h1,h3,h4⟩:=he;exact close _ _ _ _ _ h1 h3 h4
     | panicked c=>exact pans he
     | outgrown=>obtain⟨_,_,_,_,_,_,_,h,_⟩:=he;cases h
   | halt x w' =>
    cases x<;>simp only[Oper.uponIn] at hw ⊢
    case panic u=>exact pans hw
  have hib:i<base.length:=by omega
  obtain⟨o',ho',hok⟩:=hE β hβ i hib;rw[ho] at ho';injection ho' with ho';subst ho';by_cases hii:i=i₀
  ·rw[iU,if_pos hii] at hok;exact exec (by unfold DM;rw[hok.1];trivial) (hok.2 Hb) (fun v H' a' w' F' h=>by cases h) (fun v H' h=>by injection h)
  rw[iU,if_neg hii] at hok;rcases hok with hok | hok
  ·exact absurd (hpred (FA hok)) (by rw[hl0];simp)
  have hl2:(l.setIfInBounds i true).getD i₀ false=false:=by rw[hset2 i₀,hl0];simp[Ne.symm hii]
  generalize hbe:base.getD i .skip=e at hok;have close:∀{a' w' F' b H'},e.ok b→H'=e.box b++(Hb++H)→Dw F' ⟨n,put τ' o.dst (e.v b),H',D⟩ a' w'→Trans F (Hb++H) w F' H' w'→I (l.setIfInBounds i true) a' w':=by
   intro a' w' F' b H' hb0 hH h3 h4;subst hH;rw[hI0]
   skip
   refine⟨hsz',hl2,fun j=>if j=i then b else β j,put τ' o.dst (e.v b),F',e.box b++Hb,(fun j hj=>by
    by_cases e3:j=i
    ·subst e3;simp only[if_true];rw[hbe];exact hb0
    simp only[if_neg e3];exact hβ j hj),hdown',?_,by rw[List.append_assoc];exact h3,by rw[List.append_assoc];exact ht.trans hs₀.heap.bd h4,?_⟩
   ·have hτ2:Gn ops (Fu (fun j=>if j=i then b else β j) 0 base) τ (fun k=>l.getD k false=true) τ':=by
     intro t;refine⟨fun k o' a1 a2 a3=>?_,(hτ t).2⟩;have a4:l.getD k false=true:=a3;have hki:k≠i:=fun e=>by subst e;rw[hnot] at a4;cases a4
     rw[(hτ t).1 k o' a1 a2 a3];rcases Nat.lt_or_ge k base.length with hk | hk
     ·rw[Eb _ hk,Eb _ hk,if_neg hki]
     rw[Js _ hk,Js _ hk]
    have hτ3:=hτ2.put (hd _) ho;rw[Eb _ Au,if_pos rfl,hbe] at hτ3;intro t;exact⟨fun k o' a1 a2 a3=>(hτ3 t).1 k o' a1 a2 ((hset k).1 a3),fun hn=>(hτ3 t).2 fun k o' a1 a2 a3=>hn k o' a1 a2 ((hset k).2 a3)⟩
   have h1:=QU (β:=β) (l:=fun k=>l.getD k false) (i:=i) (b:=b) hnot base 0 (Nat.zero_le _) Au;rw[Nat.sub_zero,hbe] at h1;refine(hp.append_left _).trans (h1.trans (List.Perm.of_eq ?_));exact Kk base 0 fun j _=>⟨(hset2 j).symm,fun _=>O⟩
  have yields:DM ops ⟨n,τ',Hb++H,D⟩ o→Dh P o (ev (τS ops (Fu β 0 base) τ i)) (Hb++H) (fun r H'=>match r with | .val v=>∃b,e.ok b∧v=e.v b∧H'=e.box b++(Hb++H) | .panic _=>False)→wpOpIn (W r) 0 P ops (post F₀ H w₀ Q) i (fun a' w'=>I (l.setIfInBounds i true) a' w') a w:=fun h1 h2 =>
   exec (C:=fun r H'=>match r with | .val v=>∃b,e.ok b∧v=e.v b∧H'=e.box b++(Hb++H) | .panic _=>False) h1 h2 (by rintro v H' a' w' F' ⟨b,h0,rfl,h1⟩ h3 h4;exact close h0 h1 h3 h4) (fun _ _ h=>h.elim)
  cases e with
  | val v=>exact yields (wants hok.1) ((hok.2 Hb).mono (by
    intro r H' hR;cases r with
    | val v'=>obtain⟨rfl,rfl⟩:=hR;exact⟨(0,0,.p .any),trivial,rfl,rfl⟩
    | panic v'=>exact hR.elim))
  | new cs =>
   refine yields (by unfold DM;rw[hok.1];trivial) ((hok.2 _).mono ?_);intro r H' hR;cases r with
   | val v'=>obtain⟨b,rfl,rfl⟩:=hR;exact⟨(b,0,.p .any),trivial,rfl,rfl⟩
   | panic v'=>exact hR.elim
  | newv sz rows =>
   refine yields (by unfold DM;rw[hok.1];trivial) ((hok.2 _).mono ?_);intro r H' hR;cases r with
   | val v'=>obtain⟨b,c,rfl,rfl⟩:=hR;exact⟨(b,c,.p .any),trivial,rfl,rfl⟩
   | panic v'=>exact hR.elim
  | rel R =>
   refine yields (by unfold DM;rw[hok.1];trivial) ((hok.2 _).mono ?_);intro r H' hR;cases r with
   | val v'=>obtain⟨h1,rfl⟩:=hR;exact⟨(0,0,v'),h1,rfl,rfl⟩
   | panic v'=>exact hR.elim
  | skip =>
   obtain⟨j,want,d,hg,hj,hb⟩:=hok;have hw:Region.wanted o (yielded ops a.tmps)=false:=Kc (S:=⟨n,τ',Hb++H,D⟩) hs hg hj (by show fj (τ' d) want;rw[hguard j want d hg hj];exact hb);unfold wpOpIn;simp only[ho,hw,Bool.false_eq_true,if_false];refine⟨fun _ _=>Aw,close (b:=(0,0,.p .any)) Aw O ?_ .refl⟩;exact hs.put (fun t ht=>hdst i o t ho ht) ⟨Nat.le_refl _,fun _ _ _=>O,fun _ h _=>h⟩ hs.heap (by simp only[Ez.v,CX,CD,undef];exact⟨[],rfl,rfl⟩)
 ·intro l a w hI hr;rw[hI0] at hI;obtain⟨hsz,hl0,β,τ',F,Hb,hβ,hdown,hτ,hs,ht,hI⟩:=hI;have hall:∀i,i<ops.size→l.getD i false=true:=by
   intro i
   induction i using Nat.strongRecOn with
   | _ i ih =>
    intro hi;cases hq:l.getD i false with
    | true=>rfl
    | false =>
     have ho:ops[i]?=some ops[i]:=Array.getElem?_eq_getElem hi;have:i∈Region.ready .any ops l:=by
      refine mem_ready.2 ⟨?_,ops[i],ho,?_⟩
      ·have:i<l.size:=by omega
       simp[this] at hq ⊢;exact hq
      intro e he hb;have hj:e.on∈EZ ops[i]:=by
       simp only[EZ,List.mem_map,List.mem_filter];exact⟨e,⟨by simpa using he,hb⟩,rfl⟩
      have hlt:=c0 i _ _ ho hj;exact ih e.on hlt Au
     rw[hr] at this;cases this
  rw[hall i₀ Au] at hl0;cases hl0
 ·obtain⟨β0,hβ0⟩:=bK.pick base hne;rw[hI0];refine⟨by simp,by by_cases h:i₀<ops.size<;>simp[h],β0,τ,F₀,[],hβ0,?_,?_,hs₁,t₀,?_⟩
  ·intro i o j ho hi;by_cases h:i<ops.size<;>simp[h] at hi
  ·intro t;refine⟨fun k o ho hk hl=>?_,fun _=>O⟩;by_cases h:k<ops.size<;>simp[h] at hl
  rw[N2 base 0 fun j=>by by_cases h:j<ops.size<;>simp[h]]
 have:=List.length_filter_le (fun b:Bool=> !b) (Array.replicate ops.size false).toList;simp at this ⊢
section
variable {P:Program}{ops:Array Oper}{H:List BU}{u:AV}{i₀:Nat}{k:Nat}{τ:Nat→AV}{r:List Ez}{dst:Option Tmp}{op:Op}{ty:TypeId}{pos:String}{aft:Array Edge}{v:AV}
theorem CL (ho:ops[k]?=some ⟨dst,op,ty,pos,aft,none⟩) (hk:Nat.beq k i₀=false) (h:∀Bs,D3 P ⟨dst,op,ty,pos,aft,none⟩ (ev τ) (Bs++H) v (Bs++H)) (next:E7 P ops H u i₀ (k+1) (put τ dst v) r):E7 P ops H u i₀ k τ (.val v::r) :=
 ⟨_,ho,by rw[iU,if_neg (fun e=>by rw[e] at hk;simp at hk)];exact .inr ⟨trivial,h⟩,fun _ _=>next⟩
theorem U3 {cs:List AV}(ho:ops[k]?=some ⟨dst,op,ty,pos,aft,none⟩) (hk:Nat.beq k i₀=false) (h:∀Bs,Dh P ⟨dst,op,ty,pos,aft,none⟩ (ev τ) Bs (Iv cs Bs)) (next:∀b,E7 P ops H u i₀ (k+1) (put τ dst (.ptr b 0)) r):E7 P ops H u i₀ k τ (.new cs::r) :=
 ⟨_,ho,by rw[iU,if_neg (fun e=>by rw[e] at hk;simp at hk)];exact .inr ⟨rfl,fun Bs=>h _⟩,fun b _=>next b.1⟩
theorem DS {o:Oper}(ho:ops[k]?=some o) (hk:Nat.beq k i₀=false) (hp:M3 ops i₀ k=true) (next:E7 P ops H u i₀ (k+1) (put τ o.dst (.p .any)) r):E7 P ops H u i₀ k τ (.val (.p .any)::r) :=
 ⟨_,ho,by rw[iU,if_neg (fun e=>by rw[e] at hk;simp at hk)];exact .inl hp,fun _ _=>next⟩
theorem Kq:E7 P ops H u i₀ k τ []:=trivial
theorem K0 {c:Call}{f:Operand}{fid:FuncId}{first caps A:List AV}{Hs:List BU}{α:Type}{mkv:α→AV}{mkp:Int→AV}{C:α→List BU→Prop}{x:Except Int α}{e:Int}(is:List Nat) (hx:x= .error e) (ho:ops[i₀]?=some ⟨dst,.call c,ty,pos,aft,none⟩) (hc:c.callee= .value f) (hf:(ev τ f= .p (.fn fid)∧first=[]∧caps=[])∨ev τ f= .fn (.func fid) first caps) (h:B4 P fid A Hs (LK mkv mkp C x)) (hg:Fm H is Hs) (hn:is.Nodup) (hA:Gc (first++c.args.toList.map (ev τ)++caps) A)
  (next:E7 P ops H (mkp e) i₀ (i₀+1) (put τ dst (.p .any)) r):E7 P ops H (mkp e) i₀ i₀ τ (.val (.p .any)::r):=by
 refine⟨_,ho,?_,fun _ _=>next⟩;rw[iU,if_pos rfl];refine⟨O,fun Bs=>?_⟩;have hp:(Bs++H).Perm (Hs++(Bs++DO is 0 H)):=by
  refine((Dj hn hg).append_left Bs).trans ?_;rw[←List.append_assoc,←List.append_assoc];exact List.perm_append_comm.append_right _
 refine Dh.mono (Gd (H:=Bs++H) hc hf hp (h.args hA) (.inl O)) ?_;rintro r H' ⟨Hs',h1,rfl⟩;cases r with
 | val v'=>obtain⟨a,h2,_⟩:=h1;rw[hx] at h2;cases h2
 | panic v'=>obtain⟨e',h2,h3⟩:=h1;rw[hx] at h2;cases h2;rw[h3]
theorem GD {α:Type}(x:Except Int α):(∃e,x= .error e)∨∃a,x= .ok a:=by
 cases x with
 | error e=>exact .inl ⟨e,rfl⟩
 | ok a=>exact .inr ⟨a,rfl⟩
theorem K1 {fid:FuncId}{A:List AV}{Hs:List BU}{α:Type}{mkv:α→AV}{mkp:Int→AV}{G:α→List BU}{x:Except Int α}{a:α}(hx:x= .ok a) (h:B4 P fid A Hs (LK mkv mkp (fun r H'=>H'=G r) x)):B4 P fid A Hs (Gx (mkv a) (G a)) :=
 h.mono (by
  intro r H' h1;cases r with
  | val v=>obtain⟨b,h2,h3,h4⟩:=h1;rw[hx] at h2;cases h2;exact⟨h3,h4⟩
  | panic v=>obtain⟨e,h2,_⟩:=h1;rw[hx] at h2;cases h2)
end
section
variable {P:Program}{dst:Option Tmp}{ty:TypeId}{pos:String}{aft:Array Edge}{g:Option (Nat×Bool)}{ρ:Operand→AV}{H:List BU}{x y:Operand}
theorem FT {T e:TypeId}{len:Nat}{k:IntKind}{i:Int}{j:Nat}{cs:List AV}{v:AV}(hu:P.underlying T=some (.array len e)) (ht:ED P e=some (false,1)) (hx:ρ x= .agg cs) (hy:ρ y= .p (.int k i)) (hi:i=j) (hj:cs[j]?=some v) (hl:j<len) :
  D3 P ⟨dst,.index T x y,ty,pos,aft,g⟩ ρ H v H :=
 Cf fun F w E hH hE=>by
  have h1:=hE x Ae;have h2:=hE y Ae;rw[hx] at h1;rw[hy] at h2;simp only[CX,Ca] at h1 h2;obtain⟨vs,h3,h4⟩:=h1;obtain⟨u,h5,h6⟩:=h4.get hj;obtain⟨d,hd,hr,hs⟩:=Fh ht;obtain⟨inf,hinf,hsz⟩:=UM ht;refine⟨u,?_,h6⟩;have hso:(sizeOf e).run P w= .ok 1 w:=by
   rw[run_sizeOf w hinf];simp[Program.cellsOf,hinf,hsz]
  have hag:=Mk hd false hr w;subst hi;have h7:(⟨vs⟩:Array Value)[j*1]?=some u:=by rw[Nat.mul_one];simpa using h5
  have h8:(0:Int)≤(j:Int)∧(j:Int)<(len:Int):=by omega
  simp[execOp,Instr.index,h2,h3,asIntOf,Sem.run_bind,run_underlying hu,h8,hso,part,hag];rw[show vs[j]?=some u from h5];simp;intro hlj;omega
theorem HI {T U:TypeId}{b:Bool}(hT:(match P.underlying T with | some (.func _ _ _)=>true | _=>false)=true) (hx:(ρ x= .p .nilFn∧b=true)∨(∃f first caps,ρ x= .fn f first caps)∧b=false) (hy:ρ y= .p .nilFn):D3 P ⟨dst,.binOp .eql T x y U,ty,pos,aft,g⟩ ρ H (.p (.bool b)) H :=
 Cf fun F w E hH hE=>by
  have e1:=hE x Ae;have e2:=hE y Ae;rw[hy] at e2;simp only[CX,Ca] at e2;obtain⟨a1,a2,a3,hu⟩:∃a1 a2 a3,P.underlying T=some (.func a1 a2 a3):=by
   cases hd:P.underlying T with
   | none=>rw[hd] at hT;cases hT
   | some d =>
    rw[hd] at hT;cases d<;>first | exact⟨_,_,_,rfl⟩ | cases hT
  refine⟨.bool b,?_,by simp[CX,Ca]⟩;have hg:∀a,(eqGuard .eql T x y a .nilFunc).run P w= .ok () w:=by
   intro a;unfold eqGuard;cases a<;>rfl
  rcases hx with ⟨hx,rfl⟩ | ⟨⟨f,first,caps,hx⟩,rfl⟩
  ·rw[hx] at e1;simp only[CX,Ca] at e1;have hq:(Op.equal T .nilFunc .nilFunc).run P w= .ok true w:=by
    have h:∀d:Nat,(Op.equalIn (d+1) T .nilFunc .nilFunc).run P w= .ok true w:=fun d=>by simp[Op.equalIn,run_underlying hu]
    simp[Op.equal,Op.maxDepth,h 9999]
   simp[execOp,Sem.run_bind,hg,e1,e2,binOp,hq]
  rw[hx] at e1;simp only[CX] at e1;obtain⟨fs,cs,e1,_,_⟩:=e1;have hq:(Op.equal T (.func f ⟨fs⟩ ⟨cs⟩) .nilFunc).run P w= .ok false w:=by
   have h:∀d:Nat,(Op.equalIn (d+1) T (.func f ⟨fs⟩ ⟨cs⟩) .nilFunc).run P w= .ok false w:=fun d=>by simp[Op.equalIn,run_underlying hu]
   simp[Op.equal,Op.maxDepth,h 9999]
  simp[execOp,Sem.run_bind,hg,e1,e2,binOp,hq]
theorem Q9 {T:TypeId}{bl:Bool}{b o:Nat}(hT:ED P T=some (bl,0)) (hx:ρ x= .ptr b o) (hy:Ew (ρ y)=some []):D3 P ⟨dst,.store T x y,ty,pos,aft,g⟩ ρ H (.p .any) H :=
 IS fun F w E hH hE=>by
  have e1:=hE x Ae;have e2:=hE y Ae;rw[hx] at e1;simp only[CX] at e1;obtain⟨ws,hc,hl⟩:=Kh e2 hy;simp only[CD] at hl;subst hl;obtain⟨d,hu,hd,hz⟩:=Fh hT;refine⟨w,_,F,?_,⟨O,O⟩,.refl,hH⟩;cases hq:P.info? T with
  | none=>simp[hq] at hz
  | some i =>
   have hs:i.size=0:=by simpa [hq] using hz
   simp[execOp,Instr.storeAt,e1,Instr.sureAddr,Sem.run_bind,Sem.run_pure,Result.andThen_ok,storeVar,sizeOf,typeInfo,hq,hc,hs,storeCells]
end
theorem UU {P:Program}{ops:Array Oper}{r:Option Nat}{Q:DJ→B5→Prop}{k n:Nat}{τ:Nat→AV}{H Hs:List BU}{D:List Ej}{dst:Option Tmp}{ty:TypeId}{pos:String}{aft:Array Edge}{c:Call}{f:Operand}{fid:FuncId}{first caps A:List AV}{v:AV}(is:List Nat) (ho:ops[k]?=some ⟨dst,.call c,ty,pos,aft,none⟩) (hd:Gw dst n=true)
  (hc:c.callee= .value f) (hf:(ev τ f= .p (.fn fid)∧first=[]∧caps=[])∨ev τ f= .fn (.func fid) first caps) (h:B4 P fid A Hs (Gx v [])) (hg:Fm H is Hs) (hn:is.Nodup) (hA:Gc (first++c.args.toList.map (ev τ)++caps) A)
  (next:AL P r ops (k+1) ⟨n,put τ dst v,DO is 0 H,D⟩ Q):AL P r ops k ⟨n,τ,H,D⟩ Q :=
 JA ho hd hc hf (Dj hn hg) (h.args hA) (.inl rfl) (fun v' H' h'=>by obtain⟨h1,h2⟩:=h';subst h1;subst h2;exact next) (fun _ _ h=>h.elim)
structure gJ (P:Program) where
 fd:Nat→Option (List (Nat×Nat))
 ty:Nat→Option (Bool×Nat)
 zr:Nat→Option (List AV)
 hfd:∀T l,fd T=some l→fieldsOf P T=some l
 hty:∀T l,ty T=some l→ED P T=some l
 hzr:∀T l,zr T=some l→∃z,zeroOf P T=some z∧z.cells.toList.map G8=l
def qo (op:BinOp) (m n:Int):Option Bool :=
 match op with | .eql=>some (m==n) | .neq=>some (m !=n) | .lss=>some (decide (m<n)) | .leq=>some (decide (m≤n)) | .gtr=>some (decide (m > n)) | .geq=>some (decide (m≥n)) | _=>none
def mE (op:BinOp) (m n:Int):Option Int :=
 match op with | .add=>some (m+n) | .sub=>some (m - n) | .mul=>some (m*n) | _=>none
abbrev nX:=AV×List BU×List Nat×Prop
def j7 (op:BinOp) (H:List BU) (is:List Nat) (C:Prop):AV→AV→Option nX
 | .p (.int k m),.p (.int k' n) =>
  match qo op m n with
  | some b=>some (.p (.bool b),H,is,C∧k=k')
  | none =>
   match k,k',mE op m n with
   | .i64,.i64,some r=>some (.p (.int .i64 r),H,is,(C∧ -9223372036854775808≤r)∧r≤9223372036854775807)
   | _,_,_=>none
 | _,_=>none
def cP (H:List BU) (is:List Nat) (C:Prop) (t:Bool×Nat):AV→Option nX
 | .ref cells =>
  bif t.1 then some (.agg (cells.map .p),H,is,C∧cells.length=t.2)
  else match cells with
   | c::_=>some (.p c,H,is,C)
   | []=>none
 | .ptr b o =>
  match is with
  | []=>none
  | i::is =>
   match H[i]? with
   | some (.box b' cs) =>
    bif t.1 then (match o with | 0=>some (.agg cs,H,is,(C∧b'=b)∧cs.length=t.2) | _+1=>none)
    else (match cs[o]? with | some v=>some (v,H,is,C∧b'=b) | none=>none)
   | _=>none
 | _=>none
def YY (H:List BU) (is:List Nat) (C:Prop) (t:Bool×Nat) (y:AV):AV→Option nX
 | .ptr b o =>
  match is with
  | i::w::is =>
   match H[i]?,Ew y,t.2 with
   | some (.box b' cs),some us,n+1 =>
    match w with
    | 0=>some (.p .any,H.set i (.box b (splice cs o us)),is,(((C∧b'=b)∧us.length=n+1)∧Nat.ble (o+(n+1)) cs.length=true)∧us.all one=true)
    | _+1=>match o with
     | 0=>some (.p .any,H.set i (.box b us),is,(((C∧b'=b)∧us.length=n+1)∧cs.length=n+1)∧us.all one=true)
     | _+1=>none
   | _,_,_=>none
  | _=>none
 | _=>none
def ZT (H:List BU) (is:List Nat) (C:Prop) (off:Nat):AV→Option nX
 | .ptr b o=>some (.ptr b (o+off),H,is,C)
 | .ref cells=>some (.ref (cells.drop off),H,is,C)
 | _=>none
def gh {P:Program}(tb:gJ P) (ρ:Operand→AV) (H:List BU) (is:List Nat) (C:Prop):Op→Option nX
 | .move x=>some (ρ x,H,is,C)
 | .assign x=>some (ρ x,H,is,C)
 | .pick x y z=>match ρ x with | .p (.bool b)=>some (bif b then ρ y else ρ z,H,is,C) | _=>none
 | .extract x i=>match ρ x with | .tup xs=>(match xs[i]? with | some v=>some (v,H,is,C) | none=>none) | _=>none
 | .nilCheck x=>match ρ x with | .ptr b o=>some (.ptr b o,H,is,C) | _=>none
 | .makeFunc fn first caps=>some (.fn fn (first.toList.map ρ) (caps.toList.map ρ),H,is,C)
 | .unOp .not T x=>match ρ x with | .p (.bool b)=>some (.p (.bool (!b)),H,is,C) | _=>none
 | .binOp op T x y U=>j7 op H is C (ρ x) (ρ y)
 | .fieldAddr T x i=>match tb.fd T with
  | some lay=>(match lay[i]? with | some (off,_+1)=>ZT H is C off (ρ x) | _=>none)
  | none=>none
 | .build T parts=>match tb.fd T,tb.zr T with
  | some lay,some z=>(match Ft (lay[·]?) z (parts.toList.map fun p=>(p.1,ρ p.2)) with | some cs=>some (.agg cs,H,is,C) | none=>none)
  | _,_=>none
 | .load T x=>match tb.ty T with | some t=>cP H is C t (ρ x) | none=>none
 | .store T x y=>match tb.ty T with | some t=>YY H is C t (ρ y) (ρ x) | none=>none
 | _=>none
section
variable {P:Program}{tb:gJ P}{ρ:Operand→AV}{H H':List BU}{is is':List Nat}{C C':Prop}{v:AV}
 {dst:Option Tmp} {ty:TypeId} {pos:String} {aft:Array Edge} {g:Option (Nat×Bool)}
theorem Qw {op:Op}(h:gh tb ρ H is C op=some (v,H',is',C')) (c:C'):C∧D3 P ⟨dst,op,ty,pos,aft,g⟩ ρ H v H':=by
 unfold gh at h;split at h
 ·injection h with h;simp only[Prod.mk.injEq] at h;obtain⟨rfl,rfl,rfl,rfl⟩:=h;exact⟨c,BB rfl⟩
 ·injection h with h;simp only[Prod.mk.injEq] at h;obtain⟨rfl,rfl,rfl,rfl⟩:=h;exact⟨c,Bb rfl⟩
 ·split at h
  ·rename_i b hb;injection h with h;simp only[Prod.mk.injEq] at h;obtain⟨rfl,rfl,rfl,rfl⟩:=h;exact⟨c,B2 hb rfl⟩
  cases h
 ·split at h
  ·rename_i xs hx;split at h
   ·rename_i u hu;injection h with h;simp only[Prod.mk.injEq] at h;obtain⟨rfl,rfl,rfl,rfl⟩:=h;exact⟨c,By hx hu⟩
   cases h
  cases h
 ·split at h
  ·rename_i b o hx;injection h with h;simp only[Prod.mk.injEq] at h;obtain⟨rfl,rfl,rfl,rfl⟩:=h;exact⟨c,CW hx⟩
  cases h
 ·injection h with h;simp only[Prod.mk.injEq] at h;obtain⟨rfl,rfl,rfl,rfl⟩:=h;exact⟨c,E0 rfl rfl⟩
 ·split at h
  ·rename_i b hb;injection h with h;simp only[Prod.mk.injEq] at h;obtain⟨rfl,rfl,rfl,rfl⟩:=h;exact⟨c,MT hb⟩
  cases h
 ·rename_i op T x y U;generalize hx:ρ x=vx at h;generalize hy:ρ y=vy at h;unfold j7 at h;split at h
  ·rename_i k m k' n;split at h
   ·rename_i b hb;injection h with h;simp only[Prod.mk.injEq] at h;obtain⟨rfl,rfl,rfl,rfl⟩:=h;obtain⟨c,rfl⟩:=c;exact⟨c,C4 hx hy hb⟩
   split at h
   ·rename_i r hr;injection h with h;simp only[Prod.mk.injEq] at h;obtain⟨rfl,rfl,rfl,rfl⟩:=h;obtain⟨⟨c,c1⟩,c2⟩:=c;refine⟨c,?_⟩;unfold mE at hr;split at hr
    ·injection hr with hr;subst hr;exact ET hx hy c1 c2
    ·injection hr with hr;subst hr;exact IP hx hy c1 c2
    ·injection hr with hr;subst hr;exact iQ hx hy c1 c2
    cases hr
   cases h
  cases h
 ·rename_i T x i;split at h
  ·rename_i lay hl;split at h
   ·rename_i off sz hi;generalize hx:ρ x=vx at h;unfold ZT at h;split at h
    ·injection h with h;simp only[Prod.mk.injEq] at h;obtain⟨rfl,rfl,rfl,rfl⟩:=h;exact⟨c,Ax (tb.hfd _ _ hl) hi hx⟩
    ·injection h with h;simp only[Prod.mk.injEq] at h;obtain⟨rfl,rfl,rfl,rfl⟩:=h;exact⟨c,Bp (tb.hfd _ _ hl) hi hx⟩
    cases h
   cases h
  cases h
 ·rename_i T parts;split at h
  ·rename_i lay z hl hz;split at h
   ·rename_i cs hc;injection h with h;simp only[Prod.mk.injEq] at h;obtain⟨rfl,rfl,rfl,rfl⟩:=h;obtain⟨z',hz',rfl⟩:=tb.hzr _ _ hz;exact⟨c,CB (tb.hfd _ _ hl) hz' hc⟩
   cases h
  cases h
 ·rename_i T x;split at h
  ·rename_i t ht;have ht:=tb.hty _ _ ht;obtain⟨tb1,tn⟩:=t;generalize hx:ρ x=vx at h;unfold cP at h;split at h
   ·rename_i cells;cases tb1 with
    | true =>
     simp only[cond_true] at h;injection h with h;simp only[Prod.mk.injEq] at h;obtain⟨rfl,rfl,rfl,rfl⟩:=h;exact⟨c.1,BQ ht hx c.2⟩
    | false =>
     simp only[cond_false] at h;split at h
     ·injection h with h;simp only[Prod.mk.injEq] at h;obtain⟨rfl,rfl,rfl,rfl⟩:=h;exact⟨c,Ci ht hx⟩
     cases h
   ·rename_i b o;split at h
    ·cases h
    rename_i i is1;split at h
    ·rename_i b' cs hi;cases tb1 with
     | true =>
      simp only[cond_true] at h;split at h
      ·injection h with h;simp only[Prod.mk.injEq] at h;obtain⟨rfl,rfl,rfl,rfl⟩:=h;obtain⟨⟨c,rfl⟩,c2⟩:=c;exact⟨c,BI ht hx hi c2⟩
      ·cases h
     | false =>
      simp only[cond_false] at h;split at h
      ·rename_i u hu;injection h with h;simp only[Prod.mk.injEq] at h;obtain⟨rfl,rfl,rfl,rfl⟩:=h;obtain⟨c,rfl⟩:=c;exact⟨c,BG ht hx hi hu⟩
      cases h
    cases h
   cases h
  cases h
 ·rename_i T x y;split at h
  ·rename_i t ht;have ht:=tb.hty _ _ ht;obtain⟨tb1,tn⟩:=t;generalize hx:ρ x=vx at h;generalize hy:ρ y=vy at h;unfold YY at h;split at h
   ·rename_i b o;split at h
    ·rename_i i w is1;simp only at h;split at h
     ·rename_i b' cs us n hi hu hn;split at h
      ·injection h with h;simp only[Prod.mk.injEq] at h;obtain⟨rfl,rfl,rfl,rfl⟩:=h;obtain⟨⟨⟨⟨c,rfl⟩,c1⟩,c2⟩,c3⟩:=c;exact⟨c,CO ht hx hi (by rw[hy];exact hu) c1 c2 c3⟩
      split at h
      ·injection h with h;simp only[Prod.mk.injEq] at h;obtain⟨rfl,rfl,rfl,rfl⟩:=h;obtain⟨⟨⟨⟨c,rfl⟩,c1⟩,c2⟩,c3⟩:=c;exact⟨c,Bc ht hx hi (by rw[hy];exact hu) c1 c2 c3⟩
      cases h
     cases h
    cases h
   cases h
  cases h
 cases h
def runs (tb:gJ P) (ops:Array Oper) (n:Nat):Nat→Nat→(Nat→AV)→List BU→List Nat→Prop→Option ((Nat→AV)×List BU×Prop)
 | 0,_,τ,H,_,C=>some (τ,H,C)
 | m+1,k,τ,H,is,C =>
  match ops[k]? with
  | none=>none
  | some ⟨dst,op,_,_,_,g⟩ =>
   bif Gw dst n then
    match g with
    | none =>
     (match gh tb (ev τ) H is C op with
     | some (v,H',is',C')=>runs tb ops n m (k+1) (put τ dst v) H' is' C'
     | none=>none)
    | some (j,want) =>
     match (ops[j]?).bind (·.dst) with
     | none=>none
     | some d =>
      match τ d with
      | .p (.bool b) =>
       bif b==want then
        (match gh tb (ev τ) H is C op with
        | some (v,H',is',C')=>runs tb ops n m (k+1) (put τ dst v) H' is' C'
        | none=>none)
       else runs tb ops n m (k+1) (put τ dst (.tup [])) H is C
      | .tup []=>runs tb ops n m (k+1) (put τ dst (.tup [])) H is C
      | _=>none
   else none
end
section
variable {P:Program}{r:Option Nat}{ops:Array Oper}{n:Nat}{D:List Ej}{Q:DJ→B5→Prop}
theorem OD (tb:gJ P):∀(m k:Nat) {τ τ':Nat→AV}{H H':List BU}{is:List Nat}{C C':Prop},runs tb ops n m k τ H is C=some (τ',H',C')→C' →
  C∧(AL P r ops (k+m) ⟨n,τ',H',D⟩ Q→AL P r ops k ⟨n,τ,H,D⟩ Q)
 | 0,k,τ,τ',H,H',is,C,C',h,c=>by
  simp only[runs,Option.some.injEq,Prod.mk.injEq] at h;obtain⟨rfl,rfl,rfl⟩:=h;exact⟨c,fun h=>h⟩
 | m+1,k,τ,τ',H,H',is,C,C',h,c=>by
  rw[runs] at h;split at h
  ·cases h
  rename_i dst op ty pos aft g ho;cases hd:Gw dst n with
  | false=>rw[hd] at h;cases h
  | true =>
   rw[hd,cond_true] at h;rw[show k+(m+1)=k+1+m by omega];split at h
   ·split at h
    ·rename_i v H1 is1 C1 hv;obtain⟨c1,ih⟩:=OD tb m (k+1) h c;obtain⟨c2,hop⟩:=Qw (dst:=dst) (ty:=ty) (pos:=pos) (aft:=aft) (g:=none) hv c1;exact⟨c2,fun hq=>QO ho hd hop (ih hq)⟩
    cases h
   rename_i j want;split at h
   ·cases h
   rename_i d hj;split at h
   ·rename_i b hb;cases hw:b==want with
    | true =>
     rw[hw,cond_true] at h;split at h
     ·rename_i v H1 is1 C1 hv;obtain⟨c1,ih⟩:=OD tb m (k+1) h c;obtain⟨c2,hop⟩:=Qw (dst:=dst) (ty:=ty) (pos:=pos) (aft:=aft) (g:=some (j,want)) hv c1;have hbw:b=want:=by simpa using hw
      exact⟨c2,fun hq=>VQ ho hj (by rw[hb,hbw]) hd hop (ih hq)⟩
     ·cases h
    | false =>
     rw[hw,cond_false] at h;obtain⟨c1,ih⟩:=OD tb m (k+1) h c;exact⟨c1,fun hq=>ga ho hj hb hw hd (ih hq)⟩
   ·rename_i hb;obtain⟨c1,ih⟩:=OD tb m (k+1) h c;exact⟨c1,fun hq=>dP ho hj hb hd (ih hq)⟩
   cases h
end
def look {α:Type}:List (Nat×α)→Nat→Option α
 | [],_=>none
 | (a,v)::r,t=>bif Nat.beq a t then some v else look r t
def Vj {α:Type}(f:Nat→Option α):List (Nat×α)→Prop
 | []=>True
 | (a,v)::r=>f a=some v∧Vj f r
theorem Qa {α:Type}{f:Nat→Option α}{T:Nat}{v:α}:∀{l:List (Nat×α)},Vj f l→look l T=some v→f T=some v
 | [],_,h=>by cases h
 | (a,u)::r,ha,h=>by
  unfold look at h;cases hb:Nat.beq a T with
  | true=>rw[hb,cond_true] at h;injection h with h;subst h;rw[←Nat.eq_of_beq_eq_true hb];exact ha.1
  | false=>rw[hb,cond_false] at h;exact Qa ha.2 h
def U6 (P:Program) (T:Nat):Option (List AV):=(zeroOf P T).map fun z=>z.cells.toList.map G8
def l8 {P:Program}{fd:List (Nat×List (Nat×Nat))}{ty:List (Nat×Bool×Nat)}{zr:List (Nat×List AV)}(hf:Vj (fieldsOf P) fd) (ht:Vj (ED P) ty) (hz:Vj (U6 P) zr):gJ P where
 fd:=look fd
 ty:=look ty
 zr:=look zr
 hfd _ _ h:=Qa hf h
 hty _ _ h:=Qa ht h
 hzr T l h:=by
  have h1:=Qa hz h;unfold U6 at h1;cases hq:zeroOf P T with
  | none=>rw[hq] at h1;cases h1
  | some z=>rw[hq] at h1;injection h1 with h1;exact⟨z,rfl,h1⟩
end Go.Abs
namespace Go.Abs
open Go.Eu
section
variable {P:Program}{r:Option Nat}{ops:Array Oper}{n k:Nat}{D:List Ej}{Q:DJ→B5→Prop}{τ τ':Nat→AV}{H H':List BU}{C:Prop}
theorem kH {C:Prop}(c:C:=by repeat' first | exact trivial | refine And.intro ?_ ?_ | (simp only[List.length_map,BL,Ru,Cw,Dd,C7,Dg,Ti,EN,Kb];done) | exact C5 _ | exact Jx _ | exact Jt _ | exact N8 _ | exact YQ _ | exact U2 _ | exact gu _ | exact iS _ | exact rfl | omega):C:=c
theorem A5 (tb:gJ P) (m:Nat) (is:List Nat) (h:runs tb ops n m k τ H is True=some (τ',H',C)) (next:AL P r ops (k+m) ⟨n,τ',H',D⟩ Q) (c:C:=by exact kH):AL P r ops k ⟨n,τ,H,D⟩ Q:=(OD tb m k h c).2 next
theorem Az (tb:gJ P) (m:Nat) (is:List Nat) (h:runs tb ops n m k τ H is True=some (τ',H',C)) (next:Q .normal ⟨n,τ',H',D⟩) (hk:ops.size - (k+m)=0:=by exact rfl) (c:C:=by exact kH):AL P r ops k ⟨n,τ,H,D⟩ Q:=A5 tb m is h (Bt hk next) c
theorem A2 {id:Nat}{c₂:Code}(tb:gJ P) (m:Nat) (is:List Nat) (h:runs tb ops n m 0 τ H is True=some (τ',H',C)) (next:JH P r c₂ ⟨n,τ',H',D⟩ Q) (hk:ops.size - (0+m)=0:=by exact rfl) (c:C:=by exact kH):JH P r (.seq (.region id ops false) c₂) ⟨n,τ,H,D⟩ Q:=A4 (Az tb m is h next hk c)
end
end Go.Abs
namespace Go.Proofs.YtboammbpdaoojaaGreat
open Go.Abs
def sh:List (Nat×Bool×Nat):=[(26,true,5),(3,false,1),(24,false,1),(66,true,23),(115,true,2),(113,false,1),(9,false,1),(69,true,8),(51,true,9),(61,false,1),(23,false,1),(62,false,1),(4,false,1),(162,true,2),(67,false,1),(22,false,1),(71,true,15),(200,true,25),(29,false,1),(263,false,1),(137,false,1),(120,true,10),(104,false,1),(229,false,1),(170,false,1),(204,false,1),(205,false,1),(139,true,2),(192,true,2),(168,true,65),(210,true,1),(117,true,6),(64,true,7),(122,true,0),(165,false,1),(208,false,1),(87,false,1),(216,false,1)]
def s6:List (Nat×List (Nat×Nat)):=[(26,[(0,1),(1,1),(2,1),(3,1),(4,1)]),(66,[(0,1),(1,1),(2,1),(3,5),(8,5),(13,1),(14,1),(15,7),(22,1)]),(115,[(0,1),(1,1)]),(69,[(0,1),(1,5),(6,1),(7,1)]),(51,[(0,1),(1,1),(2,1),(3,1),(4,5)]),(162,[(0,1),(1,1)]),(71,[(0,1),(1,5),(6,1),(7,8)]),(36,[(0,1),(1,1),(2,1),(3,1),(4,1)]),(64,[(0,1),(1,5),(6,1)]),(120,[(0,1),(1,1),(2,8)]),(117,[(0,1),(1,5)]),(148,[(0,1),(1,1)]),(167,[(0,1),(1,1),(2,1),(3,1),(4,1)]),(200,[(0,1),(1,1),(2,23)]),(125,[(0,1),(1,1)]),(231,[(0,1),(1,1)]),(139,[(0,1),(1,1)]),(192,[(0,1),(1,1)]),(207,[(0,1)]),(210,[(0,1)]),(122,[])]
def sW:List (Nat×List AV):=[(26,[.p (.int .i64 0),.p (.int .i64 0),.p (.str ⟨#[]⟩),.p .nils,.p .nils]),(115,[.p (.int .i64 0),.p .nils]),(167,[.p (.bool false),.p (.bool false),.p (.int .i64 0),.p (.int .i64 0),.p (.int .i64 0)]),(66,[.p (.int .i64 0),.p (.str ⟨#[]⟩),.p (.int .i64 0),.p (.int .i64 0),.p (.int .i64 0),.p (.str ⟨#[]⟩),.p .nils,.p .nils,.p (.int .i64 0),.p (.int .i64 0),.p (.str ⟨#[]⟩),.p .nils,.p .nils,.p (.int .i64 0),.p .nils,.p (.int .i64 0),.p (.int .i64 0),.p (.int .i64 0),.p (.str ⟨#[]⟩),.p .nils,.p .nils,.p .nils,.p .nils]),(51,[.p (.int .i64 0),.p (.int .i64 0),.p (.int .i64 0),.p (.int .i64 0),.p (.int .i64 0),.p (.int .i64 0),.p (.str ⟨#[]⟩),.p .nils,.p .nils]),(69,[.p (.int .i64 0),.p (.int .i64 0),.p (.int .i64 0),.p (.str ⟨#[]⟩),.p .nils,.p .nils,.p (.int .i64 0),.p .nils]),(162,[.p (.int .i64 0),.p (.int .i64 0)]),(122,[]),(148,[.p (.int .i64 0),.p (.int .i64 0)]),(210,[.p .nilFn]),(117,[.p (.str ⟨#[]⟩),.p (.int .i64 0),.p (.int .i64 0),.p (.str ⟨#[]⟩),.p .nils,.p .nils]),(120,[.p (.str ⟨#[]⟩),.p (.bool false),.p (.int .i64 0),.p (.int .i64 0),.p (.int .i64 0),.p (.str ⟨#[]⟩),.p .nils,.p .nils,.p (.int .i64 0),.p .nils]),(139,[.p (.int .i64 0),.p .nils]),(192,[.p (.int .i64 0),.p .nils]),(36,[.p (.int .i64 0),.p (.int .i64 0),.p (.int .i64 0),.p (.int .i64 0),.p (.bool false)]),(64,[.p (.int .i64 0),.p (.int .i64 0),.p (.int .i64 0),.p (.str ⟨#[]⟩),.p .nils,.p .nils,.p .nils]),(71,[.p (.str ⟨#[]⟩),.p (.int .i64 0),.p (.int .i64 0),.p (.str ⟨#[]⟩),.p .nils,.p .nils,.p (.int .i64 0),.p (.int .i64 0),.p (.int .i64 0),.p (.int .i64 0),.p (.str ⟨#[]⟩),.p .nils,.p .nils,.p (.int .i64 0),.p .nils]),(125,[.p .nils,.p (.int .i64 0)]),(200,[.p .nils,.p .nils,.p (.int .i64 0),.p (.str ⟨#[]⟩),.p (.int .i64 0),.p (.int .i64 0),.p (.int .i64 0),.p (.str ⟨#[]⟩),.p .nils,.p .nils,.p (.int .i64 0),.p (.int .i64 0),.p (.str ⟨#[]⟩),.p .nils,.p .nils,.p (.int .i64 0),.p .nils,.p (.int .i64 0),.p (.int .i64 0),.p (.int .i64 0),.p (.str ⟨#[]⟩),.p .nils,.p .nils,.p .nils,.p .nils]),(207,[.p (.int .i64 0)]),(231,[.p .any,.p (.int .i64 0)])]
theorem sf:Vj (ED Tryz.prog) sh:=And.intro Ap <| And.intro Ap <| And.intro Ap <| And.intro Ap <| And.intro Ap <| And.intro Ap <| And.intro Ap <| And.intro Ap <| And.intro Ap <| And.intro Ap <| And.intro Ap <| And.intro Ap <| And.intro Ap <| And.intro Ap <| And.intro Ap <| And.intro Ap <| And.intro Ap <| And.intro Ap <| And.intro Ap <| And.intro Ap <| And.intro Ap <| And.intro Ap <| And.intro Ap <| And.intro Ap <| And.intro Ap <| And.intro Ap <| And.intro Ap <| And.intro Ap <| And.intro Ap <| And.intro Ap <| And.intro Ap <| And.intro Ap <| And.intro Ap <| And.intro Ap <| And.intro Ap <| And.intro Ap <| And.intro Ap <| And.intro Ap <| trivial
theorem tK:Vj (fieldsOf Tryz.prog) s6:=And.intro Ap <| And.intro Ap <| And.intro Ap <| And.intro Ap <| And.intro Ap <| And.intro Ap <| And.intro Ap <| And.intro Ap <| And.intro Ap <| And.intro Ap <| And.intro Ap <| And.intro Ap <| And.intro Ap <| And.intro Ap <| And.intro Ap <| And.intro Ap <| And.intro Ap <| And.intro Ap <| And.intro Ap <| And.intro Ap <| And.intro Ap <| trivial
theorem sx:Vj (U6 Tryz.prog) sW:=And.intro Ap <| And.intro Ap <| And.intro Ap <| And.intro Ap <| And.intro Ap <| And.intro Ap <| And.intro Ap <| And.intro Ap <| And.intro Ap <| And.intro Ap <| And.intro Ap <| And.intro Ap <| And.intro Ap <| And.intro Ap <| And.intro Ap <| And.intro Ap <| And.intro Ap <| And.intro Ap <| And.intro Ap <| And.intro Ap <| And.intro Ap <| trivial
def BA:gJ Tryz.prog:=l8 tK sf sx
end Go.Proofs.YtboammbpdaoojaaGreat
namespace Go.Proofs.YtboammbpdaoojaaGreat
open Go.Abs Go.Eu
theorem _root_.Go.AM {α:Prop}(h:α:=by first | exact List.Sublist.refl _ | exact List.sublist_cons_self _ _):α:=h
theorem VH:∀(c:Int),GL Tryz.prog 147 [.p (.int .u8 c)] Gq:=by
 intro c;refine BD Tryz.func147 O oE (n:=21) O O (A2 BA 1 [] O (A1 (Bi [0] 2 Gq ?_ ?_)))
 ·refine A8 (A5 BA 3 [] O (Ba 5 O (fun g1=>?_) (fun g1=>?_)))
  ·(try simp only[sd] at g1);refine A5 BA 4 [] O (Ba 9 O (fun g2=>?_) (fun g2=>?_))
   ·(try simp only[sd] at g2);refine A5 BA 8 [] O (Ba 17 O (fun g3=>?_) (fun g3=>?_))
    ·(try simp only[sd] at g3);exact Az BA 4 [] O (⟨O,O,AM,⟨_,O⟩,⟨O,Aw⟩⟩)
    (try simp only[sd] at g3);exact Az BA 4 [] O (⟨O,O,AM,⟨_,O⟩,⟨O,Aw⟩⟩)
   (try simp only[sd] at g2);refine A5 BA 3 [] O (Ba 12 O (fun g4=>?_) (fun g4=>?_))
   ·(try simp only[sd] at g4);refine A5 BA 5 [] O (Ba 17 O (fun g5=>?_) (fun g5=>?_))
    ·(try simp only[sd] at g5);exact Az BA 4 [] O (⟨O,O,AM,⟨_,O⟩,⟨O,Aw⟩⟩)
    (try simp only[sd] at g5);exact Az BA 4 [] O (⟨O,O,AM,⟨_,O⟩,⟨O,Aw⟩⟩)
   (try simp only[sd] at g4);refine A5 BA 5 [] O (Ba 17 O (fun g6=>?_) (fun g6=>?_))
   ·(try simp only[sd] at g6);exact Az BA 4 [] O (⟨O,O,AM,⟨_,O⟩,⟨O,Aw⟩⟩)
   (try simp only[sd] at g6);exact Az BA 4 [] O (⟨O,O,AM,⟨_,O⟩,⟨O,Aw⟩⟩)
  (try simp only[sd] at g1);refine A5 BA 4 [] O (Ba 9 O (fun g7=>?_) (fun g7=>?_))
  ·(try simp only[sd] at g7);refine A5 BA 8 [] O (Ba 17 O (fun g8=>?_) (fun g8=>?_))
   ·(try simp only[sd] at g8);exact Az BA 4 [] O (⟨O,O,AM,⟨_,O⟩,⟨O,Aw⟩⟩)
   (try simp only[sd] at g8);exact Az BA 4 [] O (⟨O,O,AM,⟨_,O⟩,⟨O,Aw⟩⟩)
  (try simp only[sd] at g7);refine A5 BA 3 [] O (Ba 12 O (fun g9=>?_) (fun g9=>?_))
  ·(try simp only[sd] at g9);refine A5 BA 5 [] O (Ba 17 O (fun g10=>?_) (fun g10=>?_))
   ·(try simp only[sd] at g10);exact Az BA 4 [] O (⟨O,O,AM,⟨_,O⟩,⟨O,Aw⟩⟩)
   (try simp only[sd] at g10);exact Az BA 4 [] O (⟨O,O,AM,⟨_,O⟩,⟨O,Aw⟩⟩)
  (try simp only[sd] at g9);refine A5 BA 5 [] O (Ba 17 O (fun g11=>?_) (fun g11=>?_))
  ·(try simp only[sd] at g11);exact Az BA 4 [] O (⟨O,O,AM,⟨_,O⟩,⟨O,Aw⟩⟩)
  (try simp only[sd] at g11);exact Az BA 4 [] O (⟨O,O,AM,⟨_,O⟩,⟨O,Aw⟩⟩)
 rintro _ ⟨q1,rfl⟩;refine A6 (⟨O,_,[],Bx O,List.nil_sublist _,⟨⟨_,O⟩,O⟩⟩)
theorem _root_.Go.Ah {α:Prop}(h:α:=by simp_all [arity]):α:=h
theorem e9:∀(k:Int),Et Tryz.prog 146 [.p (I k)] (.p (I (arity k))):=by
 intro k;refine BD Tryz.func146 O mu (n:=15) O O (A2 BA 1 [] O (A1 (A2 BA 1 [] O (BH (A1 (A2 BA 2 [] O (A3 O (fun c1=>?_) (fun c1=>?_))))))))
 ·(try simp only[sd] at c1);refine A7 (A3 O (fun c2=>?_) (fun c2=>?_))
  ·(try simp only[sd] at c2);refine A2 BA 1 [] O (A6 ⟨O,_,[],Bx O,List.nil_sublist _,?_⟩);exact⟨pI Ah,O⟩
  (try simp only[sd] at c2);refine A1 (A2 BA 2 [] O (A3 O (fun c3=>?_) (fun c3=>?_)))
  ·(try simp only[sd] at c3);refine A7 (A3 O (fun c4=>?_) (fun c4=>?_))
   ·(try simp only[sd] at c4);refine A2 BA 1 [] O (A6 ⟨O,_,[],Bx O,List.nil_sublist _,?_⟩);exact⟨pI Ah,O⟩
   (try simp only[sd] at c4);refine A1 (A2 BA 2 [] O (A3 O (fun c5=>?_) (fun c5=>?_)))
   ·(try simp only[sd] at c5);refine A7 (A3 O (fun c6=>?_) (fun c6=>?_))
    ·(try simp only[sd] at c6);refine A2 BA 1 [] O (A6 ⟨O,_,[],Bx O,List.nil_sublist _,?_⟩);exact⟨pI Ah,O⟩
    (try simp only[sd] at c6);refine A7 (A2 BA 1 [] O (A6 ⟨O,_,[],Bx O,List.nil_sublist _,?_⟩));exact⟨pI Ah,O⟩
   (try simp only[sd] at c5);refine A8 (Az BA 2 [] O (A3 O (fun c7=>?_) (fun c7=>?_)))
   ·(try simp only[sd] at c7);refine A2 BA 1 [] O (A6 ⟨O,_,[],Bx O,List.nil_sublist _,?_⟩);exact⟨pI Ah,O⟩
   (try simp only[sd] at c7);refine A7 (A2 BA 1 [] O (A6 ⟨O,_,[],Bx O,List.nil_sublist _,?_⟩));exact⟨pI Ah,O⟩
  (try simp only[sd] at c3);refine A8 (Az BA 2 [] O (A3 O (fun c8=>?_) (fun c8=>?_)))
  ·(try simp only[sd] at c8);refine A2 BA 1 [] O (A6 ⟨O,_,[],Bx O,List.nil_sublist _,?_⟩);exact⟨pI Ah,O⟩
  (try simp only[sd] at c8);refine A1 (A2 BA 2 [] O (A3 O (fun c9=>?_) (fun c9=>?_)))
  ·(try simp only[sd] at c9);refine A7 (A3 O (fun c10=>?_) (fun c10=>?_))
   ·(try simp only[sd] at c10);refine A2 BA 1 [] O (A6 ⟨O,_,[],Bx O,List.nil_sublist _,?_⟩);exact⟨pI Ah,O⟩
   (try simp only[sd] at c10);refine A7 (A2 BA 1 [] O (A6 ⟨O,_,[],Bx O,List.nil_sublist _,?_⟩));exact⟨pI Ah,O⟩
  (try simp only[sd] at c9);refine A8 (Az BA 2 [] O (A3 O (fun c11=>?_) (fun c11=>?_)))
  ·(try simp only[sd] at c11);refine A2 BA 1 [] O (A6 ⟨O,_,[],Bx O,List.nil_sublist _,?_⟩);exact⟨pI Ah,O⟩
  (try simp only[sd] at c11);refine A7 (A2 BA 1 [] O (A6 ⟨O,_,[],Bx O,List.nil_sublist _,?_⟩));exact⟨pI Ah,O⟩
 (try simp only[sd] at c1);refine A2 BA 2 [] O (A3 O (fun c12=>?_) (fun c12=>?_))
 ·(try simp only[sd] at c12);refine A7 (A3 O (fun c13=>?_) (fun c13=>?_))
  ·(try simp only[sd] at c13);refine A2 BA 1 [] O (A6 ⟨O,_,[],Bx O,List.nil_sublist _,?_⟩);exact⟨pI Ah,O⟩
  (try simp only[sd] at c13);refine A1 (A2 BA 2 [] O (A3 O (fun c14=>?_) (fun c14=>?_)))
  ·(try simp only[sd] at c14);refine A7 (A3 O (fun c15=>?_) (fun c15=>?_))
   ·(try simp only[sd] at c15);refine A2 BA 1 [] O (A6 ⟨O,_,[],Bx O,List.nil_sublist _,?_⟩);exact⟨pI Ah,O⟩
   (try simp only[sd] at c15);refine A1 (A2 BA 2 [] O (A3 O (fun c16=>?_) (fun c16=>?_)))
   ·(try simp only[sd] at c16);refine A7 (A3 O (fun c17=>?_) (fun c17=>?_))
    ·(try simp only[sd] at c17);refine A2 BA 1 [] O (A6 ⟨O,_,[],Bx O,List.nil_sublist _,?_⟩);exact⟨pI Ah,O⟩
    (try simp only[sd] at c17);refine A7 (A2 BA 1 [] O (A6 ⟨O,_,[],Bx O,List.nil_sublist _,?_⟩));exact⟨pI Ah,O⟩
   (try simp only[sd] at c16);refine A8 (Az BA 2 [] O (A3 O (fun c18=>?_) (fun c18=>?_)))
   ·(try simp only[sd] at c18);refine A2 BA 1 [] O (A6 ⟨O,_,[],Bx O,List.nil_sublist _,?_⟩);exact⟨pI Ah,O⟩
   (try simp only[sd] at c18);refine A7 (A2 BA 1 [] O (A6 ⟨O,_,[],Bx O,List.nil_sublist _,?_⟩));exact⟨pI Ah,O⟩
  (try simp only[sd] at c14);refine A8 (Az BA 2 [] O (A3 O (fun c19=>?_) (fun c19=>?_)))
  ·(try simp only[sd] at c19);refine A2 BA 1 [] O (A6 ⟨O,_,[],Bx O,List.nil_sublist _,?_⟩);exact⟨pI Ah,O⟩
  (try simp only[sd] at c19);refine A1 (A2 BA 2 [] O (A3 O (fun c20=>?_) (fun c20=>?_)))
  ·(try simp only[sd] at c20);refine A7 (A3 O (fun c21=>?_) (fun c21=>?_))
   ·(try simp only[sd] at c21);refine A2 BA 1 [] O (A6 ⟨O,_,[],Bx O,List.nil_sublist _,?_⟩);exact⟨pI Ah,O⟩
   (try simp only[sd] at c21);refine A7 (A2 BA 1 [] O (A6 ⟨O,_,[],Bx O,List.nil_sublist _,?_⟩));exact⟨pI Ah,O⟩
  (try simp only[sd] at c20);refine A8 (Az BA 2 [] O (A3 O (fun c22=>?_) (fun c22=>?_)))
  ·(try simp only[sd] at c22);refine A2 BA 1 [] O (A6 ⟨O,_,[],Bx O,List.nil_sublist _,?_⟩);exact⟨pI Ah,O⟩
  (try simp only[sd] at c22);refine A7 (A2 BA 1 [] O (A6 ⟨O,_,[],Bx O,List.nil_sublist _,?_⟩));exact⟨pI Ah,O⟩
 (try simp only[sd] at c12);refine A2 BA 2 [] O (A3 O (fun c23=>?_) (fun c23=>?_))
 ·(try simp only[sd] at c23);refine A7 (A3 O (fun c24=>?_) (fun c24=>?_))
  ·(try simp only[sd] at c24);refine A2 BA 1 [] O (A6 ⟨O,_,[],Bx O,List.nil_sublist _,?_⟩);exact⟨pI Ah,O⟩
  (try simp only[sd] at c24);refine A1 (A2 BA 2 [] O (A3 O (fun c25=>?_) (fun c25=>?_)))
  ·(try simp only[sd] at c25);refine A7 (A3 O (fun c26=>?_) (fun c26=>?_))
   ·(try simp only[sd] at c26);refine A2 BA 1 [] O (A6 ⟨O,_,[],Bx O,List.nil_sublist _,?_⟩);exact⟨pI Ah,O⟩
   (try simp only[sd] at c26);refine A1 (A2 BA 2 [] O (A3 O (fun c27=>?_) (fun c27=>?_)))
   ·(try simp only[sd] at c27);refine A7 (A3 O (fun c28=>?_) (fun c28=>?_))
    ·(try simp only[sd] at c28);refine A2 BA 1 [] O (A6 ⟨O,_,[],Bx O,List.nil_sublist _,?_⟩);exact⟨pI Ah,O⟩
    (try simp only[sd] at c28);refine A7 (A2 BA 1 [] O (A6 ⟨O,_,[],Bx O,List.nil_sublist _,?_⟩));exact⟨pI Ah,O⟩
   (try simp only[sd] at c27);refine A8 (Az BA 2 [] O (A3 O (fun c29=>?_) (fun c29=>?_)))
   ·(try simp only[sd] at c29);refine A2 BA 1 [] O (A6 ⟨O,_,[],Bx O,List.nil_sublist _,?_⟩);exact⟨pI Ah,O⟩
   (try simp only[sd] at c29);refine A7 (A2 BA 1 [] O (A6 ⟨O,_,[],Bx O,List.nil_sublist _,?_⟩));exact⟨pI Ah,O⟩
  (try simp only[sd] at c25);refine A8 (Az BA 2 [] O (A3 O (fun c30=>?_) (fun c30=>?_)))
  ·(try simp only[sd] at c30);refine A2 BA 1 [] O (A6 ⟨O,_,[],Bx O,List.nil_sublist _,?_⟩);exact⟨pI Ah,O⟩
  (try simp only[sd] at c30);refine A1 (A2 BA 2 [] O (A3 O (fun c31=>?_) (fun c31=>?_)))
  ·(try simp only[sd] at c31);refine A7 (A3 O (fun c32=>?_) (fun c32=>?_))
   ·(try simp only[sd] at c32);refine A2 BA 1 [] O (A6 ⟨O,_,[],Bx O,List.nil_sublist _,?_⟩);exact⟨pI Ah,O⟩
   (try simp only[sd] at c32);refine A7 (A2 BA 1 [] O (A6 ⟨O,_,[],Bx O,List.nil_sublist _,?_⟩));exact⟨pI Ah,O⟩
  (try simp only[sd] at c31);refine A8 (Az BA 2 [] O (A3 O (fun c33=>?_) (fun c33=>?_)))
  ·(try simp only[sd] at c33);refine A2 BA 1 [] O (A6 ⟨O,_,[],Bx O,List.nil_sublist _,?_⟩);exact⟨pI Ah,O⟩
  (try simp only[sd] at c33);refine A7 (A2 BA 1 [] O (A6 ⟨O,_,[],Bx O,List.nil_sublist _,?_⟩));exact⟨pI Ah,O⟩
 (try simp only[sd] at c23);refine A8 (Az BA 2 [] O (A3 O (fun c34=>?_) (fun c34=>?_)))
 ·(try simp only[sd] at c34);refine A2 BA 1 [] O (A6 ⟨O,_,[],Bx O,List.nil_sublist _,?_⟩);exact⟨pI Ah,O⟩
 (try simp only[sd] at c34);refine A1 (A2 BA 2 [] O (A3 O (fun c35=>?_) (fun c35=>?_)))
 ·(try simp only[sd] at c35);refine A7 (A3 O (fun c36=>?_) (fun c36=>?_))
  ·(try simp only[sd] at c36);refine A2 BA 1 [] O (A6 ⟨O,_,[],Bx O,List.nil_sublist _,?_⟩);exact⟨pI Ah,O⟩
  (try simp only[sd] at c36);refine A1 (A2 BA 2 [] O (A3 O (fun c37=>?_) (fun c37=>?_)))
  ·(try simp only[sd] at c37);refine A7 (A3 O (fun c38=>?_) (fun c38=>?_))
   ·(try simp only[sd] at c38);refine A2 BA 1 [] O (A6 ⟨O,_,[],Bx O,List.nil_sublist _,?_⟩);exact⟨pI Ah,O⟩
   (try simp only[sd] at c38);refine A7 (A2 BA 1 [] O (A6 ⟨O,_,[],Bx O,List.nil_sublist _,?_⟩));exact⟨pI Ah,O⟩
  (try simp only[sd] at c37);refine A8 (Az BA 2 [] O (A3 O (fun c39=>?_) (fun c39=>?_)))
  ·(try simp only[sd] at c39);refine A2 BA 1 [] O (A6 ⟨O,_,[],Bx O,List.nil_sublist _,?_⟩);exact⟨pI Ah,O⟩
  (try simp only[sd] at c39);refine A7 (A2 BA 1 [] O (A6 ⟨O,_,[],Bx O,List.nil_sublist _,?_⟩));exact⟨pI Ah,O⟩
 (try simp only[sd] at c35);refine A8 (Az BA 2 [] O (A3 O (fun c40=>?_) (fun c40=>?_)))
 ·(try simp only[sd] at c40);refine A2 BA 1 [] O (A6 ⟨O,_,[],Bx O,List.nil_sublist _,?_⟩);exact⟨pI Ah,O⟩
 (try simp only[sd] at c40);refine A1 (A2 BA 2 [] O (A3 O (fun c41=>?_) (fun c41=>?_)))
 ·(try simp only[sd] at c41);refine A7 (A3 O (fun c42=>?_) (fun c42=>?_))
  ·(try simp only[sd] at c42);refine A2 BA 1 [] O (A6 ⟨O,_,[],Bx O,List.nil_sublist _,?_⟩);exact⟨pI Ah,O⟩
  (try simp only[sd] at c42);refine A7 (A2 BA 1 [] O (A6 ⟨O,_,[],Bx O,List.nil_sublist _,?_⟩));exact⟨pI Ah,O⟩
 (try simp only[sd] at c41);refine A8 (Az BA 2 [] O (A3 O (fun c43=>?_) (fun c43=>?_)))
 ·(try simp only[sd] at c43);refine A2 BA 1 [] O (A6 ⟨O,_,[],Bx O,List.nil_sublist _,?_⟩);exact⟨pI Ah,O⟩
 (try simp only[sd] at c43);refine A7 (A2 BA 1 [] O (A6 ⟨O,_,[],Bx O,List.nil_sublist _,?_⟩));exact⟨pI Ah,O⟩
theorem _root_.Go.Ar {α:Prop}(h:α:=by simp_all):α:=h
theorem Uj : ∀ (k i : Int), Et Tryz.prog 124 [.p (I k), .p (I i)] (.p (I (below k i))) := by
 intro k i
 refine BD Tryz.func124 O ow (n := 27) O O ?_
 refine A2 BA 1 [] O ?_
 refine A1 ?_
 refine A1 ?_
 refine Bi [0, 1, 4] 26 (fun y => y = .p (.bool ((i == 1 && (k == 5 || k == 6 || k == 7)) || (i == 2 && k == 11)))) ?_ ?_
 ·refine A8 ?_
  refine A5 BA 3 [] O ?_
  refine Ba 7 O (fun g1 => ?_) (fun g1 => ?_)
  ·(try simp only [sd] at g1)
   refine A5 BA 3 [] O ?_
   refine Ba 10 O (fun g2 => ?_) (fun g2 => ?_)
   ·(try simp only [sd] at g2)
    refine A5 BA 4 [] O ?_
    refine Ba 14 O (fun g3 => ?_) (fun g3 => ?_)
    ·(try simp only [sd] at g3)
     refine A5 BA 5 [] O ?_
     refine Ba 19 O (fun g4 => ?_) (fun g4 => ?_)
     ·(try simp only [sd] at g4)
      refine Az BA 7 [] O ?_
      exact ⟨O, O, AM, pB Ar, ⟨O, O, O, Aw⟩⟩
     (try simp only [sd] at g4)
     refine A5 BA 3 [] O ?_
     refine Ba 22 O (fun g5 => ?_) (fun g5 => ?_)
     ·(try simp only [sd] at g5)
      refine Az BA 4 [] O ?_
      exact ⟨O, O, AM, pB Ar, ⟨O, O, O, Aw⟩⟩
     (try simp only [sd] at g5)
     refine Az BA 4 [] O ?_
     exact ⟨O, O, AM, pB Ar, ⟨O, O, O, Aw⟩⟩
    (try simp only [sd] at g3)
    refine A5 BA 5 [] O ?_
    refine Ba 19 O (fun g6 => ?_) (fun g6 => ?_)
    ·(try simp only [sd] at g6)
     refine Az BA 7 [] O ?_
     exact ⟨O, O, AM, pB Ar, ⟨O, O, O, Aw⟩⟩
    (try simp only [sd] at g6)
    refine A5 BA 3 [] O ?_
    refine Ba 22 O (fun g7 => ?_) (fun g7 => ?_)
    ·(try simp only [sd] at g7)
     refine Az BA 4 [] O ?_
     exact ⟨O, O, AM, pB Ar, ⟨O, O, O, Aw⟩⟩
    (try simp only [sd] at g7)
    refine Az BA 4 [] O ?_
    exact ⟨O, O, AM, pB Ar, ⟨O, O, O, Aw⟩⟩
   (try simp only [sd] at g2)
   refine A5 BA 4 [] O ?_
   refine Ba 14 O (fun g8 => ?_) (fun g8 => ?_)
   ·(try simp only [sd] at g8)
    refine A5 BA 5 [] O ?_
    refine Ba 19 O (fun g9 => ?_) (fun g9 => ?_)
    ·(try simp only [sd] at g9)
     refine Az BA 7 [] O ?_
     exact ⟨O, O, AM, pB Ar, ⟨O, O, O, Aw⟩⟩
    (try simp only [sd] at g9)
    refine A5 BA 3 [] O ?_
    refine Ba 22 O (fun g10 => ?_) (fun g10 => ?_)
    ·(try simp only [sd] at g10)
     refine Az BA 4 [] O ?_
     exact ⟨O, O, AM, pB Ar, ⟨O, O, O, Aw⟩⟩
    (try simp only [sd] at g10)
    refine Az BA 4 [] O ?_
    exact ⟨O, O, AM, pB Ar, ⟨O, O, O, Aw⟩⟩
   (try simp only [sd] at g8)
   refine A5 BA 5 [] O ?_
   refine Ba 19 O (fun g11 => ?_) (fun g11 => ?_)
   ·(try simp only [sd] at g11)
    refine Az BA 7 [] O ?_
    exact ⟨O, O, AM, pB Ar, ⟨O, O, O, Aw⟩⟩
   (try simp only [sd] at g11)
   refine A5 BA 3 [] O ?_
   refine Ba 22 O (fun g12 => ?_) (fun g12 => ?_)
   ·(try simp only [sd] at g12)
    refine Az BA 4 [] O ?_
    exact ⟨O, O, AM, pB Ar, ⟨O, O, O, Aw⟩⟩
   (try simp only [sd] at g12)
   refine Az BA 4 [] O ?_
   exact ⟨O, O, AM, pB Ar, ⟨O, O, O, Aw⟩⟩
  (try simp only [sd] at g1)
  refine A5 BA 12 [] O ?_
  refine Ba 19 O (fun g13 => ?_) (fun g13 => ?_)
  ·(try simp only [sd] at g13)
   refine Az BA 7 [] O ?_
   exact ⟨O, O, AM, pB Ar, ⟨O, O, O, Aw⟩⟩
  (try simp only [sd] at g13)
  refine A5 BA 3 [] O ?_
  refine Ba 22 O (fun g14 => ?_) (fun g14 => ?_)
  ·(try simp only [sd] at g14)
   refine Az BA 4 [] O ?_
   exact ⟨O, O, AM, pB Ar, ⟨O, O, O, Aw⟩⟩
  (try simp only [sd] at g14)
  refine Az BA 4 [] O ?_
  exact ⟨O, O, AM, pB Ar, ⟨O, O, O, Aw⟩⟩
 rintro _ rfl
 refine A3 O (fun c15 => ?_) (fun c15 => ?_)
 ·(try simp only [sd] at c15)
  refine A2 BA 1 [] O ?_
  refine A6 ?_
  refine ⟨O, _, [], Bx O, List.nil_sublist _, ?_⟩
  exact ⟨pI (by simp only [below, *]; rfl), O⟩
 (try simp only [sd] at c15)
 refine A7 ?_
 refine A2 BA 1 [] O ?_
 refine A6 ?_
 refine ⟨O, _, [], Bx O, List.nil_sublist _, ?_⟩
 exact ⟨pI (by simp only [below, *]; rfl), O⟩
theorem _root_.Go.AA {α:Prop}(h:α:=by first | exact List.Sublist.refl _ | exact .cons _ (.refl _) | exact .cons _ (.cons _ (.refl _)) | exact .cons _ (.cons _ (.cons _ (.refl _))) | exact .cons _ (.cons _ (.cons _ (.cons _ (.refl _))))):α:=h
theorem eU:∀(s:ByteArray),s.size<Dt→GL Tryz.prog 122 [.p (.str s)] Gq:=by
 intro s hs;simp only[Dt] at hs;refine BD Tryz.func122 O nk (n:=45) O O (A2 BA 1 [] O (A1 (A1 (Bi [0,2,3,4,5] 12 Gq ?_ ?_))))
 ·refine A8 (B6 O (Ay O (GF O O) (B6 O (Ba 8 O (fun g1=>?_) (fun g1=>?_)))))
  ·(try simp only[sd] at g1);exact Az BA 4 [] O (⟨O,O,AM,⟨_,O⟩,⟨O,O,O,O,O,Aw⟩⟩)
  (try simp only[sd] at g1);exact BM O (BB O) (BM O (Ge j9 O) (Az BA 2 [] O (⟨O,O,AM,⟨_,O⟩,⟨O,O,O,O,O,Aw⟩⟩)))
 rintro _ ⟨q1,rfl⟩;refine A3 O (fun c2=>?_) (fun c2=>?_)
 ·(try simp only[sd] at c2);refine A2 BA 1 [] O (A6 (⟨O,_,[],Bx O,List.nil_sublist _,⟨⟨_,O⟩,O⟩⟩))
 (try simp only[sd] at c2);refine A7 (A2 BA 1 [] O (A1 (A2 BA 1 [] O (BH (Bo (α:=Nat×Bool) (fun x=>⟨45,mk [(0,.p (.str s)),(3,.p (.bool x.2)),(4,.p (I x.1))],[],[]⟩) (fun x=>s.size - x.1) (fun x=>x.1≤s.size) ((0,true)) Av ?_ ?_)))))
 ·exact EP ⟨O,O,O,Aw⟩ AA
 rintro⟨i,f⟩ hi;simp only at hi;refine A1 (A4 (A5 BA 2 [] O (Ay O (Ge j9 O) (Az BA 1 [] O (A3 O (fun c3=>?_) (fun c3=>?_))))))
 ·(try simp only[sd] at c3);have hi2:i<s.size:=by omega
  obtain⟨ch,hch⟩:∃ch,s[i]?=some ch:=⟨_,getElem?_pos s i hi2⟩;refine A7 (A1 (BH (A4 (A5 BA 2 [] O (Ay O (SO j9 O O Au (by simpa using hch)) (Az BA 1 [] O (A1 (A2 BA 1 [] O (A3 O (fun c4=>?_) (fun c4=>?_))))))))))
  ·(try simp only[sd] at c4);refine A1 (A4 (B6 O (D1 O O (CP O O (VH _) (.inl O)) ?_)));rintro _ ⟨q,rfl⟩;refine Az BA 1 [] O (A3 O (fun c5=>?_) (fun c5=>?_))
   ·(try simp only[sd] at c5);refine A2 BA 1 [] O (A6 (⟨O,_,[],Bx O,List.nil_sublist _,⟨⟨_,O⟩,O⟩⟩))
   (try simp only[sd] at c5);exact A7 (A2 BA 1 [] O (Br (A8 (Az BA 3 [] O (⟨(i+1,_),Ag,Ag,EP ⟨O,O,O,Aw⟩ AA⟩)))))
  (try simp only[sd] at c4);refine A7 (A1 (A2 BA 2 [] O (A3 O (fun c6=>?_) (fun c6=>?_))))
  ·(try simp only[sd] at c6);exact A2 BA 1 [] O (Br (A8 (Az BA 3 [] O (⟨(i+1,_),Ag,Ag,EP ⟨O,O,O,Aw⟩ AA⟩))))
  (try simp only[sd] at c6);refine A7 (A1 (Bi [0,2,3,4,5] 42 Gq ?_ ?_))
  ·refine A8 (B6 O (D1 O O (CP O O (VH _) (.inl O)) ?_));rintro _ ⟨q,rfl⟩;refine A5 BA 2 [] O (Ba 31 O (fun g7=>?_) (fun g7=>?_))
   ·(try simp only[sd] at g7);refine A5 BA 4 [] O (Ba 35 O (fun g8=>?_) (fun g8=>?_))
    ·(try simp only[sd] at g8);refine A5 BA 3 [] O (Ba 38 O (fun g9=>?_) (fun g9=>?_))
     ·(try simp only[sd] at g9);exact Az BA 4 [] O (⟨O,O,AM,⟨_,O⟩,⟨O,O,O,O,O,Aw⟩⟩)
     (try simp only[sd] at g9);exact Az BA 4 [] O (⟨O,O,AM,⟨_,O⟩,⟨O,O,O,O,O,Aw⟩⟩)
    (try simp only[sd] at g8);exact Az BA 7 [] O (⟨O,O,AM,⟨_,O⟩,⟨O,O,O,O,O,Aw⟩⟩)
   (try simp only[sd] at g7);refine A5 BA 4 [] O (Ba 35 O (fun g10=>?_) (fun g10=>?_))
   ·(try simp only[sd] at g10);refine A5 BA 3 [] O (Ba 38 O (fun g11=>?_) (fun g11=>?_))
    ·(try simp only[sd] at g11);exact Az BA 4 [] O (⟨O,O,AM,⟨_,O⟩,⟨O,O,O,O,O,Aw⟩⟩)
    (try simp only[sd] at g11);exact Az BA 4 [] O (⟨O,O,AM,⟨_,O⟩,⟨O,O,O,O,O,Aw⟩⟩)
   (try simp only[sd] at g10);exact Az BA 7 [] O (⟨O,O,AM,⟨_,O⟩,⟨O,O,O,O,O,Aw⟩⟩)
  rintro _ ⟨q14,rfl⟩;refine A3 O (fun c12=>?_) (fun c12=>?_)
  ·(try simp only[sd] at c12);refine A2 BA 1 [] O (A6 (⟨O,_,[],Bx O,List.nil_sublist _,⟨⟨_,O⟩,O⟩⟩))
  (try simp only[sd] at c12);exact A7 (A8 (Az BA 3 [] O (⟨(i+1,_),Ag,Ag,EP ⟨O,O,O,Aw⟩ AA⟩)))
 (try simp only[sd] at c3);refine Br (A2 BA 3 [] O (A6 (⟨O,_,[],Bx O,List.nil_sublist _,⟨⟨_,O⟩,O⟩⟩)))
theorem _root_.Go.AD {α:Prop}(h:α:=by repeat' first | exact trivial | refine And.intro ?_ ?_ | exact Or.inl (by kernel_rfl) | (refine Or.inr (And.intro ?_ ?_)<;>repeat (first | exact List.Mem.head _ | apply List.Mem.tail))):α:=h
theorem gV:∀(l:Cl),M6 l→GL Tryz.prog 148 [LV l] Gq:=by
 intro l hn;obtain⟨lc,lv⟩:=l;have hb:=hn.vars;simp only[Dt] at hb;refine BD Tryz.func148 O j0 (n:=67) O O (A4 (BP O (Bf O) fun b1=>Az BA 1 [] O (A1 (A1 (Bi [0,1,2,3,4] 12 Gq ?_ ?_)))))
 ·refine A8 (A5 BA 4 [0] O (Ba 8 O (fun g1=>?_) (fun g1=>?_)))
  ·(try simp only[sd] at g1);exact Az BA 4 [] O (⟨O,O,AM,⟨_,O⟩,⟨O,O,O,O,O,Aw⟩⟩)
  (try simp only[sd] at g1);exact Az BA 4 [0] O (⟨O,O,AM,⟨_,O⟩,⟨O,O,O,O,O,Aw⟩⟩)
 rintro _ ⟨q1,rfl⟩;refine A3 O (fun c2=>?_) (fun c2=>?_)
 ·(try simp only[sd] at c2);refine A2 BA 1 [] O (A6 (⟨O,_,[],Bx O,List.nil_sublist _,⟨⟨_,O⟩,O⟩⟩))
 (try simp only[sd] at c2);refine A7 (A1 (A2 BA 1 [] O (BH (Ia (lv.length) (fun _=>True) (fun i=>⟨67,mk [(1,.ptr b1 0),(3,.p (I i))],[.box b1 ((CE ⟨lc,lv⟩).map .p)],[]⟩) (0) Au (Aw) ?_ ?_))))
 ·exact EP ⟨O,O,Aw⟩ AA
 intro i hi hC;refine A1 (A4 (A5 BA 3 [0] O (Ay O (DH Ck O) (Az BA 1 [] O (A3 O (fun c3=>?_) (fun c3=>?_))))))
 ·(try simp only[sd] at c3);have hi2:i<lv.length:=by simp at c3;omega
  obtain⟨v,hv⟩:=BE hi2;obtain⟨w,hw⟩:=BE (l:=lv) (i:=i - 1) Au;refine A7 (A1 (BH (A4 (A5 BA 3 [0] O (Ay O (BC Ck O O Au (Cz hv) (O)) (Ay O (BQ Ld O (O)) (BP O (BF FZ O) fun b4=>Az BA 1 [0,0] O (A1 (A1 (Bi [0,1,2,3,4] 42 Gq ?_ ?_))))))))))
  ·refine A8 (A5 BA 4 [0] O (Ba 28 O (fun g4=>?_) (fun g4=>?_)))
   ·(try simp only[sd] at g4);refine A5 BA 5 [] O (Ba 33 O (fun g5=>?_) (fun g5=>?_))
    ·(try simp only[sd] at g5);refine A5 BA 5 [] O (Ba 38 O (fun g6=>?_) (fun g6=>?_))
     ·(try simp only[sd] at g6);exact Az BA 4 [] O (⟨O,O,AM,⟨_,O⟩,⟨O,O,O,O,O,Aw⟩⟩)
     (try simp only[sd] at g6);exact Az BA 4 [0] O (⟨O,O,AM,⟨_,O⟩,⟨O,O,O,O,O,Aw⟩⟩)
    (try simp only[sd] at g5);refine A5 BA 5 [0] O (Ba 38 O (fun g7=>?_) (fun g7=>?_))
    ·(try simp only[sd] at g7);exact Az BA 4 [] O (⟨O,O,AM,⟨_,O⟩,⟨O,O,O,O,O,Aw⟩⟩)
    (try simp only[sd] at g7);exact Az BA 4 [0] O (⟨O,O,AM,⟨_,O⟩,⟨O,O,O,O,O,Aw⟩⟩)
   (try simp only[sd] at g4);refine A5 BA 5 [0] O (Ba 33 O (fun g8=>?_) (fun g8=>?_))
   ·(try simp only[sd] at g8);refine A5 BA 5 [] O (Ba 38 O (fun g9=>?_) (fun g9=>?_))
    ·(try simp only[sd] at g9);exact Az BA 4 [] O (⟨O,O,AM,⟨_,O⟩,⟨O,O,O,O,O,Aw⟩⟩)
    (try simp only[sd] at g9);exact Az BA 4 [0] O (⟨O,O,AM,⟨_,O⟩,⟨O,O,O,O,O,Aw⟩⟩)
   (try simp only[sd] at g8);refine A5 BA 5 [0] O (Ba 38 O (fun g10=>?_) (fun g10=>?_))
   ·(try simp only[sd] at g10);exact Az BA 4 [] O (⟨O,O,AM,⟨_,O⟩,⟨O,O,O,O,O,Aw⟩⟩)
   (try simp only[sd] at g10);exact Az BA 4 [0] O (⟨O,O,AM,⟨_,O⟩,⟨O,O,O,O,O,Aw⟩⟩)
  rintro _ ⟨q7,rfl⟩;refine A3 O (fun c11=>?_) (fun c11=>?_)
  ·(try simp only[sd] at c11);refine A2 BA 1 [] O (A6 (⟨O,_,[],Bx O,List.nil_sublist _,⟨⟨_,O⟩,O⟩⟩))
  (try simp only[sd] at c11);refine A7 (A1 (A1 (Bi [0,1,2,3,4] 56 Gq ?_ ?_)))
  ·refine B7 (fun k=>false) D7 (A0 O (fun _=>BB O) Aw (A0 O (fun _=>C4 O O O) Aw (A0 O (fun _=>BB O) Aw (EB 45 O (fun g12=>?_) (fun g12=>?_)))))
   ·(try simp only[sd] at g12);refine Be O (fun _=>Ax Ea O O) Aw (Co (i:=1) O O O O O (fun H i hi=>BG (i:=i) Fp O hi O) AD Aw (Be O (fun _=>BB O) Aw (Be O (fun _=>IP O O Au Au) Aw ?_)));refine Be O (fun _=>BC Ck O O (by simp_all;omega) (by rw[show ((i:Int) - 1).toNat=i - 1 by omega];exact Cz hw) (O)) Aw ?_;exact Be O (fun _=>Bp Ep O O) Aw (Be O (fun _=>Ci C0 O) Aw (Be O (fun _=>Ax Ep O O) Aw (Co (i:=0) O O O O O (fun H i hi=>BG (i:=i) C0 O hi O) AD Aw (Be O (fun _=>C4 O O O) Aw (A0 O (fun _=>B2 O O) Aw (Bv O Ap (⟨O,O,AM,⟨_,O⟩,⟨O,O,O,O,O,Aw⟩⟩)))))))
   (try simp only[sd] at g12);exact BR O Aw (BR O Aw (BR O Aw (BR O Aw (BR O Aw (BR O Aw (BR O Aw (BR O Aw (BR O Aw (BR O Aw (A0 O (fun _=>B2 O O) Aw (Bv O Ap (⟨O,O,AM,⟨_,O⟩,⟨O,O,O,O,O,Aw⟩⟩))))))))))))
  rintro _ ⟨q9,rfl⟩;refine A3 O (fun c13=>?_) (fun c13=>?_)
  ·(try simp only[sd] at c13);refine A2 BA 1 [] O (A6 (⟨O,_,[],Bx O,List.nil_sublist _,⟨⟨_,O⟩,O⟩⟩))
  (try simp only[sd] at c13);refine A7 (A1 (Bi [0,1,2,3,4] 66 Gq ?_ ?_))
  ·refine A8 (A5 BA 4 [1] O (Ba 60 O (fun g14=>?_) (fun g14=>?_)))
   ·(try simp only[sd] at g14);exact Az BA 6 [0,1] O (⟨O,O,AM,⟨_,O⟩,⟨O,O,O,O,O,Aw⟩⟩)
   (try simp only[sd] at g14);exact Az BA 6 [] O (⟨O,O,AM,⟨_,O⟩,⟨O,O,O,O,O,Aw⟩⟩)
  rintro _ ⟨q11,rfl⟩;refine A3 O (fun c15=>?_) (fun c15=>?_)
  ·(try simp only[sd] at c15);refine A2 BA 1 [] O (A6 (⟨O,_,[],Bx O,List.nil_sublist _,⟨⟨_,O⟩,O⟩⟩))
  (try simp only[sd] at c15);exact A7 (A8 (Az BA 3 [] O (⟨by omega,trivial,EP ⟨rfl,rfl,trivial⟩ AA⟩)))
 (try simp only[sd] at c3);refine Br (A2 BA 1 [] O (A6 (⟨O,_,[],Bx O,List.nil_sublist _,⟨⟨_,O⟩,O⟩⟩)))
theorem gj:∀(l:Cl) (a b:Int),M6 l→GL Tryz.prog 123 [LV l,.p (I a),.p (I b)] ZG:=by
 intro l pa pb hn;have hn0:=hn;obtain⟨lc,lv⟩:=l;have hb:=hn.vars;simp only[Dt] at hb;refine BD Tryz.func123 O mN (n:=61) O O (A4 (BP O (Bf O) fun b3=>Az BA 1 [] O (A1 (A4 (Ay O (BI (i:=0) DY O O O) (D1 O O (CP O O (gV _ hn0) (.inl O)) ?_))))));rintro _ ⟨q,rfl⟩;refine Az BA 1 [] O (A3 O (fun c1=>?_) (fun c1=>?_))
 ·(try simp only[sd] at c1);refine A2 BA 1 [] O (A6 (⟨O,_,[],Bx O,List.nil_sublist _,⟨⟨_,O⟩,O⟩⟩))
 (try simp only[sd] at c1);refine A7 (A1 (A2 BA 1 [] O (BH (Ia (lv.length) (fun _=>True) (fun i=>⟨61,mk [(1,.p (I pa)),(2,.p (I pb)),(3,.ptr b3 0),(7,.p (I i))],[.box b3 ((CE ⟨lc,lv⟩).map .p)],[]⟩) (0) Au (Aw) ?_ ?_))))
 ·exact EP ⟨O,O,O,O,Aw⟩ AA
 intro i hi hC;refine A1 (A4 (A5 BA 3 [0] O (Ay O (DH Ck O) (Az BA 1 [] O (A3 O (fun c2=>?_) (fun c2=>?_))))))
 ·(try simp only[sd] at c2);have hi2:i<lv.length:=by simp at c2;omega
  obtain⟨v,hv⟩:=BE hi2;refine A7 (A1 (BH (A1 (Bi [0,1,2,3,6,7,8] 35 Gq ?_ ?_))))
  ·refine A8 (A5 BA 3 [0] O (Ay O (BC Ck O O Au (Cz hv) (O)) (A5 BA 4 [] O (Ba 26 O (fun g3=>?_) (fun g3=>?_)))))
   ·(try simp only[sd] at g3);exact A5 BA 3 [0] O (BM O (BC Ck O O Au (Cz hv) (O)) (Az BA 5 [] O (⟨O,O,AM,⟨_,O⟩,⟨O,O,O,O,O,O,O,Aw⟩⟩)))
   (try simp only[sd] at g3);exact Az BA 9 [] O (⟨O,O,AM,⟨_,O⟩,⟨O,O,O,O,O,O,O,Aw⟩⟩)
  rintro _ ⟨q6,rfl⟩;refine A3 O (fun c4=>?_) (fun c4=>?_)
  ·(try simp only[sd] at c4);refine A2 BA 1 [] O (A6 (⟨O,_,[],Bx O,List.nil_sublist _,⟨⟨_,O⟩,O⟩⟩))
  (try simp only[sd] at c4);exact A7 (A8 (Az BA 3 [] O (⟨by omega,trivial,EP ⟨rfl,rfl,rfl,rfl,trivial⟩ AA⟩)))
 (try simp only[sd] at c2);refine Br (A1 (A2 BA 1 [] O (BH (Ia (lv.length) (fun _=>True) (fun i=>⟨61,mk [(1,.p (I pa)),(2,.p (I pb)),(3,.ptr b3 0),(8,.p (I i))],[.box b3 ((CE ⟨lc,lv⟩).map .p)],[]⟩) (0) Au (Aw) ?_ ?_))))
 ·exact EP ⟨O,O,O,O,Aw⟩ AA
 intro i hi hC;refine A1 (A4 (A5 BA 3 [0] O (Ay O (DH Ck O) (Az BA 1 [] O (A3 O (fun c5=>?_) (fun c5=>?_))))))
 ·(try simp only[sd] at c5);have hi2:i<lv.length:=by simp at c5;omega
  obtain⟨v,hv⟩:=BE hi2;refine A7 (A1 (BH (A1 (Bi [0,1,2,3,6,7,8] 60 Gq ?_ ?_))))
  ·refine A8 (A5 BA 3 [0] O (Ay O (BC Ck O O Au (Cz hv) (O)) (A5 BA 4 [] O (Ba 50 O (fun g6=>?_) (fun g6=>?_)))))
   ·(try simp only[sd] at g6);exact A5 BA 3 [0] O (BM O (BC Ck O O Au (Cz hv) (O)) (A5 BA 2 [] O (BM O (Ja O O) (Az BA 3 [] O (⟨O,O,AM,⟨_,O⟩,⟨O,O,O,O,O,O,O,Aw⟩⟩)))))
   (try simp only[sd] at g6);exact Az BA 10 [] O (⟨O,O,AM,⟨_,O⟩,⟨O,O,O,O,O,O,O,Aw⟩⟩)
  rintro _ ⟨q11,rfl⟩;refine A3 O (fun c7=>?_) (fun c7=>?_)
  ·(try simp only[sd] at c7);refine A2 BA 1 [] O (A6 (⟨O,_,[],Bx O,List.nil_sublist _,⟨⟨_,O⟩,O⟩⟩))
  (try simp only[sd] at c7);exact A7 (A8 (Az BA 3 [] O (⟨by omega,trivial,EP ⟨rfl,rfl,rfl,rfl,trivial⟩ AA⟩)))
 (try simp only[sd] at c5);refine Br (A2 BA 1 [] O (A6 (⟨O,_,[],Bx O,List.nil_sublist _,⟨⟨_,O⟩,O⟩⟩)))
theorem lR:∀(t:Tm),GL Tryz.prog 121 [TV t] (fun v=>∃b:Bool,v= .p (.bool b)∧(b=true→XL t)):=by
 intro t;obtain⟨kd,ix,nm,ls,ks⟩:=t;refine BD Tryz.func121 O oZ (n:=57) O O (A4 (BP O (Bf O) fun b1=>Az BA 1 [] O (A1 (A1 (Bi [0,1,2] 19 (fun y=>y= .p (.bool (decide (kd<0)||decide (kd≥13)||((BO ks).length:Int) !=arity kd))) ?_ ?_)))))
 ·refine B7 (fun k=>false) D7 (A0 O (fun _=>Ax DV O O) Aw (BT (j:=0) O O O (fun H i hi=>BG (i:=i) C0 O hi O) AD Aw (A0 O (fun _=>C4 O O O) Aw (A0 O (fun _=>BB O) Aw (EB 6 O (fun g1=>?_) (fun g1=>?_))))))
  ·(try simp only[sd] at g1);refine BR O Aw (BR O Aw (BR O Aw (A0 O (fun _=>B2 O O) Aw (A0 O (fun _=>BB O) Aw (EB 11 O (fun g2=>?_) (fun g2=>?_))))))
   ·(try simp only[sd] at g2);refine BR O Aw (BR O Aw (BR O Aw (BR O Aw (BR O Aw (BR O Aw (BR O Aw (A0 O (fun _=>B2 O O) Aw (Bv O Ap ?_))))))));exact⟨rfl,rfl,AM,pB (by simp_all<;>(try (intros;omega))),⟨rfl,rfl,rfl,trivial⟩⟩
   (try simp only[sd] at g2);refine Be O (fun _=>Ax DV O O) Aw (Co (i:=0) O O O O O (fun H i hi=>BG (i:=i) E9 O hi O) AD Aw (Be O (fun _=>DH Bq O) Aw (Be O (fun _=>Ax DV O O) Aw (Co (i:=0) O O O O O (fun H i hi=>BG (i:=i) C0 O hi O) AD Aw (Be O (fun _=>BN O O (e9 kd) O) Aw (Be O (fun _=>C4 O O O) Aw (A0 O (fun _=>B2 O O) Aw (Bv O Ap ?_))))))));exact⟨rfl,rfl,AM,pB (by simp_all<;>(try (intros;omega))),⟨rfl,rfl,rfl,trivial⟩⟩
  (try simp only[sd] at g1);refine Be O (fun _=>Ax DV O O) Aw (Co (i:=0) O O O O O (fun H i hi=>BG (i:=i) C0 O hi O) AD Aw (Be O (fun _=>C4 O O O) Aw (A0 O (fun _=>B2 O O) Aw (A0 O (fun _=>BB O) Aw (EB 11 O (fun g3=>?_) (fun g3=>?_))))))
  ·(try simp only[sd] at g3);refine BR O Aw (BR O Aw (BR O Aw (BR O Aw (BR O Aw (BR O Aw (BR O Aw (A0 O (fun _=>B2 O O) Aw (Bv O Ap ?_))))))));exact⟨rfl,rfl,AM,pB (by simp_all<;>(try (intros;omega))),⟨rfl,rfl,rfl,trivial⟩⟩
  (try simp only[sd] at g3);refine Be O (fun _=>Ax DV O O) Aw (Co (i:=0) O O O O O (fun H i hi=>BG (i:=i) E9 O hi O) AD Aw (Be O (fun _=>DH Bq O) Aw (Be O (fun _=>Ax DV O O) Aw (Co (i:=0) O O O O O (fun H i hi=>BG (i:=i) C0 O hi O) AD Aw (Be O (fun _=>BN O O (e9 kd) O) Aw (Be O (fun _=>C4 O O O) Aw (A0 O (fun _=>B2 O O) Aw (Bv O Ap ?_))))))));exact⟨rfl,rfl,AM,pB (by simp_all<;>(try (intros;omega))),⟨rfl,rfl,rfl,trivial⟩⟩
 rintro _ rfl;refine A3 O (fun c4=>?_) (fun c4=>?_)
 ·(try simp only[sd] at c4);refine A2 BA 1 [] O (A6 (⟨O,_,[],Bx O,List.nil_sublist _,⟨⟨_,O,?_⟩,O⟩⟩))
  first | exact(fun _=>hf) | exact(fun h=>by cases h)
 (try simp only[sd] at c4);have hf:XL (.mk kd ix nm ls ks):=by simp[Bh] at c4;exact⟨c4.1.1,c4.1.2,c4.2⟩
 refine A7 (A1 (A1 (Bi [0,1,2] 32 Gq ?_ ?_)))
 ·refine A8 (A5 BA 4 [0] O (Ba 23 O (fun g5=>?_) (fun g5=>?_)))
  ·(try simp only[sd] at g5);refine A5 BA 5 [0] O (Ba 28 O (fun g6=>?_) (fun g6=>?_))
   ·(try simp only[sd] at g6);exact Az BA 4 [0] O (⟨O,O,AM,⟨_,O⟩,⟨O,O,O,Aw⟩⟩)
   (try simp only[sd] at g6);exact Az BA 4 [] O (⟨O,O,AM,⟨_,O⟩,⟨O,O,O,Aw⟩⟩)
  (try simp only[sd] at g5);refine A5 BA 5 [] O (Ba 28 O (fun g7=>?_) (fun g7=>?_))
  ·(try simp only[sd] at g7);exact Az BA 4 [0] O (⟨O,O,AM,⟨_,O⟩,⟨O,O,O,Aw⟩⟩)
  (try simp only[sd] at g7);exact Az BA 4 [] O (⟨O,O,AM,⟨_,O⟩,⟨O,O,O,Aw⟩⟩)
 rintro _ ⟨q3,rfl⟩;refine A3 O (fun c8=>?_) (fun c8=>?_)
 ·(try simp only[sd] at c8);refine A2 BA 1 [] O (A6 (⟨O,_,[],Bx O,List.nil_sublist _,⟨⟨_,O,?_⟩,O⟩⟩))
  first | exact(fun _=>hf) | exact(fun h=>by cases h)
 (try simp only[sd] at c8);refine A7 (A1 (A1 (Bi [0,1,2] 40 Gq ?_ ?_)))
 ·refine A8 (A5 BA 2 [0] O (Ay O (JE O O) (B6 O (Ba 36 O (fun g9=>?_) (fun g9=>?_)))))
  ·(try simp only[sd] at g9);exact Az BA 4 [0] O (⟨O,O,AM,⟨_,O⟩,⟨O,O,O,Aw⟩⟩)
  (try simp only[sd] at g9);exact Az BA 4 [] O (⟨O,O,AM,⟨_,O⟩,⟨O,O,O,Aw⟩⟩)
 rintro _ ⟨q5,rfl⟩;refine A3 O (fun c10=>?_) (fun c10=>?_)
 ·(try simp only[sd] at c10);refine A2 BA 1 [] O (A6 (⟨O,_,[],Bx O,List.nil_sublist _,⟨⟨_,O,?_⟩,O⟩⟩))
  first | exact(fun _=>hf) | exact(fun h=>by cases h)
 (try simp only[sd] at c10);refine A7 (A1 (A2 BA 3 [0] O (A3 O (fun c11=>?_) (fun c11=>?_))))
 ·(try simp only[sd] at c11);refine A4 (A5 BA 2 [0] O (Ay O (DH En O) (Az BA 2 [] O (A6 (⟨O,_,[],Bx O,List.nil_sublist _,⟨⟨_,O,?_⟩,O⟩⟩)))))
  first | exact(fun _=>hf) | exact(fun h=>by cases h)
 (try simp only[sd] at c11);refine A7 (A1 (Bi [0,1] 2 Gq ?_ ?_))
 ·refine A8 (A5 BA 2 [0] O (Ay O (DH En O) (A5 BA 2 [] O (Ba 52 O (fun g12=>?_) (fun g12=>?_)))))
  ·(try simp only[sd] at g12);exact Az BA 5 [] O (⟨O,O,AM,⟨_,O⟩,⟨O,O,Aw⟩⟩)
  (try simp only[sd] at g12);exact Az BA 5 [0] O (⟨O,O,AM,⟨_,O⟩,⟨O,O,Aw⟩⟩)
 rintro _ ⟨q9,rfl⟩;refine A6 (⟨O,_,[],Bx O,List.nil_sublist _,⟨⟨_,O,?_⟩,O⟩⟩)
 first | exact(fun _=>hf) | exact(fun h=>by cases h)
theorem _root_.Go.Aq {α:Prop}(h:α:=by assumption):α:=h
theorem hG:∀(n:Nat) (t:Tm) (d vars params metas levels:Int),size t≤n→Nd t→0≤d→d+n<Dt→GL Tryz.prog 92 [TV t,.p (I d),.p (I vars),.p (I params),.p (I metas),.p (I levels)] (fun v=>∃e:Int,v= .p (I e)∧(e=0→wf vars metas d t)):=by
 intro n
 induction n with
 | zero=>intro t d vars params metas levels h;cases t;simp[size] at h
 | succ n ih =>
  intro t d vars params metas levels hs hnd hd0 hdn;obtain⟨kd,ix,nm,ls,ks⟩:=t;simp only[size] at hs;simp only[Nd,I3,Dt] at hnd hdn;obtain⟨hn1,hn2,hn3,hn4,hn5,hn6,hn7⟩:=hnd;refine BD Tryz.func92 O ry (n:=107) O O (A4 (BP O (Bf O) fun b6=>Az BA 1 [] O (A1 (A4 (Ay O (BI (i:=0) Bd O O O) (D1 O O (CP O O (lR (.mk kd ix nm ls ks)) (.inl O)) ?_))))));rintro _ ⟨fb,rfl,hfb⟩;refine Az BA 1 [] O (A3 O (fun c1=>?_) (fun c1=>?_))
  ·(try simp only[sd] at c1);refine A2 BA 1 [] O (A6 (⟨O,_,[],Bx O,List.nil_sublist _,⟨⟨_,O,?_⟩,O⟩⟩))
   first | exact(fun h=>absurd h As) | exact(fun h=>absurd h Aq) | exact(fun _=>⟨hf.1,hf.2.1,hf.2.2,hv1,hv2,Kr fun j t ht=>by have:=hC j (by have:=(List.getElem?_eq_some_iff.1 ht).1;omega) t ht;simpa using this⟩)
  (try simp only[sd] at c1);have hf:XL (.mk kd ix nm ls ks):=hfb (by simpa using c1);refine A7 (A1 (A1 (Bi [0,1,2,3,4,5,6,12,13,14,15,16] 28 Gq ?_ ?_)))
  ·refine A8 (A5 BA 4 [0] O (Ba 23 O (fun g2=>?_) (fun g2=>?_)))
   ·(try simp only[sd] at g2);refine A5 BA 2 [0] O (IU O O O O (CP O O (eU nm hn1) (.inl O)) ?_);rintro _ ⟨q,rfl⟩;exact Az BA 2 [] O (⟨O,O,AM,⟨_,O⟩,⟨O,O,O,O,O,O,O,O,O,O,O,O,Aw⟩⟩)
   (try simp only[sd] at g2);exact Az BA 5 [] O (⟨O,O,AM,⟨_,O⟩,⟨O,O,O,O,O,O,O,O,O,O,O,O,Aw⟩⟩)
  rintro _ ⟨q3,rfl⟩;refine A3 O (fun c3=>?_) (fun c3=>?_)
  ·(try simp only[sd] at c3);refine A2 BA 1 [] O (A6 (⟨O,_,[],Bx O,List.nil_sublist _,⟨⟨_,O,?_⟩,O⟩⟩))
   first | exact(fun h=>absurd h As) | exact(fun h=>absurd h Aq) | exact(fun _=>⟨hf.1,hf.2.1,hf.2.2,hv1,hv2,Kr fun j t ht=>by have:=hC j (by have:=(List.getElem?_eq_some_iff.1 ht).1;omega) t ht;simpa using this⟩)
  (try simp only[sd] at c3);refine A7 (A1 (A4 (A5 BA 2 [0] O (Ay O (DH En O) (Az BA 1 [] O (A3 O (fun c4=>?_) (fun c4=>?_)))))))
  ·(try simp only[sd] at c4);refine A2 BA 1 [] O (A6 (⟨O,_,[],Bx O,List.nil_sublist _,⟨⟨_,O,?_⟩,O⟩⟩))
   first | exact(fun h=>absurd h As) | exact(fun h=>absurd h Aq) | exact(fun _=>⟨hf.1,hf.2.1,hf.2.2,hv1,hv2,Kr fun j t ht=>by have:=hC j (by have:=(List.getElem?_eq_some_iff.1 ht).1;omega) t ht;simpa using this⟩)
  (try simp only[sd] at c4);refine A7 (A1 (A2 BA 1 [] O (BH (Ia (ls.length) (fun _=>True) (fun i=>⟨107,mk [(1,.p (I d)),(2,.p (I vars)),(3,.p (I params)),(4,.p (I metas)),(5,.p (I levels)),(6,.ptr b6 0),(13,.p (I i))],[.box b6 ((Bg (.mk kd ix nm ls ks)).map .p)],[]⟩) (0) Au (Aw) ?_ ?_))))
  ·exact EP ⟨O,O,O,O,O,O,O,Aw⟩ AA
  intro i hi hC;refine A1 (A4 (A5 BA 3 [0] O (Ay O (DH En O) (Az BA 1 [] O (A3 O (fun c5=>?_) (fun c5=>?_))))))
  ·(try simp only[sd] at c5);have hi2:i<ls.length:=by simp at c5;omega
   obtain⟨x,hx⟩:=BE hi2;refine A7 (A1 (BH (A4 (A5 BA 3 [0] O (Ay O (BC En O O Au (GC hx) (DT _)) (A5 BA 3 [] O (D1 O O (CP O O (gj x params levels (hn3 x (List.mem_of_getElem? hx))) (.inl O)) ?_)))))));rintro _ ⟨le,rfl⟩;refine Az BA 1 [] O (A2 BA 2 [] O (A3 O (fun c6=>?_) (fun c6=>?_)))
   ·(try simp only[sd] at c6);refine A2 BA 2 [] O (A6 (⟨O,_,[],Bx O,List.nil_sublist _,⟨⟨_,O,?_⟩,O⟩⟩))
    first | exact(fun h=>absurd h As) | exact(fun h=>absurd h Aq) | exact(fun _=>⟨hf.1,hf.2.1,hf.2.2,hv1,hv2,Kr fun j t ht=>by have:=hC j (by have:=(List.getElem?_eq_some_iff.1 ht).1;omega) t ht;simpa using this⟩)
   (try simp only[sd] at c6);exact A7 (A8 (Az BA 3 [] O (⟨by omega,trivial,EP ⟨rfl,rfl,rfl,rfl,rfl,rfl,rfl,trivial⟩ AA⟩)))
  (try simp only[sd] at c5);refine Br (A1 (A1 (Bi [0,1,2,3,4,5,6,12,13,14,15,16] 66 (fun y=>y= .p (.bool (kd==0&&(decide (ix<0)||decide (ix - d≥vars))))) ?_ ?_)))
  ·refine A8 (A5 BA 4 [0] O (Ba 54 O (fun g7=>?_) (fun g7=>?_)))
   ·(try simp only[sd] at g7);refine A5 BA 4 [0] O (Ba 58 O (fun g8=>?_) (fun g8=>?_))
    ·(try simp only[sd] at g8);refine Az BA 8 [] O ?_;exact⟨rfl,rfl,AM,pB (by simp_all<;>(try (intros;omega))),⟨rfl,rfl,rfl,rfl,rfl,rfl,rfl,rfl,rfl,rfl,rfl,rfl,trivial⟩⟩
    (try simp only[sd] at g8);refine Az BA 8 [0] O ?_;exact⟨rfl,rfl,AM,pB (by simp_all<;>(try (intros;omega))),⟨rfl,rfl,rfl,rfl,rfl,rfl,rfl,rfl,rfl,rfl,rfl,rfl,trivial⟩⟩
   (try simp only[sd] at g7);refine Az BA 12 [] O ?_;exact⟨rfl,rfl,AM,pB (by simp_all<;>(try (intros;omega))),⟨rfl,rfl,rfl,rfl,rfl,rfl,rfl,rfl,rfl,rfl,rfl,rfl,trivial⟩⟩
  rintro _ rfl;refine A3 O (fun c9=>?_) (fun c9=>?_)
  ·(try simp only[sd] at c9);refine A2 BA 1 [] O (A6 (⟨O,_,[],Bx O,List.nil_sublist _,⟨⟨_,O,?_⟩,O⟩⟩))
   first | exact(fun h=>absurd h As) | exact(fun h=>absurd h Aq) | exact(fun _=>⟨hf.1,hf.2.1,hf.2.2,hv1,hv2,Kr fun j t ht=>by have:=hC j (by have:=(List.getElem?_eq_some_iff.1 ht).1;omega) t ht;simpa using this⟩)
  (try simp only[sd] at c9);have hv1:kd=0→0≤ix∧ix - d<vars:=by intro h;simp[h] at c9;omega
  refine A7 (A1 (A1 (Bi [0,1,2,3,4,5,6,12,13,14,15,16] 80 (fun y=>y= .p (.bool (kd==12&&(decide (ix<0)||decide (ix≥metas))))) ?_ ?_)))
  ·refine A8 (A5 BA 4 [0] O (Ba 70 O (fun g10=>?_) (fun g10=>?_)))
   ·(try simp only[sd] at g10);refine A5 BA 4 [0] O (Ba 74 O (fun g11=>?_) (fun g11=>?_))
    ·(try simp only[sd] at g11);refine Az BA 6 [] O ?_;exact⟨rfl,rfl,AM,pB (by simp_all<;>(try (intros;omega))),⟨rfl,rfl,rfl,rfl,rfl,rfl,rfl,rfl,rfl,rfl,rfl,rfl,trivial⟩⟩
    (try simp only[sd] at g11);refine Az BA 6 [0] O ?_;exact⟨rfl,rfl,AM,pB (by simp_all<;>(try (intros;omega))),⟨rfl,rfl,rfl,rfl,rfl,rfl,rfl,rfl,rfl,rfl,rfl,rfl,trivial⟩⟩
   (try simp only[sd] at g10);refine Az BA 10 [] O ?_;exact⟨rfl,rfl,AM,pB (by simp_all<;>(try (intros;omega))),⟨rfl,rfl,rfl,rfl,rfl,rfl,rfl,rfl,rfl,rfl,rfl,rfl,trivial⟩⟩
  rintro _ rfl;refine A3 O (fun c12=>?_) (fun c12=>?_)
  ·(try simp only[sd] at c12);refine A2 BA 1 [] O (A6 (⟨O,_,[],Bx O,List.nil_sublist _,⟨⟨_,O,?_⟩,O⟩⟩))
   first | exact(fun h=>absurd h As) | exact(fun h=>absurd h Aq) | exact(fun _=>⟨hf.1,hf.2.1,hf.2.2,hv1,hv2,Kr fun j t ht=>by have:=hC j (by have:=(List.getElem?_eq_some_iff.1 ht).1;omega) t ht;simpa using this⟩)
  (try simp only[sd] at c12);have hv2:kd=12→0≤ix∧ix<metas:=by intro h;simp[h] at c12;omega
  refine A7 (A1 (A2 BA 1 [] O (BH ?_)));refine Ia (ks.length) (fun i=>∀j,j<i→∀t,ks[j]?=some t→wf vars metas (d+below kd j) t) (fun i=>⟨107,mk [(1,.p (I d)),(2,.p (I vars)),(3,.p (I params)),(4,.p (I metas)),(5,.p (I levels)),(6,.ptr b6 0),(15,.p (I i))],[.box b6 ((Bg (.mk kd ix nm ls ks)).map .p)],[]⟩) (0) Au (fun j h=>by omega) ?_ ?_
  ·exact EP ⟨O,O,O,O,O,O,O,Aw⟩ AA
  intro i hi hC;refine A1 (A4 (A5 BA 3 [0] O (Ay O (DH Bq O) (Az BA 1 [] O (A3 O (fun c13=>?_) (fun c13=>?_))))))
  ·(try simp only[sd] at c13);have hi2:i<ks.length:=by simp[Bh] at c13;omega
   obtain⟨x,hx⟩:=BE hi2;have hbl:=DK kd i;refine A7 (A1 (BH (A1 (B7 (fun k=>Nat.beq k 15) D7 (A0 O (fun _=>Ax DV O O) Aw (BT (j:=0) O O O (fun H i hi=>BG (i:=i) E9 O hi O) AD Aw (A0 O (fun _=>BB O) Aw (A0 O (fun _=>BC Bq O O Au (Bn hx) (BL _)) Aw (A0 O (fun _=>BQ Bd O (BL _)) Aw (A0 O (fun _=>BB O) Aw (A0 O (fun _=>Ax DV O O) Aw (BT (j:=0) O O O (fun H i hi=>BG (i:=i) C0 O hi O) AD Aw (A0 O (fun _=>BB O) Aw (A0 O (fun _=>BN O O (Uj kd i) O) Aw (A0 O (fun _=>ET O O Au Au) Aw (A0 O (fun _=>BB O) Aw (A0 O (fun _=>BB O) Aw (A0 O (fun _=>BB O) Aw (A0 O (fun _=>BB O) Aw ?_)))))))))))))))))));refine J3 [] O O (CP O O (ih x (d+below kd i) vars params metas levels (by have:=Cs hx;omega) (Di hn5 hx) (by have:=DK kd i;omega) (by have:=DK kd i;simp only[Dt];omega)) (.inl O)) Ap (⟨_,1,O,fun h=>absurd h As⟩) AD ?_;rintro _ ⟨ce,rfl,hce⟩;refine⟨Aw,?_⟩;refine A0 O (fun _=>Bb O) Aw (Bv O Ap (A2 BA 2 [] O (A3 O (fun c14=>?_) (fun c14=>?_))))
   ·(try simp only[sd] at c14);refine A2 BA 2 [] O (A6 (⟨O,_,[],Bx O,List.nil_sublist _,⟨⟨_,O,?_⟩,O⟩⟩))
    first | exact(fun h=>absurd h As) | exact(fun h=>absurd h Aq) | exact(fun _=>⟨hf.1,hf.2.1,hf.2.2,hv1,hv2,Kr fun j t ht=>by have:=hC j (by have:=(List.getElem?_eq_some_iff.1 ht).1;omega) t ht;simpa using this⟩)
   (try simp only[sd] at c14);have hce0:=hce (by simpa using c14);exact A7 (A8 (Az BA 3 [] O (⟨by omega,DD hC hx hce0,EP ⟨rfl,rfl,rfl,rfl,rfl,rfl,rfl,trivial⟩ AA⟩)))
  (try simp only[sd] at c13);have hi2:i=ks.length:=by simp[Bh] at c13;omega
  refine Br (A2 BA 1 [] O (A6 (⟨O,_,[],Bx O,List.nil_sublist _,⟨⟨_,O,?_⟩,O⟩⟩)))
  first | exact(fun h=>absurd h As) | exact(fun h=>absurd h Aq) | exact(fun _=>⟨hf.1,hf.2.1,hf.2.2,hv1,hv2,Kr fun j t ht=>by have:=hC j (by have:=(List.getElem?_eq_some_iff.1 ht).1;omega) t ht;simpa using this⟩)
theorem gD:∀(a b:Cl),a.vars.length<Dt→Et Tryz.prog 80 [LV a,LV b] (.p (.bool (Ng a b))):=by
 intro a b hb;obtain⟨ac,av⟩:=a;obtain⟨bc,bv⟩:=b;simp only[Dt] at hb;refine BD Tryz.func80 O rj (n:=38) O O (A4 (BP O (Bf O) fun b2=>BP O (Bf O) fun b3=>Az BA 1 [] O (A1 (A1 (Bi [0,1,2,3,4,5] 19 (fun y=>y= .p (.bool (ac !=bc||(av.length:Int) !=bv.length))) ?_ ?_)))))
 ·refine A8 (A5 BA 6 [1,0] O (Ba 11 O (fun g1=>?_) (fun g1=>?_)))
  ·(try simp only[sd] at g1);exact Az BA 8 [] O (⟨O,O,AM,pB Ar,⟨O,O,O,O,O,O,Aw⟩⟩)
  (try simp only[sd] at g1);exact A5 BA 2 [1] O (BM O (DH Ck O) (A5 BA 2 [0] O (BM O (DH Ck O) (Az BA 2 [] O (⟨O,O,AM,pB Ar,⟨O,O,O,O,O,O,Aw⟩⟩)))))
 rintro _ rfl;refine A3 O (fun c2=>?_) (fun c2=>?_)
 ·(try simp only[sd] at c2);refine A2 BA 1 [] O (A6 ⟨O,_,[],Bx O,List.nil_sublist _,?_⟩);exact⟨pB (H5 (fun h=>by simp at h;simp[h] at *)).symm,rfl⟩
 (try simp only[sd] at c2);have h1:ac=bc∧av.length=bv.length:=by simp at c2;omega
 refine A7 (A1 (A2 BA 1 [] O (BH (Ia (av.length) (fun i=>agree av bv i) (fun i=>⟨38,mk [(2,.ptr b2 0),(3,.ptr b3 0),(5,.p (I i))],[.box b3 ((CE ⟨bc,bv⟩).map .p),.box b2 ((CE ⟨ac,av⟩).map .p)],[]⟩) (0) Au (ND _ _) ?_ ?_))))
 ·exact EP ⟨O,O,O,Aw⟩ AA
 intro i hi hC;refine A1 (A4 (A5 BA 3 [1] O (Ay O (DH Ck O) (Az BA 1 [] O (A3 O (fun c3=>?_) (fun c3=>?_))))))
 ·(try simp only[sd] at c3);have hi2:i<av.length:=by simp at c3;omega
  obtain⟨x,hx⟩:=BE hi2;obtain⟨y,hy⟩:=BE (l:=bv) (i:=i) Au;refine A7 (A1 (BH (A1 (B7 (fun k=>false) D7 (A0 O (fun _=>Ax Ea O O) Aw (BT (j:=1) O O O (fun H i hi=>BG (i:=i) Fp O hi O) AD Aw (A0 O (fun _=>BB O) Aw (A0 O (fun _=>BC Ck O O Au (Cz hx) (O)) Aw (A0 O (fun _=>BQ Ld O (O)) Aw (A0 O (fun _=>Ax Ea O O) Aw (BT (j:=0) O O O (fun H i hi=>BG (i:=i) Fp O hi O) AD Aw (A0 O (fun _=>BB O) Aw (A0 O (fun _=>BC Ck O O Au (Cz hy) (O)) Aw (A0 O (fun _=>BQ Ld O (O)) Aw (A0 O (fun _=>Zf nu O O) Aw (Bv O Ap (A3 O (fun c4=>?_) (fun c4=>?_))))))))))))))))))
  ·(try simp only[sd] at c4);refine A2 BA 1 [] O (A6 ⟨O,_,[],Bx O,List.nil_sublist _,?_⟩);exact⟨pB (H5 (fun h=>by simp at h;obtain⟨_,rfl⟩:=h;rw[hx] at hy;injection hy with hy;subst hy;simp_all)).symm,rfl⟩
  (try simp only[sd] at c4);have hxy:x=y:=by obtain⟨x1,x2⟩:=x;obtain⟨y1,y2⟩:=y;simp at c4;simp[c4]
  subst hxy;exact A7 (A8 (Az BA 3 [] O (⟨by omega,Nj hC hx hy,EP ⟨rfl,rfl,rfl,trivial⟩ AA⟩)))
 (try simp only[sd] at c3);have hi2:i=av.length:=by simp at c3;omega
 refine Br (A2 BA 1 [] O (A6 ⟨O,_,[],Bx O,List.nil_sublist _,?_⟩));exact⟨pB (GO (by rw[h1.1,PQ hC Au Au])).symm,O⟩
theorem Nw:∀(a b:List Cl),a.length<Dt→(∀l∈a,M6 l)→Et Tryz.prog 42 [ph a,ph b] (.p (.bool (Ng a b))):=by
 intro a b hb hn;simp only[Dt] at hb;refine BD Tryz.func42 O q8 (n:=27) O O (A2 BA 1 [] O (A1 (A4 (B6 O (Ay O (DH En O) (B6 O (Ay O (DH En O) (Az BA 1 [] O (A3 O (fun c1=>?_) (fun c1=>?_))))))))))
 ·(try simp only[sd] at c1);refine A2 BA 1 [] O (A6 ⟨O,_,[],Bx O,List.nil_sublist _,?_⟩);exact⟨pB (H5 (fun h=>by subst h;simp at *)).symm,rfl⟩
 (try simp only[sd] at c1);have h1:a.length=b.length:=by simp at c1;omega
 refine A7 (A1 (A2 BA 1 [] O (BH (Ia (a.length) (fun i=>agree a b i) (fun i=>⟨27,mk [(0,ph a),(1,ph b),(5,.p (I i))],[],[]⟩) (0) Au (ND _ _) ?_ ?_))))
 ·exact EP ⟨O,O,O,Aw⟩ AA
 intro i hi hC;refine A1 (A4 (A5 BA 2 [] O (Ay O (DH En O) (Az BA 1 [] O (A3 O (fun c2=>?_) (fun c2=>?_))))))
 ·(try simp only[sd] at c2);have hi2:i<a.length:=by simp at c2;omega
  obtain⟨x,hx⟩:=BE hi2;obtain⟨y,hy⟩:=BE (l:=b) (i:=i) Au;refine A7 (A1 (BH (A1 (B7 (fun k=>false) D7 (A0 O (fun _=>BB O) Aw (A0 O (fun _=>BB O) Aw (A0 O (fun _=>BC En O O Au (GC hx) (DT _)) Aw (A0 O (fun _=>BQ DY O (DT _)) Aw (A0 O (fun _=>BB O) Aw (A0 O (fun _=>BB O) Aw (A0 O (fun _=>BC En O O Au (GC hy) (DT _)) Aw (A0 O (fun _=>BQ DY O (DT _)) Aw (A0 O (fun _=>BN O O (gD x y (hn x (List.mem_of_getElem? hx)).vars) O) Aw (A0 O (fun _=>MT O) Aw (Bv O Ap (A3 O (fun c3=>?_) (fun c3=>?_)))))))))))))))))
  ·(try simp only[sd] at c3);refine A2 BA 1 [] O (A6 ⟨O,_,[],Bx O,List.nil_sublist _,?_⟩);exact⟨pB (H5 (fun h=>by subst h;rw[hx] at hy;injection hy with hy;subst hy;simp[GO] at *)).symm,rfl⟩
  (try simp only[sd] at c3);have hxy:x=y:=IT.1 (by simpa using c3);subst hxy;exact A7 (A8 (Az BA 3 [] O (⟨by omega,Nj hC hx hy,EP ⟨rfl,rfl,rfl,trivial⟩ AA⟩)))
 (try simp only[sd] at c2);have hi2:i=a.length:=by simp at c2;omega
 refine Br (A2 BA 1 [] O (A6 ⟨O,_,[],Bx O,List.nil_sublist _,?_⟩));exact⟨pB (GO (PQ hC Au Au)).symm,O⟩
theorem NP:∀(n:Nat) (a b:Tm),size a≤n→Nd a→Et Tryz.prog 15 [TV a,TV b] (.p (.bool (Ng a b))):=by
 intro n
 induction n with
 | zero=>intro a b h;cases a;simp[size] at h
 | succ n ih =>
  intro a b hs hnd;obtain⟨ak,ai,an,al,aks⟩:=a;obtain⟨bk,bi,bn,bl,bks⟩:=b;simp only[size] at hs;simp only[Nd,Dt] at hnd;obtain⟨hn1,hn2,hn3,hn4,hn5,hn6⟩:=hnd;refine BD Tryz.func15 O qN (n:=61) O O (A4 (BP O (Bf O) fun b2=>BP O (Bf O) fun b3=>Az BA 1 [] O (A1 (A1 (Bi [0,1,2,3,4,5] 41 (fun y=>y= .p (.bool (ak !=bk||ai !=bi|| !(an.toList==bn.toList)|| !(Ng al bl)||(((BO aks).length:Int) !=(BO bks).length)))) ?_ ?_)))))
  ·refine A8 (A5 BA 6 [1,0] O (Ba 11 O (fun g1=>?_) (fun g1=>?_)))
   ·(try simp only[sd] at g1);refine A5 BA 7 [] O (Ba 18 O (fun g2=>?_) (fun g2=>?_))
    ·(try simp only[sd] at g2);refine A5 BA 7 [] O (Ba 25 O (fun g3=>?_) (fun g3=>?_))
     ·(try simp only[sd] at g3);refine A5 BA 8 [] O (Ba 33 O (fun g4=>?_) (fun g4=>?_))
      ·(try simp only[sd] at g4);exact Az BA 8 [] O (⟨O,O,AM,pB Ar,⟨O,O,O,O,O,O,Aw⟩⟩)
      (try simp only[sd] at g4);exact A5 BA 2 [1] O (BM O (DH Bq O) (A5 BA 2 [0] O (BM O (DH Bq O) (Az BA 2 [] O (⟨O,O,AM,pB Ar,⟨O,O,O,O,O,O,Aw⟩⟩)))))
     (try simp only[sd] at g3);refine A5 BA 4 [1,0] O (BM O (BN O O (Nw al bl hn2 hn3) O) (A5 BA 3 [] O (Ba 33 O (fun g5=>?_) (fun g5=>?_))))
     ·(try simp only[sd] at g5);exact Az BA 8 [] O (⟨O,O,AM,pB Ar,⟨O,O,O,O,O,O,Aw⟩⟩)
     (try simp only[sd] at g5);exact A5 BA 2 [1] O (BM O (DH Bq O) (A5 BA 2 [0] O (BM O (DH Bq O) (Az BA 2 [] O (⟨O,O,AM,pB Ar,⟨O,O,O,O,O,O,Aw⟩⟩)))))
    (try simp only[sd] at g2);refine A5 BA 4 [1,0] O (BM O (JE O O) (A5 BA 2 [] O (Ba 25 O (fun g6=>?_) (fun g6=>?_))))
    ·(try simp only[sd] at g6);refine A5 BA 8 [] O (Ba 33 O (fun g7=>?_) (fun g7=>?_))
     ·(try simp only[sd] at g7);exact Az BA 8 [] O (⟨O,O,AM,pB Ar,⟨O,O,O,O,O,O,Aw⟩⟩)
     (try simp only[sd] at g7);exact A5 BA 2 [1] O (BM O (DH Bq O) (A5 BA 2 [0] O (BM O (DH Bq O) (Az BA 2 [] O (⟨O,O,AM,pB Ar,⟨O,O,O,O,O,O,Aw⟩⟩)))))
    (try simp only[sd] at g6);refine A5 BA 4 [1,0] O (BM O (BN O O (Nw al bl hn2 hn3) O) (A5 BA 3 [] O (Ba 33 O (fun g8=>?_) (fun g8=>?_))))
    ·(try simp only[sd] at g8);exact Az BA 8 [] O (⟨O,O,AM,pB Ar,⟨O,O,O,O,O,O,Aw⟩⟩)
    (try simp only[sd] at g8);exact A5 BA 2 [1] O (BM O (DH Bq O) (A5 BA 2 [0] O (BM O (DH Bq O) (Az BA 2 [] O (⟨O,O,AM,pB Ar,⟨O,O,O,O,O,O,Aw⟩⟩)))))
   (try simp only[sd] at g1);refine A5 BA 7 [1,0] O (Ba 18 O (fun g9=>?_) (fun g9=>?_))
   ·(try simp only[sd] at g9);refine A5 BA 7 [] O (Ba 25 O (fun g10=>?_) (fun g10=>?_))
    ·(try simp only[sd] at g10);refine A5 BA 8 [] O (Ba 33 O (fun g11=>?_) (fun g11=>?_))
     ·(try simp only[sd] at g11);exact Az BA 8 [] O (⟨O,O,AM,pB Ar,⟨O,O,O,O,O,O,Aw⟩⟩)
     (try simp only[sd] at g11);exact A5 BA 2 [1] O (BM O (DH Bq O) (A5 BA 2 [0] O (BM O (DH Bq O) (Az BA 2 [] O (⟨O,O,AM,pB Ar,⟨O,O,O,O,O,O,Aw⟩⟩)))))
    (try simp only[sd] at g10);refine A5 BA 4 [1,0] O (BM O (BN O O (Nw al bl hn2 hn3) O) (A5 BA 3 [] O (Ba 33 O (fun g12=>?_) (fun g12=>?_))))
    ·(try simp only[sd] at g12);exact Az BA 8 [] O (⟨O,O,AM,pB Ar,⟨O,O,O,O,O,O,Aw⟩⟩)
    (try simp only[sd] at g12);exact A5 BA 2 [1] O (BM O (DH Bq O) (A5 BA 2 [0] O (BM O (DH Bq O) (Az BA 2 [] O (⟨O,O,AM,pB Ar,⟨O,O,O,O,O,O,Aw⟩⟩)))))
   (try simp only[sd] at g9);refine A5 BA 4 [1,0] O (BM O (JE O O) (A5 BA 2 [] O (Ba 25 O (fun g13=>?_) (fun g13=>?_))))
   ·(try simp only[sd] at g13);refine A5 BA 8 [] O (Ba 33 O (fun g14=>?_) (fun g14=>?_))
    ·(try simp only[sd] at g14);exact Az BA 8 [] O (⟨O,O,AM,pB Ar,⟨O,O,O,O,O,O,Aw⟩⟩)
    (try simp only[sd] at g14);exact A5 BA 2 [1] O (BM O (DH Bq O) (A5 BA 2 [0] O (BM O (DH Bq O) (Az BA 2 [] O (⟨O,O,AM,pB Ar,⟨O,O,O,O,O,O,Aw⟩⟩)))))
   (try simp only[sd] at g13);refine A5 BA 4 [1,0] O (BM O (BN O O (Nw al bl hn2 hn3) O) (A5 BA 3 [] O (Ba 33 O (fun g15=>?_) (fun g15=>?_))))
   ·(try simp only[sd] at g15);exact Az BA 8 [] O (⟨O,O,AM,pB Ar,⟨O,O,O,O,O,O,Aw⟩⟩)
   (try simp only[sd] at g15);exact A5 BA 2 [1] O (BM O (DH Bq O) (A5 BA 2 [0] O (BM O (DH Bq O) (Az BA 2 [] O (⟨O,O,AM,pB Ar,⟨O,O,O,O,O,O,Aw⟩⟩)))))
  rintro _ rfl;refine A3 O (fun c16=>?_) (fun c16=>?_)
  ·(try simp only[sd] at c16);refine A2 BA 1 [] O (A6 ⟨O,_,[],Bx O,List.nil_sublist _,?_⟩);exact⟨pB (H5 (fun h=>by simp at h;simp[h,GO] at *)).symm,rfl⟩
  (try simp only[sd] at c16);have h1:ak=bk∧ai=bi∧an.toList=bn.toList∧al=bl∧aks.length=bks.length:=by simp[Bh,IT] at c16;obtain⟨⟨⟨⟨e1,e2⟩,e3⟩,e4⟩,e5⟩:=c16;exact⟨e1,e2,e3,e4,by omega⟩
  refine A7 (A1 (A2 BA 1 [] O (BH (Ia (aks.length) (fun i=>agree aks bks i) (fun i=>⟨61,mk [(2,.ptr b2 0),(3,.ptr b3 0),(5,.p (I i))],[.box b3 ((Bg (.mk bk bi bn bl bks)).map .p),.box b2 ((Bg (.mk ak ai an al aks)).map .p)],[]⟩) (0) Au (ND _ _) ?_ ?_))))
  ·exact EP ⟨O,O,O,Aw⟩ AA
  intro i hi hC;refine A1 (A4 (A5 BA 3 [1] O (Ay O (DH Bq O) (Az BA 1 [] O (A3 O (fun c17=>?_) (fun c17=>?_))))))
  ·(try simp only[sd] at c17);have hi2:i<aks.length:=by simp[Bh] at c17;omega
   obtain⟨x,hx⟩:=BE hi2;obtain⟨y,hy⟩:=BE (l:=bks) (i:=i) Au;refine A7 (A1 (BH (A1 (B7 (fun k=>false) D7 (A0 O (fun _=>Ax DV O O) Aw (BT (j:=1) O O O (fun H i hi=>BG (i:=i) E9 O hi O) AD Aw (A0 O (fun _=>BB O) Aw (A0 O (fun _=>BC Bq O O Au (Bn hx) (BL _)) Aw (A0 O (fun _=>BQ Bd O (BL _)) Aw (A0 O (fun _=>Ax DV O O) Aw (BT (j:=0) O O O (fun H i hi=>BG (i:=i) E9 O hi O) AD Aw (A0 O (fun _=>BB O) Aw (A0 O (fun _=>BC Bq O O Au (Bn hy) (BL _)) Aw (A0 O (fun _=>BQ Bd O (BL _)) Aw (A0 O (fun _=>BN O O (ih x y (by have:=Cs hx;omega) (Di hn5 hx)) O) Aw (A0 O (fun _=>MT O) Aw (Bv O Ap (A3 O (fun c18=>?_) (fun c18=>?_)))))))))))))))))))
   ·(try simp only[sd] at c18);refine A2 BA 1 [] O (A6 ⟨O,_,[],Bx O,List.nil_sublist _,?_⟩);exact⟨pB (H5 (fun h=>by simp at h;obtain⟨_,_,_,_,rfl⟩:=h;rw[hx] at hy;injection hy with hy;subst hy;simp[GO] at *)).symm,rfl⟩
   (try simp only[sd] at c18);have hxy:x=y:=IT.1 (by simpa using c18);subst hxy;exact A7 (A8 (Az BA 3 [] O (⟨by omega,Nj hC hx hy,EP ⟨rfl,rfl,rfl,trivial⟩ AA⟩)))
  (try simp only[sd] at c17);have hi2:i=aks.length:=by simp[Bh] at c17;omega
  refine Br (A2 BA 1 [] O (A6 ⟨O,_,[],Bx O,List.nil_sublist _,?_⟩));exact⟨pB (GO (by obtain⟨e1,e2,e3,e4,e5⟩:=h1;rw[e1,e2,e4,G3 e3,PQ hC Au Au])).symm,rfl⟩
end Go.Proofs.YtboammbpdaoojaaGreat
namespace Go.Eu
open Go.Abs
def Iy (TA:Gf→List BU) (T0:List BU) (nm:ByteArray) (l:List (ByteArray×Gf)):List BU:=match DA nm l with
 | some e=>TA e
 | none=>T0
section
variable {TA:Gf→List BU}{T0:List BU}{nm:ByteArray}{d:Cc}{i:Int}{j:Nat}
theorem XY (h:d.kind=0∨d.kind=1∨d.kind=2):Iy TA T0 nm (Fg d i)=if d.name=nm then TA ⟨d.kind,i,0,d.params,d.type⟩ else T0:=by
 unfold Iy Fg;rw[if_pos h];simp only[DA];by_cases e:d.name=nm<;>simp[e]
theorem aW (h:d.kind=3) (hn:d.name=nm):Iy TA T0 nm (Fg d i)=TA ⟨3,i,0,d.params,d.type⟩:=by
 unfold Iy Fg;rw[if_neg Au,if_pos h];simp only[DA,if_pos hn]
theorem Xa (h:d.kind=3) (hn:¬d.name=nm) {c:Im}(hx:d.ctors[j]?=some c) (he:c.name=nm) (hb:∀q,q<j→∀y,d.ctors[q]?=some y→y.name≠nm):Iy TA T0 nm (Fg d i)=TA ⟨4,i,j,d.params,c.type⟩:=by
 unfold Iy Fg;rw[if_neg Au,if_pos h];simp only[DA,if_neg hn,K9,PZ hx he hb,Int.zero_add]
theorem bC (h:d.kind=3) (hn:¬d.name=nm) (hb:∀q:Nat,q<d.ctors.length→∀y,d.ctors[q]?=some y→y.name≠nm):Iy TA T0 nm (Fg d i)=if UF d.name=nm then TA ⟨5,i,0,d.recs.params,d.recs.type⟩ else T0:=by
 unfold Iy Fg;rw[if_neg Au,if_pos h];simp only[DA,if_neg hn,K9,NU hb];by_cases e:UF d.name=nm<;>simp[e]
theorem Zq (h:d.kind=4) {c:Hj}(hx:d.funs[j]?=some c) (he:c.name=nm) (hb:∀q,q<j→∀y,d.funs[q]?=some y→y.name≠nm):Iy TA T0 nm (Fg d i)=TA ⟨6,i,j,d.params,c.type⟩:=by
 unfold Iy Fg;rw[if_neg Au,if_neg Au,if_pos h];simp only[Rw hx he hb,Int.zero_add]
theorem Xi (h:d.kind=4) (hb:∀q:Nat,q<d.funs.length→∀y,d.funs[q]?=some y→y.name≠nm):Iy TA T0 nm (Fg d i)=T0:=by
 unfold Iy Fg;rw[if_neg Au,if_neg Au,if_pos h];simp only[Pg hb]
theorem XX (h:¬(d.kind=0∨d.kind=1∨d.kind=2)) (h3:¬d.kind=3) (h4:¬d.kind=4):Iy TA T0 nm (Fg d i)=T0:=by
 unfold Iy Fg;rw[if_neg h,if_neg h3,if_neg h4];rfl
theorem cc (h:d.kind=0∨d.kind=1∨d.kind=2):(d.name,(⟨d.kind,i,0,d.params,d.type⟩:Gf))∈Fg d i:=by
 unfold Fg;rw[if_pos h];simp
theorem gM (h:d.kind=3):(d.name,(⟨3,i,0,d.params,d.type⟩:Gf))∈Fg d i:=by
 unfold Fg;rw[if_neg Au,if_pos h];simp
theorem bV (h:d.kind=3) {c:Im}(hx:d.ctors[j]?=some c):(c.name,(⟨4,i,j,d.params,c.type⟩:Gf))∈Fg d i:=by
 unfold Fg;rw[if_neg Au,if_pos h];have:=Sy (i:=i) (p:=d.params) (k:=0) hx;rw[Int.zero_add] at this;simp[this]
theorem jA (h:d.kind=3):(UF d.name,(⟨5,i,0,d.recs.params,d.recs.type⟩:Gf))∈Fg d i:=by
 unfold Fg;rw[if_neg Au,if_pos h];simp
theorem gw (h:d.kind=4) {c:Hj}(hx:d.funs[j]?=some c):(c.name,(⟨6,i,j,d.params,c.type⟩:Gf))∈Fg d i:=by
 unfold Fg;rw[if_neg Au,if_neg Au,if_pos h];have:=V6 (i:=i) (p:=d.params) (k:=0) hx
 rwa [Int.zero_add] at this
end
theorem V0 {nm:ByteArray}{e:Gf}:∀{ds:List Cc}{i:Nat}{k:Int}{d:Cc},ds[i]?=some d→(∀j,j<i→∀y,ds[j]?=some y→DA nm (Fg y (k+j))=none)→DA nm (Fg d (k+i))=some e→findF nm ds k=some e
 | [],i,k,d,h,_,_=>by simp at h
 | a::ds,0,k,d,h,_,hn=>by
  simp at h;subst h;rw[findF];rw[show k+((0:Nat):Int)=k by omega] at hn;rw[hn]
 | a::ds,i+1,k,d,h,hb,hn=>by
  have h0:=hb 0 Au a rfl;rw[show k+((0:Nat):Int)=k by omega] at h0;rw[findF,h0];exact V0 (by simpa using h) (fun j hj y hy=>by have:=hb (j+1) Au y (by simpa using hy);rwa [show k+((j+1:Nat):Int)=k+1+j by omega] at this) (by rwa [show k+((i+1:Nat):Int)=k+1+i by omega] at hn)
theorem VL {nm:ByteArray}:∀{ds:List Cc}{k:Int},(∀j,j<ds.length→∀y,ds[j]?=some y→DA nm (Fg y (k+j))=none)→findF nm ds k=none
 | [],k,_=>rfl
 | a::ds,k,hb=>by
  have h0:=hb 0 Av a rfl;rw[show k+((0:Nat):Int)=k by omega] at h0;rw[findF,h0];exact VL fun j hj y hy=>by have:=hb (j+1) (by simpa using hj) y (by simpa using hy);rwa [show k+((j+1:Nat):Int)=k+1+j by omega] at this
theorem cU {nm:ByteArray}{e:Gf}{ds:List Cc}{i:Nat}{d:Cc}(hx:ds[i]?=some d) (hb:∀j,j<i→∀y,ds[j]?=some y→DA nm (Fg y j)=none) (he:DA nm (Fg d i)=some e):B3 ds nm=(e,0):=by
 rw[B3,V0 hx (fun j hj y hy=>by rw[Int.zero_add];exact hb j hj y hy) (by rwa [Int.zero_add])]
theorem dv {nm:ByteArray}{ds:List Cc}(hb:∀j,j<ds.length→∀y,ds[j]?=some y→DA nm (Fg y j)=none):B3 ds nm=(da,9):=by
 rw[B3,VL fun j hj y hy=>by rw[Int.zero_add];exact hb j hj y hy]
def pz (ds:List Cc):Prop:=∀d∈ds,d.kind=0∨Nn d
end Go.Eu
namespace Go.Proofs.YtboammbpdaoojaaGreat
open Go.Abs Go.Eu
theorem _root_.Go.AU {α:Prop}(h:α:=by first | omega | (simp only;omega)):α:=h
theorem Ue:∀(l:List ByteArray) (s:ByteArray),(l.length<9000000)→Et Tryz.prog 56 [.p (.lst (List.map Gt l)),.p (.str s)] (.p (.bool (HX l s))):=by
 intro l s h1;refine BD Tryz.func56 O r6 (n:=18) O O (A2 BA 1 [] O (A1 (A2 BA 1 [] O (BH ?_))));refine Bo (α:=Nat) (fun i=>⟨18,mk [(0,.p (.lst (List.map Gt l))),(1,.p (.str s)),(5,.p (I (i:Int)))],[],[]⟩) (fun i=>l.length - i) (fun i=>i≤l.length∧(∀j,j<i→∀y,l[j]?=some y→y≠s)) 0 (⟨by omega,fun j h=>by omega⟩) ?_ ?_
 ·exact Bk ⟨we O,we O,we O,Aw⟩ (leH (is:=[]) O (DN))
 rintro i hC
 try simp only at hC
 obtain⟨hi,hC⟩:=hC;refine A1 (A4 (A5 BA 2 [] O (Ay O (BZ HA O (List.length_map _)) (Az BA 1 [] O (A3 O (fun c=>?_) (fun c=>?_))))))
 ·(try simp only[sd,se] at c);refine A7 (A1 (BH (A4 (A5 BA 2 [] O ?_))));obtain⟨x,hx⟩:=BE (l:=l) (i:=i) Au;refine Ay O (BC HA O O Au (Ny hx) (O)) (A5 BA 2 [] O (Ay O (GF O O) (Bt O (A3 O (fun c1=>?_) (fun c1=>?_)))))
  ·(try simp only[sd,se] at c1);refine A2 BA 1 [] O (A6 (⟨O,_,_,⟨_,_,O,O,O⟩,(List.nil_sublist _),?_⟩))
   all_goals exact⟨by show (.p (.bool true):AV)=_;rw[bU hx (G3 (by simpa using c1))],rfl⟩
  (try simp only[sd,se] at c1);refine A7 (A8 (Az BA 3 [] O ?_));refine⟨(i+1),AU,⟨by omega,DD (p:=fun _ (y:ByteArray)=>y≠s) hC hx (fun e=>by subst e;simp at c1)⟩,Bk ⟨we rfl,we rfl,we rfl,trivial⟩ (leH (is:=[]) rfl (DN))⟩
 (try simp only[sd,se] at c);refine Br (A2 BA 1 [] O (A6 (⟨O,_,_,⟨_,_,O,O,O⟩,(List.nil_sublist _),?_⟩)))
 all_goals exact⟨by show (.p (.bool false):AV)=_;rw[Zm fun j hj=>hC j Au],rfl⟩
theorem _root_.Go.AF {α:Prop}(h:α:=by simp only[List.length_map,List.length_append,List.length_cons,List.length_nil,List.length_take];omega):α:=h
theorem _root_.Go.AQ {α:Prop}(h:α:=by first | trivial | omega | simp | (simp;omega)):α:=h
theorem Mp:∀(d:Cc),(d.ctors.length<2000000)→(d.funs.length<2000000)→(d.name.size<2000000)→Et Tryz.prog 57 [.agg ((Bw d).map .p)] (.p (.lst (List.map Gt (DL d)))):=by
 intro d h1 h2 h3;refine BD Tryz.func57 O qb (n:=62) O O (A4 (BP O (Bf O) fun b1=>Az BA 1 [] O (A1 (A4 (Ay O (Ax Cv O O) (Ay O (A9 (i:=0) C0 O O (EK _)) (Bt O (BH (A1 (A2 BA 2 [] O (Bi [1,8] 9 (fun y=>y= .p (.bool (decide (d.kind=0∨d.kind=1∨d.kind=2)))) ?_ ?_)))))))))))
 ·refine A3 O (fun c=>?_) (fun c=>?_)
  ·(try simp only[sd,se] at c);exact A7 (⟨O,O,(List.Sublist.refl _),(by refine pB (Bool.eq_iff_iff.2 ?_);simp only[beq_iff_eq,decide_eq_true_eq];omega),⟨O,O,Aw⟩⟩)
  (try simp only[sd,se] at c);refine A2 BA 2 [] O (A3 O (fun c1=>?_) (fun c1=>?_))
  ·(try simp only[sd,se] at c1);exact A7 (⟨O,O,(List.Sublist.refl _),(by refine pB (Bool.eq_iff_iff.2 ?_);simp only[beq_iff_eq,decide_eq_true_eq];omega),⟨O,O,Aw⟩⟩)
  (try simp only[sd,se] at c1);exact A8 (Az BA 2 [] O (⟨O,O,(List.Sublist.refl _),(by refine pB (Bool.eq_iff_iff.2 ?_);simp only[beq_iff_eq,decide_eq_true_eq];omega),⟨O,O,Aw⟩⟩))
 rintro _ rfl;refine A3 O (fun c=>?_) (fun c=>?_)
 ·(try simp only[sd,se] at c);refine A4 (Ay O (Ax Cv O O) (Ay O (A9 (i:=0) Lm O O (Db _)) (Ay O (B0 HA gy O O O O O) (Az BA 1 [] O (A6 (⟨O,_,_,⟨_,_,O,O,O⟩,(List.nil_sublist _),?_⟩))))))
  all_goals exact⟨by show (.p (.lst (List.map Gt [d.name])):AV)=_;rw[DL,if_pos (by simpa using c)],rfl⟩
 (try simp only[sd,se] at c);refine A2 BA 2 [] O (A3 O (fun c1=>?_) (fun c1=>?_))
 ·(try simp only[sd,se] at c1);refine A4 (Ay O (Ax Cv O O) (Ay O (A9 (i:=0) Lm O O (Db _)) (SI O O (QC (rows:=List.map Gt [d.name]) HA gy O O O O O) fun b20 cp=>Az BA 1 [] O (A1 (A2 BA 1 [] O (BH (Bo (α:=Nat×Option Nat×Nat) (fun(i,o,cp1)=>⟨62,mk [(1,.ptr b1 0),(3,.vs o (List.map Gt (d.name::(d.ctors.take i).map Im.name)).length cp1),(4,.p (I (i:Int)))],[.vec o 1 (List.map Gt (d.name::(d.ctors.take i).map Im.name)) cp1,.box b1 ((Bw d).map .p)],[]⟩) (fun(i,o,cp1)=>d.ctors.length - i) (fun(i,o,cp1)=>i≤d.ctors.length) ⟨0,(some b20),cp⟩ AQ ?_ ?_)))))))
  ·exact Bk ⟨we O,we O,we O,Aw⟩ (leH (is:=[0,1]) O (wl (oe O) (wl (oe O) (DN))))
  rintro⟨i,o,cp1⟩ hC
  try simp only at hC
  have hi:=hC;refine A1 (A4 (A5 BA 2 [] O (Ay O (A9 (i:=1) Hk O O (CN _)) (Ay O (BZ HY O (List.length_map _)) (Az BA 1 [] O (A3 O (fun c2=>?_) (fun c2=>?_)))))))
  ·(try simp only[sd,se] at c2);refine A7 (A1 (BH (A8 (A5 BA 2 [] O (Ay O (A9 (i:=1) Hk O O (CN _)) (B6 O ?_))))));obtain⟨x,hx⟩:=BE (l:=d.ctors) (i:=i) Au;refine Ay O (BC HY O O Au (Ek hx) (EN _)) (Ay O (Bp I0 O O) (Ay O (DP Lm O (Fx _)) (Ay O (B0 HA gy O O O O O) (FV O O (Cb (i:=0) (rows':=List.map Gt [x.name]) HA HA gy O O O O O O (KX _) AF (GW (f:=Gt) (d.name::(d.ctors.take i).map Im.name) [x.name])) fun o1 cp2=>Az BA 1 [] O (A8 (Az BA 3 [] O ?_))))));refine⟨⟨i+1,o1,cp2⟩,AU,by omega,Bk ⟨we rfl,we (Gg (f:=Gt) ((d.name::(d.ctors.take i).map Im.name)++[x.name]) (by simp[List.take_add_one,hx])),we rfl,trivial⟩ (leH (is:=[0,1]) rfl (wl (F5 (f:=Gt) ((d.name::(d.ctors.take i).map Im.name)++[x.name]) (by simp[List.take_add_one,hx])) (wl (oe rfl) (DN))))⟩
  (try simp only[sd,se] at c2);refine Br (A4 (A5 BA 2 [] O (Ay O (A9 (i:=1) Lm O O (Db _)) (Ay O (Rk O O (by have:(⟨#[46,114,101,99]⟩:ByteArray).size=4:=rfl;omega)) (Ay O (B0 HA gy O O O O O) (FV O O (Cb (i:=0) (rows':=List.map Gt ([(d.name++⟨#[46,114,101,99]⟩)])) HA HA gy O O O O O O (KX _) AF (GW (f:=Gt) (d.name::(d.ctors.take i).map Im.name) ([(d.name++⟨#[46,114,101,99]⟩)]))) fun o1 cp2=>Az BA 1 [] O (BS (Cx (i:=0) [42,2] O (EH ⟨O,O,Aw⟩)) (A6 (⟨O,_,_,⟨_,_,O,O,O⟩,(List.nil_sublist _),?_⟩)))))))))
  all_goals exact⟨by show (.p (.lst (List.map Gt ((d.name::(d.ctors.take i).map Im.name)++([(d.name++⟨#[46,114,101,99]⟩)])))):AV)=_;rw[DL,if_neg (by simpa using c),if_pos (by simpa using c1),List.take_of_length_le Au];rfl,rfl⟩
 (try simp only[sd,se] at c1);refine A2 BA 2 [] O (A3 O (fun c2=>?_) (fun c2=>?_))
 ·(try simp only[sd,se] at c2);refine A2 BA 1 [] O (A1 (A2 BA 1 [] O (BH (BS (EY (t:=5) (sz:=1) O) (Bo (α:=Nat×Option Nat×Nat) (fun(i,o,cp)=>⟨62,mk [(1,.ptr b1 0),(5,.vs o (List.map Gt ((d.funs.take i).map Hj.name)).length cp),(6,.p (I (i:Int)))],[.vec o 1 (List.map Gt ((d.funs.take i).map Hj.name)) cp,.box b1 ((Bw d).map .p)],[]⟩) (fun(i,o,cp)=>d.funs.length - i) (fun(i,o,cp)=>i≤d.funs.length) ⟨0,none,0⟩ AQ ?_ ?_)))))
  ·exact Bk ⟨we O,we O,we O,Aw⟩ (leH (is:=[0,1]) O (wl (oe O) (wl (oe O) (DN))))
  rintro⟨i,o,cp⟩ hC
  try simp only at hC
  have hi:=hC;refine A1 (A4 (A5 BA 2 [] O (Ay O (A9 (i:=1) Hn O O (CV _)) (Ay O (BZ HW O (List.length_map _)) (Az BA 1 [] O (A3 O (fun c3=>?_) (fun c3=>?_)))))))
  ·(try simp only[sd,se] at c3);refine A7 (A1 (BH (A8 (A5 BA 2 [] O (Ay O (A9 (i:=1) Hn O O (CV _)) (B6 O ?_))))));obtain⟨x,hx⟩:=BE (l:=d.funs) (i:=i) Au;refine Ay O (BC HW O O Au (Es hx) (Dd _)) (Ay O (Bp Gu O O) (Ay O (DP Lm O (I9 _)) (Ay O (B0 HA gy O O O O O) (FV O O (Cb (i:=0) (rows':=List.map Gt [x.name]) HA HA gy O O O O O O (KX _) AF (GW (f:=Gt) ((d.funs.take i).map Hj.name) [x.name])) fun o1 cp1=>Az BA 1 [] O (A8 (Az BA 3 [] O ?_))))));refine⟨⟨i+1,o1,cp1⟩,AU,by omega,Bk ⟨we rfl,we (Gg (f:=Gt) (((d.funs.take i).map Hj.name)++[x.name]) (by simp[List.take_add_one,hx])),we rfl,trivial⟩ (leH (is:=[0,1]) rfl (wl (F5 (f:=Gt) (((d.funs.take i).map Hj.name)++[x.name]) (by simp[List.take_add_one,hx])) (wl (oe rfl) (DN))))⟩
  (try simp only[sd,se] at c3);refine Br (A2 BA 2 [] O (BS (Cx (i:=0) [5,61,2] O (EH ⟨O,O,O,Aw⟩)) (A6 (⟨O,_,_,⟨_,_,O,O,O⟩,(List.nil_sublist _),?_⟩))))
  all_goals exact⟨by show (.p (.lst (List.map Gt ((d.funs.take i).map Hj.name))):AV)=_;rw[DL,if_neg (by simpa using c),if_neg (by simpa using c1),if_pos (by simpa using c2),List.take_of_length_le Au],rfl⟩
 (try simp only[sd,se] at c2);refine A7 (A2 BA 1 [] O (BS (ER 2) (A6 (⟨O,_,_,⟨_,_,O,O,O⟩,(List.nil_sublist _),?_⟩))))
 all_goals exact⟨by show (.p (.lst (List.map Gt [])):AV)=_;rw[DL,if_neg (by simpa using c),if_neg (by simpa using c1),if_neg (by simpa using c2)],rfl⟩
theorem _root_.Go.AY {α:Prop}(h:α:=by first | rfl | simp[Ru]):α:=h
theorem _root_.Go.AB {α:Prop}(h:α:=by repeat' first | exact trivial | refine And.intro ?_ ?_ | ((refine Or.inr (And.intro ?_ ?_)<;>repeat (first | exact List.Mem.head _ | apply List.Mem.tail));done) | exact Or.inl (by kernel_rfl)):α:=h
theorem _root_.Go.Ak {α:Prop}(h:α:=by simp[Ru]):α:=h
set_option maxHeartbeats 2000000 in
theorem Tq:∀(d:Cc) (ix:Int) (nm:ByteArray),(d.ctors.length<2000000)→(d.funs.length<2000000)→Et Tryz.prog 58 [.agg ((Bw d).map .p),.p (I ix),.p (.str nm)] (.agg ((Dp (Fy d ix nm)).map .p)):=by
 intro d ix nm h1 h2;refine BD Tryz.func58 O qy (n:=96) O O (A4 (BP O (Bf O) fun b3=>BP O (BF IA O) fun b6=>Bt O (A4 (A5 BA 2 [] O (Ay O (A9 (i:=1) C0 O O (C6 _)) (Ay O (Ax Cv O O) (Ay O (CC (i:=1) Bd O O (FO _) (BL _)) (Ay O (CB FG IA (fc O O O)) (BP O (BF IA O) fun b7=>Az BA 1 [0,1] O (A1 (A4 (Ay O (Ax Cv O O) (Ay O (A9 (i:=2) C0 O O (EK _)) (Bt O (BH (A2 BA 2 [] O (A3 O (fun c=>?_) (fun c=>?_))))))))))))))))))
 ·(try simp only[sd,se] at c);refine A8 (Ay O (Ax FG O O) (Ay O (EG (i:=0) (ds:=(Dp (Gf.mk 0 ix 0 d.params d.type)).map .p) C0 O O O O O O O) (Bt O (A2 BA 2 [0,1,1] O (A6 (⟨O,_,_,⟨_,_,O,(BJ (i:=1) IL O O Ak),O⟩,(List.nil_sublist _),?_⟩))))))
  all_goals exact⟨by show (.agg ((Dp (Gf.mk 0 ix 0 d.params d.type)).map .p):AV)=_;rw[NG (.inl (by simpa using c)) (k:=0) (by simpa using c)],rfl⟩
 (try simp only[sd,se] at c);refine A2 BA 2 [] O (A3 O (fun c1=>?_) (fun c1=>?_))
 ·(try simp only[sd,se] at c1);refine A8 (Ay O (Ax FG O O) (Ay O (EG (i:=0) (ds:=(Dp (Gf.mk 1 ix 0 d.params d.type)).map .p) C0 O O O O O O O) (Bt O (A2 BA 2 [0,1,1] O (A6 (⟨O,_,_,⟨_,_,O,(BJ (i:=1) IL O O Ak),O⟩,(List.nil_sublist _),?_⟩))))))
  all_goals exact⟨by show (.agg ((Dp (Gf.mk 1 ix 0 d.params d.type)).map .p):AV)=_;rw[NG (.inr (.inl (by simpa using c1))) (k:=1) (by simpa using c1)],rfl⟩
 (try simp only[sd,se] at c1);refine A2 BA 2 [] O (A3 O (fun c2=>?_) (fun c2=>?_))
 ·(try simp only[sd,se] at c2);refine A8 (Ay O (Ax FG O O) (Ay O (EG (i:=0) (ds:=(Dp (Gf.mk 2 ix 0 d.params d.type)).map .p) C0 O O O O O O O) (Bt O (A2 BA 2 [0,1,1] O (A6 (⟨O,_,_,⟨_,_,O,(BJ (i:=1) IL O O Ak),O⟩,(List.nil_sublist _),?_⟩))))))
  all_goals exact⟨by show (.agg ((Dp (Gf.mk 2 ix 0 d.params d.type)).map .p):AV)=_;rw[NG (.inr (.inr (by simpa using c2))) (k:=2) (by simpa using c2)],rfl⟩
 (try simp only[sd,se] at c2);refine A2 BA 2 [] O (A3 O (fun c3=>?_) (fun c3=>?_))
 ·(try simp only[sd,se] at c3);refine A4 (Ay O (Ax FG O O) (Ay O (EG (i:=0) (ds:=(Dp (Gf.mk 3 ix 0 d.params d.type)).map .p) C0 O O O O O O O) (Bt O (A1 (A4 (A5 BA 2 [] O (Ay O (A9 (i:=2) Lm O O (Db _)) (Ay O (GF O O) (Bt O (A3 O (fun c4=>?_) (fun c4=>?_)))))))))))
  ·(try simp only[sd,se] at c4);refine A2 BA 2 [0,1,1] O (A6 (⟨O,_,_,⟨_,_,O,(BJ (i:=1) IL O O Ak),O⟩,(List.nil_sublist _),?_⟩))
   all_goals exact⟨by show (.agg ((Dp (Gf.mk 3 ix 0 d.params d.type)).map .p):AV)=_;rw[ZW (by simpa using c3) (G3 (by simpa using c4))],rfl⟩
  (try simp only[sd,se] at c4);refine A7 (A1 (A2 BA 1 [] O (BH ?_)));refine Bo (α:=Nat) (fun i=>⟨96,mk [(1,.p (I ix)),(2,.p (.str nm)),(3,.ptr b3 0),(6,.ptr b6 0),(8,.p (I (i:Int)))],[.box b6 [.p (I 0),.p (I 0),.p (I 0),.p (I 0),.p (I 0),.p (I 0),.p (.str ⟨#[]⟩),.p (.nils),.p (.nils)],.box b3 ((Bw d).map .p)],[]⟩) (fun i=>d.ctors.length - i) (fun i=>i≤d.ctors.length∧(∀j,j<i→∀y,d.ctors[j]?=some y→y.name≠nm)) 0 (⟨by omega,fun j h=>by omega⟩) ?_ ?_
  ·exact Bk ⟨we O,we O,we O,we O,we O,Aw⟩ (leH (is:=[1,2]) O (wl (oe O) (wl (oe O) (DN))))
  rintro i hC
  try simp only at hC
  obtain⟨hi,hC⟩:=hC;refine A1 (A4 (A5 BA 2 [] O (Ay O (A9 (i:=1) Hk O O (CN _)) (Ay O (BZ HY O (List.length_map _)) (Az BA 1 [] O (A3 O (fun c5=>?_) (fun c5=>?_)))))))
  ·(try simp only[sd,se] at c5);refine A7 (A1 (BH (A4 (Ay O (Ax Cv O O) (Ay O (A9 (i:=1) Hk O O (CN _)) (B6 O ?_))))));obtain⟨x,hx⟩:=BE (l:=d.ctors) (i:=i) Au;refine Ay O (BC HY O O Au (Ek hx) (EN _)) (Ay O (Bp I0 O O) (Ay O (DP Lm O (Fx _)) (B6 O (Ay O (GF O O) (Bt O (A3 O (fun c6=>?_) (fun c6=>?_)))))))
   ·(try simp only[sd,se] at c6);refine A1 (B7 (fun k=>false) D7 (A0 O (fun _=>BB O) Aw (A0 O (fun _=>BB O) Aw (A0 O (fun _=>Ax Cv O O) Aw (BT (j:=1) O O O (fun H i hi=>A9 (i:=i) C0 O hi (C6 _)) AB Aw (A0 O (fun _=>Ax Cv O O) Aw (BT (j:=1) O O O (fun H i hi=>A9 (i:=i) Hk O hi (CN _)) AB Aw (A0 O (fun _=>BB O) Aw (A0 O (fun _=>BC HY O O Au (Ek hx) (EN _)) Aw (A0 O (fun _=>Bp I0 O O) Aw (A0 O (fun _=>DX Bd O (FJ _) (BL _)) Aw (A0 O (fun _=>CB FG IA (Om O O O O O)) Aw (CF O O (Bc (i:=0) IL O O O Ak AY (Jx _)) AB Aw (Bv O Ap (A6 (⟨O,_,_,⟨_,_,O,(BJ (i:=0) IL O O Ak),O⟩,(List.nil_sublist _),?_⟩))))))))))))))))
    all_goals exact⟨by show (.agg ((Dp (Gf.mk 4 ix (i:Int) d.params x.type)).map .p):AV)=_;rw[W5 (j:=i) (by simpa using c3) (fun h=>by subst h;simp at c4) hx (G3 (by simpa using c6)) hC],rfl⟩
   (try simp only[sd,se] at c6);refine A7 (A8 (Az BA 3 [] O ?_));refine⟨(i+1),AU,⟨by omega,DD (p:=fun _ (y:Im)=>y.name≠nm) hC hx (fun e=>by subst e;simp at c6)⟩,Bk ⟨we rfl,we rfl,we rfl,we rfl,we rfl,trivial⟩ (leH (is:=[0,1]) rfl (wl (oe rfl) (wl (oe rfl) (DN))))⟩
  (try simp only[sd,se] at c5);refine Br (A4 (A5 BA 3 [] O (Ay O (A9 (i:=1) C0 O O (Dv _)) (A5 BA 2 [] O (Ay O (CC (i:=1) Bd O O (FM _) (BL _)) (Ay O (CB FG IA (Yw O O O O)) (Az BA 1 [0,1] O (A6 (⟨O,_,_,⟨_,_,O,(BJ (i:=0) IL O O Ak),O⟩,(List.nil_sublist _),?_⟩)))))))))
  all_goals exact⟨by show (.agg ((Dp (Gf.mk 5 ix 0 d.recs.params d.recs.type)).map .p):AV)=_;rw[aq (by simpa using c3) (fun h=>by subst h;simp at c4) fun j hj=>hC j Au],rfl⟩
 (try simp only[sd,se] at c3);refine A2 BA 1 [] O (BH ?_);refine Bo (α:=Nat) (fun i=>⟨96,mk [(1,.p (I ix)),(2,.p (.str nm)),(3,.ptr b3 0),(6,.ptr b6 0),(7,.ptr b7 0),(9,.p (I (i:Int)))],[.box b7 ((Dp (Gf.mk 0 ix 0 d.params d.type)).map .p),.box b6 [.p (I 0),.p (I 0),.p (I 0),.p (I 0),.p (I 0),.p (I 0),.p (.str ⟨#[]⟩),.p (.nils),.p (.nils)],.box b3 ((Bw d).map .p)],[]⟩) (fun i=>d.funs.length - i) (fun i=>i≤d.funs.length∧(∀j,j<i→∀y,d.funs[j]?=some y→y.name≠nm)) 0 (⟨by omega,fun j h=>by omega⟩) ?_ ?_
 ·exact Bk ⟨we O,we O,we O,we O,we O,we O,Aw⟩ (leH (is:=[0,1,2]) O (wl (oe O) (wl (oe O) (wl (oe O) (DN)))))
 rintro i hC
 try simp only at hC
 obtain⟨hi,hC⟩:=hC;refine A1 (A4 (A5 BA 2 [] O (Ay O (A9 (i:=2) Hn O O (CV _)) (Ay O (BZ HW O (List.length_map _)) (Az BA 1 [] O (A3 O (fun c4=>?_) (fun c4=>?_)))))))
 ·(try simp only[sd,se] at c4);refine A7 (A1 (BH (A4 (Ay O (Ax Cv O O) (Ay O (A9 (i:=2) Hn O O (CV _)) (B6 O ?_))))));obtain⟨x,hx⟩:=BE (l:=d.funs) (i:=i) Au;refine Ay O (BC HW O O Au (Es hx) (Dd _)) (Ay O (Bp Gu O O) (Ay O (DP Lm O (I9 _)) (B6 O (Ay O (GF O O) (Bt O (A3 O (fun c5=>?_) (fun c5=>?_)))))))
  ·(try simp only[sd,se] at c5);refine A1 (B7 (fun k=>false) D7 (A0 O (fun _=>BB O) Aw (A0 O (fun _=>BB O) Aw (A0 O (fun _=>Ax Cv O O) Aw (BT (j:=2) O O O (fun H i hi=>A9 (i:=i) C0 O hi (C6 _)) AB Aw (A0 O (fun _=>Ax Cv O O) Aw (BT (j:=2) O O O (fun H i hi=>A9 (i:=i) Hn O hi (CV _)) AB Aw (A0 O (fun _=>BB O) Aw (A0 O (fun _=>BC HW O O Au (Es hx) (Dd _)) Aw (A0 O (fun _=>Bp Gu O O) Aw (A0 O (fun _=>DX Bd O (I4 _) (BL _)) Aw (A0 O (fun _=>CB FG IA (Om O O O O O)) Aw (CF O O (Bc (i:=1) IL O O O Ak AY (Jx _)) AB Aw (Bv O Ap (A6 (⟨O,_,_,⟨_,_,O,(BJ (i:=1) IL O O Ak),O⟩,(List.nil_sublist _),?_⟩))))))))))))))))
   all_goals exact⟨by show (.agg ((Dp (Gf.mk 6 ix (i:Int) d.params x.type)).map .p):AV)=_;rw[Zn (j:=i) (not_or.2 ⟨(by simpa using c),not_or.2 ⟨(by simpa using c1),(by simpa using c2)⟩⟩) (by simpa using c3) hx (G3 (by simpa using c5)) hC],rfl⟩
  (try simp only[sd,se] at c5);refine A7 (A8 (Az BA 3 [] O ?_));refine⟨(i+1),AU,⟨by omega,DD (p:=fun _ (y:Hj)=>y.name≠nm) hC hx (fun e=>by subst e;simp at c5)⟩,Bk ⟨we rfl,we rfl,we rfl,we rfl,we rfl,we rfl,trivial⟩ (leH (is:=[0,1,2]) rfl (wl (oe rfl) (wl (oe rfl) (wl (oe rfl) (DN)))))⟩
 (try simp only[sd,se] at c4);refine Br (A2 BA 2 [0,1,1] O (A6 (⟨O,_,_,⟨_,_,O,(BJ (i:=1) IL O O Ak),O⟩,(List.nil_sublist _),?_⟩)))
 all_goals exact⟨by show (.agg ((Dp (Gf.mk 0 ix 0 d.params d.type)).map .p):AV)=_;rw[Zk (not_or.2 ⟨(by simpa using c),not_or.2 ⟨(by simpa using c1),(by simpa using c2)⟩⟩) (by simpa using c3) fun j hj=>hC j Au],rfl⟩
theorem Lx:∀(ds:List Cc) (nm:ByteArray),(Hd ds)→Et Tryz.prog 22 [.p (.lst (List.map Bw ds)),.p (.str nm)] (.tup [.agg ((Dp ((B3 ds nm).1)).map .p),.p (I ((B3 ds nm).2))]):=by
 intro ds nm h1;have hl:=h1.len;refine BD Tryz.func22 O qx (n:=28) O O (A4 (BP O (BF IA O) fun b4=>Az BA 1 [] O (A1 (A2 BA 1 [] O (BH ?_)))));refine Bo (α:=Nat) (fun i=>⟨28,mk [(0,.p (.lst (List.map Bw ds))),(1,.p (.str nm)),(4,.ptr b4 0),(6,.p (I (i:Int)))],[.box b4 [.p (I 0),.p (I 0),.p (I 0),.p (I 0),.p (I 0),.p (I 0),.p (.str ⟨#[]⟩),.p (.nils),.p (.nils)]],[]⟩) (fun i=>ds.length - i) (fun i=>i≤ds.length∧(∀j,j<i→∀y,ds[j]?=some y→HX (DL y) nm=false)) 0 (⟨by omega,fun j h=>by omega⟩) ?_ ?_
 ·exact Bk ⟨we O,we O,we O,we O,Aw⟩ (leH (is:=[0]) O (wl (oe O) (DN)))
 rintro i hC
 try simp only at hC
 obtain⟨hi,hC⟩:=hC;refine A1 (A4 (A5 BA 2 [] O (Ay O (BZ Hv O (List.length_map _)) (Az BA 1 [] O (A3 O (fun c=>?_) (fun c=>?_))))))
 ·(try simp only[sd,se] at c);refine A7 (A1 (BH (A4 (A5 BA 2 [] O ?_))));obtain⟨x,hx⟩:=BE (l:=ds) (i:=i) Au;have hD:=h1.all _ (List.mem_of_getElem? hx);have hcl:=hD.cl;have hfl:=hD.fl;refine Ay O (BC Hv O O Au (EX hx) (Cw _)) (Ay O (BQ EJ O (Cw _)) (Ay O (BN O O (Mp x hD.cl hD.fl hD.nm) O) (B6 O (Ay O (BN O O (Ue (DL x) nm (by have:=NV x;omega)) O) (Bt O (A3 O (fun c1=>?_) (fun c1=>?_)))))))
  ·(try simp only[sd,se] at c1);refine A4 (A5 BA 2 [] O (Ay O (BC Hv O O Au (EX hx) (Cw _)) (A5 BA 3 [] O (Ay O (BN O O (Tq x (i:Int) nm hD.cl hD.fl) O) (Az BA 2 [0,1] O (A6 (⟨O,_,_,⟨_,_,O,(BJ (i:=0) IL O O Ak),⟨_,_,O,O,O⟩⟩,(List.nil_sublist _),?_⟩)))))))
   all_goals exact⟨by show (.tup [.agg ((Dp (Fy x (i:Int) nm)).map .p),.p (I 0)]:AV)=_;rw[aY hx hC (by simpa using c1)],rfl⟩
  (try simp only[sd,se] at c1);refine A7 (A8 (Az BA 3 [] O (⟨(i+1),AU,⟨by omega,DD (p:=fun _ (y:Cc)=>HX (DL y) nm=false) hC hx (by simpa using c1)⟩,Bk ⟨we rfl,we rfl,we rfl,we rfl,trivial⟩ (leH (is:=[0]) rfl (wl (oe rfl) (DN)))⟩)))
 (try simp only[sd,se] at c);refine Br (A2 BA 3 [0,0] O (BS (Bj (i:=0) O) (A6 (⟨O,_,_,⟨_,_,O,(BJ (i:=0) IL O O O),⟨_,_,O,O,O⟩⟩,(List.nil_sublist _),?_⟩))))
 all_goals exact⟨by show (.tup [.agg [.p (I 0),.p (I 0),.p (I 0),.p (I 0),.p (I 0),.p (I 0),.p (.str ⟨#[]⟩),.p (.lst []),.p (.lst [])],.p (I 9)]:AV)=_;rw[W7 fun j hj=>hC j Au];rfl,rfl⟩
theorem KO:∀(t:Tm),(Nd t)→Et Tryz.prog 149 [.agg ((Bg t).map .p)] (.p (.bool (Ng t Bu))):=by
 intro t h1;refine BD Tryz.func149 O oX (n:=6) O O (A4 (BP O (Bf O) fun b1=>Az BA 1 [] O (A4 (A5 BA 2 [0] O (Ay O (G6 O O (NP _ t (.mk 0 0 ⟨#[]⟩ [] []:Tm) (Nat.le_refl _) h1) (aw (we O) (aw (D9 O) (FH)))) (Az BA 1 [] O (A6 (⟨O,_,_,⟨_,_,O,O,O⟩,(List.nil_sublist _),?_⟩))))))))
 all_goals exact⟨rfl,rfl⟩
end Go.Proofs.YtboammbpdaoojaaGreat
