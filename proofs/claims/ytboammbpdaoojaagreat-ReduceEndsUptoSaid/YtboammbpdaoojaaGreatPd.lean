/- Part of the proofs: an abstract program logic, plain models and contracts of functions. -/
import Derived.Test.YtboammbpdaoojaaGreatPc
import Derived.Test.YtboammbpdaoojaaGreatProg
import Derived.Test.YtboammbpdaoojaaGreatPb
set_option linter.unusedVariables false
set_option linter.unusedSimpArgs false
set_option maxRecDepth 100000
namespace Go.Abs
def TW (P:Program) (ops:Array Oper) (H₀:List BL):Nat→(Nat→AV)→List BL→List AV→((Nat→AV)→List BL→Prop)→Prop
 | _,τ,H,[],K=>K τ H
 | k,τ,H,v::r,K=>∃o H',ops[k]?=some o∧o.guard=none∧Dh P o (ev τ) (H++H₀) v (H'++H₀)∧TW P ops H₀ (k+1) (put τ o.dst v) H' r K
def Z7 (fl:List Nat) (base:List Ez):Bool:=fl.all fun j=>match base.getD j .skip with | .val _=>true | _=>false
def bp (ops:Array Oper) (e:Nat) (fl:List Nat):Bool:=(List.range ops.size).all fun i=>Nat.blt i e||(List.range i).all fun j=>(Nat.blt j e&&fl.contains j)||L5 ops j i
theorem Jy {ops:Array Oper}{e:Nat}{fl:List Nat}(h:bp ops e fl=true) {i j:Nat}(hi:e≤i) (hs:i<ops.size) (hj:j<i) (hf:¬(j<e∧j∈fl)):Pred ops j i:=by
 have:=List.all_eq_true.1 h i (by simpa using hs);simp only[Bool.or_eq_true] at this;rcases this with h1 | h1
 ·rw[Nat.blt_eq] at h1;omega
 have h2:=List.all_eq_true.1 h1 j (by simpa using hj);simp only[Bool.or_eq_true,Bool.and_eq_true,Nat.blt_eq] at h2;rcases h2 with h2 | h2
 ·exact absurd ⟨h2.1,by simpa using h2.2⟩ hf
 exact Eb h2
theorem EV.facts4 {P:Program}{ops:Array Oper}{H₀:List BL}{τ:Nat→AV}{base fb:List Ez}(hf:∀j,j<base.length→j<fb.length∧fb.getD j .skip=base.getD j .skip) (β:Nat→BV):∀(r:List Ez) (k:Nat) (τk:Nat→AV) (K:(Nat→AV)→List BL→Prop),base.drop k=r→k+r.length=base.length→τk=τS ops (FI β 0 fb) τ k→EV P ops H₀ k τk r K→(∀j,k≤j→j<base.length→(base.getD j .skip).ok (β j)) →
  (∀j,k≤j→j<base.length→∃o,ops[j]?=some o∧VT P ops H₀ o (τS ops (FI β 0 fb) τ j) (base.getD j .skip))∧K (τS ops (FI β 0 fb) τ base.length) (dr β k r)
 | [],k,τk,K,hd,hk,ht,h,hβ=>by
  simp only[List.length_nil,Nat.add_zero] at hk;subst hk;exact⟨fun j h1 h2=>by omega,by rw[←ht];exact h⟩
 | e::r,k,τk,K,hd,hk,ht,h,hβ=>by
  obtain⟨o,ho,hok,hn⟩:=h;simp only[List.length_cons] at hk;have hb:base.getD k .skip=e:=by
   have:(base.drop k)[0]?=some e:=by rw[hd];rfl
   rw[List.getElem?_drop] at this;rw[List.getD_eq_getElem?_getD,show k=k+0 by omega,this];rfl
  have hd2:base.drop (k+1)=r:=by
   rw[←List.drop_drop,hd];rfl
  obtain⟨f1,f2⟩:=hf k Ar;obtain⟨h1,h2⟩:=EV.facts4 (τ:=τ) (base:=base) hf β r (k+1) _ _ hd2 Ar (by simp only[τS,ho,Option.bind_some];rw[D9 β f1,f2,hb,←ht]) (hn (β k) (by have:=hβ k (Nat.le_refl _) Ar;rwa [hb] at this)) (fun j h1 h2=>hβ j Ar h2);refine⟨fun j hj hl=>?_,h2⟩;by_cases e2:j=k
  ·subst e2;exact⟨o,ho,by rw[hb,←ht];exact hok⟩
  exact h1 j Ar hl
theorem TW.facts {P:Program}{ops:Array Oper}{H₀:List BL}{τ:Nat→AV}{fb:List Ez}(β:Nat→BV):∀(r:List AV) (k:Nat) (τk:Nat→AV) (H:List BL) (K:(Nat→AV)→List BL→Prop),(∀m,m<r.length→k+m<fb.length∧fb.getD (k+m) .skip= .val (r.getD m (.p .any)))→τk=τS ops (FI β 0 fb) τ k→TW P ops H₀ k τk H r K →
  ∃Hm:Nat→List BL,Hm k=H∧(∀j,k≤j→j<k+r.length→∃o,ops[j]?=some o∧o.guard=none∧Dh P o (ev (τS ops (FI β 0 fb) τ j)) (Hm j++H₀) ((fb.getD j .skip).v (β j)) (Hm (j+1)++H₀))∧K (τS ops (FI β 0 fb) τ (k+r.length)) (Hm (k+r.length))
 | [],k,τk,H,K,hf,ht,h=>⟨fun _=>H,rfl,fun j h1 h2=>by simp at h2;omega,by simp only[List.length_nil,Nat.add_zero];rw[←ht];exact h⟩
 | v::r,k,τk,H,K,hf,ht,h=>by
  obtain⟨o,H',ho,hg,hop,hn⟩:=h;obtain⟨f1,f2⟩:=hf 0 As;simp only[Nat.add_zero,List.getD_cons_zero] at f1 f2;obtain⟨Hm,h1,h2,h3⟩:=TW.facts (τ:=τ) (fb:=fb) β r (k+1) _ H' K (fun m hm=>by have:=hf (m+1) (by simpa using hm);rw[show k+(m+1)=k+1+m by omega] at this;simpa using this) (by simp only[τS,ho,Option.bind_some];rw[D9 β f1,f2,←ht];rfl) hn;refine⟨fun j=>if j=k then H else Hm j,by simp,fun j hj hl=>?_,?_⟩
  ·by_cases e:j=k
   ·subst e;refine⟨o,ho,hg,?_⟩;rw[f2,←ht];show Dh P o (ev τk) ((if j=j then H else Hm j)++H₀) v ((if j+1=j then H else Hm (j+1))++H₀);rw[if_pos rfl,if_neg Ar,h1];exact hop
   show ∃o,ops[j]?=some o∧o.guard=none∧Dh P o _ ((if j=k then H else Hm j)++H₀) _ ((if j+1=k then H else Hm (j+1))++H₀);rw[if_neg e,if_neg Ar];exact h2 j Ar (by simp only[List.length_cons] at hl;omega)
  show K _ (if k+(v::r).length=k then H else Hm (k+(v::r).length));simp only[List.length_cons];rw[if_neg Ar,show k+(r.length+1)=k+1+r.length by omega];exact h3
theorem W8 {β:Nat→BV}{l:Nat→Bool}:∀(r:List Ez) (k:Nat),(∀j,j<r.length→l (k+j)=true∨∃v,r.getD j .skip= .val v)→Vr β l k r=dr β k r
 | [],k,h=>rfl
 | e::r,k,h=>by
  simp only[Vr,dr];rw[W8 r (k+1) fun j hj=>by have:=h (j+1) (by simpa using hj);rw[show k+(j+1)=k+1+j by omega] at this;simpa using this];rcases h 0 As with h1 | ⟨v,h1⟩
  ·rw[Nat.add_zero] at h1;rw[if_pos h1]
  simp only[List.getD_cons_zero] at h1;subst h1;split<;>rfl
theorem e9 {P:Program}{r:Option Nat}{ops:Array Oper}{id n:Nat}{τ:Nat→AV}{H:List BL}{D:List EF}{Q:Cu→Bt→Prop}(base:List Ez) (tl:List AV) (fl:List Nat) (hm:P.follows .mixedOrders=true)
  (he:base.length+tl.length=ops.size) (chk:NA ops n []=true) (late:bp ops base.length fl=true) (hfl:Z7 fl base=true) (hne:Zt base)
  (h:EV P ops H 0 τ base (fun τ' Hs=>TW P ops H base.length τ' Hs tl (fun τ'' Bs=>Q .normal ⟨n,τ'',Bs++H,D⟩))):IT P r (.region id ops true) ⟨n,τ,H,D⟩ Q:=by
 intro F₀ a₀ w₀ hs₀;refine wpIn_region_any hm ?_;have same:DM F₀ w₀ F₀ { w₀ with drawn:=w₀.drawn+1 }:=⟨Nat.le_refl _,fun _ _ _=>rfl,fun _ h _=>h⟩;have t₀:Trans F₀ H w₀ F₀ H { w₀ with drawn:=w₀.drawn+1 } :=
  ⟨Nat.le_refl _,fun _ _ _=>rfl,fun _ h _=>h,fun _ h=> .inl h,fun o ho b hb=> .inl ⟨o,ho,hb⟩,rfl,rfl,rfl⟩
 have hs₁:DX F₀ ⟨n,τ,H,D⟩ a₀ { w₀ with drawn:=w₀.drawn+1 } :=
  ⟨hs₀.size,fun t=>CF.mono same _ _ (hs₀.tmp t),hs₀.heap.stable' same (fun _ h=>h) (fun _ _ _ _=>rfl) hs₀.heap.bd,Ev.mono same _ _ hs₀.defs⟩
 obtain⟨hdst,c0,c1,c2,_⟩:=Js chk;obtain⟨fb,hfb⟩:∃fb,fb=base++tl.map Ez.val:=⟨_,rfl⟩;have hfl1:fb.length=ops.size:=by rw[hfb];simp;omega
 have hf1:∀j,j<base.length→j<fb.length∧fb.getD j .skip=base.getD j .skip:=fun j hj=>⟨by omega,by
  rw[hfb,List.getD_eq_getElem?_getD,List.getD_eq_getElem?_getD,List.getElem?_append_left hj]⟩
 have hf2:∀m,m<tl.length→base.length+m<fb.length∧fb.getD (base.length+m) .skip= .val (tl.getD m (.p .any)):=fun m hm=>⟨by omega,by
  rw[hfb,List.getD_eq_getElem?_getD,List.getElem?_append_right Ar,Nat.add_sub_cancel_left,List.getElem?_map,List.getElem?_eq_getElem hm];simp[List.getElem?_eq_getElem hm]⟩
 have hd:∀β,NY P ops n (fun _=>False) τ H (FI β 0 fb):=fun β =>
  ⟨hdst,fun _ _ _ h=>h.elim,c0,c1,c2,fun i k _ _ h _=>(by rw[UB] at h;cases h),fun i e ob v _ _ _ h _ _=>absurd h (Qq β fb 0 i ob v)⟩
 have flv:∀j,j∈fl→∃v,base.getD j .skip= .val v:=fun j hj=>by
  have:=List.all_eq_true.1 hfl j hj;cases hq:base.getD j .skip with
  | val v=>exact⟨v,rfl⟩
  | _=>simp only[hq] at this;cases this
 have hE:∀β,(∀j,j<base.length→(base.getD j .skip).ok (β j))→(∀j,j<base.length→∃o,ops[j]?=some o∧VT P ops H o (τS ops (FI β 0 fb) τ j) (base.getD j .skip)) ∧
   ∃Hm:Nat→List BL,Hm base.length=dr β 0 base∧(∀j,base.length≤j→j<ops.size→∃o,ops[j]?=some o∧o.guard=none∧Dh P o (ev (τS ops (FI β 0 fb) τ j)) (Hm j++H) ((fb.getD j .skip).v (β j)) (Hm (j+1)++H))∧Q .normal ⟨n,τS ops (FI β 0 fb) τ ops.size,Hm ops.size++H,D⟩:=fun β hβ=>by
  obtain⟨h1,h2⟩:=EV.facts4 (base:=base) (fb:=fb) hf1 β base 0 τ _ As As rfl h (fun j _ h=>hβ j h);obtain⟨Hm,g1,g2,g3⟩:=TW.facts (fb:=fb) β tl base.length _ _ _ hf2 rfl h2;rw[he] at g2 g3;exact⟨fun j hj=>h1 j (Nat.zero_le _) hj,Hm,g1,g2,g3⟩
 obtain⟨I,hI0⟩:∃I:Array Bool→Act→World→Prop,I=fun l a w=>l.size=ops.size∧∃β τ' F Hb,(∀j,j<base.length→(base.getD j .skip).ok (β j))∧Down ops (fun i=>l.getD i false=true)∧F7 ops (FI β 0 fb) τ (fun i=>l.getD i false=true) τ'∧DX F ⟨n,τ',Hb++H,D⟩ a w∧Trans F₀ H w₀ F (Hb++H) w ∧
  (((∀k,base.length≤k→l.getD k false=false)∧Hb.Perm (Vr β (fun k=>l.getD k false) 0 base)) ∨
   (∃(m:Nat) (Hm:Nat→List BL),(∀j,base.length≤j→j<ops.size→∃o,ops[j]?=some o∧o.guard=none∧Dh P o (ev (τS ops (FI β 0 fb) τ j)) (Hm j++H) ((fb.getD j .skip).v (β j)) (Hm (j+1)++H))∧Q .normal ⟨n,τS ops (FI β 0 fb) τ ops.size,Hm ops.size++H,D⟩∧base.length≤m∧m≤ops.size∧(∀k,base.length≤k→(l.getD k false=true↔k<m))∧(∀k,k<base.length→k ∉ fl→l.getD k false=true)∧Hb=Hm m)):=⟨_,rfl⟩
 refine Jj (I:=I) (fun l a w h=>by rw[hI0] at h;exact h.1) ?_ ?_ _ _ _ _ ?_ ?_
 ·intro l a w hI i hi;rw[hI0] at hI;obtain⟨hsz,β,τ',F,Hb,hβ,hdown,hτ,hs,ht,hI⟩:=hI;obtain⟨hun,o,ho,hall⟩:=mem_ready.1 hi;have hlt:i<ops.size:=by
   rcases Nat.lt_or_ge i ops.size with h | h
   ·exact h
   simp[Array.getElem?_eq_none h] at ho
  have hil:i<l.size:=by omega
  have hnot:l.getD i false=false:=by
   have:l[i]=false:=by simpa [hil] using hun
   simp[hil,this]
  have hr:∀j∈D6 o,l.getD j false=true:=by
   intro j hj;simp only[D6,List.mem_map,List.mem_filter] at hj;obtain⟨e,⟨he,hb⟩,rfl⟩:=hj;exact hall e (by simpa using he) hb
  have hset:∀k,(l.setIfInBounds i true).getD k false=true↔(l.getD k false=true∨k=i):=by
   intro k;by_cases hk:k=i
   ·subst hk;simp[hil]
   simp[Array.getElem?_setIfInBounds_ne (Ne.symm hk),hk]
  have hset2:∀k,(l.setIfInBounds i true).getD k false=(l.getD k false||k==i):=by
   intro k;by_cases hk:k=i
   ·subst hk;simp[hil]
   simp[Array.getElem?_setIfInBounds_ne (Ne.symm hk),hk]
  have hsz':(l.setIfInBounds i true).size=ops.size:=by simp[hsz]
  have hdown':Down ops (fun k=>(l.setIfInBounds i true).getD k false=true):=by
   intro k o' j ho' hk hj;rcases (hset k).1 hk with h | h
   ·exact(hset j).2 (.inl (hdown k o' j ho' h hj))
   subst h;rw[ho] at ho';injection ho' with ho';subst ho';exact(hset j).2 (.inl (hr j hj))
  have hlook:∀t∈looks ops o,τ' t=τS ops (FI β 0 fb) τ i t:=fun t ht=>Jq (hd β) hdown hτ ho (by rw[hnot];decide) hr ht;have hops:∀x∈o.op.operands.toList,ev τ' x=ev (τS ops (FI β 0 fb) τ i) x:=by
   intro x hx;cases x with
   | tmp t=>exact hlook t (List.mem_append_left _ (List.mem_filterMap.2 ⟨.tmp t,hx,rfl⟩))
   | _=>rfl
  have hguard:∀j want d,o.guard=some (j,want)→(ops[j]?).bind (·.dst)=some d→τ' d=τS ops (FI β 0 fb) τ i d:=by
   intro j want d hg hj;refine hlook d (List.mem_append_right _ ?_);simp[hg,hj]
  have hpred:∀{a},Pred ops a i→l.getD a false=true:=by
   have:∀{a b},Pred ops a b→b=i→l.getD a false=true:=by
    intro a b hab
    induction hab with
    | base ho' hj=>intro e;subst e;rw[ho] at ho';injection ho' with ho';subst ho';exact hr _ hj
    | trans p1 _ _ ih2=>intro e;exact hdown.pred p1 (ih2 e)
   exact fun {a} h=>this h O
  have wants:Cy ops ⟨0,τS ops (FI β 0 fb) τ i,[],[]⟩ o→Cy ops ⟨n,τ',Hb++H,D⟩ o:=by
   intro h;unfold Cy at *;cases hg:o.guard with
   | none=>simp[hg]
   | some jw =>
    obtain⟨j,want⟩:=jw;simp only[hg] at h ⊢;obtain⟨d,h1,h2⟩:=h;exact⟨d,h1,by rw[←h2];exact hguard j want d hg h1⟩
  -- one operation
  have exec:∀{Hx:List BL} {C:AV→List BL→Prop},DX F ⟨n,τ',Hx,D⟩ a w→Cy ops ⟨n,τ',Hx,D⟩ o→DH P o (ev (τS ops (FI β 0 fb) τ i)) Hx (fun r H'=>match r with | .val v=>C v H' | .panic _=>False)→(∀v H' a' w' F',C v H'→DX F' ⟨n,put τ' o.dst v,H',D⟩ a' w'→Trans F Hx w F' H' w'→I (l.setIfInBounds i true) a' w')→wpOpIn (W r) 0 P ops (post F₀ H w₀ Q) i (fun a' w'=>I (l.setIfInBounds i true) a' w') a w:=by
   intro Hx C hs hwant hop close;unfold wpOpIn;simp only[ho,HW hs hwant,if_true];have hw:=hop r F _ a w hs rfl (fun x hx=>hops x hx) (fun t ht=>hdst i o t ho ht);unfold Oper.wpIn at *;refine⟨hw.1,?_⟩;replace hw:=hw.2;generalize (o.semAt (W r).round a.eval).run P w=rr at *;cases rr with
   | ok nx w' =>
    cases nx<;>simp only[Oper.uponIn] at hw ⊢
    case value u=>obtain⟨v',H'',F',h1,h3,h4⟩:=hw;exact close _ _ _ _ _ h1 h3 h4
    case skip=>obtain⟨v',H'',F',h1,h3,h4⟩:=hw;exact close _ _ _ _ _ h1 h3 h4
    case defer d=>obtain⟨v',H'',F',h1,h3,h4⟩:=hw;exact close _ _ _ _ _ h1 h3 h4
    case enter f args =>
     refine⟨hw.1,hw.2.mono fun e w'' he=>?_⟩;cases e with
     | returned u=>obtain⟨v',H'',F',h1,h3,h4⟩:=he;exact close _ _ _ _ _ h1 h3 h4
     | panicked c=>obtain⟨_,_,_,_,h,_⟩:=he;exact h.elim
     | outgrown=>obtain⟨_,_,_,_,_,_,h,_⟩:=he;exact h.elim
    case row row args=>exact⟨hw.1,hw.2.mono fun u w'' h=>by obtain⟨v',H'',F',h1,h3,h4⟩:=h;exact close _ _ _ _ _ h1 h3 h4⟩
    case round l' f tmps assign body =>
     refine⟨hw.1,hw.2.mono fun e w'' he=>?_⟩;cases e with
     | returned u=>obtain⟨v',H'',F',h1,h3,h4⟩:=he;exact close _ _ _ _ _ h1 h3 h4
     | panicked c=>obtain⟨_,_,_,_,h,_⟩:=he;exact h.elim
     | outgrown=>obtain⟨_,_,_,_,_,_,h,_⟩:=he;exact h.elim
   | halt x w' =>
    cases x<;>simp only[Oper.uponIn] at hw ⊢
    case panic u=>obtain⟨_,_,_,_,h,_⟩:=hw;exact h.elim
  have hτput:∀{v:AV},v=((FI β 0 fb).getD i .skip).val→F7 ops (FI β 0 fb) τ (fun k=>(l.setIfInBounds i true).getD k false=true) (put τ' o.dst v):=by
   intro v hv;have hτ3:=hτ.put (hd β) ho;rw[←hv] at hτ3;intro t;exact⟨fun k o' a1 a2 a3=>(hτ3 t).1 k o' a1 a2 ((hset k).1 a3),fun hn=>(hτ3 t).2 fun k o' a1 a2 a3=>hn k o' a1 a2 ((hset k).2 a3)⟩
  -- a tail operation
  have goTail:∀Hm:Nat→List BL,(∀j,base.length≤j→j<ops.size→∃o,ops[j]?=some o∧o.guard=none∧Dh P o (ev (τS ops (FI β 0 fb) τ j)) (Hm j++H) ((fb.getD j .skip).v (β j)) (Hm (j+1)++H))→Q .normal ⟨n,τS ops (FI β 0 fb) τ ops.size,Hm ops.size++H,D⟩→base.length≤i→(∀k,base.length≤k→(l.getD k false=true↔k<i))→(∀k,k<base.length→k ∉ fl→l.getD k false=true)→DX F ⟨n,τ',Hm i++H,D⟩ a w→Trans F₀ H w₀ F (Hm i++H) w→wpOpIn (W r) 0 P ops (post F₀ H w₀ Q) i (fun a' w'=>I (l.setIfInBounds i true) a' w') a w:=by
   intro Hm g2 g3 hbi hk1 hk2 hs ht;obtain⟨o',ho',hg,hop⟩:=g2 i hbi hlt;rw[ho] at ho';injection ho' with ho';subst ho';refine exec (C:=fun v H'=>v=(fb.getD i .skip).v (β i)∧H'=Hm (i+1)++H) hs (by unfold Cy;rw[hg];trivial) (DH.mono hop (by
    intro r H' hR;cases r with
    | val v'=>exact hR
    | panic v'=>exact hR.elim)) ?_
   rintro v H' a' w' F' ⟨hv,rfl⟩ h3 h4;rw[hI0];refine⟨hsz',β,_,F',Hm (i+1),hβ,hdown',hτput (by rw[hv,D9 β Ar]),h3,ht.trans hs₀.heap.bd h4,.inr ⟨i+1,Hm,g2,g3,by omega,by omega,fun k hk=>?_,fun k h1 h2=>(hset k).2 (.inl (hk2 k h1 h2)),rfl⟩⟩;rw[hset k,hk1 k hk];omega
  rcases hI with ⟨hno,hp⟩ | ⟨m,Hm,g2,g3,hm1,hm2,hk1,hk2,rfl⟩
  ·rcases Nat.lt_or_ge i base.length with hib | hib
   ·-- of the first part
    obtain⟨o',ho',hok⟩:=(hE β hβ).1 i hib;rw[ho] at ho';injection ho' with ho';subst ho';have hno':∀k,base.length≤k→(l.setIfInBounds i true).getD k false=false:=by
     intro k hk;rw[hset2 k,hno k hk];simp;omega
    generalize hbe:base.getD i .skip=e at hok;have close:∀{a' w' F' b H'},e.ok b→H'=e.box b++(Hb++H)→DX F' ⟨n,put τ' o.dst (e.v b),H',D⟩ a' w'→Trans F (Hb++H) w F' H' w'→I (l.setIfInBounds i true) a' w':=by
     intro a' w' F' b H' hb0 hH h3 h4;subst hH;rw[hI0];have hspn:∀k,k<fb.length→((FI (fun j=>if j=i then b else β j) 0 fb).getD k .skip).val=(fb.getD k .skip).v (if k=i then b else β k):=fun k hk=>D9 _ hk;refine⟨hsz',fun j=>if j=i then b else β j,put τ' o.dst (e.v b),F',e.box b++Hb,(fun j hj=>by
      by_cases e3:j=i
      ·subst e3;simp only[if_true];rw[hbe];exact hb0
      simp only[if_neg e3];exact hβ j hj),hdown',?_,by rw[List.append_assoc];exact h3,by rw[List.append_assoc];exact ht.trans hs₀.heap.bd h4,.inl ⟨hno',?_⟩⟩
     ·have hτ2:F7 ops (FI (fun j=>if j=i then b else β j) 0 fb) τ (fun k=>l.getD k false=true) τ':=by
       intro t;refine⟨fun k o' a1 a2 a3=>?_,(hτ t).2⟩;have a4:l.getD k false=true:=a3;have hki:k≠i:=fun e=>by subst e;rw[hnot] at a4;cases a4
       rw[(hτ t).1 k o' a1 a2 a3];rcases Nat.lt_or_ge k fb.length with hk | hk
       ·rw[D9 _ hk,D9 _ hk,if_neg hki]
       rw[I7 _ hk,I7 _ hk]
      have hτ3:=hτ2.put (hd _) ho;rw[D9 _ Ar,if_pos rfl,(hf1 i hib).2,hbe] at hτ3;intro t;exact⟨fun k o' a1 a2 a3=>(hτ3 t).1 k o' a1 a2 ((hset k).1 a3),fun hn=>(hτ3 t).2 fun k o' a1 a2 a3=>hn k o' a1 a2 ((hset k).2 a3)⟩
     have h1:=Pm (β:=β) (l:=fun k=>l.getD k false) (i:=i) (b:=b) hnot base 0 (Nat.zero_le _) Ar;rw[Nat.sub_zero,hbe] at h1;refine(hp.append_left _).trans (h1.trans (List.Perm.of_eq ?_));exact Jm base 0 fun j _=>⟨(hset2 j).symm,fun _=>O⟩
    have yields:Cy ops ⟨n,τ',Hb++H,D⟩ o→DH P o (ev (τS ops (FI β 0 fb) τ i)) (Hb++H) (fun r H'=>match r with | .val v=>∃b,e.ok b∧v=e.v b∧H'=e.box b++(Hb++H) | .panic _=>False)→wpOpIn (W r) 0 P ops (post F₀ H w₀ Q) i (fun a' w'=>I (l.setIfInBounds i true) a' w') a w:=fun h1 h2 =>
     exec (C:=fun v H'=>∃b,e.ok b∧v=e.v b∧H'=e.box b++(Hb++H)) hs h1 h2 (by rintro v H' a' w' F' ⟨b,h0,rfl,h1⟩ h3 h4;exact close h0 h1 h3 h4)
    cases e with
    | val v=>exact yields (wants hok.1) ((hok.2 Hb).mono (by
      intro r H' hR;cases r with
      | val v'=>obtain⟨rfl,rfl⟩:=hR;exact⟨(0,0,.p .any),trivial,rfl,rfl⟩
      | panic v'=>exact hR.elim))
    | new cs =>
     refine yields (by unfold Cy;rw[hok.1];trivial) ((hok.2 _).mono ?_);intro r H' hR;cases r with
     | val v'=>obtain⟨b,rfl,rfl⟩:=hR;exact⟨(b,0,.p .any),trivial,rfl,rfl⟩
     | panic v'=>exact hR.elim
    | newv sz rows =>
     refine yields (by unfold Cy;rw[hok.1];trivial) ((hok.2 _).mono ?_);intro r H' hR;cases r with
     | val v'=>obtain⟨b,c,rfl,rfl⟩:=hR;exact⟨(b,c,.p .any),trivial,rfl,rfl⟩
     | panic v'=>exact hR.elim
    | rel R =>
     refine yields (by unfold Cy;rw[hok.1];trivial) ((hok.2 _).mono ?_);intro r H' hR;cases r with
     | val v'=>obtain⟨h1,rfl⟩:=hR;exact⟨(0,0,v'),h1,rfl,rfl⟩
     | panic v'=>exact hR.elim
    | skip =>
     obtain⟨j,want,d,hg,hj,hb⟩:=hok;have hw:Region.wanted o (yielded ops a.tmps)=false:=JV (S:=⟨n,τ',Hb++H,D⟩) hs hg hj (by show du (τ' d) want;rw[hguard j want d hg hj];exact hb);unfold wpOpIn;simp only[ho,hw,Bool.false_eq_true,if_false];refine⟨fun _ _=>Au,close (b:=(0,0,.p .any)) Au O ?_ .refl⟩;exact hs.put (fun t ht=>hdst i o t ho ht) ⟨Nat.le_refl _,fun _ _ _=>O,fun _ h _=>h⟩ hs.heap (by simp only[Ez.v,CF,Bz,undef];exact⟨[],rfl,rfl⟩)
   -- the first of the rest
   have hpre:∀j,j<i→¬(j<base.length∧j∈fl)→l.getD j false=true:=fun j hj hf=>hpred (Jy late hib hlt hj hf);have hie:i=base.length:=by
    rcases Nat.lt_or_ge base.length i with h | h
    ·have h1:=hpre base.length h (fun h=>Nat.lt_irrefl _ h.1);rw[hno base.length (Nat.le_refl _)] at h1;cases h1
    omega
   obtain⟨Hm,g1,g2,g3⟩:=(hE β hβ).2;have hp2:(Hb++H).Perm (Hm i++H):=by
    rw[hie,g1];refine List.Perm.append_right H (hp.trans (List.Perm.of_eq (W8 base 0 fun j hj=>?_)));rw[Nat.zero_add];by_cases hq:j∈fl
    ·exact .inr (flv j hq)
    exact .inl (hpre j Ar fun h=>hq h.2)
   refine goTail Hm g2 g3 hib (fun k hk=>⟨fun h=>?_,fun h=>by omega⟩) (fun k h1 h2=>hpre k Ar fun h=>h2 h.2) ⟨hs.size,hs.tmp,hs.heap.perm hp2,hs.defs⟩ { ht with keys:=fun o ho=>ht.keys o (hp2.mem_iff.2 ho) };rw[hno k hk] at h;cases h
  rcases Nat.lt_or_ge i base.length with hib | hib
  ·-- a value that floats
   have hif:i∈fl:=Classical.byContradiction fun hq=>by rw[hk2 i hib hq] at hnot;cases hnot
   obtain⟨v,hv⟩:=flv i hif;obtain⟨o',ho',hok⟩:=(hE β hβ).1 i hib;rw[ho] at ho';injection ho' with ho';subst ho';rw[hv] at hok;refine exec (C:=fun v' H'=>v'=v∧H'=Hm m++H) hs (wants hok.1) ((hok.2 (Hm m)).mono (by
    intro r H' hR;cases r with
    | val v'=>exact hR
    | panic v'=>exact hR.elim)) ?_
   rintro v' H' a' w' F' ⟨rfl,rfl⟩ h3 h4;rw[hI0];refine⟨hsz',β,_,F',Hm m,hβ,hdown',hτput (by rw[D9 β Ar,(hf1 i hib).2,hv];rfl),h3,ht.trans hs₀.heap.bd h4,.inr ⟨m,Hm,g2,g3,hm1,hm2,fun k hk=>?_,fun k h1 h2=>(hset k).2 (.inl (hk2 k h1 h2)),O⟩⟩;rw[hset k,hk1 k hk];exact⟨fun h=>h.resolve_right Ar,.inl⟩
  have him:i=m:=by
   rcases Nat.lt_trichotomy i m with h | h | h
   ·rw[(hk1 i hib).2 h] at hnot;cases hnot
   ·exact h
   have:=hpred (Jy late (by omega:base.length≤i) hlt h (fun h=>by omega));have:=(hk1 m hm1).1 this;omega
  subst him;exact goTail Hm g2 g3 hib hk1 hk2 hs ht
 ·intro l a w hI hr;rw[hI0] at hI;obtain⟨hsz,β,τ',F,Hb,hβ,hdown,hτ,hs,ht,hI⟩:=hI;have hall:∀i,i<ops.size→l.getD i false=true:=by
   intro i
   induction i using Nat.strongRecOn with
   | _ i ih =>
    intro hi;cases hq:l.getD i false with
    | true=>rfl
    | false =>
     have ho:ops[i]?=some ops[i]:=Array.getElem?_eq_getElem hi;have:i∈Region.ready .any ops l:=by
      refine mem_ready.2 ⟨?_,ops[i],ho,?_⟩
      ·have:i<l.size:=by omega
       simp[this] at hq ⊢;exact hq
      intro e he hb;have hj:e.on∈D6 ops[i]:=by
       simp only[D6,List.mem_map,List.mem_filter];exact⟨e,⟨by simpa using he,hb⟩,rfl⟩
      have hlt:=c0 i _ _ ho hj;exact ih e.on hlt Ar
     rw[hr] at this;cases this
  have hτe:τ'=τS ops (FI β 0 fb) τ ops.size:=by
   funext t;have h2:=LZ (hd β) ops.size (Nat.le_refl _) t;by_cases hw:∃(k:Nat) (o':Oper),ops[k]?=some o'∧o'.dst=some t
   ·obtain⟨k,o',ho',hk⟩:=hw;have hlt:k<ops.size:=by
     rcases Nat.lt_or_ge k ops.size with h | h
     ·exact h
     simp[Array.getElem?_eq_none h] at ho'
    rw[(hτ t).1 k o' ho' hk (hall k hlt),h2.1 k o' ho' hk hlt]
   rw[(hτ t).2 fun k o' h1 h2 _=>hw ⟨k,o',h1,h2⟩,h2.2 fun k o' h1 h2 _=>hw ⟨k,o',h1,h2⟩]
  have fin:∀Hx:List BL,(Hb++H).Perm (Hx++H)→Q .normal ⟨n,τS ops (FI β 0 fb) τ ops.size,Hx++H,D⟩→post F₀ H w₀ Q .normal a w:=fun Hx hp hq =>
   ⟨.normal,_,F,hq,rfl,⟨by exact hs.size,by rw[←hτe];exact hs.tmp,hs.heap.perm hp,hs.defs⟩,{ ht with keys:=fun o ho=>ht.keys o (hp.mem_iff.2 ho) }⟩
  rcases hI with ⟨hno,hp⟩ | ⟨m,Hm,g2,g3,hm1,hm2,hk1,hk2,rfl⟩
  ·have hbs:base.length=ops.size:=by
    rcases Nat.lt_or_ge base.length ops.size with h | h
    ·have:=hall base.length h;rw[hno base.length (Nat.le_refl _)] at this;cases this
    omega
   obtain⟨Hm,g1,g2,g3⟩:=(hE β hβ).2;refine fin (Hm ops.size) ?_ g3;rw[←hbs,g1];exact List.Perm.append_right H (hp.trans (List.Perm.of_eq (T5 base 0 fun j _ hj=>hall j Ar)))
  have hms:m=ops.size:=by
   rcases Nat.lt_or_ge m ops.size with h | h
   ·have:=(hk1 m hm1).1 (hall m h);omega
   omega
  subst hms;exact fin _ (List.Perm.refl _) g3
 ·obtain⟨β0,hβ0⟩:=Zt.pick base hne;rw[hI0];refine⟨by simp,β0,τ,F₀,[],hβ0,?_,?_,hs₁,t₀,.inl ⟨?_,?_⟩⟩
  ·intro i o j ho hi;by_cases h:i<ops.size<;>simp[h] at hi
  ·intro t;refine⟨fun k o ho hk hl=>?_,fun _=>O⟩;by_cases h:k<ops.size<;>simp[h] at hl
  ·intro k _;by_cases h:k<ops.size<;>simp[h]
  rw[Ni base 0 fun j=>by by_cases h:j<ops.size<;>simp[h]]
 have:=List.length_filter_le (fun b:Bool=> !b) (Array.replicate ops.size false).toList;simp at this ⊢
section
variable {P:Program}{ops:Array Oper}{H₀:List BL}{k:Nat}{τ:Nat→AV}{r:List AV}{K:(Nat→AV)→List BL→Prop}{dst:Option Tmp}{op:Op}{ty:TypeId}{pos:String}{aft:Array Edge}{v:AV}{H:List BL}
theorem YE (H':List BL) (ho:ops[k]?=some ⟨dst,op,ty,pos,aft,none⟩) (h:Dh P ⟨dst,op,ty,pos,aft,none⟩ (ev τ) (H++H₀) v (H'++H₀)) (next:TW P ops H₀ (k+1) (put τ dst v) H' r K):TW P ops H₀ k τ H (v::r) K :=
 ⟨_,H',ho,rfl,h,next⟩
theorem jl (h:K τ H):TW P ops H₀ k τ H [] K:=h
end
def dm (P:Program) (ops:Array Oper) (H₀ H₁:List BL) (i₀:Nat) (fl:List Nat) (k:Nat) (o:Oper) (τ:Nat→AV) (e:Ez):Prop :=
 if k=i₀ then ∃v,e= .val v∧o.guard=none∧∀Bs,Dh P o (ev τ) (Bs++H₀) v (Bs++H₁) else VT P ops H₀ o τ e∧VT P ops H₁ o τ e∧(fl.contains k=true→∀v,e= .val v→∀X,Dh P o (ev τ) X v X)
def E5 (P:Program) (ops:Array Oper) (H₀ H₁:List BL) (i₀:Nat) (fl:List Nat):Nat→(Nat→AV)→List Ez→((Nat→AV)→List BL→Prop)→Prop
 | _,τ,[],K=>K τ []
 | k,τ,e::r,K=>∃o,ops[k]?=some o∧dm P ops H₀ H₁ i₀ fl k o τ e∧∀b,e.ok b→E5 P ops H₀ H₁ i₀ fl (k+1) (put τ o.dst (e.v b)) r (fun τ' Hs=>K τ' (e.box b++Hs))
theorem E5.facts {P:Program}{ops:Array Oper}{H₀ H₁:List BL}{i₀:Nat}{fl:List Nat}{τ:Nat→AV}{base fb:List Ez}(hf:∀j,j<base.length→j<fb.length∧fb.getD j .skip=base.getD j .skip) (β:Nat→BV):∀(r:List Ez) (k:Nat) (τk:Nat→AV) (K:(Nat→AV)→List BL→Prop),base.drop k=r→k+r.length=base.length→τk=τS ops (FI β 0 fb) τ k→E5 P ops H₀ H₁ i₀ fl k τk r K→(∀j,k≤j→j<base.length→(base.getD j .skip).ok (β j)) →
  (∀j,k≤j→j<base.length→∃o,ops[j]?=some o∧dm P ops H₀ H₁ i₀ fl j o (τS ops (FI β 0 fb) τ j) (base.getD j .skip))∧K (τS ops (FI β 0 fb) τ base.length) (dr β k r)
 | [],k,τk,K,hd,hk,ht,h,hβ=>by
  simp only[List.length_nil,Nat.add_zero] at hk;subst hk;exact⟨fun j h1 h2=>by omega,by rw[←ht];exact h⟩
 | e::r,k,τk,K,hd,hk,ht,h,hβ=>by
  obtain⟨o,ho,hok,hn⟩:=h;simp only[List.length_cons] at hk;have hb:base.getD k .skip=e:=by
   have:(base.drop k)[0]?=some e:=by rw[hd];rfl
   rw[List.getElem?_drop] at this;rw[List.getD_eq_getElem?_getD,show k=k+0 by omega,this];rfl
  have hd2:base.drop (k+1)=r:=by
   rw[←List.drop_drop,hd];rfl
  obtain⟨f1,f2⟩:=hf k Ar;obtain⟨h1,h2⟩:=E5.facts (τ:=τ) (base:=base) hf β r (k+1) _ _ hd2 Ar (by simp only[τS,ho,Option.bind_some];rw[D9 β f1,f2,hb,←ht]) (hn (β k) (by have:=hβ k (Nat.le_refl _) Ar;rwa [hb] at this)) (fun j h1 h2=>hβ j Ar h2);refine⟨fun j hj hl=>?_,h2⟩;by_cases e2:j=k
  ·subst e2;exact⟨o,ho,by rw[hb,←ht];exact hok⟩
  exact h1 j Ar hl
def TV (P:Program) (ops:Array Oper):Nat→(Nat→AV)→List BL→List AV→((Nat→AV)→List BL→Prop)→Prop
 | _,τ,H,[],K=>K τ H
 | k,τ,H,v::r,K=>∃o H',ops[k]?=some o∧o.guard=none∧Dh P o (ev τ) H v H'∧TV P ops (k+1) (put τ o.dst v) H' r K
theorem TV.facts {P:Program}{ops:Array Oper}{τ:Nat→AV}{fb:List Ez}(β:Nat→BV):∀(r:List AV) (k:Nat) (τk:Nat→AV) (H:List BL) (K:(Nat→AV)→List BL→Prop),(∀m,m<r.length→k+m<fb.length∧fb.getD (k+m) .skip= .val (r.getD m (.p .any)))→τk=τS ops (FI β 0 fb) τ k→TV P ops k τk H r K →
  ∃Hm:Nat→List BL,Hm k=H∧(∀j,k≤j→j<k+r.length→∃o,ops[j]?=some o∧o.guard=none∧Dh P o (ev (τS ops (FI β 0 fb) τ j)) (Hm j) ((fb.getD j .skip).v (β j)) (Hm (j+1)))∧K (τS ops (FI β 0 fb) τ (k+r.length)) (Hm (k+r.length))
 | [],k,τk,H,K,hf,ht,h=>⟨fun _=>H,rfl,fun j h1 h2=>by simp at h2;omega,by simp only[List.length_nil,Nat.add_zero];rw[←ht];exact h⟩
 | v::r,k,τk,H,K,hf,ht,h=>by
  obtain⟨o,H',ho,hg,hop,hn⟩:=h;obtain⟨f1,f2⟩:=hf 0 As;simp only[Nat.add_zero,List.getD_cons_zero] at f1 f2;obtain⟨Hm,h1,h2,h3⟩:=TV.facts (τ:=τ) (fb:=fb) β r (k+1) _ H' K (fun m hm=>by have:=hf (m+1) (by simpa using hm);rw[show k+(m+1)=k+1+m by omega] at this;simpa using this) (by simp only[τS,ho,Option.bind_some];rw[D9 β f1,f2,←ht];rfl) hn;refine⟨fun j=>if j=k then H else Hm j,by simp,fun j hj hl=>?_,?_⟩
  ·by_cases e:j=k
   ·subst e;refine⟨o,ho,hg,?_⟩;rw[f2,←ht];show Dh P o (ev τk) (if j=j then H else Hm j) v (if j+1=j then H else Hm (j+1));rw[if_pos rfl,if_neg Ar,h1];exact hop
   show ∃o,ops[j]?=some o∧o.guard=none∧Dh P o _ (if j=k then H else Hm j) _ (if j+1=k then H else Hm (j+1));rw[if_neg e,if_neg Ar];exact h2 j Ar (by simp only[List.length_cons] at hl;omega)
  show K _ (if k+(v::r).length=k then H else Hm (k+(v::r).length));simp only[List.length_cons];rw[if_neg Ar,show k+(r.length+1)=k+1+r.length by omega];exact h3
theorem IH {P:Program}{r:Option Nat}{ops:Array Oper}{id n:Nat}{τ:Nat→AV}{H:List BL}{D:List EF}{Q:Cu→Bt→Prop}(H₁:List BL) (i₀:Nat) (base:List Ez) (tl:List AV) (fl:List Nat) (hm:P.follows .mixedOrders=true)
  (he:base.length+tl.length=ops.size) (chk:NA ops n []=true) (late:bp ops base.length fl=true) (hfl:Z7 fl base=true) (hi0:(Nat.blt i₀ base.length&& !fl.contains i₀)=true) (hne:Zt base)
  (h:E5 P ops H H₁ i₀ fl 0 τ base (fun τ' Hs=>TV P ops base.length τ' (Hs++H₁) tl (fun τ'' Bs=>Q .normal ⟨n,τ'',Bs,D⟩))):IT P r (.region id ops true) ⟨n,τ,H,D⟩ Q:=by
 intro F₀ a₀ w₀ hs₀;rw[Bool.and_eq_true,Nat.blt_eq] at hi0;have hi1:i₀ ∉ fl:=by simpa using hi0.2
 have hi0:=hi0.1;refine wpIn_region_any hm ?_;have same:DM F₀ w₀ F₀ { w₀ with drawn:=w₀.drawn+1 }:=⟨Nat.le_refl _,fun _ _ _=>rfl,fun _ h _=>h⟩;have t₀:Trans F₀ H w₀ F₀ H { w₀ with drawn:=w₀.drawn+1 } :=
  ⟨Nat.le_refl _,fun _ _ _=>rfl,fun _ h _=>h,fun _ h=> .inl h,fun o ho b hb=> .inl ⟨o,ho,hb⟩,rfl,rfl,rfl⟩
 have hs₁:DX F₀ ⟨n,τ,H,D⟩ a₀ { w₀ with drawn:=w₀.drawn+1 } :=
  ⟨hs₀.size,fun t=>CF.mono same _ _ (hs₀.tmp t),hs₀.heap.stable' same (fun _ h=>h) (fun _ _ _ _=>rfl) hs₀.heap.bd,Ev.mono same _ _ hs₀.defs⟩
 obtain⟨hdst,c0,c1,c2,_⟩:=Js chk;obtain⟨fb,hfb⟩:∃fb,fb=base++tl.map Ez.val:=⟨_,rfl⟩;have hfl1:fb.length=ops.size:=by rw[hfb];simp;omega
 have hf1:∀j,j<base.length→j<fb.length∧fb.getD j .skip=base.getD j .skip:=fun j hj=>⟨by omega,by
  rw[hfb,List.getD_eq_getElem?_getD,List.getD_eq_getElem?_getD,List.getElem?_append_left hj]⟩
 have hf2:∀m,m<tl.length→base.length+m<fb.length∧fb.getD (base.length+m) .skip= .val (tl.getD m (.p .any)):=fun m hm=>⟨by omega,by
  rw[hfb,List.getD_eq_getElem?_getD,List.getElem?_append_right Ar,Nat.add_sub_cancel_left,List.getElem?_map,List.getElem?_eq_getElem hm];simp[List.getElem?_eq_getElem hm]⟩
 have hd:∀β,NY P ops n (fun _=>False) τ H (FI β 0 fb):=fun β =>
  ⟨hdst,fun _ _ _ h=>h.elim,c0,c1,c2,fun i k _ _ h _=>(by rw[UB] at h;cases h),fun i e ob v _ _ _ h _ _=>absurd h (Qq β fb 0 i ob v)⟩
 have flv:∀j,j∈fl→∃v,base.getD j .skip= .val v:=fun j hj=>by
  have:=List.all_eq_true.1 hfl j hj;cases hq:base.getD j .skip with
  | val v=>exact⟨v,rfl⟩
  | _=>simp only[hq] at this;cases this
 have hE:∀β,(∀j,j<base.length→(base.getD j .skip).ok (β j))→(∀j,j<base.length→∃o,ops[j]?=some o∧dm P ops H H₁ i₀ fl j o (τS ops (FI β 0 fb) τ j) (base.getD j .skip)) ∧
   ∃Hm:Nat→List BL,Hm base.length=dr β 0 base++H₁∧(∀j,base.length≤j→j<ops.size→∃o,ops[j]?=some o∧o.guard=none∧Dh P o (ev (τS ops (FI β 0 fb) τ j)) (Hm j) ((fb.getD j .skip).v (β j)) (Hm (j+1)))∧Q .normal ⟨n,τS ops (FI β 0 fb) τ ops.size,Hm ops.size,D⟩:=fun β hβ=>by
  obtain⟨h1,h2⟩:=E5.facts (base:=base) (fb:=fb) hf1 β base 0 τ _ As As rfl h (fun j _ h=>hβ j h);obtain⟨Hm,g1,g2,g3⟩:=TV.facts (fb:=fb) β tl base.length _ _ _ hf2 rfl h2;rw[he] at g2 g3;exact⟨fun j hj=>h1 j (Nat.zero_le _) hj,Hm,g1,g2,g3⟩
 obtain⟨I,hI0⟩:∃I:Array Bool→Act→World→Prop,I=fun l a w=>l.size=ops.size∧∃β τ' F Hx,(∀j,j<base.length→(base.getD j .skip).ok (β j))∧Down ops (fun i=>l.getD i false=true)∧F7 ops (FI β 0 fb) τ (fun i=>l.getD i false=true) τ'∧DX F ⟨n,τ',Hx,D⟩ a w∧Trans F₀ H w₀ F Hx w ∧
  ((∃Hb,Hx=Hb++(if l.getD i₀ false=true then H₁ else H)∧(∀k,base.length≤k→l.getD k false=false)∧Hb.Perm (Vr β (fun k=>l.getD k false) 0 base)) ∨
   (∃(m:Nat) (Hm:Nat→List BL),(∀j,base.length≤j→j<ops.size→∃o,ops[j]?=some o∧o.guard=none∧Dh P o (ev (τS ops (FI β 0 fb) τ j)) (Hm j) ((fb.getD j .skip).v (β j)) (Hm (j+1)))∧Q .normal ⟨n,τS ops (FI β 0 fb) τ ops.size,Hm ops.size,D⟩∧base.length≤m∧m≤ops.size∧(∀k,base.length≤k→(l.getD k false=true↔k<m))∧(∀k,k<base.length→k ∉ fl→l.getD k false=true)∧Hx=Hm m)):=⟨_,rfl⟩
 refine Jj (I:=I) (fun l a w h=>by rw[hI0] at h;exact h.1) ?_ ?_ _ _ _ _ ?_ ?_
 ·intro l a w hI i hi;rw[hI0] at hI;obtain⟨hsz,β,τ',F,Hx,hβ,hdown,hτ,hs,ht,hI⟩:=hI;obtain⟨hun,o,ho,hall⟩:=mem_ready.1 hi;have hlt:i<ops.size:=by
   rcases Nat.lt_or_ge i ops.size with h | h
   ·exact h
   simp[Array.getElem?_eq_none h] at ho
  have hil:i<l.size:=by omega
  have hnot:l.getD i false=false:=by
   have:l[i]=false:=by simpa [hil] using hun
   simp[hil,this]
  have hr:∀j∈D6 o,l.getD j false=true:=by
   intro j hj;simp only[D6,List.mem_map,List.mem_filter] at hj;obtain⟨e,⟨he,hb⟩,rfl⟩:=hj;exact hall e (by simpa using he) hb
  have hset:∀k,(l.setIfInBounds i true).getD k false=true↔(l.getD k false=true∨k=i):=by
   intro k;by_cases hk:k=i
   ·subst hk;simp[hil]
   simp[Array.getElem?_setIfInBounds_ne (Ne.symm hk),hk]
  have hset2:∀k,(l.setIfInBounds i true).getD k false=(l.getD k false||k==i):=by
   intro k;by_cases hk:k=i
   ·subst hk;simp[hil]
   simp[Array.getElem?_setIfInBounds_ne (Ne.symm hk),hk]
  have hsz':(l.setIfInBounds i true).size=ops.size:=by simp[hsz]
  have hdown':Down ops (fun k=>(l.setIfInBounds i true).getD k false=true):=by
   intro k o' j ho' hk hj;rcases (hset k).1 hk with h | h
   ·exact(hset j).2 (.inl (hdown k o' j ho' h hj))
   subst h;rw[ho] at ho';injection ho' with ho';subst ho';exact(hset j).2 (.inl (hr j hj))
  have hlook:∀t∈looks ops o,τ' t=τS ops (FI β 0 fb) τ i t:=fun t ht=>Jq (hd β) hdown hτ ho (by rw[hnot];decide) hr ht;have hops:∀x∈o.op.operands.toList,ev τ' x=ev (τS ops (FI β 0 fb) τ i) x:=by
   intro x hx;cases x with
   | tmp t=>exact hlook t (List.mem_append_left _ (List.mem_filterMap.2 ⟨.tmp t,hx,rfl⟩))
   | _=>rfl
  have hguard:∀j want d,o.guard=some (j,want)→(ops[j]?).bind (·.dst)=some d→τ' d=τS ops (FI β 0 fb) τ i d:=by
   intro j want d hg hj;refine hlook d (List.mem_append_right _ ?_);simp[hg,hj]
  have hpred:∀{a},Pred ops a i→l.getD a false=true:=by
   have:∀{a b},Pred ops a b→b=i→l.getD a false=true:=by
    intro a b hab
    induction hab with
    | base ho' hj=>intro e;subst e;rw[ho] at ho';injection ho' with ho';subst ho';exact hr _ hj
    | trans p1 _ _ ih2=>intro e;exact hdown.pred p1 (ih2 e)
   exact fun {a} h=>this h O
  have wants:Cy ops ⟨0,τS ops (FI β 0 fb) τ i,[],[]⟩ o→Cy ops ⟨n,τ',Hx,D⟩ o:=by
   intro h;unfold Cy at *;cases hg:o.guard with
   | none=>simp[hg]
   | some jw =>
    obtain⟨j,want⟩:=jw;simp only[hg] at h ⊢;obtain⟨d,h1,h2⟩:=h;exact⟨d,h1,by rw[←h2];exact hguard j want d hg h1⟩
  -- one operation
  have exec:∀{Hx:List BL} {C:AV→List BL→Prop},DX F ⟨n,τ',Hx,D⟩ a w→Cy ops ⟨n,τ',Hx,D⟩ o→DH P o (ev (τS ops (FI β 0 fb) τ i)) Hx (fun r H'=>match r with | .val v=>C v H' | .panic _=>False)→(∀v H' a' w' F',C v H'→DX F' ⟨n,put τ' o.dst v,H',D⟩ a' w'→Trans F Hx w F' H' w'→I (l.setIfInBounds i true) a' w')→wpOpIn (W r) 0 P ops (post F₀ H w₀ Q) i (fun a' w'=>I (l.setIfInBounds i true) a' w') a w:=by
   intro Hx C hs hwant hop close;unfold wpOpIn;simp only[ho,HW hs hwant,if_true];have hw:=hop r F _ a w hs rfl (fun x hx=>hops x hx) (fun t ht=>hdst i o t ho ht);unfold Oper.wpIn at *;refine⟨hw.1,?_⟩;replace hw:=hw.2;generalize (o.semAt (W r).round a.eval).run P w=rr at *;cases rr with
   | ok nx w' =>
    cases nx<;>simp only[Oper.uponIn] at hw ⊢
    case value u=>obtain⟨v',H'',F',h1,h3,h4⟩:=hw;exact close _ _ _ _ _ h1 h3 h4
    case skip=>obtain⟨v',H'',F',h1,h3,h4⟩:=hw;exact close _ _ _ _ _ h1 h3 h4
    case defer d=>obtain⟨v',H'',F',h1,h3,h4⟩:=hw;exact close _ _ _ _ _ h1 h3 h4
    case enter f args =>
     refine⟨hw.1,hw.2.mono fun e w'' he=>?_⟩;cases e with
     | returned u=>obtain⟨v',H'',F',h1,h3,h4⟩:=he;exact close _ _ _ _ _ h1 h3 h4
     | panicked c=>obtain⟨_,_,_,_,h,_⟩:=he;exact h.elim
     | outgrown=>obtain⟨_,_,_,_,_,_,h,_⟩:=he;exact h.elim
    case row row args=>exact⟨hw.1,hw.2.mono fun u w'' h=>by obtain⟨v',H'',F',h1,h3,h4⟩:=h;exact close _ _ _ _ _ h1 h3 h4⟩
    case round l' f tmps assign body =>
     refine⟨hw.1,hw.2.mono fun e w'' he=>?_⟩;cases e with
     | returned u=>obtain⟨v',H'',F',h1,h3,h4⟩:=he;exact close _ _ _ _ _ h1 h3 h4
     | panicked c=>obtain⟨_,_,_,_,h,_⟩:=he;exact h.elim
     | outgrown=>obtain⟨_,_,_,_,_,_,h,_⟩:=he;exact h.elim
   | halt x w' =>
    cases x<;>simp only[Oper.uponIn] at hw ⊢
    case panic u=>obtain⟨_,_,_,_,h,_⟩:=hw;exact h.elim
  have hτput:∀{v:AV},v=((FI β 0 fb).getD i .skip).val→F7 ops (FI β 0 fb) τ (fun k=>(l.setIfInBounds i true).getD k false=true) (put τ' o.dst v):=by
   intro v hv;have hτ3:=hτ.put (hd β) ho;rw[←hv] at hτ3;intro t;exact⟨fun k o' a1 a2 a3=>(hτ3 t).1 k o' a1 a2 ((hset k).1 a3),fun hn=>(hτ3 t).2 fun k o' a1 a2 a3=>hn k o' a1 a2 ((hset k).2 a3)⟩
  -- a tail operation
  have goTail:∀Hm:Nat→List BL,(∀j,base.length≤j→j<ops.size→∃o,ops[j]?=some o∧o.guard=none∧Dh P o (ev (τS ops (FI β 0 fb) τ j)) (Hm j) ((fb.getD j .skip).v (β j)) (Hm (j+1)))→Q .normal ⟨n,τS ops (FI β 0 fb) τ ops.size,Hm ops.size,D⟩→base.length≤i→(∀k,base.length≤k→(l.getD k false=true↔k<i))→(∀k,k<base.length→k ∉ fl→l.getD k false=true)→DX F ⟨n,τ',Hm i,D⟩ a w→Trans F₀ H w₀ F (Hm i) w→wpOpIn (W r) 0 P ops (post F₀ H w₀ Q) i (fun a' w'=>I (l.setIfInBounds i true) a' w') a w:=by
   intro Hm g2 g3 hbi hk1 hk2 hs ht;obtain⟨o',ho',hg,hop⟩:=g2 i hbi hlt;rw[ho] at ho';injection ho' with ho';subst ho';refine exec (C:=fun v H'=>v=(fb.getD i .skip).v (β i)∧H'=Hm (i+1)) hs (by unfold Cy;rw[hg];trivial) (DH.mono hop (by
    intro r H' hR;cases r with
    | val v'=>exact hR
    | panic v'=>exact hR.elim)) ?_
   rintro v H' a' w' F' ⟨hv,rfl⟩ h3 h4;rw[hI0];refine⟨hsz',β,put τ' o.dst v,F',Hm (i+1),hβ,hdown',hτput (by rw[hv,D9 β Ar]),h3,ht.trans hs₀.heap.bd h4,.inr ⟨i+1,Hm,g2,g3,by omega,by omega,fun k hk=>?_,fun k h1 h2=>(hset k).2 (.inl (hk2 k h1 h2)),rfl⟩⟩;rw[hset k,hk1 k hk];omega
  rcases hI with ⟨Hb,rfl,hno,hp⟩ | ⟨m,Hm,g2,g3,hm1,hm2,hk1,hk2,rfl⟩
  ·rcases Nat.lt_or_ge i base.length with hib | hib
   ·-- of the first part
    obtain⟨o',ho',hok⟩:=(hE β hβ).1 i hib;rw[ho] at ho';injection ho' with ho';subst ho';have hno':∀k,base.length≤k→(l.setIfInBounds i true).getD k false=false:=by
     intro k hk;rw[hset2 k,hno k hk];simp;omega
    generalize hbe:base.getD i .skip=e at hok;have close:∀{a' w' F' b H'},e.ok b→H'=e.box b++(Hb++(if (l.setIfInBounds i true).getD i₀ false=true then H₁ else H))→DX F' ⟨n,put τ' o.dst (e.v b),H',D⟩ a' w'→Trans F (Hb++(if l.getD i₀ false=true then H₁ else H)) w F' H' w'→I (l.setIfInBounds i true) a' w':=by
     intro a' w' F' b H' hb0 hH h3 h4;subst hH;rw[hI0];have hspn:∀k,k<fb.length→((FI (fun j=>if j=i then b else β j) 0 fb).getD k .skip).val=(fb.getD k .skip).v (if k=i then b else β k):=fun k hk=>D9 _ hk;refine⟨hsz',fun j=>if j=i then b else β j,put τ' o.dst (e.v b),F',e.box b++(Hb++(if (l.setIfInBounds i true).getD i₀ false=true then H₁ else H)),(fun j hj=>by
      by_cases e3:j=i
      ·subst e3;simp only[if_true];rw[hbe];exact hb0
      simp only[if_neg e3];exact hβ j hj),hdown',?_,h3,ht.trans hs₀.heap.bd h4,.inl ⟨e.box b++Hb,by rw[List.append_assoc],hno',?_⟩⟩
     ·have hτ2:F7 ops (FI (fun j=>if j=i then b else β j) 0 fb) τ (fun k=>l.getD k false=true) τ':=by
       intro t;refine⟨fun k o' a1 a2 a3=>?_,(hτ t).2⟩;have a4:l.getD k false=true:=a3;have hki:k≠i:=fun e=>by subst e;rw[hnot] at a4;cases a4
       rw[(hτ t).1 k o' a1 a2 a3];rcases Nat.lt_or_ge k fb.length with hk | hk
       ·rw[D9 _ hk,D9 _ hk,if_neg hki]
       rw[I7 _ hk,I7 _ hk]
      have hτ3:=hτ2.put (hd _) ho;rw[D9 _ Ar,if_pos rfl,(hf1 i hib).2,hbe] at hτ3;intro t;exact⟨fun k o' a1 a2 a3=>(hτ3 t).1 k o' a1 a2 ((hset k).1 a3),fun hn=>(hτ3 t).2 fun k o' a1 a2 a3=>hn k o' a1 a2 ((hset k).2 a3)⟩
     have h1:=Pm (β:=β) (l:=fun k=>l.getD k false) (i:=i) (b:=b) hnot base 0 (Nat.zero_le _) Ar;rw[Nat.sub_zero,hbe] at h1;refine(hp.append_left _).trans (h1.trans (List.Perm.of_eq ?_));exact Jm base 0 fun j _=>⟨(hset2 j).symm,fun _=>O⟩
    have yields:Cy ops ⟨n,τ',Hb++(if l.getD i₀ false=true then H₁ else H),D⟩ o→DH P o (ev (τS ops (FI β 0 fb) τ i)) (Hb++(if l.getD i₀ false=true then H₁ else H)) (fun r H'=>match r with | .val v=>∃b,e.ok b∧v=e.v b∧H'=e.box b++(Hb++(if (l.setIfInBounds i true).getD i₀ false=true then H₁ else H)) | .panic _=>False)→wpOpIn (W r) 0 P ops (post F₀ H w₀ Q) i (fun a' w'=>I (l.setIfInBounds i true) a' w') a w:=fun h1 h2 =>
     exec (C:=fun v H'=>∃b,e.ok b∧v=e.v b∧H'=e.box b++(Hb++(if (l.setIfInBounds i true).getD i₀ false=true then H₁ else H))) hs h1 h2 (by rintro v H' a' w' F' ⟨b,h0,rfl,h1⟩ h3 h4;exact close h0 h1 h3 h4)
    by_cases hii:i=i₀
    ·rw[dm,if_pos hii] at hok;obtain⟨v,rfl,hg,hop⟩:=hok;have e1:(if (l.setIfInBounds i true).getD i₀ false=true then H₁ else H)=H₁:=if_pos ((hset i₀).2 (.inr hii.symm));have e2:(if l.getD i₀ false=true then H₁ else H)=H:=if_neg (by rw[←hii,hnot];simp);refine yields (by unfold Cy;rw[hg];trivial) ?_;rw[e2];refine(hop Hb).mono ?_;intro r H' hR;cases r with
     | val v'=>obtain⟨rfl,rfl⟩:=hR;exact⟨(0,0,.p .any),trivial,rfl,by rw[e1];rfl⟩
     | panic v'=>exact hR.elim
    rw[dm,if_neg hii] at hok;have heq:(if (l.setIfInBounds i true).getD i₀ false=true then H₁ else H)=(if l.getD i₀ false=true then H₁ else H):=by
     rw[hset2 i₀];simp[Ne.symm hii]
    have hok:VT P ops (if l.getD i₀ false=true then H₁ else H) o (τS ops (FI β 0 fb) τ i) e:=by
     split
     ·exact hok.2.1
     exact hok.1
    cases e with
    | val v=>exact yields (wants hok.1) ((hok.2 Hb).mono (by
      intro r H' hR;cases r with
      | val v'=>obtain⟨rfl,rfl⟩:=hR;exact⟨(0,0,.p .any),trivial,rfl,by rw[heq];rfl⟩
      | panic v'=>exact hR.elim))
    | new cs =>
     refine yields (by unfold Cy;rw[hok.1];trivial) ((hok.2 _).mono ?_);intro r H' hR;cases r with
     | val v'=>obtain⟨b,rfl,rfl⟩:=hR;exact⟨(b,0,.p .any),trivial,rfl,by rw[heq];rfl⟩
     | panic v'=>exact hR.elim
    | newv sz rows =>
     refine yields (by unfold Cy;rw[hok.1];trivial) ((hok.2 _).mono ?_);intro r H' hR;cases r with
     | val v'=>obtain⟨b,c,rfl,rfl⟩:=hR;exact⟨(b,c,.p .any),trivial,rfl,by rw[heq];rfl⟩
     | panic v'=>exact hR.elim
    | rel R =>
     refine yields (by unfold Cy;rw[hok.1];trivial) ((hok.2 _).mono ?_);intro r H' hR;cases r with
     | val v'=>obtain⟨h1,rfl⟩:=hR;exact⟨(0,0,v'),h1,rfl,by rw[heq];rfl⟩
     | panic v'=>exact hR.elim
    | skip =>
     obtain⟨j,want,d,hg,hj,hb⟩:=hok;have hw:Region.wanted o (yielded ops a.tmps)=false:=JV (S:=⟨n,τ',Hb++(if l.getD i₀ false=true then H₁ else H),D⟩) hs hg hj (by show du (τ' d) want;rw[hguard j want d hg hj];exact hb);unfold wpOpIn;simp only[ho,hw,Bool.false_eq_true,if_false];refine⟨fun _ _=>Au,close (b:=(0,0,.p .any)) Au (by rw[heq];rfl) ?_ .refl⟩;exact hs.put (fun t ht=>hdst i o t ho ht) ⟨Nat.le_refl _,fun _ _ _=>O,fun _ h _=>h⟩ hs.heap (by simp only[Ez.v,CF,Bz,undef];exact⟨[],rfl,rfl⟩)
   -- the first of the rest
   have hpre:∀j,j<i→¬(j<base.length∧j∈fl)→l.getD j false=true:=fun j hj hf=>hpred (Jy late hib hlt hj hf);have hie:i=base.length:=by
    rcases Nat.lt_or_ge base.length i with h | h
    ·have h1:=hpre base.length h (fun h=>Nat.lt_irrefl _ h.1);rw[hno base.length (Nat.le_refl _)] at h1;cases h1
    omega
   obtain⟨Hm,g1,g2,g3⟩:=(hE β hβ).2;have hl0:(if l.getD i₀ false=true then H₁ else H)=H₁:=if_pos (hpre i₀ Ar fun h=>hi1 h.2);rw[hl0] at hs ht;have hp2:(Hb++H₁).Perm (Hm i):=by
    rw[hie,g1];refine List.Perm.append_right H₁ (hp.trans (List.Perm.of_eq (W8 base 0 fun j hj=>?_)));rw[Nat.zero_add];by_cases hq:j∈fl
    ·exact .inr (flv j hq)
    exact .inl (hpre j Ar fun h=>hq h.2)
   refine goTail Hm g2 g3 hib (fun k hk=>⟨fun h=>?_,fun h=>by omega⟩) (fun k h1 h2=>hpre k Ar fun h=>h2 h.2) ⟨hs.size,hs.tmp,hs.heap.perm hp2,hs.defs⟩ { ht with keys:=fun o ho=>ht.keys o (hp2.mem_iff.2 ho) };rw[hno k hk] at h;cases h
  rcases Nat.lt_or_ge i base.length with hib | hib
  ·-- a value that floats
   have hif:i∈fl:=Classical.byContradiction fun hq=>by rw[hk2 i hib hq] at hnot;cases hnot
   obtain⟨v,hv⟩:=flv i hif;obtain⟨o',ho',hok⟩:=(hE β hβ).1 i hib;rw[ho] at ho';injection ho' with ho';subst ho';rw[hv,dm,if_neg (fun q:i=i₀=>hi1 (q▸hif))] at hok;refine exec (C:=fun v' H'=>v'=v∧H'=Hm m) hs (wants hok.1.1) ((hok.2.2 (by simpa using hif) v O (Hm m)).mono (by
    intro r H' hR;cases r with
    | val v'=>exact hR
    | panic v'=>exact hR.elim)) ?_
   rintro v' H' a' w' F' ⟨rfl,rfl⟩ h3 h4;rw[hI0];refine⟨hsz',β,put τ' o.dst v',F',Hm m,hβ,hdown',hτput (by rw[D9 β Ar,(hf1 i hib).2,hv];rfl),h3,ht.trans hs₀.heap.bd h4,.inr ⟨m,Hm,g2,g3,hm1,hm2,fun k hk=>?_,fun k h1 h2=>(hset k).2 (.inl (hk2 k h1 h2)),O⟩⟩;rw[hset k,hk1 k hk];exact⟨fun h=>h.resolve_right Ar,.inl⟩
  have him:i=m:=by
   rcases Nat.lt_trichotomy i m with h | h | h
   ·rw[(hk1 i hib).2 h] at hnot;cases hnot
   ·exact h
   have:=hpred (Jy late (by omega:base.length≤i) hlt h (fun h=>by omega));have:=(hk1 m hm1).1 this;omega
  subst him;exact goTail Hm g2 g3 hib hk1 hk2 hs ht
 ·intro l a w hI hr;rw[hI0] at hI;obtain⟨hsz,β,τ',F,Hx,hβ,hdown,hτ,hs,ht,hI⟩:=hI;have hall:∀i,i<ops.size→l.getD i false=true:=by
   intro i
   induction i using Nat.strongRecOn with
   | _ i ih =>
    intro hi;cases hq:l.getD i false with
    | true=>rfl
    | false =>
     have ho:ops[i]?=some ops[i]:=Array.getElem?_eq_getElem hi;have:i∈Region.ready .any ops l:=by
      refine mem_ready.2 ⟨?_,ops[i],ho,?_⟩
      ·have:i<l.size:=by omega
       simp[this] at hq ⊢;exact hq
      intro e he hb;have hj:e.on∈D6 ops[i]:=by
       simp only[D6,List.mem_map,List.mem_filter];exact⟨e,⟨by simpa using he,hb⟩,rfl⟩
      have hlt:=c0 i _ _ ho hj;exact ih e.on hlt Ar
     rw[hr] at this;cases this
  have hτe:τ'=τS ops (FI β 0 fb) τ ops.size:=by
   funext t;have h2:=LZ (hd β) ops.size (Nat.le_refl _) t;by_cases hw:∃(k:Nat) (o':Oper),ops[k]?=some o'∧o'.dst=some t
   ·obtain⟨k,o',ho',hk⟩:=hw;have hlt:k<ops.size:=by
     rcases Nat.lt_or_ge k ops.size with h | h
     ·exact h
     simp[Array.getElem?_eq_none h] at ho'
    rw[(hτ t).1 k o' ho' hk (hall k hlt),h2.1 k o' ho' hk hlt]
   rw[(hτ t).2 fun k o' h1 h2 _=>hw ⟨k,o',h1,h2⟩,h2.2 fun k o' h1 h2 _=>hw ⟨k,o',h1,h2⟩]
  have fin:∀Hy:List BL,Hx.Perm Hy→Q .normal ⟨n,τS ops (FI β 0 fb) τ ops.size,Hy,D⟩→post F₀ H w₀ Q .normal a w:=fun Hy hp hq =>
   ⟨.normal,_,F,hq,rfl,⟨by exact hs.size,by rw[←hτe];exact hs.tmp,hs.heap.perm hp,hs.defs⟩,{ ht with keys:=fun o ho=>ht.keys o (hp.mem_iff.2 ho) }⟩
  rcases hI with ⟨Hb,rfl,hno,hp⟩ | ⟨m,Hm,g2,g3,hm1,hm2,hk1,hk2,rfl⟩
  ·have hbs:base.length=ops.size:=by
    rcases Nat.lt_or_ge base.length ops.size with h | h
    ·have:=hall base.length h;rw[hno base.length (Nat.le_refl _)] at this;cases this
    omega
   obtain⟨Hm,g1,g2,g3⟩:=(hE β hβ).2;refine fin (Hm ops.size) ?_ g3;rw[←hbs,g1,if_pos (hall i₀ Ar)];exact List.Perm.append_right H₁ (hp.trans (List.Perm.of_eq (T5 base 0 fun j _ hj=>hall j Ar)))
  have hms:m=ops.size:=by
   rcases Nat.lt_or_ge m ops.size with h | h
   ·have:=(hk1 m hm1).1 (hall m h);omega
   omega
  subst hms;exact fin _ (List.Perm.refl _) g3
 ·obtain⟨β0,hβ0⟩:=Zt.pick base hne;rw[hI0];refine⟨by simp,β0,τ,F₀,H,hβ0,?_,?_,hs₁,t₀,.inl ⟨[],by rw[if_neg (by by_cases h:i₀<ops.size<;>simp[h])];rfl,?_,?_⟩⟩
  ·intro i o j ho hi;by_cases h:i<ops.size<;>simp[h] at hi
  ·intro t;refine⟨fun k o ho hk hl=>?_,fun _=>O⟩;by_cases h:k<ops.size<;>simp[h] at hl
  ·intro k _;by_cases h:k<ops.size<;>simp[h]
  rw[Ni base 0 fun j=>by by_cases h:j<ops.size<;>simp[h]]
 have:=List.length_filter_le (fun b:Bool=> !b) (Array.replicate ops.size false).toList;simp at this ⊢
section
variable {P:Program}{ops:Array Oper}{H₀ H₁:List BL}{i₀:Nat}{fl:List Nat}{k:Nat}{τ:Nat→AV}{r:List Ez}{K:(Nat→AV)→List BL→Prop}{dst:Option Tmp}{op:Op}{ty:TypeId}{pos:String}{aft:Array Edge}{v:AV}
theorem GB (ho:ops[k]?=some ⟨dst,op,ty,pos,aft,none⟩) (hk:Nat.beq k i₀=false) (hf:fl.contains k=false) (h:∀Bs,Dh P ⟨dst,op,ty,pos,aft,none⟩ (ev τ) (Bs++H₀) v (Bs++H₀)) (h':∀Bs,Dh P ⟨dst,op,ty,pos,aft,none⟩ (ev τ) (Bs++H₁) v (Bs++H₁)) (next:E5 P ops H₀ H₁ i₀ fl (k+1) (put τ dst v) r K):E5 P ops H₀ H₁ i₀ fl k τ (.val v::r) K :=
 ⟨_,ho,by rw[dm,if_neg (fun e=>by rw[e] at hk;simp at hk)];exact⟨⟨trivial,h⟩,⟨trivial,h'⟩,fun q=>by rw[hf] at q;cases q⟩,fun _ _=>next⟩
theorem Bv (ho:ops[k]?=some ⟨dst,op,ty,pos,aft,none⟩) (hk:Nat.beq k i₀=false) (h:∀Bs,Dh P ⟨dst,op,ty,pos,aft,none⟩ (ev τ) Bs v Bs) (next:E5 P ops H₀ H₁ i₀ fl (k+1) (put τ dst v) r K):E5 P ops H₀ H₁ i₀ fl k τ (.val v::r) K :=
 ⟨_,ho,by rw[dm,if_neg (fun e=>by rw[e] at hk;simp at hk)];exact⟨⟨trivial,fun Bs=>h _⟩,⟨trivial,fun Bs=>h _⟩,fun _ v' e X=>by cases e;exact h X⟩,fun _ _=>next⟩
theorem KD (ho:ops[i₀]?=some ⟨dst,op,ty,pos,aft,none⟩) (h:∀Bs,Dh P ⟨dst,op,ty,pos,aft,none⟩ (ev τ) (Bs++H₀) v (Bs++H₁)) (next:E5 P ops H₀ H₁ i₀ fl (i₀+1) (put τ dst v) r K):E5 P ops H₀ H₁ i₀ fl i₀ τ (.val v::r) K :=
 ⟨_,ho,by rw[dm,if_pos rfl];exact⟨v,rfl,rfl,h⟩,fun _ _=>next⟩
theorem Ti {cs:List AV}(ho:ops[k]?=some ⟨dst,op,ty,pos,aft,none⟩) (hk:Nat.beq k i₀=false) (h:∀Bs,DH P ⟨dst,op,ty,pos,aft,none⟩ (ev τ) Bs (H5 cs Bs)) (next:∀b,E5 P ops H₀ H₁ i₀ fl (k+1) (put τ dst (.ptr b 0)) r (fun τ' Hs=>K τ' (.box b cs::Hs))):E5 P ops H₀ H₁ i₀ fl k τ (.new cs::r) K :=
 ⟨_,ho,by rw[dm,if_neg (fun e=>by rw[e] at hk;simp at hk)];exact⟨⟨rfl,fun Bs=>h _⟩,⟨rfl,fun Bs=>h _⟩,fun _ v' e=>by cases e⟩,fun b _=>next b.1⟩
theorem EJ {H:List BL}{l:List AV}{C:(Nat→AV)→List BL→Prop}(H':List BL) (ho:ops[k]?=some ⟨dst,op,ty,pos,aft,none⟩) (h:Dh P ⟨dst,op,ty,pos,aft,none⟩ (ev τ) H v H') (next:TV P ops (k+1) (put τ dst v) H' l C):TV P ops k τ H (v::l) C :=
 ⟨_,H',ho,rfl,h,next⟩
theorem J2 {H:List BL}{C:(Nat→AV)→List BL→Prop}(h:C τ H):TV P ops k τ H [] C:=h
theorem G6 {c:Call}{f:Operand}{fid:FuncId}{first caps A:List AV}{ρ:Operand→AV}{H Hs Hs':List BL}{g:Option (Nat×Bool)}{Bs:List BL}(is:List Nat) (hc:c.callee= .value f) (hf:(ρ f= .p (.fn fid)∧first=[]∧caps=[])∨ρ f= .fn (.func fid) first caps) (h:Bu P fid A Hs (HM v Hs')) (hg:FD H is Hs) (hn:is.Nodup) (hl:Hs'.length=Hs.length) (hA:Fl (first++c.args.toList.map ρ++caps) A) :
  Dh P ⟨dst,.call c,ty,pos,aft,g⟩ ρ (Bs++H) v (Bs++Ki H is Hs'):=by
 have hp:(Bs++H).Perm (Hs++(Bs++C0 is 0 H)):=by
  refine((DK hn hg).append_left Bs).trans ?_;rw[←List.append_assoc,←List.append_assoc];exact List.perm_append_comm.append_right _
 refine DH.permR (Fj (H:=Bs++H) hc hf hp (h.args hA) (.inl O)) ?_;rintro r H' ⟨Hs2,h1,rfl⟩;cases r with
 | val v' =>
  obtain⟨rfl,rfl⟩:=h1;refine⟨Bs++Ki H is Hs2,?_,O,O⟩;have hq:=(LY hn hg hl).append_left Bs;refine List.Perm.trans ?_ hq.symm;rw[←List.append_assoc,←List.append_assoc];exact List.perm_append_comm.append_right _
 | panic v'=>exact h1.elim
def gu (P:Program) (T:TypeId):Bool:=match P.underlying T with
 | some (.interface _)=>false
 | some _=>true
 | none=>false
theorem SL {P:Program}{T:TypeId}(h:gu P T=true):∃d,P.underlying T=some d∧(∀ms,d≠ .interface ms)∧(match d with | .interface _=>false | _=>true)=true:=by
 unfold gu at h;cases hd:P.underlying T with
 | none=>rw[hd] at h;cases h
 | some d =>
  rw[hd] at h;refine⟨d,O,fun ms e=>?_,?_⟩
  ·subst e;cases h
  cases d<;>first | rfl | exact h
theorem Ic {T:TypeId}{x:Operand}{ρ:Operand→AV}{H:List BL}{g:Option (Nat×Bool)}(hc:gu P T=true) (hx:ρ x= .agg []):Dh P ⟨dst,.makeInterface T x,ty,pos,aft,g⟩ ρ H (.p (.iface T .unit)) H :=
 CP fun F w E hH hE=>by
  have h1:=hE x Ac;rw[hx] at h1;simp only[CF] at h1;obtain⟨vs,h2,h3⟩:=h1;simp only[Bz] at h3;subst h3;obtain⟨d,hu,hd,_⟩:=SL hc;refine⟨.iface T (E x),?_,by simp only[CF,CK];exact⟨_,rfl,h2⟩⟩;cases d<;>simp_all [execOp,Instr.makeInterface,Sem.run_bind,run_underlying hu]
theorem Vm {T A:TypeId}{x:Operand}{ρ:Operand→AV}{H:List BL}{c:PV}{g:Option (Nat×Bool)}(hc:gu P A=true) (hx:ρ x= .p (.iface A c)):Dh P ⟨dst,.typeAssert x T A true,ty,pos,aft,g⟩ ρ H (.tup [.p c,.p (.bool true)]) H:=by
 obtain⟨d,hu,_,hd⟩:=SL hc;exact P3 hu (by cases d<;>first | rfl | exact hd) hx
theorem KA (h:K τ []):E5 P ops H₀ H₁ i₀ fl k τ [] K:=h
end
def fY (P:Program) (ops:Array Oper) (H:List BL) (u:AV) (i₀ k:Nat) (o:Oper) (τ:Nat→AV) (e:Ez):Prop :=
 if k=i₀ then o.guard=none∧∀Bs,DH P o (ev τ) (Bs++H) (fun r _=>r= .panic u) else L5 ops i₀ k=true∨VT P ops H o τ e
def E7 (P:Program) (ops:Array Oper) (H:List BL) (u:AV) (i₀:Nat):Nat→(Nat→AV)→List Ez→Prop
 | _,τ,[]=>True
 | k,τ,e::r=>∃o,ops[k]?=some o∧fY P ops H u i₀ k o τ e∧∀b,e.ok b→E7 P ops H u i₀ (k+1) (put τ o.dst (e.v b)) r
theorem E7.facts {P:Program}{ops:Array Oper}{H₀:List BL}{τ:Nat→AV}{base:List Ez}{u:AV}{i₀:Nat}(β:Nat→BV):∀(r:List Ez) (k:Nat) (τk:Nat→AV),base.drop k=r→k+r.length=base.length→τk=τS ops (FI β 0 base) τ k→E7 P ops H₀ u i₀ k τk r→(∀j,k≤j→j<base.length→(base.getD j .skip).ok (β j)) →
  (∀j,k≤j→j<base.length→∃o,ops[j]?=some o∧fY P ops H₀ u i₀ j o (τS ops (FI β 0 base) τ j) (base.getD j .skip))
 | [],k,τk,hd,hk,ht,h,hβ=>by
  simp only[List.length_nil,Nat.add_zero] at hk;subst hk;exact fun j h1 h2=>by omega
 | e::r,k,τk,hd,hk,ht,h,hβ=>by
  obtain⟨o,ho,hok,hn⟩:=h;simp only[List.length_cons] at hk;have hb:base.getD k .skip=e:=by
   have:(base.drop k)[0]?=some e:=by rw[hd];rfl
   rw[List.getElem?_drop] at this;rw[List.getD_eq_getElem?_getD,show k=k+0 by omega,this];rfl
  have hd2:base.drop (k+1)=r:=by
   rw[←List.drop_drop,hd];rfl
  have h1:=E7.facts (τ:=τ) (base:=base) β r (k+1) _ hd2 Ar (by simp only[τS,ho,Option.bind_some];rw[D9 β Ar,hb,←ht]) (hn (β k) (by have:=hβ k (Nat.le_refl _) Ar;rwa [hb] at this)) (fun j h1 h2=>hβ j Ar h2);intro j hj hl;by_cases e2:j=k
  ·subst e2;exact⟨o,ho,by rw[hb,←ht];exact hok⟩
  exact h1 j Ar hl
theorem IJ {P:Program}{r:Option Nat}{ops:Array Oper}{id n:Nat}{τ:Nat→AV}{H:List BL}{D:List EF}{Q:Cu→Bt→Prop}(u:AV) (i₀:Nat) (base:List Ez) (hm:P.follows .mixedOrders=true)
  (he:base.length=ops.size) (chk:NA ops n []=true) (hi0:Nat.blt i₀ base.length=true) (hne:Zt base) (hQ:∀τ' H',Q (.panic u) ⟨n,τ',H',D⟩)
  (h:E7 P ops H u i₀ 0 τ base):IT P r (.region id ops true) ⟨n,τ,H,D⟩ Q:=by
 intro F₀ a₀ w₀ hs₀;rw[Nat.blt_eq] at hi0;refine wpIn_region_any hm ?_;have same:DM F₀ w₀ F₀ { w₀ with drawn:=w₀.drawn+1 }:=⟨Nat.le_refl _,fun _ _ _=>rfl,fun _ h _=>h⟩;have t₀:Trans F₀ H w₀ F₀ H { w₀ with drawn:=w₀.drawn+1 } :=
  ⟨Nat.le_refl _,fun _ _ _=>rfl,fun _ h _=>h,fun _ h=> .inl h,fun o ho b hb=> .inl ⟨o,ho,hb⟩,rfl,rfl,rfl⟩
 have hs₁:DX F₀ ⟨n,τ,H,D⟩ a₀ { w₀ with drawn:=w₀.drawn+1 } :=
  ⟨hs₀.size,fun t=>CF.mono same _ _ (hs₀.tmp t),hs₀.heap.stable' same (fun _ h=>h) (fun _ _ _ _=>rfl) hs₀.heap.bd,Ev.mono same _ _ hs₀.defs⟩
 obtain⟨hdst,c0,c1,c2,_⟩:=Js chk;have hd:∀β,NY P ops n (fun _=>False) τ H (FI β 0 base):=fun β =>
  ⟨hdst,fun _ _ _ h=>h.elim,c0,c1,c2,fun i k _ _ h _=>(by rw[UB] at h;cases h),fun i e ob v _ _ _ h _ _=>absurd h (Qq β base 0 i ob v)⟩
 have hE:∀β,(∀j,j<base.length→(base.getD j .skip).ok (β j))→∀j,j<base.length→∃o,ops[j]?=some o∧fY P ops H u i₀ j o (τS ops (FI β 0 base) τ j) (base.getD j .skip):=fun β hβ j hj =>
  E7.facts (base:=base) β base 0 τ As As rfl h (fun j _ h=>hβ j h) j (Nat.zero_le _) hj
 obtain⟨I,hI0⟩:∃I:Array Bool→Act→World→Prop,I=fun l a w=>l.size=ops.size∧l.getD i₀ false=false∧∃β τ' F Hb,(∀j,j<base.length→(base.getD j .skip).ok (β j))∧Down ops (fun i=>l.getD i false=true)∧F7 ops (FI β 0 base) τ (fun i=>l.getD i false=true) τ'∧DX F ⟨n,τ',Hb++H,D⟩ a w∧Trans F₀ H w₀ F (Hb++H) w ∧
  Hb.Perm (Vr β (fun k=>l.getD k false) 0 base):=⟨_,rfl⟩
 refine Jj (I:=I) (fun l a w h=>by rw[hI0] at h;exact h.1) ?_ ?_ _ _ _ _ ?_ ?_
 ·intro l a w hI i hi;rw[hI0] at hI;obtain⟨hsz,hl0,β,τ',F,Hb,hβ,hdown,hτ,hs,ht,hp⟩:=hI;obtain⟨hun,o,ho,hall⟩:=mem_ready.1 hi;have hlt:i<ops.size:=by
   rcases Nat.lt_or_ge i ops.size with h | h
   ·exact h
   simp[Array.getElem?_eq_none h] at ho
  have hil:i<l.size:=by omega
  have hnot:l.getD i false=false:=by
   have:l[i]=false:=by simpa [hil] using hun
   simp[hil,this]
  have hr:∀j∈D6 o,l.getD j false=true:=by
   intro j hj;simp only[D6,List.mem_map,List.mem_filter] at hj;obtain⟨e,⟨he,hb⟩,rfl⟩:=hj;exact hall e (by simpa using he) hb
  have hset:∀k,(l.setIfInBounds i true).getD k false=true↔(l.getD k false=true∨k=i):=by
   intro k;by_cases hk:k=i
   ·subst hk;simp[hil]
   simp[Array.getElem?_setIfInBounds_ne (Ne.symm hk),hk]
  have hset2:∀k,(l.setIfInBounds i true).getD k false=(l.getD k false||k==i):=by
   intro k;by_cases hk:k=i
   ·subst hk;simp[hil]
   simp[Array.getElem?_setIfInBounds_ne (Ne.symm hk),hk]
  have hsz':(l.setIfInBounds i true).size=ops.size:=by simp[hsz]
  have hdown':Down ops (fun k=>(l.setIfInBounds i true).getD k false=true):=by
   intro k o' j ho' hk hj;rcases (hset k).1 hk with h | h
   ·exact(hset j).2 (.inl (hdown k o' j ho' h hj))
   subst h;rw[ho] at ho';injection ho' with ho';subst ho';exact(hset j).2 (.inl (hr j hj))
  have hlook:∀t∈looks ops o,τ' t=τS ops (FI β 0 base) τ i t:=fun t ht=>Jq (hd β) hdown hτ ho (by rw[hnot];decide) hr ht;have hops:∀x∈o.op.operands.toList,ev τ' x=ev (τS ops (FI β 0 base) τ i) x:=by
   intro x hx;cases x with
   | tmp t=>exact hlook t (List.mem_append_left _ (List.mem_filterMap.2 ⟨.tmp t,hx,rfl⟩))
   | _=>rfl
  have hguard:∀j want d,o.guard=some (j,want)→(ops[j]?).bind (·.dst)=some d→τ' d=τS ops (FI β 0 base) τ i d:=by
   intro j want d hg hj;refine hlook d (List.mem_append_right _ ?_);simp[hg,hj]
  have hpred:∀{a},Pred ops a i→l.getD a false=true:=by
   have:∀{a b},Pred ops a b→b=i→l.getD a false=true:=by
    intro a b hab
    induction hab with
    | base ho' hj=>intro e;subst e;rw[ho] at ho';injection ho' with ho';subst ho';exact hr _ hj
    | trans p1 _ _ ih2=>intro e;exact hdown.pred p1 (ih2 e)
   exact fun {a} h=>this h O
  have wants:Cy ops ⟨0,τS ops (FI β 0 base) τ i,[],[]⟩ o→Cy ops ⟨n,τ',Hb++H,D⟩ o:=by
   intro h;unfold Cy at *;cases hg:o.guard with
   | none=>simp[hg]
   | some jw =>
    obtain⟨j,want⟩:=jw;simp only[hg] at h ⊢;obtain⟨d,h1,h2⟩:=h;exact⟨d,h1,by rw[←h2];exact hguard j want d hg h1⟩
  -- one operation
  have exec:∀{C:EG→List BL→Prop},Cy ops ⟨n,τ',Hb++H,D⟩ o→DH P o (ev (τS ops (FI β 0 base) τ i)) (Hb++H) C→(∀v H' a' w' F',C (.val v) H'→DX F' ⟨n,put τ' o.dst v,H',D⟩ a' w'→Trans F (Hb++H) w F' H' w'→I (l.setIfInBounds i true) a' w')→(∀v H',C (.panic v) H'→v=u)→wpOpIn (W r) 0 P ops (post F₀ H w₀ Q) i (fun a' w'=>I (l.setIfInBounds i true) a' w') a w:=by
   intro C hwant hop close hpv;unfold wpOpIn;simp only[ho,HW hs hwant,if_true];have hw:=hop r F _ a w hs rfl (fun x hx=>hops x hx) (fun t ht=>hdst i o t ho ht);unfold Oper.wpIn at *;refine⟨hw.1,?_⟩;replace hw:=hw.2;have pans:∀{e a' w'},(∃v H' F' u',C (.panic v) H'∧e= .panic [{ v:=u',recovered:=false }]∧CF F' w' v u'∧DX F' ⟨n,τ',H',D⟩ a' w'∧Trans F (Hb++H) w F' H' w')→post F₀ H w₀ Q e a' w':=by
    rintro e a' w' ⟨v,H',F',u',h1,rfl,h2,h3,h4⟩;have:=hpv v H' h1;subst this;exact⟨.panic v,_,F',hQ τ' H',⟨u',O,h2⟩,h3,ht.trans hs₀.heap.bd h4⟩
   generalize (o.semAt (W r).round a.eval).run P w=rr at *;cases rr with
   | ok nx w' =>
    cases nx<;>simp only[Oper.uponIn] at hw ⊢
    case value u=>obtain⟨v',H'',F',h1,h3,h4⟩:=hw;exact close _ _ _ _ _ h1 h3 h4
    case skip=>obtain⟨v',H'',F',h1,h3,h4⟩:=hw;exact close _ _ _ _ _ h1 h3 h4
    case defer d=>obtain⟨v',H'',F',h1,h3,h4⟩:=hw;exact close _ _ _ _ _ h1 h3 h4
    case enter f args =>
     refine⟨hw.1,hw.2.mono fun e w'' he=>?_⟩;cases e with
     | returned u=>obtain⟨v',H'',F',h1,h3,h4⟩:=he;exact close _ _ _ _ _ h1 h3 h4
     | panicked c=>exact pans he
     | outgrown=>obtain⟨_,_,_,_,_,_,_,h,_⟩:=he;cases h
    case row row args=>exact⟨hw.1,hw.2.mono fun u w'' h=>by obtain⟨v',H'',F',h1,h3,h4⟩:=h;exact close _ _ _ _ _ h1 h3 h4⟩
    case round l' f tmps assign body =>
     refine⟨hw.1,hw.2.mono fun e w'' he=>?_⟩;cases e with
     | returned u=>obtain⟨v',H'',F',h1,h3,h4⟩:=he;exact close _ _ _ _ _ h1 h3 h4
     | panicked c=>exact pans he
     | outgrown=>obtain⟨_,_,_,_,_,_,_,h,_⟩:=he;cases h
   | halt x w' =>
    cases x<;>simp only[Oper.uponIn] at hw ⊢
    case panic u=>exact pans hw
  have hib:i<base.length:=by omega
  obtain⟨o',ho',hok⟩:=hE β hβ i hib;rw[ho] at ho';injection ho' with ho';subst ho';by_cases hii:i=i₀
  ·rw[fY,if_pos hii] at hok;exact exec (by unfold Cy;rw[hok.1];trivial) (hok.2 Hb) (fun v H' a' w' F' h=>by cases h) (fun v H' h=>by injection h)
  rw[fY,if_neg hii] at hok;rcases hok with hok | hok
  ·exact absurd (hpred (Eb hok)) (by rw[hl0];simp)
  have hl2:(l.setIfInBounds i true).getD i₀ false=false:=by rw[hset2 i₀,hl0];simp[Ne.symm hii]
  generalize hbe:base.getD i .skip=e at hok;have close:∀{a' w' F' b H'},e.ok b→H'=e.box b++(Hb++H)→DX F' ⟨n,put τ' o.dst (e.v b),H',D⟩ a' w'→Trans F (Hb++H) w F' H' w'→I (l.setIfInBounds i true) a' w':=by
   intro a' w' F' b H' hb0 hH h3 h4;subst hH;rw[hI0]
   skip
   refine⟨hsz',hl2,fun j=>if j=i then b else β j,put τ' o.dst (e.v b),F',e.box b++Hb,(fun j hj=>by
    by_cases e3:j=i
    ·subst e3;simp only[if_true];rw[hbe];exact hb0
    simp only[if_neg e3];exact hβ j hj),hdown',?_,by rw[List.append_assoc];exact h3,by rw[List.append_assoc];exact ht.trans hs₀.heap.bd h4,?_⟩
   ·have hτ2:F7 ops (FI (fun j=>if j=i then b else β j) 0 base) τ (fun k=>l.getD k false=true) τ':=by
     intro t;refine⟨fun k o' a1 a2 a3=>?_,(hτ t).2⟩;have a4:l.getD k false=true:=a3;have hki:k≠i:=fun e=>by subst e;rw[hnot] at a4;cases a4
     rw[(hτ t).1 k o' a1 a2 a3];rcases Nat.lt_or_ge k base.length with hk | hk
     ·rw[D9 _ hk,D9 _ hk,if_neg hki]
     rw[I7 _ hk,I7 _ hk]
    have hτ3:=hτ2.put (hd _) ho;rw[D9 _ Ar,if_pos rfl,hbe] at hτ3;intro t;exact⟨fun k o' a1 a2 a3=>(hτ3 t).1 k o' a1 a2 ((hset k).1 a3),fun hn=>(hτ3 t).2 fun k o' a1 a2 a3=>hn k o' a1 a2 ((hset k).2 a3)⟩
   have h1:=Pm (β:=β) (l:=fun k=>l.getD k false) (i:=i) (b:=b) hnot base 0 (Nat.zero_le _) Ar;rw[Nat.sub_zero,hbe] at h1;refine(hp.append_left _).trans (h1.trans (List.Perm.of_eq ?_));exact Jm base 0 fun j _=>⟨(hset2 j).symm,fun _=>O⟩
  have yields:Cy ops ⟨n,τ',Hb++H,D⟩ o→DH P o (ev (τS ops (FI β 0 base) τ i)) (Hb++H) (fun r H'=>match r with | .val v=>∃b,e.ok b∧v=e.v b∧H'=e.box b++(Hb++H) | .panic _=>False)→wpOpIn (W r) 0 P ops (post F₀ H w₀ Q) i (fun a' w'=>I (l.setIfInBounds i true) a' w') a w:=fun h1 h2 =>
   exec (C:=fun r H'=>match r with | .val v=>∃b,e.ok b∧v=e.v b∧H'=e.box b++(Hb++H) | .panic _=>False) h1 h2 (by rintro v H' a' w' F' ⟨b,h0,rfl,h1⟩ h3 h4;exact close h0 h1 h3 h4) (fun _ _ h=>h.elim)
  cases e with
  | val v=>exact yields (wants hok.1) ((hok.2 Hb).mono (by
    intro r H' hR;cases r with
    | val v'=>obtain⟨rfl,rfl⟩:=hR;exact⟨(0,0,.p .any),trivial,rfl,rfl⟩
    | panic v'=>exact hR.elim))
  | new cs =>
   refine yields (by unfold Cy;rw[hok.1];trivial) ((hok.2 _).mono ?_);intro r H' hR;cases r with
   | val v'=>obtain⟨b,rfl,rfl⟩:=hR;exact⟨(b,0,.p .any),trivial,rfl,rfl⟩
   | panic v'=>exact hR.elim
  | newv sz rows =>
   refine yields (by unfold Cy;rw[hok.1];trivial) ((hok.2 _).mono ?_);intro r H' hR;cases r with
   | val v'=>obtain⟨b,c,rfl,rfl⟩:=hR;exact⟨(b,c,.p .any),trivial,rfl,rfl⟩
   | panic v'=>exact hR.elim
  | rel R =>
   refine yields (by unfold Cy;rw[hok.1];trivial) ((hok.2 _).mono ?_);intro r H' hR;cases r with
   | val v'=>obtain⟨h1,rfl⟩:=hR;exact⟨(0,0,v'),h1,rfl,rfl⟩
   | panic v'=>exact hR.elim
  | skip =>
   obtain⟨j,want,d,hg,hj,hb⟩:=hok;have hw:Region.wanted o (yielded ops a.tmps)=false:=JV (S:=⟨n,τ',Hb++H,D⟩) hs hg hj (by show du (τ' d) want;rw[hguard j want d hg hj];exact hb);unfold wpOpIn;simp only[ho,hw,Bool.false_eq_true,if_false];refine⟨fun _ _=>Au,close (b:=(0,0,.p .any)) Au O ?_ .refl⟩;exact hs.put (fun t ht=>hdst i o t ho ht) ⟨Nat.le_refl _,fun _ _ _=>O,fun _ h _=>h⟩ hs.heap (by simp only[Ez.v,CF,Bz,undef];exact⟨[],rfl,rfl⟩)
 ·intro l a w hI hr;rw[hI0] at hI;obtain⟨hsz,hl0,β,τ',F,Hb,hβ,hdown,hτ,hs,ht,hI⟩:=hI;have hall:∀i,i<ops.size→l.getD i false=true:=by
   intro i
   induction i using Nat.strongRecOn with
   | _ i ih =>
    intro hi;cases hq:l.getD i false with
    | true=>rfl
    | false =>
     have ho:ops[i]?=some ops[i]:=Array.getElem?_eq_getElem hi;have:i∈Region.ready .any ops l:=by
      refine mem_ready.2 ⟨?_,ops[i],ho,?_⟩
      ·have:i<l.size:=by omega
       simp[this] at hq ⊢;exact hq
      intro e he hb;have hj:e.on∈D6 ops[i]:=by
       simp only[D6,List.mem_map,List.mem_filter];exact⟨e,⟨by simpa using he,hb⟩,rfl⟩
      have hlt:=c0 i _ _ ho hj;exact ih e.on hlt Ar
     rw[hr] at this;cases this
  rw[hall i₀ Ar] at hl0;cases hl0
 ·obtain⟨β0,hβ0⟩:=Zt.pick base hne;rw[hI0];refine⟨by simp,by by_cases h:i₀<ops.size<;>simp[h],β0,τ,F₀,[],hβ0,?_,?_,hs₁,t₀,?_⟩
  ·intro i o j ho hi;by_cases h:i<ops.size<;>simp[h] at hi
  ·intro t;refine⟨fun k o ho hk hl=>?_,fun _=>O⟩;by_cases h:k<ops.size<;>simp[h] at hl
  rw[Ni base 0 fun j=>by by_cases h:j<ops.size<;>simp[h]]
 have:=List.length_filter_le (fun b:Bool=> !b) (Array.replicate ops.size false).toList;simp at this ⊢
section
variable {P:Program}{ops:Array Oper}{H:List BL}{u:AV}{i₀:Nat}{k:Nat}{τ:Nat→AV}{r:List Ez}{dst:Option Tmp}{op:Op}{ty:TypeId}{pos:String}{aft:Array Edge}{v:AV}
theorem CA (ho:ops[k]?=some ⟨dst,op,ty,pos,aft,none⟩) (hk:Nat.beq k i₀=false) (h:∀Bs,Dh P ⟨dst,op,ty,pos,aft,none⟩ (ev τ) (Bs++H) v (Bs++H)) (next:E7 P ops H u i₀ (k+1) (put τ dst v) r):E7 P ops H u i₀ k τ (.val v::r) :=
 ⟨_,ho,by rw[fY,if_neg (fun e=>by rw[e] at hk;simp at hk)];exact .inr ⟨trivial,h⟩,fun _ _=>next⟩
theorem Tl {cs:List AV}(ho:ops[k]?=some ⟨dst,op,ty,pos,aft,none⟩) (hk:Nat.beq k i₀=false) (h:∀Bs,DH P ⟨dst,op,ty,pos,aft,none⟩ (ev τ) Bs (H5 cs Bs)) (next:∀b,E7 P ops H u i₀ (k+1) (put τ dst (.ptr b 0)) r):E7 P ops H u i₀ k τ (.new cs::r) :=
 ⟨_,ho,by rw[fY,if_neg (fun e=>by rw[e] at hk;simp at hk)];exact .inr ⟨rfl,fun Bs=>h _⟩,fun b _=>next b.1⟩
theorem C8 {o:Oper}(ho:ops[k]?=some o) (hk:Nat.beq k i₀=false) (hp:L5 ops i₀ k=true) (next:E7 P ops H u i₀ (k+1) (put τ o.dst (.p .any)) r):E7 P ops H u i₀ k τ (.val (.p .any)::r) :=
 ⟨_,ho,by rw[fY,if_neg (fun e=>by rw[e] at hk;simp at hk)];exact .inl hp,fun _ _=>next⟩
theorem J5:E7 P ops H u i₀ k τ []:=trivial
theorem Jz {c:Call}{f:Operand}{fid:FuncId}{first caps A:List AV}{Hs:List BL}{α:Type}{mkv:α→AV}{mkp:Int→AV}{C:α→List BL→Prop}{x:Except Int α}{e:Int}(is:List Nat) (hx:x= .error e) (ho:ops[i₀]?=some ⟨dst,.call c,ty,pos,aft,none⟩) (hc:c.callee= .value f) (hf:(ev τ f= .p (.fn fid)∧first=[]∧caps=[])∨ev τ f= .fn (.func fid) first caps) (h:Bu P fid A Hs (KQ mkv mkp C x)) (hg:FD H is Hs) (hn:is.Nodup) (hA:Fl (first++c.args.toList.map (ev τ)++caps) A)
  (next:E7 P ops H (mkp e) i₀ (i₀+1) (put τ dst (.p .any)) r):E7 P ops H (mkp e) i₀ i₀ τ (.val (.p .any)::r):=by
 refine⟨_,ho,?_,fun _ _=>next⟩;rw[fY,if_pos rfl];refine⟨O,fun Bs=>?_⟩;have hp:(Bs++H).Perm (Hs++(Bs++C0 is 0 H)):=by
  refine((DK hn hg).append_left Bs).trans ?_;rw[←List.append_assoc,←List.append_assoc];exact List.perm_append_comm.append_right _
 refine DH.mono (Fj (H:=Bs++H) hc hf hp (h.args hA) (.inl O)) ?_;rintro r H' ⟨Hs',h1,rfl⟩;cases r with
 | val v'=>obtain⟨a,h2,_⟩:=h1;rw[hx] at h2;cases h2
 | panic v'=>obtain⟨e',h2,h3⟩:=h1;rw[hx] at h2;cases h2;rw[h3]
theorem FY {α:Type}(x:Except Int α):(∃e,x= .error e)∨∃a,x= .ok a:=by
 cases x with
 | error e=>exact .inl ⟨e,rfl⟩
 | ok a=>exact .inr ⟨a,rfl⟩
theorem J4 {fid:FuncId}{A:List AV}{Hs:List BL}{α:Type}{mkv:α→AV}{mkp:Int→AV}{G:α→List BL}{x:Except Int α}{a:α}(hx:x= .ok a) (h:Bu P fid A Hs (KQ mkv mkp (fun r H'=>H'=G r) x)):Bu P fid A Hs (HM (mkv a) (G a)) :=
 h.mono (by
  intro r H' h1;cases r with
  | val v=>obtain⟨b,h2,h3,h4⟩:=h1;rw[hx] at h2;cases h2;exact⟨h3,h4⟩
  | panic v=>obtain⟨e,h2,_⟩:=h1;rw[hx] at h2;cases h2)
end
section
variable {P:Program}{dst:Option Tmp}{ty:TypeId}{pos:String}{aft:Array Edge}{g:Option (Nat×Bool)}{ρ:Operand→AV}{H:List BL}{x y:Operand}
theorem Er {T e:TypeId}{len:Nat}{k:IntKind}{i:Int}{j:Nat}{cs:List AV}{v:AV}(hu:P.underlying T=some (.array len e)) (ht:Dp P e=some (false,1)) (hx:ρ x= .agg cs) (hy:ρ y= .p (.int k i)) (hi:i=j) (hj:cs[j]?=some v) (hl:j<len) :
  Dh P ⟨dst,.index T x y,ty,pos,aft,g⟩ ρ H v H :=
 CP fun F w E hH hE=>by
  have h1:=hE x Ac;have h2:=hE y Ac;rw[hx] at h1;rw[hy] at h2;simp only[CF,CK] at h1 h2;obtain⟨vs,h3,h4⟩:=h1;obtain⟨u,h5,h6⟩:=h4.get hj;obtain⟨d,hd,hr,hs⟩:=E1 ht;obtain⟨inf,hinf,hsz⟩:=Tu ht;refine⟨u,?_,h6⟩;have hso:(sizeOf e).run P w= .ok 1 w:=by
   rw[run_sizeOf w hinf];simp[Program.cellsOf,hinf,hsz]
  have hag:=Lo hd false hr w;subst hi;have h7:(⟨vs⟩:Array Value)[j*1]?=some u:=by rw[Nat.mul_one];simpa using h5
  have h8:(0:Int)≤(j:Int)∧(j:Int)<(len:Int):=by omega
  simp[execOp,Instr.index,h2,h3,asIntOf,Sem.run_bind,run_underlying hu,h8,hso,part,hag];rw[show vs[j]?=some u from h5];simp;intro hlj;omega
theorem Gg {T U:TypeId}{b:Bool}(hT:(match P.underlying T with | some (.func _ _ _)=>true | _=>false)=true) (hx:(ρ x= .p .nilFn∧b=true)∨(∃f first caps,ρ x= .fn f first caps)∧b=false) (hy:ρ y= .p .nilFn):Dh P ⟨dst,.binOp .eql T x y U,ty,pos,aft,g⟩ ρ H (.p (.bool b)) H :=
 CP fun F w E hH hE=>by
  have e1:=hE x Ac;have e2:=hE y Ac;rw[hy] at e2;simp only[CF,CK] at e2;obtain⟨a1,a2,a3,hu⟩:∃a1 a2 a3,P.underlying T=some (.func a1 a2 a3):=by
   cases hd:P.underlying T with
   | none=>rw[hd] at hT;cases hT
   | some d =>
    rw[hd] at hT;cases d<;>first | exact⟨_,_,_,rfl⟩ | cases hT
  refine⟨.bool b,?_,by simp[CF,CK]⟩;have hg:∀a,(eqGuard .eql T x y a .nilFunc).run P w= .ok () w:=by
   intro a;unfold eqGuard;cases a<;>rfl
  rcases hx with ⟨hx,rfl⟩ | ⟨⟨f,first,caps,hx⟩,rfl⟩
  ·rw[hx] at e1;simp only[CF,CK] at e1;have hq:(Op.equal T .nilFunc .nilFunc).run P w= .ok true w:=by
    have h:∀d:Nat,(Op.equalIn (d+1) T .nilFunc .nilFunc).run P w= .ok true w:=fun d=>by simp[Op.equalIn,run_underlying hu]
    simp[Op.equal,Op.maxDepth,h 9999]
   simp[execOp,Sem.run_bind,hg,e1,e2,binOp,hq]
  rw[hx] at e1;simp only[CF] at e1;obtain⟨fs,cs,e1,_,_⟩:=e1;have hq:(Op.equal T (.func f ⟨fs⟩ ⟨cs⟩) .nilFunc).run P w= .ok false w:=by
   have h:∀d:Nat,(Op.equalIn (d+1) T (.func f ⟨fs⟩ ⟨cs⟩) .nilFunc).run P w= .ok false w:=fun d=>by simp[Op.equalIn,run_underlying hu]
   simp[Op.equal,Op.maxDepth,h 9999]
  simp[execOp,Sem.run_bind,hg,e1,e2,binOp,hq]
theorem RF {T:TypeId}{bl:Bool}{b o:Nat}(hT:Dp P T=some (bl,0)) (hx:ρ x= .ptr b o) (hy:EP (ρ y)=some []):Dh P ⟨dst,.store T x y,ty,pos,aft,g⟩ ρ H (.p .any) H :=
 Ha fun F w E hH hE=>by
  have e1:=hE x Ac;have e2:=hE y Ac;rw[hx] at e1;simp only[CF] at e1;obtain⟨ws,hc,hl⟩:=JX e2 hy;simp only[Bz] at hl;subst hl;obtain⟨d,hu,hd,hz⟩:=E1 hT;refine⟨w,_,F,?_,⟨O,O⟩,.refl,hH⟩;cases hq:P.info? T with
  | none=>simp[hq] at hz
  | some i =>
   have hs:i.size=0:=by simpa [hq] using hz
   simp[execOp,Instr.storeAt,e1,Instr.sureAddr,Sem.run_bind,Sem.run_pure,Result.andThen_ok,storeVar,sizeOf,typeInfo,hq,hc,hs,storeCells]
end
theorem UK {P:Program}{ops:Array Oper}{r:Option Nat}{Q:Cu→Bt→Prop}{k n:Nat}{τ:Nat→AV}{H Hs:List BL}{D:List EF}{dst:Option Tmp}{ty:TypeId}{pos:String}{aft:Array Edge}{c:Call}{f:Operand}{fid:FuncId}{first caps A:List AV}{v:AV}(is:List Nat) (ho:ops[k]?=some ⟨dst,.call c,ty,pos,aft,none⟩) (hd:GA dst n=true)
  (hc:c.callee= .value f) (hf:(ev τ f= .p (.fn fid)∧first=[]∧caps=[])∨ev τ f= .fn (.func fid) first caps) (h:Bu P fid A Hs (HM v [])) (hg:FD H is Hs) (hn:is.Nodup) (hA:Fl (first++c.args.toList.map (ev τ)++caps) A)
  (next:AL P r ops (k+1) ⟨n,put τ dst v,C0 is 0 H,D⟩ Q):AL P r ops k ⟨n,τ,H,D⟩ Q :=
 IL ho hd hc hf (DK hn hg) (h.args hA) (.inl rfl) (fun v' H' h'=>by obtain⟨h1,h2⟩:=h';subst h1;subst h2;exact next) (fun _ _ h=>h.elim)
structure eB (P:Program) where
 fd:Nat→Option (List (Nat×Nat))
 ty:Nat→Option (Bool×Nat)
 zr:Nat→Option (List AV)
 hfd:∀T l,fd T=some l→fieldsOf P T=some l
 hty:∀T l,ty T=some l→Dp P T=some l
 hzr:∀T l,zr T=some l→∃z,zeroOf P T=some z∧z.cells.toList.map GO=l
def pQ (op:BinOp) (m n:Int):Option Bool :=
 match op with | .eql=>some (m==n) | .neq=>some (m !=n) | .lss=>some (decide (m<n)) | .leq=>some (decide (m≤n)) | .gtr=>some (decide (m > n)) | .geq=>some (decide (m≥n)) | _=>none
def m9 (op:BinOp) (m n:Int):Option Int :=
 match op with | .add=>some (m+n) | .sub=>some (m - n) | .mul=>some (m*n) | _=>none
abbrev l9:=AV×List BL×List Nat×Prop
def hG (op:BinOp) (H:List BL) (is:List Nat) (C:Prop):AV→AV→Option l9
 | .p (.int k m),.p (.int k' n) =>
  match pQ op m n with
  | some b=>some (.p (.bool b),H,is,C∧k=k')
  | none =>
   match k,k',m9 op m n with
   | .i64,.i64,some r=>some (.p (.int .i64 r),H,is,(C∧ -9223372036854775808≤r)∧r≤9223372036854775807)
   | _,_,_=>none
 | _,_=>none
def aJ (H:List BL) (is:List Nat) (C:Prop) (t:Bool×Nat):AV→Option l9
 | .ref cells =>
  bif t.1 then some (.agg (cells.map .p),H,is,C∧cells.length=t.2)
  else match cells with
   | c::_=>some (.p c,H,is,C)
   | []=>none
 | .ptr b o =>
  match is with
  | []=>none
  | i::is =>
   match H[i]? with
   | some (.box b' cs) =>
    bif t.1 then (match o with | 0=>some (.agg cs,H,is,(C∧b'=b)∧cs.length=t.2) | _+1=>none)
    else (match cs[o]? with | some v=>some (v,H,is,C∧b'=b) | none=>none)
   | _=>none
 | _=>none
def Xm (H:List BL) (is:List Nat) (C:Prop) (t:Bool×Nat) (y:AV):AV→Option l9
 | .ptr b o =>
  match is with
  | i::w::is =>
   match H[i]?,EP y,t.2 with
   | some (.box b' cs),some us,n+1 =>
    match w with
    | 0=>some (.p .any,H.set i (.box b (splice cs o us)),is,(((C∧b'=b)∧us.length=n+1)∧Nat.ble (o+(n+1)) cs.length=true)∧us.all one=true)
    | _+1=>match o with
     | 0=>some (.p .any,H.set i (.box b us),is,(((C∧b'=b)∧us.length=n+1)∧cs.length=n+1)∧us.all one=true)
     | _+1=>none
   | _,_,_=>none
  | _=>none
 | _=>none
def Xn (H:List BL) (is:List Nat) (C:Prop) (off:Nat):AV→Option l9
 | .ptr b o=>some (.ptr b (o+off),H,is,C)
 | .ref cells=>some (.ref (cells.drop off),H,is,C)
 | _=>none
def eb {P:Program}(tb:eB P) (ρ:Operand→AV) (H:List BL) (is:List Nat) (C:Prop):Op→Option l9
 | .move x=>some (ρ x,H,is,C)
 | .assign x=>some (ρ x,H,is,C)
 | .pick x y z=>match ρ x with | .p (.bool b)=>some (bif b then ρ y else ρ z,H,is,C) | _=>none
 | .extract x i=>match ρ x with | .tup xs=>(match xs[i]? with | some v=>some (v,H,is,C) | none=>none) | _=>none
 | .nilCheck x=>match ρ x with | .ptr b o=>some (.ptr b o,H,is,C) | _=>none
 | .makeFunc fn first caps=>some (.fn fn (first.toList.map ρ) (caps.toList.map ρ),H,is,C)
 | .unOp .not T x=>match ρ x with | .p (.bool b)=>some (.p (.bool (!b)),H,is,C) | _=>none
 | .binOp op T x y U=>hG op H is C (ρ x) (ρ y)
 | .fieldAddr T x i=>match tb.fd T with
  | some lay=>(match lay[i]? with | some (off,_+1)=>Xn H is C off (ρ x) | _=>none)
  | none=>none
 | .build T parts=>match tb.fd T,tb.zr T with
  | some lay,some z=>(match FH (lay[·]?) z (parts.toList.map fun p=>(p.1,ρ p.2)) with | some cs=>some (.agg cs,H,is,C) | none=>none)
  | _,_=>none
 | .load T x=>match tb.ty T with | some t=>aJ H is C t (ρ x) | none=>none
 | .store T x y=>match tb.ty T with | some t=>Xm H is C t (ρ y) (ρ x) | none=>none
 | _=>none
section
variable {P:Program}{tb:eB P}{ρ:Operand→AV}{H H':List BL}{is is':List Nat}{C C':Prop}{v:AV}
 {dst:Option Tmp} {ty:TypeId} {pos:String} {aft:Array Edge} {g:Option (Nat×Bool)}
theorem QI {op:Op}(h:eb tb ρ H is C op=some (v,H',is',C')) (c:C'):C∧Dh P ⟨dst,op,ty,pos,aft,g⟩ ρ H v H':=by
 unfold eb at h;split at h
 ·injection h with h;simp only[Prod.mk.injEq] at h;obtain⟨rfl,rfl,rfl,rfl⟩:=h;exact⟨c,BC rfl⟩
 ·injection h with h;simp only[Prod.mk.injEq] at h;obtain⟨rfl,rfl,rfl,rfl⟩:=h;exact⟨c,Bf rfl⟩
 ·split at h
  ·rename_i b hb;injection h with h;simp only[Prod.mk.injEq] at h;obtain⟨rfl,rfl,rfl,rfl⟩:=h;exact⟨c,CS hb rfl⟩
  cases h
 ·split at h
  ·rename_i xs hx;split at h
   ·rename_i u hu;injection h with h;simp only[Prod.mk.injEq] at h;obtain⟨rfl,rfl,rfl,rfl⟩:=h;exact⟨c,CB hx hu⟩
   cases h
  cases h
 ·split at h
  ·rename_i b o hx;injection h with h;simp only[Prod.mk.injEq] at h;obtain⟨rfl,rfl,rfl,rfl⟩:=h;exact⟨c,DB hx⟩
  cases h
 ·injection h with h;simp only[Prod.mk.injEq] at h;obtain⟨rfl,rfl,rfl,rfl⟩:=h;exact⟨c,EU rfl rfl⟩
 ·split at h
  ·rename_i b hb;injection h with h;simp only[Prod.mk.injEq] at h;obtain⟨rfl,rfl,rfl,rfl⟩:=h;exact⟨c,PS hb⟩
  cases h
 ·rename_i op T x y U;generalize hx:ρ x=vx at h;generalize hy:ρ y=vy at h;unfold hG at h;split at h
  ·rename_i k m k' n;split at h
   ·rename_i b hb;injection h with h;simp only[Prod.mk.injEq] at h;obtain⟨rfl,rfl,rfl,rfl⟩:=h;obtain⟨c,rfl⟩:=c;exact⟨c,D8 hx hy hb⟩
   split at h
   ·rename_i r hr;injection h with h;simp only[Prod.mk.injEq] at h;obtain⟨rfl,rfl,rfl,rfl⟩:=h;obtain⟨⟨c,c1⟩,c2⟩:=c;refine⟨c,?_⟩;unfold m9 at hr;split at hr
    ·injection hr with hr;subst hr;exact Ga hx hy c1 c2
    ·injection hr with hr;subst hr;exact Lp hx hy c1 c2
    ·injection hr with hr;subst hr;exact fc hx hy c1 c2
    cases hr
   cases h
  cases h
 ·rename_i T x i;split at h
  ·rename_i lay hl;split at h
   ·rename_i off sz hi;generalize hx:ρ x=vx at h;unfold Xn at h;split at h
    ·injection h with h;simp only[Prod.mk.injEq] at h;obtain⟨rfl,rfl,rfl,rfl⟩:=h;exact⟨c,Aw (tb.hfd _ _ hl) hi hx⟩
    ·injection h with h;simp only[Prod.mk.injEq] at h;obtain⟨rfl,rfl,rfl,rfl⟩:=h;exact⟨c,B3 (tb.hfd _ _ hl) hi hx⟩
    cases h
   cases h
  cases h
 ·rename_i T parts;split at h
  ·rename_i lay z hl hz;split at h
   ·rename_i cs hc;injection h with h;simp only[Prod.mk.injEq] at h;obtain⟨rfl,rfl,rfl,rfl⟩:=h;obtain⟨z',hz',rfl⟩:=tb.hzr _ _ hz;exact⟨c,CE (tb.hfd _ _ hl) hz' hc⟩
   cases h
  cases h
 ·rename_i T x;split at h
  ·rename_i t ht;have ht:=tb.hty _ _ ht;obtain⟨tb1,tn⟩:=t;generalize hx:ρ x=vx at h;unfold aJ at h;split at h
   ·rename_i cells;cases tb1 with
    | true =>
     simp only[cond_true] at h;injection h with h;simp only[Prod.mk.injEq] at h;obtain⟨rfl,rfl,rfl,rfl⟩:=h;exact⟨c.1,BO ht hx c.2⟩
    | false =>
     simp only[cond_false] at h;split at h
     ·injection h with h;simp only[Prod.mk.injEq] at h;obtain⟨rfl,rfl,rfl,rfl⟩:=h;exact⟨c,Dt ht hx⟩
     cases h
   ·rename_i b o;split at h
    ·cases h
    rename_i i is1;split at h
    ·rename_i b' cs hi;cases tb1 with
     | true =>
      simp only[cond_true] at h;split at h
      ·injection h with h;simp only[Prod.mk.injEq] at h;obtain⟨rfl,rfl,rfl,rfl⟩:=h;obtain⟨⟨c,rfl⟩,c2⟩:=c;exact⟨c,BI ht hx hi c2⟩
      ·cases h
     | false =>
      simp only[cond_false] at h;split at h
      ·rename_i u hu;injection h with h;simp only[Prod.mk.injEq] at h;obtain⟨rfl,rfl,rfl,rfl⟩:=h;obtain⟨c,rfl⟩:=c;exact⟨c,BG ht hx hi hu⟩
      cases h
    cases h
   cases h
  cases h
 ·rename_i T x y;split at h
  ·rename_i t ht;have ht:=tb.hty _ _ ht;obtain⟨tb1,tn⟩:=t;generalize hx:ρ x=vx at h;generalize hy:ρ y=vy at h;unfold Xm at h;split at h
   ·rename_i b o;split at h
    ·rename_i i w is1;simp only at h;split at h
     ·rename_i b' cs us n hi hu hn;split at h
      ·injection h with h;simp only[Prod.mk.injEq] at h;obtain⟨rfl,rfl,rfl,rfl⟩:=h;obtain⟨⟨⟨⟨c,rfl⟩,c1⟩,c2⟩,c3⟩:=c;exact⟨c,Cl ht hx hi (by rw[hy];exact hu) c1 c2 c3⟩
      split at h
      ·injection h with h;simp only[Prod.mk.injEq] at h;obtain⟨rfl,rfl,rfl,rfl⟩:=h;obtain⟨⟨⟨⟨c,rfl⟩,c1⟩,c2⟩,c3⟩:=c;exact⟨c,Bd ht hx hi (by rw[hy];exact hu) c1 c2 c3⟩
      cases h
     cases h
    cases h
   cases h
  cases h
 cases h
def runs (tb:eB P) (ops:Array Oper) (n:Nat):Nat→Nat→(Nat→AV)→List BL→List Nat→Prop→Option ((Nat→AV)×List BL×Prop)
 | 0,_,τ,H,_,C=>some (τ,H,C)
 | m+1,k,τ,H,is,C =>
  match ops[k]? with
  | none=>none
  | some ⟨dst,op,_,_,_,g⟩ =>
   bif GA dst n then
    match g with
    | none =>
     (match eb tb (ev τ) H is C op with
     | some (v,H',is',C')=>runs tb ops n m (k+1) (put τ dst v) H' is' C'
     | none=>none)
    | some (j,want) =>
     match (ops[j]?).bind (·.dst) with
     | none=>none
     | some d =>
      match τ d with
      | .p (.bool b) =>
       bif b==want then
        (match eb tb (ev τ) H is C op with
        | some (v,H',is',C')=>runs tb ops n m (k+1) (put τ dst v) H' is' C'
        | none=>none)
       else runs tb ops n m (k+1) (put τ dst (.tup [])) H is C
      | .tup []=>runs tb ops n m (k+1) (put τ dst (.tup [])) H is C
      | _=>none
   else none
end
section
variable {P:Program}{r:Option Nat}{ops:Array Oper}{n:Nat}{D:List EF}{Q:Cu→Bt→Prop}
theorem M6 (tb:eB P):∀(m k:Nat) {τ τ':Nat→AV}{H H':List BL}{is:List Nat}{C C':Prop},runs tb ops n m k τ H is C=some (τ',H',C')→C' →
  C∧(AL P r ops (k+m) ⟨n,τ',H',D⟩ Q→AL P r ops k ⟨n,τ,H,D⟩ Q)
 | 0,k,τ,τ',H,H',is,C,C',h,c=>by
  simp only[runs,Option.some.injEq,Prod.mk.injEq] at h;obtain⟨rfl,rfl,rfl⟩:=h;exact⟨c,fun h=>h⟩
 | m+1,k,τ,τ',H,H',is,C,C',h,c=>by
  rw[runs] at h;split at h
  ·cases h
  rename_i dst op ty pos aft g ho;cases hd:GA dst n with
  | false=>rw[hd] at h;cases h
  | true =>
   rw[hd,cond_true] at h;rw[show k+(m+1)=k+1+m by omega];split at h
   ·split at h
    ·rename_i v H1 is1 C1 hv;obtain⟨c1,ih⟩:=M6 tb m (k+1) h c;obtain⟨c2,hop⟩:=QI (dst:=dst) (ty:=ty) (pos:=pos) (aft:=aft) (g:=none) hv c1;exact⟨c2,fun hq=>PN ho hd hop (ih hq)⟩
    cases h
   rename_i j want;split at h
   ·cases h
   rename_i d hj;split at h
   ·rename_i b hb;cases hw:b==want with
    | true =>
     rw[hw,cond_true] at h;split at h
     ·rename_i v H1 is1 C1 hv;obtain⟨c1,ih⟩:=M6 tb m (k+1) h c;obtain⟨c2,hop⟩:=QI (dst:=dst) (ty:=ty) (pos:=pos) (aft:=aft) (g:=some (j,want)) hv c1;have hbw:b=want:=by simpa using hw
      exact⟨c2,fun hq=>VJ ho hj (by rw[hb,hbw]) hd hop (ih hq)⟩
     ·cases h
    | false =>
     rw[hw,cond_false] at h;obtain⟨c1,ih⟩:=M6 tb m (k+1) h c;exact⟨c1,fun hq=>gd ho hj hb hw hd (ih hq)⟩
   ·rename_i hb;obtain⟨c1,ih⟩:=M6 tb m (k+1) h c;exact⟨c1,fun hq=>aP ho hj hb hd (ih hq)⟩
   cases h
end
def look {α:Type}:List (Nat×α)→Nat→Option α
 | [],_=>none
 | (a,v)::r,t=>bif Nat.beq a t then some v else look r t
def VB {α:Type}(f:Nat→Option α):List (Nat×α)→Prop
 | []=>True
 | (a,v)::r=>f a=some v∧VB f r
theorem PY {α:Type}{f:Nat→Option α}{T:Nat}{v:α}:∀{l:List (Nat×α)},VB f l→look l T=some v→f T=some v
 | [],_,h=>by cases h
 | (a,u)::r,ha,h=>by
  unfold look at h;cases hb:Nat.beq a T with
  | true=>rw[hb,cond_true] at h;injection h with h;subst h;rw[←Nat.eq_of_beq_eq_true hb];exact ha.1
  | false=>rw[hb,cond_false] at h;exact PY ha.2 h
def Tr (P:Program) (T:Nat):Option (List AV):=(zeroOf P T).map fun z=>z.cells.toList.map GO
def mj {P:Program}{fd:List (Nat×List (Nat×Nat))}{ty:List (Nat×Bool×Nat)}{zr:List (Nat×List AV)}(hf:VB (fieldsOf P) fd) (ht:VB (Dp P) ty) (hz:VB (Tr P) zr):eB P where
 fd:=look fd
 ty:=look ty
 zr:=look zr
 hfd _ _ h:=PY hf h
 hty _ _ h:=PY ht h
 hzr T l h:=by
  have h1:=PY hz h;unfold Tr at h1;cases hq:zeroOf P T with
  | none=>rw[hq] at h1;cases h1
  | some z=>rw[hq] at h1;injection h1 with h1;exact⟨z,rfl,h1⟩
end Go.Abs
namespace Go.Abs
open Go.Eu
section
variable {P:Program}{r:Option Nat}{ops:Array Oper}{n k:Nat}{D:List EF}{Q:Cu→Bt→Prop}{τ τ':Nat→AV}{H H':List BL}{C:Prop}
theorem iX {C:Prop}(c:C:=by repeat' first | exact trivial | refine And.intro ?_ ?_ | (simp only[List.length_map,BJ,QX,Cp,DQ,Cq,Di,SM,EI,Jl];done) | exact DR _ | exact Lk _ | exact Lc _ | exact UI _ | exact XI _ | exact TB _ | exact eL _ | exact gp _ | exact rfl | omega):C:=c
theorem A2 (tb:eB P) (m:Nat) (is:List Nat) (h:runs tb ops n m k τ H is True=some (τ',H',C)) (next:AL P r ops (k+m) ⟨n,τ',H',D⟩ Q) (c:C:=by exact iX):AL P r ops k ⟨n,τ,H,D⟩ Q:=(M6 tb m k h c).2 next
theorem Ax (tb:eB P) (m:Nat) (is:List Nat) (h:runs tb ops n m k τ H is True=some (τ',H',C)) (next:Q .normal ⟨n,τ',H',D⟩) (hk:ops.size - (k+m)=0:=by exact rfl) (c:C:=by exact iX):AL P r ops k ⟨n,τ,H,D⟩ Q:=A2 tb m is h (Bk hk next) c
theorem Ay {id:Nat}{c₂:Code}(tb:eB P) (m:Nat) (is:List Nat) (h:runs tb ops n m 0 τ H is True=some (τ',H',C)) (next:IT P r c₂ ⟨n,τ',H',D⟩ Q) (hk:ops.size - (0+m)=0:=by exact rfl) (c:C:=by exact iX):IT P r (.seq (.region id ops false) c₂) ⟨n,τ,H,D⟩ Q:=A3 (Ax tb m is h next hk c)
end
end Go.Abs
namespace Go.Proofs.YtboammbpdaoojaaGreat
open Go.Abs
def qb:List (Nat×Bool×Nat):=[(26,true,5),(3,false,1),(24,false,1),(66,true,23),(115,true,2),(113,false,1),(9,false,1),(69,true,8),(51,true,9),(61,false,1),(23,false,1),(62,false,1),(4,false,1),(162,true,2),(67,false,1),(22,false,1),(71,true,15),(200,true,25),(29,false,1),(263,false,1),(137,false,1),(120,true,10),(104,false,1),(229,false,1),(170,false,1),(204,false,1),(205,false,1),(139,true,2),(192,true,2),(168,true,65),(210,true,1),(117,true,6),(64,true,7),(122,true,0),(165,false,1),(208,false,1),(87,false,1),(216,false,1)]
def qS:List (Nat×List (Nat×Nat)):=[(26,[(0,1),(1,1),(2,1),(3,1),(4,1)]),(66,[(0,1),(1,1),(2,1),(3,5),(8,5),(13,1),(14,1),(15,7),(22,1)]),(115,[(0,1),(1,1)]),(69,[(0,1),(1,5),(6,1),(7,1)]),(51,[(0,1),(1,1),(2,1),(3,1),(4,5)]),(162,[(0,1),(1,1)]),(71,[(0,1),(1,5),(6,1),(7,8)]),(36,[(0,1),(1,1),(2,1),(3,1),(4,1)]),(64,[(0,1),(1,5),(6,1)]),(120,[(0,1),(1,1),(2,8)]),(117,[(0,1),(1,5)]),(148,[(0,1),(1,1)]),(167,[(0,1),(1,1),(2,1),(3,1),(4,1)]),(200,[(0,1),(1,1),(2,23)]),(125,[(0,1),(1,1)]),(231,[(0,1),(1,1)]),(139,[(0,1),(1,1)]),(192,[(0,1),(1,1)]),(207,[(0,1)]),(210,[(0,1)]),(122,[])]
def qR:List (Nat×List AV):=[(26,[.p (.int .i64 0),.p (.int .i64 0),.p (.str ⟨#[]⟩),.p .nils,.p .nils]),(115,[.p (.int .i64 0),.p .nils]),(167,[.p (.bool false),.p (.bool false),.p (.int .i64 0),.p (.int .i64 0),.p (.int .i64 0)]),(66,[.p (.int .i64 0),.p (.str ⟨#[]⟩),.p (.int .i64 0),.p (.int .i64 0),.p (.int .i64 0),.p (.str ⟨#[]⟩),.p .nils,.p .nils,.p (.int .i64 0),.p (.int .i64 0),.p (.str ⟨#[]⟩),.p .nils,.p .nils,.p (.int .i64 0),.p .nils,.p (.int .i64 0),.p (.int .i64 0),.p (.int .i64 0),.p (.str ⟨#[]⟩),.p .nils,.p .nils,.p .nils,.p .nils]),(51,[.p (.int .i64 0),.p (.int .i64 0),.p (.int .i64 0),.p (.int .i64 0),.p (.int .i64 0),.p (.int .i64 0),.p (.str ⟨#[]⟩),.p .nils,.p .nils]),(69,[.p (.int .i64 0),.p (.int .i64 0),.p (.int .i64 0),.p (.str ⟨#[]⟩),.p .nils,.p .nils,.p (.int .i64 0),.p .nils]),(162,[.p (.int .i64 0),.p (.int .i64 0)]),(122,[]),(148,[.p (.int .i64 0),.p (.int .i64 0)]),(210,[.p .nilFn]),(117,[.p (.str ⟨#[]⟩),.p (.int .i64 0),.p (.int .i64 0),.p (.str ⟨#[]⟩),.p .nils,.p .nils]),(120,[.p (.str ⟨#[]⟩),.p (.bool false),.p (.int .i64 0),.p (.int .i64 0),.p (.int .i64 0),.p (.str ⟨#[]⟩),.p .nils,.p .nils,.p (.int .i64 0),.p .nils]),(139,[.p (.int .i64 0),.p .nils]),(192,[.p (.int .i64 0),.p .nils]),(36,[.p (.int .i64 0),.p (.int .i64 0),.p (.int .i64 0),.p (.int .i64 0),.p (.bool false)]),(64,[.p (.int .i64 0),.p (.int .i64 0),.p (.int .i64 0),.p (.str ⟨#[]⟩),.p .nils,.p .nils,.p .nils]),(71,[.p (.str ⟨#[]⟩),.p (.int .i64 0),.p (.int .i64 0),.p (.str ⟨#[]⟩),.p .nils,.p .nils,.p (.int .i64 0),.p (.int .i64 0),.p (.int .i64 0),.p (.int .i64 0),.p (.str ⟨#[]⟩),.p .nils,.p .nils,.p (.int .i64 0),.p .nils]),(125,[.p .nils,.p (.int .i64 0)]),(200,[.p .nils,.p .nils,.p (.int .i64 0),.p (.str ⟨#[]⟩),.p (.int .i64 0),.p (.int .i64 0),.p (.int .i64 0),.p (.str ⟨#[]⟩),.p .nils,.p .nils,.p (.int .i64 0),.p (.int .i64 0),.p (.str ⟨#[]⟩),.p .nils,.p .nils,.p (.int .i64 0),.p .nils,.p (.int .i64 0),.p (.int .i64 0),.p (.int .i64 0),.p (.str ⟨#[]⟩),.p .nils,.p .nils,.p .nils,.p .nils]),(207,[.p (.int .i64 0)]),(231,[.p .any,.p (.int .i64 0)])]
theorem qa:VB (Dp Tryz.prog) qb:=And.intro An <| And.intro An <| And.intro An <| And.intro An <| And.intro An <| And.intro An <| And.intro An <| And.intro An <| And.intro An <| And.intro An <| And.intro An <| And.intro An <| And.intro An <| And.intro An <| And.intro An <| And.intro An <| And.intro An <| And.intro An <| And.intro An <| And.intro An <| And.intro An <| And.intro An <| And.intro An <| And.intro An <| And.intro An <| And.intro An <| And.intro An <| And.intro An <| And.intro An <| And.intro An <| And.intro An <| And.intro An <| And.intro An <| And.intro An <| And.intro An <| And.intro An <| And.intro An <| And.intro An <| trivial
theorem qo:VB (fieldsOf Tryz.prog) qS:=And.intro An <| And.intro An <| And.intro An <| And.intro An <| And.intro An <| And.intro An <| And.intro An <| And.intro An <| And.intro An <| And.intro An <| And.intro An <| And.intro An <| And.intro An <| And.intro An <| And.intro An <| And.intro An <| And.intro An <| And.intro An <| And.intro An <| And.intro An <| And.intro An <| trivial
theorem qw:VB (Tr Tryz.prog) qR:=And.intro An <| And.intro An <| And.intro An <| And.intro An <| And.intro An <| And.intro An <| And.intro An <| And.intro An <| And.intro An <| And.intro An <| And.intro An <| And.intro An <| And.intro An <| And.intro An <| And.intro An <| And.intro An <| And.intro An <| And.intro An <| And.intro An <| And.intro An <| And.intro An <| trivial
def A8:eB Tryz.prog:=mj qo qa qw
end Go.Proofs.YtboammbpdaoojaaGreat
namespace Go.Proofs.YtboammbpdaoojaaGreat
open Go.Abs Go.Eu
theorem _root_.Go.AK {α:Prop}(h:α:=by first | exact List.Sublist.refl _ | exact List.sublist_cons_self _ _):α:=h
theorem VS:∀(c:Int),FX Tryz.prog 147 [.p (.int .u8 c)] Fh:=by
 intro c;refine A9 Tryz.func147 O nQ (n:=21) O O (Ay A8 1 [] O (Az (Bb [0] 2 Fh ?_ ?_)))
 ·refine A7 (A2 A8 3 [] O (BQ 5 O (fun g1=>?_) (fun g1=>?_)))
  ·(try simp only[sd] at g1);refine A2 A8 4 [] O (BQ 9 O (fun g2=>?_) (fun g2=>?_))
   ·(try simp only[sd] at g2);refine A2 A8 8 [] O (BQ 17 O (fun g3=>?_) (fun g3=>?_))
    ·(try simp only[sd] at g3);exact Ax A8 4 [] O (⟨O,O,AK,⟨_,O⟩,⟨O,Au⟩⟩)
    (try simp only[sd] at g3);exact Ax A8 4 [] O (⟨O,O,AK,⟨_,O⟩,⟨O,Au⟩⟩)
   (try simp only[sd] at g2);refine A2 A8 3 [] O (BQ 12 O (fun g4=>?_) (fun g4=>?_))
   ·(try simp only[sd] at g4);refine A2 A8 5 [] O (BQ 17 O (fun g5=>?_) (fun g5=>?_))
    ·(try simp only[sd] at g5);exact Ax A8 4 [] O (⟨O,O,AK,⟨_,O⟩,⟨O,Au⟩⟩)
    (try simp only[sd] at g5);exact Ax A8 4 [] O (⟨O,O,AK,⟨_,O⟩,⟨O,Au⟩⟩)
   (try simp only[sd] at g4);refine A2 A8 5 [] O (BQ 17 O (fun g6=>?_) (fun g6=>?_))
   ·(try simp only[sd] at g6);exact Ax A8 4 [] O (⟨O,O,AK,⟨_,O⟩,⟨O,Au⟩⟩)
   (try simp only[sd] at g6);exact Ax A8 4 [] O (⟨O,O,AK,⟨_,O⟩,⟨O,Au⟩⟩)
  (try simp only[sd] at g1);refine A2 A8 4 [] O (BQ 9 O (fun g7=>?_) (fun g7=>?_))
  ·(try simp only[sd] at g7);refine A2 A8 8 [] O (BQ 17 O (fun g8=>?_) (fun g8=>?_))
   ·(try simp only[sd] at g8);exact Ax A8 4 [] O (⟨O,O,AK,⟨_,O⟩,⟨O,Au⟩⟩)
   (try simp only[sd] at g8);exact Ax A8 4 [] O (⟨O,O,AK,⟨_,O⟩,⟨O,Au⟩⟩)
  (try simp only[sd] at g7);refine A2 A8 3 [] O (BQ 12 O (fun g9=>?_) (fun g9=>?_))
  ·(try simp only[sd] at g9);refine A2 A8 5 [] O (BQ 17 O (fun g10=>?_) (fun g10=>?_))
   ·(try simp only[sd] at g10);exact Ax A8 4 [] O (⟨O,O,AK,⟨_,O⟩,⟨O,Au⟩⟩)
   (try simp only[sd] at g10);exact Ax A8 4 [] O (⟨O,O,AK,⟨_,O⟩,⟨O,Au⟩⟩)
  (try simp only[sd] at g9);refine A2 A8 5 [] O (BQ 17 O (fun g11=>?_) (fun g11=>?_))
  ·(try simp only[sd] at g11);exact Ax A8 4 [] O (⟨O,O,AK,⟨_,O⟩,⟨O,Au⟩⟩)
  (try simp only[sd] at g11);exact Ax A8 4 [] O (⟨O,O,AK,⟨_,O⟩,⟨O,Au⟩⟩)
 rintro _ ⟨q1,rfl⟩;refine A4 (⟨O,_,[],Bi O,List.nil_sublist _,⟨⟨_,O⟩,O⟩⟩)
theorem _root_.Go.Af {α:Prop}(h:α:=by simp_all [arity]):α:=h
theorem Zz:∀(k:Int),FF Tryz.prog 146 [.p (I k)] (.p (I (arity k))):=by
 intro k;refine A9 Tryz.func146 O lp (n:=15) O O (Ay A8 1 [] O (Az (Ay A8 1 [] O (BH (Az (Ay A8 2 [] O (A0 O (fun c1=>?_) (fun c1=>?_))))))))
 ·(try simp only[sd] at c1);refine A5 (A0 O (fun c2=>?_) (fun c2=>?_))
  ·(try simp only[sd] at c2);refine Ay A8 1 [] O (A4 ⟨O,_,[],Bi O,List.nil_sublist _,?_⟩);exact⟨pI Af,O⟩
  (try simp only[sd] at c2);refine Az (Ay A8 2 [] O (A0 O (fun c3=>?_) (fun c3=>?_)))
  ·(try simp only[sd] at c3);refine A5 (A0 O (fun c4=>?_) (fun c4=>?_))
   ·(try simp only[sd] at c4);refine Ay A8 1 [] O (A4 ⟨O,_,[],Bi O,List.nil_sublist _,?_⟩);exact⟨pI Af,O⟩
   (try simp only[sd] at c4);refine Az (Ay A8 2 [] O (A0 O (fun c5=>?_) (fun c5=>?_)))
   ·(try simp only[sd] at c5);refine A5 (A0 O (fun c6=>?_) (fun c6=>?_))
    ·(try simp only[sd] at c6);refine Ay A8 1 [] O (A4 ⟨O,_,[],Bi O,List.nil_sublist _,?_⟩);exact⟨pI Af,O⟩
    (try simp only[sd] at c6);refine A5 (Ay A8 1 [] O (A4 ⟨O,_,[],Bi O,List.nil_sublist _,?_⟩));exact⟨pI Af,O⟩
   (try simp only[sd] at c5);refine A7 (Ax A8 2 [] O (A0 O (fun c7=>?_) (fun c7=>?_)))
   ·(try simp only[sd] at c7);refine Ay A8 1 [] O (A4 ⟨O,_,[],Bi O,List.nil_sublist _,?_⟩);exact⟨pI Af,O⟩
   (try simp only[sd] at c7);refine A5 (Ay A8 1 [] O (A4 ⟨O,_,[],Bi O,List.nil_sublist _,?_⟩));exact⟨pI Af,O⟩
  (try simp only[sd] at c3);refine A7 (Ax A8 2 [] O (A0 O (fun c8=>?_) (fun c8=>?_)))
  ·(try simp only[sd] at c8);refine Ay A8 1 [] O (A4 ⟨O,_,[],Bi O,List.nil_sublist _,?_⟩);exact⟨pI Af,O⟩
  (try simp only[sd] at c8);refine Az (Ay A8 2 [] O (A0 O (fun c9=>?_) (fun c9=>?_)))
  ·(try simp only[sd] at c9);refine A5 (A0 O (fun c10=>?_) (fun c10=>?_))
   ·(try simp only[sd] at c10);refine Ay A8 1 [] O (A4 ⟨O,_,[],Bi O,List.nil_sublist _,?_⟩);exact⟨pI Af,O⟩
   (try simp only[sd] at c10);refine A5 (Ay A8 1 [] O (A4 ⟨O,_,[],Bi O,List.nil_sublist _,?_⟩));exact⟨pI Af,O⟩
  (try simp only[sd] at c9);refine A7 (Ax A8 2 [] O (A0 O (fun c11=>?_) (fun c11=>?_)))
  ·(try simp only[sd] at c11);refine Ay A8 1 [] O (A4 ⟨O,_,[],Bi O,List.nil_sublist _,?_⟩);exact⟨pI Af,O⟩
  (try simp only[sd] at c11);refine A5 (Ay A8 1 [] O (A4 ⟨O,_,[],Bi O,List.nil_sublist _,?_⟩));exact⟨pI Af,O⟩
 (try simp only[sd] at c1);refine Ay A8 2 [] O (A0 O (fun c12=>?_) (fun c12=>?_))
 ·(try simp only[sd] at c12);refine A5 (A0 O (fun c13=>?_) (fun c13=>?_))
  ·(try simp only[sd] at c13);refine Ay A8 1 [] O (A4 ⟨O,_,[],Bi O,List.nil_sublist _,?_⟩);exact⟨pI Af,O⟩
  (try simp only[sd] at c13);refine Az (Ay A8 2 [] O (A0 O (fun c14=>?_) (fun c14=>?_)))
  ·(try simp only[sd] at c14);refine A5 (A0 O (fun c15=>?_) (fun c15=>?_))
   ·(try simp only[sd] at c15);refine Ay A8 1 [] O (A4 ⟨O,_,[],Bi O,List.nil_sublist _,?_⟩);exact⟨pI Af,O⟩
   (try simp only[sd] at c15);refine Az (Ay A8 2 [] O (A0 O (fun c16=>?_) (fun c16=>?_)))
   ·(try simp only[sd] at c16);refine A5 (A0 O (fun c17=>?_) (fun c17=>?_))
    ·(try simp only[sd] at c17);refine Ay A8 1 [] O (A4 ⟨O,_,[],Bi O,List.nil_sublist _,?_⟩);exact⟨pI Af,O⟩
    (try simp only[sd] at c17);refine A5 (Ay A8 1 [] O (A4 ⟨O,_,[],Bi O,List.nil_sublist _,?_⟩));exact⟨pI Af,O⟩
   (try simp only[sd] at c16);refine A7 (Ax A8 2 [] O (A0 O (fun c18=>?_) (fun c18=>?_)))
   ·(try simp only[sd] at c18);refine Ay A8 1 [] O (A4 ⟨O,_,[],Bi O,List.nil_sublist _,?_⟩);exact⟨pI Af,O⟩
   (try simp only[sd] at c18);refine A5 (Ay A8 1 [] O (A4 ⟨O,_,[],Bi O,List.nil_sublist _,?_⟩));exact⟨pI Af,O⟩
  (try simp only[sd] at c14);refine A7 (Ax A8 2 [] O (A0 O (fun c19=>?_) (fun c19=>?_)))
  ·(try simp only[sd] at c19);refine Ay A8 1 [] O (A4 ⟨O,_,[],Bi O,List.nil_sublist _,?_⟩);exact⟨pI Af,O⟩
  (try simp only[sd] at c19);refine Az (Ay A8 2 [] O (A0 O (fun c20=>?_) (fun c20=>?_)))
  ·(try simp only[sd] at c20);refine A5 (A0 O (fun c21=>?_) (fun c21=>?_))
   ·(try simp only[sd] at c21);refine Ay A8 1 [] O (A4 ⟨O,_,[],Bi O,List.nil_sublist _,?_⟩);exact⟨pI Af,O⟩
   (try simp only[sd] at c21);refine A5 (Ay A8 1 [] O (A4 ⟨O,_,[],Bi O,List.nil_sublist _,?_⟩));exact⟨pI Af,O⟩
  (try simp only[sd] at c20);refine A7 (Ax A8 2 [] O (A0 O (fun c22=>?_) (fun c22=>?_)))
  ·(try simp only[sd] at c22);refine Ay A8 1 [] O (A4 ⟨O,_,[],Bi O,List.nil_sublist _,?_⟩);exact⟨pI Af,O⟩
  (try simp only[sd] at c22);refine A5 (Ay A8 1 [] O (A4 ⟨O,_,[],Bi O,List.nil_sublist _,?_⟩));exact⟨pI Af,O⟩
 (try simp only[sd] at c12);refine Ay A8 2 [] O (A0 O (fun c23=>?_) (fun c23=>?_))
 ·(try simp only[sd] at c23);refine A5 (A0 O (fun c24=>?_) (fun c24=>?_))
  ·(try simp only[sd] at c24);refine Ay A8 1 [] O (A4 ⟨O,_,[],Bi O,List.nil_sublist _,?_⟩);exact⟨pI Af,O⟩
  (try simp only[sd] at c24);refine Az (Ay A8 2 [] O (A0 O (fun c25=>?_) (fun c25=>?_)))
  ·(try simp only[sd] at c25);refine A5 (A0 O (fun c26=>?_) (fun c26=>?_))
   ·(try simp only[sd] at c26);refine Ay A8 1 [] O (A4 ⟨O,_,[],Bi O,List.nil_sublist _,?_⟩);exact⟨pI Af,O⟩
   (try simp only[sd] at c26);refine Az (Ay A8 2 [] O (A0 O (fun c27=>?_) (fun c27=>?_)))
   ·(try simp only[sd] at c27);refine A5 (A0 O (fun c28=>?_) (fun c28=>?_))
    ·(try simp only[sd] at c28);refine Ay A8 1 [] O (A4 ⟨O,_,[],Bi O,List.nil_sublist _,?_⟩);exact⟨pI Af,O⟩
    (try simp only[sd] at c28);refine A5 (Ay A8 1 [] O (A4 ⟨O,_,[],Bi O,List.nil_sublist _,?_⟩));exact⟨pI Af,O⟩
   (try simp only[sd] at c27);refine A7 (Ax A8 2 [] O (A0 O (fun c29=>?_) (fun c29=>?_)))
   ·(try simp only[sd] at c29);refine Ay A8 1 [] O (A4 ⟨O,_,[],Bi O,List.nil_sublist _,?_⟩);exact⟨pI Af,O⟩
   (try simp only[sd] at c29);refine A5 (Ay A8 1 [] O (A4 ⟨O,_,[],Bi O,List.nil_sublist _,?_⟩));exact⟨pI Af,O⟩
  (try simp only[sd] at c25);refine A7 (Ax A8 2 [] O (A0 O (fun c30=>?_) (fun c30=>?_)))
  ·(try simp only[sd] at c30);refine Ay A8 1 [] O (A4 ⟨O,_,[],Bi O,List.nil_sublist _,?_⟩);exact⟨pI Af,O⟩
  (try simp only[sd] at c30);refine Az (Ay A8 2 [] O (A0 O (fun c31=>?_) (fun c31=>?_)))
  ·(try simp only[sd] at c31);refine A5 (A0 O (fun c32=>?_) (fun c32=>?_))
   ·(try simp only[sd] at c32);refine Ay A8 1 [] O (A4 ⟨O,_,[],Bi O,List.nil_sublist _,?_⟩);exact⟨pI Af,O⟩
   (try simp only[sd] at c32);refine A5 (Ay A8 1 [] O (A4 ⟨O,_,[],Bi O,List.nil_sublist _,?_⟩));exact⟨pI Af,O⟩
  (try simp only[sd] at c31);refine A7 (Ax A8 2 [] O (A0 O (fun c33=>?_) (fun c33=>?_)))
  ·(try simp only[sd] at c33);refine Ay A8 1 [] O (A4 ⟨O,_,[],Bi O,List.nil_sublist _,?_⟩);exact⟨pI Af,O⟩
  (try simp only[sd] at c33);refine A5 (Ay A8 1 [] O (A4 ⟨O,_,[],Bi O,List.nil_sublist _,?_⟩));exact⟨pI Af,O⟩
 (try simp only[sd] at c23);refine A7 (Ax A8 2 [] O (A0 O (fun c34=>?_) (fun c34=>?_)))
 ·(try simp only[sd] at c34);refine Ay A8 1 [] O (A4 ⟨O,_,[],Bi O,List.nil_sublist _,?_⟩);exact⟨pI Af,O⟩
 (try simp only[sd] at c34);refine Az (Ay A8 2 [] O (A0 O (fun c35=>?_) (fun c35=>?_)))
 ·(try simp only[sd] at c35);refine A5 (A0 O (fun c36=>?_) (fun c36=>?_))
  ·(try simp only[sd] at c36);refine Ay A8 1 [] O (A4 ⟨O,_,[],Bi O,List.nil_sublist _,?_⟩);exact⟨pI Af,O⟩
  (try simp only[sd] at c36);refine Az (Ay A8 2 [] O (A0 O (fun c37=>?_) (fun c37=>?_)))
  ·(try simp only[sd] at c37);refine A5 (A0 O (fun c38=>?_) (fun c38=>?_))
   ·(try simp only[sd] at c38);refine Ay A8 1 [] O (A4 ⟨O,_,[],Bi O,List.nil_sublist _,?_⟩);exact⟨pI Af,O⟩
   (try simp only[sd] at c38);refine A5 (Ay A8 1 [] O (A4 ⟨O,_,[],Bi O,List.nil_sublist _,?_⟩));exact⟨pI Af,O⟩
  (try simp only[sd] at c37);refine A7 (Ax A8 2 [] O (A0 O (fun c39=>?_) (fun c39=>?_)))
  ·(try simp only[sd] at c39);refine Ay A8 1 [] O (A4 ⟨O,_,[],Bi O,List.nil_sublist _,?_⟩);exact⟨pI Af,O⟩
  (try simp only[sd] at c39);refine A5 (Ay A8 1 [] O (A4 ⟨O,_,[],Bi O,List.nil_sublist _,?_⟩));exact⟨pI Af,O⟩
 (try simp only[sd] at c35);refine A7 (Ax A8 2 [] O (A0 O (fun c40=>?_) (fun c40=>?_)))
 ·(try simp only[sd] at c40);refine Ay A8 1 [] O (A4 ⟨O,_,[],Bi O,List.nil_sublist _,?_⟩);exact⟨pI Af,O⟩
 (try simp only[sd] at c40);refine Az (Ay A8 2 [] O (A0 O (fun c41=>?_) (fun c41=>?_)))
 ·(try simp only[sd] at c41);refine A5 (A0 O (fun c42=>?_) (fun c42=>?_))
  ·(try simp only[sd] at c42);refine Ay A8 1 [] O (A4 ⟨O,_,[],Bi O,List.nil_sublist _,?_⟩);exact⟨pI Af,O⟩
  (try simp only[sd] at c42);refine A5 (Ay A8 1 [] O (A4 ⟨O,_,[],Bi O,List.nil_sublist _,?_⟩));exact⟨pI Af,O⟩
 (try simp only[sd] at c41);refine A7 (Ax A8 2 [] O (A0 O (fun c43=>?_) (fun c43=>?_)))
 ·(try simp only[sd] at c43);refine Ay A8 1 [] O (A4 ⟨O,_,[],Bi O,List.nil_sublist _,?_⟩);exact⟨pI Af,O⟩
 (try simp only[sd] at c43);refine A5 (Ay A8 1 [] O (A4 ⟨O,_,[],Bi O,List.nil_sublist _,?_⟩));exact⟨pI Af,O⟩
theorem _root_.Go.Ap {α:Prop}(h:α:=by simp_all):α:=h
theorem XP : ∀ (k i : Int), FF Tryz.prog 124 [.p (I k), .p (I i)] (.p (I (below k i))) := by
 intro k i
 refine A9 Tryz.func124 O lx (n := 27) O O ?_
 refine Ay A8 1 [] O ?_
 refine Az ?_
 refine Az ?_
 refine Bb [0, 1, 4] 26 (fun y => y = .p (.bool ((i == 1 && (k == 5 || k == 6 || k == 7)) || (i == 2 && k == 11)))) ?_ ?_
 ·refine A7 ?_
  refine A2 A8 3 [] O ?_
  refine BQ 7 O (fun g1 => ?_) (fun g1 => ?_)
  ·(try simp only [sd] at g1)
   refine A2 A8 3 [] O ?_
   refine BQ 10 O (fun g2 => ?_) (fun g2 => ?_)
   ·(try simp only [sd] at g2)
    refine A2 A8 4 [] O ?_
    refine BQ 14 O (fun g3 => ?_) (fun g3 => ?_)
    ·(try simp only [sd] at g3)
     refine A2 A8 5 [] O ?_
     refine BQ 19 O (fun g4 => ?_) (fun g4 => ?_)
     ·(try simp only [sd] at g4)
      refine Ax A8 7 [] O ?_
      exact ⟨O, O, AK, pB Ap, ⟨O, O, O, Au⟩⟩
     (try simp only [sd] at g4)
     refine A2 A8 3 [] O ?_
     refine BQ 22 O (fun g5 => ?_) (fun g5 => ?_)
     ·(try simp only [sd] at g5)
      refine Ax A8 4 [] O ?_
      exact ⟨O, O, AK, pB Ap, ⟨O, O, O, Au⟩⟩
     (try simp only [sd] at g5)
     refine Ax A8 4 [] O ?_
     exact ⟨O, O, AK, pB Ap, ⟨O, O, O, Au⟩⟩
    (try simp only [sd] at g3)
    refine A2 A8 5 [] O ?_
    refine BQ 19 O (fun g6 => ?_) (fun g6 => ?_)
    ·(try simp only [sd] at g6)
     refine Ax A8 7 [] O ?_
     exact ⟨O, O, AK, pB Ap, ⟨O, O, O, Au⟩⟩
    (try simp only [sd] at g6)
    refine A2 A8 3 [] O ?_
    refine BQ 22 O (fun g7 => ?_) (fun g7 => ?_)
    ·(try simp only [sd] at g7)
     refine Ax A8 4 [] O ?_
     exact ⟨O, O, AK, pB Ap, ⟨O, O, O, Au⟩⟩
    (try simp only [sd] at g7)
    refine Ax A8 4 [] O ?_
    exact ⟨O, O, AK, pB Ap, ⟨O, O, O, Au⟩⟩
   (try simp only [sd] at g2)
   refine A2 A8 4 [] O ?_
   refine BQ 14 O (fun g8 => ?_) (fun g8 => ?_)
   ·(try simp only [sd] at g8)
    refine A2 A8 5 [] O ?_
    refine BQ 19 O (fun g9 => ?_) (fun g9 => ?_)
    ·(try simp only [sd] at g9)
     refine Ax A8 7 [] O ?_
     exact ⟨O, O, AK, pB Ap, ⟨O, O, O, Au⟩⟩
    (try simp only [sd] at g9)
    refine A2 A8 3 [] O ?_
    refine BQ 22 O (fun g10 => ?_) (fun g10 => ?_)
    ·(try simp only [sd] at g10)
     refine Ax A8 4 [] O ?_
     exact ⟨O, O, AK, pB Ap, ⟨O, O, O, Au⟩⟩
    (try simp only [sd] at g10)
    refine Ax A8 4 [] O ?_
    exact ⟨O, O, AK, pB Ap, ⟨O, O, O, Au⟩⟩
   (try simp only [sd] at g8)
   refine A2 A8 5 [] O ?_
   refine BQ 19 O (fun g11 => ?_) (fun g11 => ?_)
   ·(try simp only [sd] at g11)
    refine Ax A8 7 [] O ?_
    exact ⟨O, O, AK, pB Ap, ⟨O, O, O, Au⟩⟩
   (try simp only [sd] at g11)
   refine A2 A8 3 [] O ?_
   refine BQ 22 O (fun g12 => ?_) (fun g12 => ?_)
   ·(try simp only [sd] at g12)
    refine Ax A8 4 [] O ?_
    exact ⟨O, O, AK, pB Ap, ⟨O, O, O, Au⟩⟩
   (try simp only [sd] at g12)
   refine Ax A8 4 [] O ?_
   exact ⟨O, O, AK, pB Ap, ⟨O, O, O, Au⟩⟩
  (try simp only [sd] at g1)
  refine A2 A8 12 [] O ?_
  refine BQ 19 O (fun g13 => ?_) (fun g13 => ?_)
  ·(try simp only [sd] at g13)
   refine Ax A8 7 [] O ?_
   exact ⟨O, O, AK, pB Ap, ⟨O, O, O, Au⟩⟩
  (try simp only [sd] at g13)
  refine A2 A8 3 [] O ?_
  refine BQ 22 O (fun g14 => ?_) (fun g14 => ?_)
  ·(try simp only [sd] at g14)
   refine Ax A8 4 [] O ?_
   exact ⟨O, O, AK, pB Ap, ⟨O, O, O, Au⟩⟩
  (try simp only [sd] at g14)
  refine Ax A8 4 [] O ?_
  exact ⟨O, O, AK, pB Ap, ⟨O, O, O, Au⟩⟩
 rintro _ rfl
 refine A0 O (fun c15 => ?_) (fun c15 => ?_)
 ·(try simp only [sd] at c15)
  refine Ay A8 1 [] O ?_
  refine A4 ?_
  refine ⟨O, _, [], Bi O, List.nil_sublist _, ?_⟩
  exact ⟨pI (by simp only [below, *]; rfl), O⟩
 (try simp only [sd] at c15)
 refine A5 ?_
 refine Ay A8 1 [] O ?_
 refine A4 ?_
 refine ⟨O, _, [], Bi O, List.nil_sublist _, ?_⟩
 exact ⟨pI (by simp only [below, *]; rfl), O⟩
theorem _root_.Go.AA {α:Prop}(h:α:=by first | exact List.Sublist.refl _ | exact .cons _ (.refl _) | exact .cons _ (.cons _ (.refl _)) | exact .cons _ (.cons _ (.cons _ (.refl _))) | exact .cons _ (.cons _ (.cons _ (.cons _ (.refl _))))):α:=h
theorem aX:∀(s:ByteArray),s.size<Dv→FX Tryz.prog 122 [.p (.str s)] Fh:=by
 intro s hs;simp only[Dv] at hs;refine A9 Tryz.func122 O lH (n:=45) O O (Ay A8 1 [] O (Az (Az (Bb [0,2,3,4,5] 12 Fh ?_ ?_))))
 ·refine A7 (B0 O (Av O (F4 O O) (B0 O (BQ 8 O (fun g1=>?_) (fun g1=>?_)))))
  ·(try simp only[sd] at g1);exact Ax A8 4 [] O (⟨O,O,AK,⟨_,O⟩,⟨O,O,O,O,O,Au⟩⟩)
  (try simp only[sd] at g1);exact BF O (BC O) (BF O (Fm iD O) (Ax A8 2 [] O (⟨O,O,AK,⟨_,O⟩,⟨O,O,O,O,O,Au⟩⟩)))
 rintro _ ⟨q1,rfl⟩;refine A0 O (fun c2=>?_) (fun c2=>?_)
 ·(try simp only[sd] at c2);refine Ay A8 1 [] O (A4 (⟨O,_,[],Bi O,List.nil_sublist _,⟨⟨_,O⟩,O⟩⟩))
 (try simp only[sd] at c2);refine A5 (Ay A8 1 [] O (Az (Ay A8 1 [] O (BH (Bn (α:=Nat×Bool) (fun x=>⟨45,mk [(0,.p (.str s)),(3,.p (.bool x.2)),(4,.p (I x.1))],[],[]⟩) (fun x=>s.size - x.1) (fun x=>x.1≤s.size) ((0,true)) As ?_ ?_)))))
 ·exact D2 ⟨O,O,O,Au⟩ AA
 rintro⟨i,f⟩ hi;simp only at hi;refine Az (A3 (A2 A8 2 [] O (Av O (Fm iD O) (Ax A8 1 [] O (A0 O (fun c3=>?_) (fun c3=>?_))))))
 ·(try simp only[sd] at c3);have hi2:i<s.size:=by omega
  obtain⟨ch,hch⟩:∃ch,s[i]?=some ch:=⟨_,getElem?_pos s i hi2⟩;refine A5 (Az (BH (A3 (A2 A8 2 [] O (Av O (Ri iD O O Ar (by simpa using hch)) (Ax A8 1 [] O (Az (Ay A8 1 [] O (A0 O (fun c4=>?_) (fun c4=>?_))))))))))
  ·(try simp only[sd] at c4);refine Az (A3 (B0 O (DO O O (B7 O O (VS _) (.inl O)) ?_)));rintro _ ⟨q,rfl⟩;refine Ax A8 1 [] O (A0 O (fun c5=>?_) (fun c5=>?_))
   ·(try simp only[sd] at c5);refine Ay A8 1 [] O (A4 (⟨O,_,[],Bi O,List.nil_sublist _,⟨⟨_,O⟩,O⟩⟩))
   (try simp only[sd] at c5);exact A5 (Ay A8 1 [] O (Bp (A7 (Ax A8 3 [] O (⟨(i+1,_),Ae,Ae,D2 ⟨O,O,O,Au⟩ AA⟩)))))
  (try simp only[sd] at c4);refine A5 (Az (Ay A8 2 [] O (A0 O (fun c6=>?_) (fun c6=>?_))))
  ·(try simp only[sd] at c6);exact Ay A8 1 [] O (Bp (A7 (Ax A8 3 [] O (⟨(i+1,_),Ae,Ae,D2 ⟨O,O,O,Au⟩ AA⟩))))
  (try simp only[sd] at c6);refine A5 (Az (Bb [0,2,3,4,5] 42 Fh ?_ ?_))
  ·refine A7 (B0 O (DO O O (B7 O O (VS _) (.inl O)) ?_));rintro _ ⟨q,rfl⟩;refine A2 A8 2 [] O (BQ 31 O (fun g7=>?_) (fun g7=>?_))
   ·(try simp only[sd] at g7);refine A2 A8 4 [] O (BQ 35 O (fun g8=>?_) (fun g8=>?_))
    ·(try simp only[sd] at g8);refine A2 A8 3 [] O (BQ 38 O (fun g9=>?_) (fun g9=>?_))
     ·(try simp only[sd] at g9);exact Ax A8 4 [] O (⟨O,O,AK,⟨_,O⟩,⟨O,O,O,O,O,Au⟩⟩)
     (try simp only[sd] at g9);exact Ax A8 4 [] O (⟨O,O,AK,⟨_,O⟩,⟨O,O,O,O,O,Au⟩⟩)
    (try simp only[sd] at g8);exact Ax A8 7 [] O (⟨O,O,AK,⟨_,O⟩,⟨O,O,O,O,O,Au⟩⟩)
   (try simp only[sd] at g7);refine A2 A8 4 [] O (BQ 35 O (fun g10=>?_) (fun g10=>?_))
   ·(try simp only[sd] at g10);refine A2 A8 3 [] O (BQ 38 O (fun g11=>?_) (fun g11=>?_))
    ·(try simp only[sd] at g11);exact Ax A8 4 [] O (⟨O,O,AK,⟨_,O⟩,⟨O,O,O,O,O,Au⟩⟩)
    (try simp only[sd] at g11);exact Ax A8 4 [] O (⟨O,O,AK,⟨_,O⟩,⟨O,O,O,O,O,Au⟩⟩)
   (try simp only[sd] at g10);exact Ax A8 7 [] O (⟨O,O,AK,⟨_,O⟩,⟨O,O,O,O,O,Au⟩⟩)
  rintro _ ⟨q14,rfl⟩;refine A0 O (fun c12=>?_) (fun c12=>?_)
  ·(try simp only[sd] at c12);refine Ay A8 1 [] O (A4 (⟨O,_,[],Bi O,List.nil_sublist _,⟨⟨_,O⟩,O⟩⟩))
  (try simp only[sd] at c12);exact A5 (A7 (Ax A8 3 [] O (⟨(i+1,_),Ae,Ae,D2 ⟨O,O,O,Au⟩ AA⟩)))
 (try simp only[sd] at c3);refine Bp (Ay A8 3 [] O (A4 (⟨O,_,[],Bi O,List.nil_sublist _,⟨⟨_,O⟩,O⟩⟩)))
theorem _root_.Go.AD {α:Prop}(h:α:=by repeat' first | exact trivial | refine And.intro ?_ ?_ | exact Or.inl (by kernel_rfl) | (refine Or.inr (And.intro ?_ ?_)<;>repeat (first | exact List.Mem.head _ | apply List.Mem.tail))):α:=h
theorem gT:∀(l:Cf),RQ l→FX Tryz.prog 148 [LV l] Fh:=by
 intro l hn;obtain⟨lc,lv⟩:=l;have hb:=hn.vars;simp only[Dv] at hb;refine A9 Tryz.func148 O nJ (n:=67) O O (A3 (BP O (BY O) fun b1=>Ax A8 1 [] O (Az (Az (Bb [0,1,2,3,4] 12 Fh ?_ ?_)))))
 ·refine A7 (A2 A8 4 [0] O (BQ 8 O (fun g1=>?_) (fun g1=>?_)))
  ·(try simp only[sd] at g1);exact Ax A8 4 [] O (⟨O,O,AK,⟨_,O⟩,⟨O,O,O,O,O,Au⟩⟩)
  (try simp only[sd] at g1);exact Ax A8 4 [0] O (⟨O,O,AK,⟨_,O⟩,⟨O,O,O,O,O,Au⟩⟩)
 rintro _ ⟨q1,rfl⟩;refine A0 O (fun c2=>?_) (fun c2=>?_)
 ·(try simp only[sd] at c2);refine Ay A8 1 [] O (A4 (⟨O,_,[],Bi O,List.nil_sublist _,⟨⟨_,O⟩,O⟩⟩))
 (try simp only[sd] at c2);refine A5 (Az (Ay A8 1 [] O (BH (Hr (lv.length) (fun _=>True) (fun i=>⟨67,mk [(1,.ptr b1 0),(3,.p (I i))],[.box b1 ((CD ⟨lc,lv⟩).map .p)],[]⟩) (0) Ar (Au) ?_ ?_))))
 ·exact D2 ⟨O,O,Au⟩ AA
 intro i hi hC;refine Az (A3 (A2 A8 3 [0] O (Av O (Ct EA O) (Ax A8 1 [] O (A0 O (fun c3=>?_) (fun c3=>?_))))))
 ·(try simp only[sd] at c3);have hi2:i<lv.length:=by simp at c3;omega
  obtain⟨v,hv⟩:=BB hi2;obtain⟨w,hw⟩:=BB (l:=lv) (i:=i - 1) Ar;refine A5 (Az (BH (A3 (A2 A8 3 [0] O (Av O (BA EA O O Ar (Ee hv) (O)) (Av O (BO O1 O (O)) (BP O (BE L4 O) fun b4=>Ax A8 1 [0,0] O (Az (Az (Bb [0,1,2,3,4] 42 Fh ?_ ?_))))))))))
  ·refine A7 (A2 A8 4 [0] O (BQ 28 O (fun g4=>?_) (fun g4=>?_)))
   ·(try simp only[sd] at g4);refine A2 A8 5 [] O (BQ 33 O (fun g5=>?_) (fun g5=>?_))
    ·(try simp only[sd] at g5);refine A2 A8 5 [] O (BQ 38 O (fun g6=>?_) (fun g6=>?_))
     ·(try simp only[sd] at g6);exact Ax A8 4 [] O (⟨O,O,AK,⟨_,O⟩,⟨O,O,O,O,O,Au⟩⟩)
     (try simp only[sd] at g6);exact Ax A8 4 [0] O (⟨O,O,AK,⟨_,O⟩,⟨O,O,O,O,O,Au⟩⟩)
    (try simp only[sd] at g5);refine A2 A8 5 [0] O (BQ 38 O (fun g7=>?_) (fun g7=>?_))
    ·(try simp only[sd] at g7);exact Ax A8 4 [] O (⟨O,O,AK,⟨_,O⟩,⟨O,O,O,O,O,Au⟩⟩)
    (try simp only[sd] at g7);exact Ax A8 4 [0] O (⟨O,O,AK,⟨_,O⟩,⟨O,O,O,O,O,Au⟩⟩)
   (try simp only[sd] at g4);refine A2 A8 5 [0] O (BQ 33 O (fun g8=>?_) (fun g8=>?_))
   ·(try simp only[sd] at g8);refine A2 A8 5 [] O (BQ 38 O (fun g9=>?_) (fun g9=>?_))
    ·(try simp only[sd] at g9);exact Ax A8 4 [] O (⟨O,O,AK,⟨_,O⟩,⟨O,O,O,O,O,Au⟩⟩)
    (try simp only[sd] at g9);exact Ax A8 4 [0] O (⟨O,O,AK,⟨_,O⟩,⟨O,O,O,O,O,Au⟩⟩)
   (try simp only[sd] at g8);refine A2 A8 5 [0] O (BQ 38 O (fun g10=>?_) (fun g10=>?_))
   ·(try simp only[sd] at g10);exact Ax A8 4 [] O (⟨O,O,AK,⟨_,O⟩,⟨O,O,O,O,O,Au⟩⟩)
   (try simp only[sd] at g10);exact Ax A8 4 [0] O (⟨O,O,AK,⟨_,O⟩,⟨O,O,O,O,O,Au⟩⟩)
  rintro _ ⟨q7,rfl⟩;refine A0 O (fun c11=>?_) (fun c11=>?_)
  ·(try simp only[sd] at c11);refine Ay A8 1 [] O (A4 (⟨O,_,[],Bi O,List.nil_sublist _,⟨⟨_,O⟩,O⟩⟩))
  (try simp only[sd] at c11);refine A5 (Az (Az (Bb [0,1,2,3,4] 56 Fh ?_ ?_)))
  ·refine CG (fun k=>false) Eg (A1 O (fun _=>BC O) Au (A1 O (fun _=>D8 O O O) Au (A1 O (fun _=>BC O) Au (GX 45 O (fun g12=>?_) (fun g12=>?_)))))
   ·(try simp only[sd] at g12);refine By O (fun _=>Aw JB O O) Au (Dl (i:=1) O O O O O (fun H i hi=>BG (i:=i) PB O hi O) AD Au (By O (fun _=>BC O) Au (By O (fun _=>Lp O O Ar Ar) Au ?_)));refine By O (fun _=>BA EA O O (by simp_all;omega) (by rw[show ((i:Int) - 1).toNat=i - 1 by omega];exact Ee hw) (O)) Au ?_;exact By O (fun _=>B3 Ia O O) Au (By O (fun _=>Dt C7 O) Au (By O (fun _=>Aw Ia O O) Au (Dl (i:=0) O O O O O (fun H i hi=>BG (i:=i) C7 O hi O) AD Au (By O (fun _=>D8 O O O) Au (A1 O (fun _=>CS O O) Au (B6 O An (⟨O,O,AK,⟨_,O⟩,⟨O,O,O,O,O,Au⟩⟩)))))))
   (try simp only[sd] at g12);exact B1 O Au (B1 O Au (B1 O Au (B1 O Au (B1 O Au (B1 O Au (B1 O Au (B1 O Au (B1 O Au (B1 O Au (A1 O (fun _=>CS O O) Au (B6 O An (⟨O,O,AK,⟨_,O⟩,⟨O,O,O,O,O,Au⟩⟩))))))))))))
  rintro _ ⟨q9,rfl⟩;refine A0 O (fun c13=>?_) (fun c13=>?_)
  ·(try simp only[sd] at c13);refine Ay A8 1 [] O (A4 (⟨O,_,[],Bi O,List.nil_sublist _,⟨⟨_,O⟩,O⟩⟩))
  (try simp only[sd] at c13);refine A5 (Az (Bb [0,1,2,3,4] 66 Fh ?_ ?_))
  ·refine A7 (A2 A8 4 [1] O (BQ 60 O (fun g14=>?_) (fun g14=>?_)))
   ·(try simp only[sd] at g14);exact Ax A8 6 [0,1] O (⟨O,O,AK,⟨_,O⟩,⟨O,O,O,O,O,Au⟩⟩)
   (try simp only[sd] at g14);exact Ax A8 6 [] O (⟨O,O,AK,⟨_,O⟩,⟨O,O,O,O,O,Au⟩⟩)
  rintro _ ⟨q11,rfl⟩;refine A0 O (fun c15=>?_) (fun c15=>?_)
  ·(try simp only[sd] at c15);refine Ay A8 1 [] O (A4 (⟨O,_,[],Bi O,List.nil_sublist _,⟨⟨_,O⟩,O⟩⟩))
  (try simp only[sd] at c15);exact A5 (A7 (Ax A8 3 [] O (⟨by omega,trivial,D2 ⟨rfl,rfl,trivial⟩ AA⟩)))
 (try simp only[sd] at c3);refine Bp (Ay A8 1 [] O (A4 (⟨O,_,[],Bi O,List.nil_sublist _,⟨⟨_,O⟩,O⟩⟩)))
theorem gI:∀(l:Cf) (a b:Int),RQ l→FX Tryz.prog 123 [LV l,.p (I a),.p (I b)] YL:=by
 intro l pa pb hn;have hn0:=hn;obtain⟨lc,lv⟩:=l;have hb:=hn.vars;simp only[Dv] at hb;refine A9 Tryz.func123 O lN (n:=61) O O (A3 (BP O (BY O) fun b3=>Ax A8 1 [] O (Az (A3 (Av O (BI (i:=0) FK O O O) (DO O O (B7 O O (gT _ hn0) (.inl O)) ?_))))));rintro _ ⟨q,rfl⟩;refine Ax A8 1 [] O (A0 O (fun c1=>?_) (fun c1=>?_))
 ·(try simp only[sd] at c1);refine Ay A8 1 [] O (A4 (⟨O,_,[],Bi O,List.nil_sublist _,⟨⟨_,O⟩,O⟩⟩))
 (try simp only[sd] at c1);refine A5 (Az (Ay A8 1 [] O (BH (Hr (lv.length) (fun _=>True) (fun i=>⟨61,mk [(1,.p (I pa)),(2,.p (I pb)),(3,.ptr b3 0),(7,.p (I i))],[.box b3 ((CD ⟨lc,lv⟩).map .p)],[]⟩) (0) Ar (Au) ?_ ?_))))
 ·exact D2 ⟨O,O,O,O,Au⟩ AA
 intro i hi hC;refine Az (A3 (A2 A8 3 [0] O (Av O (Ct EA O) (Ax A8 1 [] O (A0 O (fun c2=>?_) (fun c2=>?_))))))
 ·(try simp only[sd] at c2);have hi2:i<lv.length:=by simp at c2;omega
  obtain⟨v,hv⟩:=BB hi2;refine A5 (Az (BH (Az (Bb [0,1,2,3,6,7,8] 35 Fh ?_ ?_))))
  ·refine A7 (A2 A8 3 [0] O (Av O (BA EA O O Ar (Ee hv) (O)) (A2 A8 4 [] O (BQ 26 O (fun g3=>?_) (fun g3=>?_)))))
   ·(try simp only[sd] at g3);exact A2 A8 3 [0] O (BF O (BA EA O O Ar (Ee hv) (O)) (Ax A8 5 [] O (⟨O,O,AK,⟨_,O⟩,⟨O,O,O,O,O,O,O,Au⟩⟩)))
   (try simp only[sd] at g3);exact Ax A8 9 [] O (⟨O,O,AK,⟨_,O⟩,⟨O,O,O,O,O,O,O,Au⟩⟩)
  rintro _ ⟨q6,rfl⟩;refine A0 O (fun c4=>?_) (fun c4=>?_)
  ·(try simp only[sd] at c4);refine Ay A8 1 [] O (A4 (⟨O,_,[],Bi O,List.nil_sublist _,⟨⟨_,O⟩,O⟩⟩))
  (try simp only[sd] at c4);exact A5 (A7 (Ax A8 3 [] O (⟨by omega,trivial,D2 ⟨rfl,rfl,rfl,rfl,trivial⟩ AA⟩)))
 (try simp only[sd] at c2);refine Bp (Az (Ay A8 1 [] O (BH (Hr (lv.length) (fun _=>True) (fun i=>⟨61,mk [(1,.p (I pa)),(2,.p (I pb)),(3,.ptr b3 0),(8,.p (I i))],[.box b3 ((CD ⟨lc,lv⟩).map .p)],[]⟩) (0) Ar (Au) ?_ ?_))))
 ·exact D2 ⟨O,O,O,O,Au⟩ AA
 intro i hi hC;refine Az (A3 (A2 A8 3 [0] O (Av O (Ct EA O) (Ax A8 1 [] O (A0 O (fun c5=>?_) (fun c5=>?_))))))
 ·(try simp only[sd] at c5);have hi2:i<lv.length:=by simp at c5;omega
  obtain⟨v,hv⟩:=BB hi2;refine A5 (Az (BH (Az (Bb [0,1,2,3,6,7,8] 60 Fh ?_ ?_))))
  ·refine A7 (A2 A8 3 [0] O (Av O (BA EA O O Ar (Ee hv) (O)) (A2 A8 4 [] O (BQ 50 O (fun g6=>?_) (fun g6=>?_)))))
   ·(try simp only[sd] at g6);exact A2 A8 3 [0] O (BF O (BA EA O O Ar (Ee hv) (O)) (A2 A8 2 [] O (BF O (JW O O) (Ax A8 3 [] O (⟨O,O,AK,⟨_,O⟩,⟨O,O,O,O,O,O,O,Au⟩⟩)))))
   (try simp only[sd] at g6);exact Ax A8 10 [] O (⟨O,O,AK,⟨_,O⟩,⟨O,O,O,O,O,O,O,Au⟩⟩)
  rintro _ ⟨q11,rfl⟩;refine A0 O (fun c7=>?_) (fun c7=>?_)
  ·(try simp only[sd] at c7);refine Ay A8 1 [] O (A4 (⟨O,_,[],Bi O,List.nil_sublist _,⟨⟨_,O⟩,O⟩⟩))
  (try simp only[sd] at c7);exact A5 (A7 (Ax A8 3 [] O (⟨by omega,trivial,D2 ⟨rfl,rfl,rfl,rfl,trivial⟩ AA⟩)))
 (try simp only[sd] at c5);refine Bp (Ay A8 1 [] O (A4 (⟨O,_,[],Bi O,List.nil_sublist _,⟨⟨_,O⟩,O⟩⟩)))
theorem js:∀(t:Tm),FX Tryz.prog 121 [TV t] (fun v=>∃b:Bool,v= .p (.bool b)∧(b=true→XG t)):=by
 intro t;obtain⟨kd,ix,nm,ls,ks⟩:=t;refine A9 Tryz.func121 O mb (n:=57) O O (A3 (BP O (BY O) fun b1=>Ax A8 1 [] O (Az (Az (Bb [0,1,2] 19 (fun y=>y= .p (.bool (decide (kd<0)||decide (kd≥13)||((BK ks).length:Int) !=arity kd))) ?_ ?_)))))
 ·refine CG (fun k=>false) Eg (A1 O (fun _=>Aw Dq O O) Au (BT (j:=0) O O O (fun H i hi=>BG (i:=i) C7 O hi O) AD Au (A1 O (fun _=>D8 O O O) Au (A1 O (fun _=>BC O) Au (GX 6 O (fun g1=>?_) (fun g1=>?_))))))
  ·(try simp only[sd] at g1);refine B1 O Au (B1 O Au (B1 O Au (A1 O (fun _=>CS O O) Au (A1 O (fun _=>BC O) Au (GX 11 O (fun g2=>?_) (fun g2=>?_))))))
   ·(try simp only[sd] at g2);refine B1 O Au (B1 O Au (B1 O Au (B1 O Au (B1 O Au (B1 O Au (B1 O Au (A1 O (fun _=>CS O O) Au (B6 O An ?_))))))));exact⟨rfl,rfl,AK,pB (by simp_all<;>(try (intros;omega))),⟨rfl,rfl,rfl,trivial⟩⟩
   (try simp only[sd] at g2);refine By O (fun _=>Aw Dq O O) Au (Dl (i:=0) O O O O O (fun H i hi=>BG (i:=i) E3 O hi O) AD Au (By O (fun _=>Ct Br O) Au (By O (fun _=>Aw Dq O O) Au (Dl (i:=0) O O O O O (fun H i hi=>BG (i:=i) C7 O hi O) AD Au (By O (fun _=>BM O O (Zz kd) O) Au (By O (fun _=>D8 O O O) Au (A1 O (fun _=>CS O O) Au (B6 O An ?_))))))));exact⟨rfl,rfl,AK,pB (by simp_all<;>(try (intros;omega))),⟨rfl,rfl,rfl,trivial⟩⟩
  (try simp only[sd] at g1);refine By O (fun _=>Aw Dq O O) Au (Dl (i:=0) O O O O O (fun H i hi=>BG (i:=i) C7 O hi O) AD Au (By O (fun _=>D8 O O O) Au (A1 O (fun _=>CS O O) Au (A1 O (fun _=>BC O) Au (GX 11 O (fun g3=>?_) (fun g3=>?_))))))
  ·(try simp only[sd] at g3);refine B1 O Au (B1 O Au (B1 O Au (B1 O Au (B1 O Au (B1 O Au (B1 O Au (A1 O (fun _=>CS O O) Au (B6 O An ?_))))))));exact⟨rfl,rfl,AK,pB (by simp_all<;>(try (intros;omega))),⟨rfl,rfl,rfl,trivial⟩⟩
  (try simp only[sd] at g3);refine By O (fun _=>Aw Dq O O) Au (Dl (i:=0) O O O O O (fun H i hi=>BG (i:=i) E3 O hi O) AD Au (By O (fun _=>Ct Br O) Au (By O (fun _=>Aw Dq O O) Au (Dl (i:=0) O O O O O (fun H i hi=>BG (i:=i) C7 O hi O) AD Au (By O (fun _=>BM O O (Zz kd) O) Au (By O (fun _=>D8 O O O) Au (A1 O (fun _=>CS O O) Au (B6 O An ?_))))))));exact⟨rfl,rfl,AK,pB (by simp_all<;>(try (intros;omega))),⟨rfl,rfl,rfl,trivial⟩⟩
 rintro _ rfl;refine A0 O (fun c4=>?_) (fun c4=>?_)
 ·(try simp only[sd] at c4);refine Ay A8 1 [] O (A4 (⟨O,_,[],Bi O,List.nil_sublist _,⟨⟨_,O,?_⟩,O⟩⟩))
  first | exact(fun _=>hf) | exact(fun h=>by cases h)
 (try simp only[sd] at c4);have hf:XG (.mk kd ix nm ls ks):=by simp[Bc] at c4;exact⟨c4.1.1,c4.1.2,c4.2⟩
 refine A5 (Az (Az (Bb [0,1,2] 32 Fh ?_ ?_)))
 ·refine A7 (A2 A8 4 [0] O (BQ 23 O (fun g5=>?_) (fun g5=>?_)))
  ·(try simp only[sd] at g5);refine A2 A8 5 [0] O (BQ 28 O (fun g6=>?_) (fun g6=>?_))
   ·(try simp only[sd] at g6);exact Ax A8 4 [0] O (⟨O,O,AK,⟨_,O⟩,⟨O,O,O,Au⟩⟩)
   (try simp only[sd] at g6);exact Ax A8 4 [] O (⟨O,O,AK,⟨_,O⟩,⟨O,O,O,Au⟩⟩)
  (try simp only[sd] at g5);refine A2 A8 5 [] O (BQ 28 O (fun g7=>?_) (fun g7=>?_))
  ·(try simp only[sd] at g7);exact Ax A8 4 [0] O (⟨O,O,AK,⟨_,O⟩,⟨O,O,O,Au⟩⟩)
  (try simp only[sd] at g7);exact Ax A8 4 [] O (⟨O,O,AK,⟨_,O⟩,⟨O,O,O,Au⟩⟩)
 rintro _ ⟨q3,rfl⟩;refine A0 O (fun c8=>?_) (fun c8=>?_)
 ·(try simp only[sd] at c8);refine Ay A8 1 [] O (A4 (⟨O,_,[],Bi O,List.nil_sublist _,⟨⟨_,O,?_⟩,O⟩⟩))
  first | exact(fun _=>hf) | exact(fun h=>by cases h)
 (try simp only[sd] at c8);refine A5 (Az (Az (Bb [0,1,2] 40 Fh ?_ ?_)))
 ·refine A7 (A2 A8 2 [0] O (Av O (Jc O O) (B0 O (BQ 36 O (fun g9=>?_) (fun g9=>?_)))))
  ·(try simp only[sd] at g9);exact Ax A8 4 [0] O (⟨O,O,AK,⟨_,O⟩,⟨O,O,O,Au⟩⟩)
  (try simp only[sd] at g9);exact Ax A8 4 [] O (⟨O,O,AK,⟨_,O⟩,⟨O,O,O,Au⟩⟩)
 rintro _ ⟨q5,rfl⟩;refine A0 O (fun c10=>?_) (fun c10=>?_)
 ·(try simp only[sd] at c10);refine Ay A8 1 [] O (A4 (⟨O,_,[],Bi O,List.nil_sublist _,⟨⟨_,O,?_⟩,O⟩⟩))
  first | exact(fun _=>hf) | exact(fun h=>by cases h)
 (try simp only[sd] at c10);refine A5 (Az (Ay A8 3 [0] O (A0 O (fun c11=>?_) (fun c11=>?_))))
 ·(try simp only[sd] at c11);refine A3 (A2 A8 2 [0] O (Av O (Ct Fb O) (Ax A8 2 [] O (A4 (⟨O,_,[],Bi O,List.nil_sublist _,⟨⟨_,O,?_⟩,O⟩⟩)))))
  first | exact(fun _=>hf) | exact(fun h=>by cases h)
 (try simp only[sd] at c11);refine A5 (Az (Bb [0,1] 2 Fh ?_ ?_))
 ·refine A7 (A2 A8 2 [0] O (Av O (Ct Fb O) (A2 A8 2 [] O (BQ 52 O (fun g12=>?_) (fun g12=>?_)))))
  ·(try simp only[sd] at g12);exact Ax A8 5 [] O (⟨O,O,AK,⟨_,O⟩,⟨O,O,Au⟩⟩)
  (try simp only[sd] at g12);exact Ax A8 5 [0] O (⟨O,O,AK,⟨_,O⟩,⟨O,O,Au⟩⟩)
 rintro _ ⟨q9,rfl⟩;refine A4 (⟨O,_,[],Bi O,List.nil_sublist _,⟨⟨_,O,?_⟩,O⟩⟩)
 first | exact(fun _=>hf) | exact(fun h=>by cases h)
theorem _root_.Go.Ao {α:Prop}(h:α:=by assumption):α:=h
theorem XU:∀(n:Nat) (t:Tm) (d vars params metas levels:Int),size t≤n→Nd t→0≤d→d+n<Dv→FX Tryz.prog 92 [TV t,.p (I d),.p (I vars),.p (I params),.p (I metas),.p (I levels)] (fun v=>∃e:Int,v= .p (I e)∧(e=0→wf vars metas d t)):=by
 intro n
 induction n with
 | zero=>intro t d vars params metas levels h;cases t;simp[size] at h
 | succ n ih =>
  intro t d vars params metas levels hs hnd hd0 hdn;obtain⟨kd,ix,nm,ls,ks⟩:=t;simp only[size] at hs;simp only[Nd,JJ,Dv] at hnd hdn;obtain⟨hn1,hn2,hn3,hn4,hn5,hn6,hn7⟩:=hnd;refine A9 Tryz.func92 O n4 (n:=107) O O (A3 (BP O (BY O) fun b6=>Ax A8 1 [] O (Az (A3 (Av O (BI (i:=0) Ba O O O) (DO O O (B7 O O (js (.mk kd ix nm ls ks)) (.inl O)) ?_))))));rintro _ ⟨fb,rfl,hfb⟩;refine Ax A8 1 [] O (A0 O (fun c1=>?_) (fun c1=>?_))
  ·(try simp only[sd] at c1);refine Ay A8 1 [] O (A4 (⟨O,_,[],Bi O,List.nil_sublist _,⟨⟨_,O,?_⟩,O⟩⟩))
   first | exact(fun h=>absurd h Aq) | exact(fun h=>absurd h Ao) | exact(fun _=>⟨hf.1,hf.2.1,hf.2.2,hv1,hv2,J1 fun j t ht=>by have:=hC j (by have:=(List.getElem?_eq_some_iff.1 ht).1;omega) t ht;simpa using this⟩)
  (try simp only[sd] at c1);have hf:XG (.mk kd ix nm ls ks):=hfb (by simpa using c1);refine A5 (Az (Az (Bb [0,1,2,3,4,5,6,12,13,14,15,16] 28 Fh ?_ ?_)))
  ·refine A7 (A2 A8 4 [0] O (BQ 23 O (fun g2=>?_) (fun g2=>?_)))
   ·(try simp only[sd] at g2);refine A2 A8 2 [0] O (G5 O O O O (B7 O O (aX nm hn1) (.inl O)) ?_);rintro _ ⟨q,rfl⟩;exact Ax A8 2 [] O (⟨O,O,AK,⟨_,O⟩,⟨O,O,O,O,O,O,O,O,O,O,O,O,Au⟩⟩)
   (try simp only[sd] at g2);exact Ax A8 5 [] O (⟨O,O,AK,⟨_,O⟩,⟨O,O,O,O,O,O,O,O,O,O,O,O,Au⟩⟩)
  rintro _ ⟨q3,rfl⟩;refine A0 O (fun c3=>?_) (fun c3=>?_)
  ·(try simp only[sd] at c3);refine Ay A8 1 [] O (A4 (⟨O,_,[],Bi O,List.nil_sublist _,⟨⟨_,O,?_⟩,O⟩⟩))
   first | exact(fun h=>absurd h Aq) | exact(fun h=>absurd h Ao) | exact(fun _=>⟨hf.1,hf.2.1,hf.2.2,hv1,hv2,J1 fun j t ht=>by have:=hC j (by have:=(List.getElem?_eq_some_iff.1 ht).1;omega) t ht;simpa using this⟩)
  (try simp only[sd] at c3);refine A5 (Az (A3 (A2 A8 2 [0] O (Av O (Ct Fb O) (Ax A8 1 [] O (A0 O (fun c4=>?_) (fun c4=>?_)))))))
  ·(try simp only[sd] at c4);refine Ay A8 1 [] O (A4 (⟨O,_,[],Bi O,List.nil_sublist _,⟨⟨_,O,?_⟩,O⟩⟩))
   first | exact(fun h=>absurd h Aq) | exact(fun h=>absurd h Ao) | exact(fun _=>⟨hf.1,hf.2.1,hf.2.2,hv1,hv2,J1 fun j t ht=>by have:=hC j (by have:=(List.getElem?_eq_some_iff.1 ht).1;omega) t ht;simpa using this⟩)
  (try simp only[sd] at c4);refine A5 (Az (Ay A8 1 [] O (BH (Hr (ls.length) (fun _=>True) (fun i=>⟨107,mk [(1,.p (I d)),(2,.p (I vars)),(3,.p (I params)),(4,.p (I metas)),(5,.p (I levels)),(6,.ptr b6 0),(13,.p (I i))],[.box b6 ((BU (.mk kd ix nm ls ks)).map .p)],[]⟩) (0) Ar (Au) ?_ ?_))))
  ·exact D2 ⟨O,O,O,O,O,O,O,Au⟩ AA
  intro i hi hC;refine Az (A3 (A2 A8 3 [0] O (Av O (Ct Fb O) (Ax A8 1 [] O (A0 O (fun c5=>?_) (fun c5=>?_))))))
  ·(try simp only[sd] at c5);have hi2:i<ls.length:=by simp at c5;omega
   obtain⟨x,hx⟩:=BB hi2;refine A5 (Az (BH (A3 (A2 A8 3 [0] O (Av O (BA Fb O O Ar (G0 hx) (Dw _)) (A2 A8 3 [] O (DO O O (B7 O O (gI x params levels (hn3 x (List.mem_of_getElem? hx))) (.inl O)) ?_)))))));rintro _ ⟨le,rfl⟩;refine Ax A8 1 [] O (Ay A8 2 [] O (A0 O (fun c6=>?_) (fun c6=>?_)))
   ·(try simp only[sd] at c6);refine Ay A8 2 [] O (A4 (⟨O,_,[],Bi O,List.nil_sublist _,⟨⟨_,O,?_⟩,O⟩⟩))
    first | exact(fun h=>absurd h Aq) | exact(fun h=>absurd h Ao) | exact(fun _=>⟨hf.1,hf.2.1,hf.2.2,hv1,hv2,J1 fun j t ht=>by have:=hC j (by have:=(List.getElem?_eq_some_iff.1 ht).1;omega) t ht;simpa using this⟩)
   (try simp only[sd] at c6);exact A5 (A7 (Ax A8 3 [] O (⟨by omega,trivial,D2 ⟨rfl,rfl,rfl,rfl,rfl,rfl,rfl,trivial⟩ AA⟩)))
  (try simp only[sd] at c5);refine Bp (Az (Az (Bb [0,1,2,3,4,5,6,12,13,14,15,16] 66 (fun y=>y= .p (.bool (kd==0&&(decide (ix<0)||decide (ix - d≥vars))))) ?_ ?_)))
  ·refine A7 (A2 A8 4 [0] O (BQ 54 O (fun g7=>?_) (fun g7=>?_)))
   ·(try simp only[sd] at g7);refine A2 A8 4 [0] O (BQ 58 O (fun g8=>?_) (fun g8=>?_))
    ·(try simp only[sd] at g8);refine Ax A8 8 [] O ?_;exact⟨rfl,rfl,AK,pB (by simp_all<;>(try (intros;omega))),⟨rfl,rfl,rfl,rfl,rfl,rfl,rfl,rfl,rfl,rfl,rfl,rfl,trivial⟩⟩
    (try simp only[sd] at g8);refine Ax A8 8 [0] O ?_;exact⟨rfl,rfl,AK,pB (by simp_all<;>(try (intros;omega))),⟨rfl,rfl,rfl,rfl,rfl,rfl,rfl,rfl,rfl,rfl,rfl,rfl,trivial⟩⟩
   (try simp only[sd] at g7);refine Ax A8 12 [] O ?_;exact⟨rfl,rfl,AK,pB (by simp_all<;>(try (intros;omega))),⟨rfl,rfl,rfl,rfl,rfl,rfl,rfl,rfl,rfl,rfl,rfl,rfl,trivial⟩⟩
  rintro _ rfl;refine A0 O (fun c9=>?_) (fun c9=>?_)
  ·(try simp only[sd] at c9);refine Ay A8 1 [] O (A4 (⟨O,_,[],Bi O,List.nil_sublist _,⟨⟨_,O,?_⟩,O⟩⟩))
   first | exact(fun h=>absurd h Aq) | exact(fun h=>absurd h Ao) | exact(fun _=>⟨hf.1,hf.2.1,hf.2.2,hv1,hv2,J1 fun j t ht=>by have:=hC j (by have:=(List.getElem?_eq_some_iff.1 ht).1;omega) t ht;simpa using this⟩)
  (try simp only[sd] at c9);have hv1:kd=0→0≤ix∧ix - d<vars:=by intro h;simp[h] at c9;omega
  refine A5 (Az (Az (Bb [0,1,2,3,4,5,6,12,13,14,15,16] 80 (fun y=>y= .p (.bool (kd==12&&(decide (ix<0)||decide (ix≥metas))))) ?_ ?_)))
  ·refine A7 (A2 A8 4 [0] O (BQ 70 O (fun g10=>?_) (fun g10=>?_)))
   ·(try simp only[sd] at g10);refine A2 A8 4 [0] O (BQ 74 O (fun g11=>?_) (fun g11=>?_))
    ·(try simp only[sd] at g11);refine Ax A8 6 [] O ?_;exact⟨rfl,rfl,AK,pB (by simp_all<;>(try (intros;omega))),⟨rfl,rfl,rfl,rfl,rfl,rfl,rfl,rfl,rfl,rfl,rfl,rfl,trivial⟩⟩
    (try simp only[sd] at g11);refine Ax A8 6 [0] O ?_;exact⟨rfl,rfl,AK,pB (by simp_all<;>(try (intros;omega))),⟨rfl,rfl,rfl,rfl,rfl,rfl,rfl,rfl,rfl,rfl,rfl,rfl,trivial⟩⟩
   (try simp only[sd] at g10);refine Ax A8 10 [] O ?_;exact⟨rfl,rfl,AK,pB (by simp_all<;>(try (intros;omega))),⟨rfl,rfl,rfl,rfl,rfl,rfl,rfl,rfl,rfl,rfl,rfl,rfl,trivial⟩⟩
  rintro _ rfl;refine A0 O (fun c12=>?_) (fun c12=>?_)
  ·(try simp only[sd] at c12);refine Ay A8 1 [] O (A4 (⟨O,_,[],Bi O,List.nil_sublist _,⟨⟨_,O,?_⟩,O⟩⟩))
   first | exact(fun h=>absurd h Aq) | exact(fun h=>absurd h Ao) | exact(fun _=>⟨hf.1,hf.2.1,hf.2.2,hv1,hv2,J1 fun j t ht=>by have:=hC j (by have:=(List.getElem?_eq_some_iff.1 ht).1;omega) t ht;simpa using this⟩)
  (try simp only[sd] at c12);have hv2:kd=12→0≤ix∧ix<metas:=by intro h;simp[h] at c12;omega
  refine A5 (Az (Ay A8 1 [] O (BH ?_)));refine Hr (ks.length) (fun i=>∀j,j<i→∀t,ks[j]?=some t→wf vars metas (d+below kd j) t) (fun i=>⟨107,mk [(1,.p (I d)),(2,.p (I vars)),(3,.p (I params)),(4,.p (I metas)),(5,.p (I levels)),(6,.ptr b6 0),(15,.p (I i))],[.box b6 ((BU (.mk kd ix nm ls ks)).map .p)],[]⟩) (0) Ar (fun j h=>by omega) ?_ ?_
  ·exact D2 ⟨O,O,O,O,O,O,O,Au⟩ AA
  intro i hi hC;refine Az (A3 (A2 A8 3 [0] O (Av O (Ct Br O) (Ax A8 1 [] O (A0 O (fun c13=>?_) (fun c13=>?_))))))
  ·(try simp only[sd] at c13);have hi2:i<ks.length:=by simp[Bc] at c13;omega
   obtain⟨x,hx⟩:=BB hi2;have hbl:=DD kd i;refine A5 (Az (BH (Az (CG (fun k=>Nat.beq k 15) Eg (A1 O (fun _=>Aw Dq O O) Au (BT (j:=0) O O O (fun H i hi=>BG (i:=i) E3 O hi O) AD Au (A1 O (fun _=>BC O) Au (A1 O (fun _=>BA Br O O Ar (Bj hx) (BJ _)) Au (A1 O (fun _=>BO Ba O (BJ _)) Au (A1 O (fun _=>BC O) Au (A1 O (fun _=>Aw Dq O O) Au (BT (j:=0) O O O (fun H i hi=>BG (i:=i) C7 O hi O) AD Au (A1 O (fun _=>BC O) Au (A1 O (fun _=>BM O O (XP kd i) O) Au (A1 O (fun _=>Ga O O Ar Ar) Au (A1 O (fun _=>BC O) Au (A1 O (fun _=>BC O) Au (A1 O (fun _=>BC O) Au (A1 O (fun _=>BC O) Au ?_)))))))))))))))))));refine JN [] O O (B7 O O (ih x (d+below kd i) vars params metas levels (by have:=Cj hx;omega) (Dy hn5 hx) (by have:=DD kd i;omega) (by have:=DD kd i;simp only[Dv];omega)) (.inl O)) An (⟨_,1,O,fun h=>absurd h Aq⟩) AD ?_;rintro _ ⟨ce,rfl,hce⟩;refine⟨Au,?_⟩;refine A1 O (fun _=>Bf O) Au (B6 O An (Ay A8 2 [] O (A0 O (fun c14=>?_) (fun c14=>?_))))
   ·(try simp only[sd] at c14);refine Ay A8 2 [] O (A4 (⟨O,_,[],Bi O,List.nil_sublist _,⟨⟨_,O,?_⟩,O⟩⟩))
    first | exact(fun h=>absurd h Aq) | exact(fun h=>absurd h Ao) | exact(fun _=>⟨hf.1,hf.2.1,hf.2.2,hv1,hv2,J1 fun j t ht=>by have:=hC j (by have:=(List.getElem?_eq_some_iff.1 ht).1;omega) t ht;simpa using this⟩)
   (try simp only[sd] at c14);have hce0:=hce (by simpa using c14);exact A5 (A7 (Ax A8 3 [] O (⟨by omega,C6 hC hx hce0,D2 ⟨rfl,rfl,rfl,rfl,rfl,rfl,rfl,trivial⟩ AA⟩)))
  (try simp only[sd] at c13);have hi2:i=ks.length:=by simp[Bc] at c13;omega
  refine Bp (Ay A8 1 [] O (A4 (⟨O,_,[],Bi O,List.nil_sublist _,⟨⟨_,O,?_⟩,O⟩⟩)))
  first | exact(fun h=>absurd h Aq) | exact(fun h=>absurd h Ao) | exact(fun _=>⟨hf.1,hf.2.1,hf.2.2,hv1,hv2,J1 fun j t ht=>by have:=hC j (by have:=(List.getElem?_eq_some_iff.1 ht).1;omega) t ht;simpa using this⟩)
theorem ga:∀(a b:Cf),a.vars.length<Dv→FF Tryz.prog 80 [LV a,LV b] (.p (.bool (NQ a b))):=by
 intro a b hb;obtain⟨ac,av⟩:=a;obtain⟨bc,bv⟩:=b;simp only[Dv] at hb;refine A9 Tryz.func80 O nu (n:=38) O O (A3 (BP O (BY O) fun b2=>BP O (BY O) fun b3=>Ax A8 1 [] O (Az (Az (Bb [0,1,2,3,4,5] 19 (fun y=>y= .p (.bool (ac !=bc||(av.length:Int) !=bv.length))) ?_ ?_)))))
 ·refine A7 (A2 A8 6 [1,0] O (BQ 11 O (fun g1=>?_) (fun g1=>?_)))
  ·(try simp only[sd] at g1);exact Ax A8 8 [] O (⟨O,O,AK,pB Ap,⟨O,O,O,O,O,O,Au⟩⟩)
  (try simp only[sd] at g1);exact A2 A8 2 [1] O (BF O (Ct EA O) (A2 A8 2 [0] O (BF O (Ct EA O) (Ax A8 2 [] O (⟨O,O,AK,pB Ap,⟨O,O,O,O,O,O,Au⟩⟩)))))
 rintro _ rfl;refine A0 O (fun c2=>?_) (fun c2=>?_)
 ·(try simp only[sd] at c2);refine Ay A8 1 [] O (A4 ⟨O,_,[],Bi O,List.nil_sublist _,?_⟩);exact⟨pB (HV (fun h=>by simp at h;simp[h] at *)).symm,rfl⟩
 (try simp only[sd] at c2);have h1:ac=bc∧av.length=bv.length:=by simp at c2;omega
 refine A5 (Az (Ay A8 1 [] O (BH (Hr (av.length) (fun i=>agree av bv i) (fun i=>⟨38,mk [(2,.ptr b2 0),(3,.ptr b3 0),(5,.p (I i))],[.box b3 ((CD ⟨bc,bv⟩).map .p),.box b2 ((CD ⟨ac,av⟩).map .p)],[]⟩) (0) Ar (MI _ _) ?_ ?_))))
 ·exact D2 ⟨O,O,O,Au⟩ AA
 intro i hi hC;refine Az (A3 (A2 A8 3 [1] O (Av O (Ct EA O) (Ax A8 1 [] O (A0 O (fun c3=>?_) (fun c3=>?_))))))
 ·(try simp only[sd] at c3);have hi2:i<av.length:=by simp at c3;omega
  obtain⟨x,hx⟩:=BB hi2;obtain⟨y,hy⟩:=BB (l:=bv) (i:=i) Ar;refine A5 (Az (BH (Az (CG (fun k=>false) Eg (A1 O (fun _=>Aw JB O O) Au (BT (j:=1) O O O (fun H i hi=>BG (i:=i) PB O hi O) AD Au (A1 O (fun _=>BC O) Au (A1 O (fun _=>BA EA O O Ar (Ee hx) (O)) Au (A1 O (fun _=>BO O1 O (O)) Au (A1 O (fun _=>Aw JB O O) Au (BT (j:=0) O O O (fun H i hi=>BG (i:=i) PB O hi O) AD Au (A1 O (fun _=>BC O) Au (A1 O (fun _=>BA EA O O Ar (Ee hy) (O)) Au (A1 O (fun _=>BO O1 O (O)) Au (A1 O (fun _=>ZN ko O O) Au (B6 O An (A0 O (fun c4=>?_) (fun c4=>?_))))))))))))))))))
  ·(try simp only[sd] at c4);refine Ay A8 1 [] O (A4 ⟨O,_,[],Bi O,List.nil_sublist _,?_⟩);exact⟨pB (HV (fun h=>by simp at h;obtain⟨_,rfl⟩:=h;rw[hx] at hy;injection hy with hy;subst hy;simp_all)).symm,rfl⟩
  (try simp only[sd] at c4);have hxy:x=y:=by obtain⟨x1,x2⟩:=x;obtain⟨y1,y2⟩:=y;simp at c4;simp[c4]
  subst hxy;exact A5 (A7 (Ax A8 3 [] O (⟨by omega,MT hC hx hy,D2 ⟨rfl,rfl,rfl,trivial⟩ AA⟩)))
 (try simp only[sd] at c3);have hi2:i=av.length:=by simp at c3;omega
 refine Bp (Ay A8 1 [] O (A4 ⟨O,_,[],Bi O,List.nil_sublist _,?_⟩));exact⟨pB (Fg (by rw[h1.1,N1 hC Ar Ar])).symm,O⟩
theorem Nh:∀(a b:List Cf),a.length<Dv→(∀l∈a,RQ l)→FF Tryz.prog 42 [nc a,nc b] (.p (.bool (NQ a b))):=by
 intro a b hb hn;simp only[Dv] at hb;refine A9 Tryz.func42 O oS (n:=27) O O (Ay A8 1 [] O (Az (A3 (B0 O (Av O (Ct Fb O) (B0 O (Av O (Ct Fb O) (Ax A8 1 [] O (A0 O (fun c1=>?_) (fun c1=>?_))))))))))
 ·(try simp only[sd] at c1);refine Ay A8 1 [] O (A4 ⟨O,_,[],Bi O,List.nil_sublist _,?_⟩);exact⟨pB (HV (fun h=>by subst h;simp at *)).symm,rfl⟩
 (try simp only[sd] at c1);have h1:a.length=b.length:=by simp at c1;omega
 refine A5 (Az (Ay A8 1 [] O (BH (Hr (a.length) (fun i=>agree a b i) (fun i=>⟨27,mk [(0,nc a),(1,nc b),(5,.p (I i))],[],[]⟩) (0) Ar (MI _ _) ?_ ?_))))
 ·exact D2 ⟨O,O,O,Au⟩ AA
 intro i hi hC;refine Az (A3 (A2 A8 2 [] O (Av O (Ct Fb O) (Ax A8 1 [] O (A0 O (fun c2=>?_) (fun c2=>?_))))))
 ·(try simp only[sd] at c2);have hi2:i<a.length:=by simp at c2;omega
  obtain⟨x,hx⟩:=BB hi2;obtain⟨y,hy⟩:=BB (l:=b) (i:=i) Ar;refine A5 (Az (BH (Az (CG (fun k=>false) Eg (A1 O (fun _=>BC O) Au (A1 O (fun _=>BC O) Au (A1 O (fun _=>BA Fb O O Ar (G0 hx) (Dw _)) Au (A1 O (fun _=>BO FK O (Dw _)) Au (A1 O (fun _=>BC O) Au (A1 O (fun _=>BC O) Au (A1 O (fun _=>BA Fb O O Ar (G0 hy) (Dw _)) Au (A1 O (fun _=>BO FK O (Dw _)) Au (A1 O (fun _=>BM O O (ga x y (hn x (List.mem_of_getElem? hx)).vars) O) Au (A1 O (fun _=>PS O) Au (B6 O An (A0 O (fun c3=>?_) (fun c3=>?_)))))))))))))))))
  ·(try simp only[sd] at c3);refine Ay A8 1 [] O (A4 ⟨O,_,[],Bi O,List.nil_sublist _,?_⟩);exact⟨pB (HV (fun h=>by subst h;rw[hx] at hy;injection hy with hy;subst hy;simp[Fg] at *)).symm,rfl⟩
  (try simp only[sd] at c3);have hxy:x=y:=HY.1 (by simpa using c3);subst hxy;exact A5 (A7 (Ax A8 3 [] O (⟨by omega,MT hC hx hy,D2 ⟨rfl,rfl,rfl,trivial⟩ AA⟩)))
 (try simp only[sd] at c2);have hi2:i=a.length:=by simp at c2;omega
 refine Bp (Ay A8 1 [] O (A4 ⟨O,_,[],Bi O,List.nil_sublist _,?_⟩));exact⟨pB (Fg (N1 hC Ar Ar)).symm,O⟩
theorem Mj:∀(n:Nat) (a b:Tm),size a≤n→Nd a→FF Tryz.prog 15 [TV a,TV b] (.p (.bool (NQ a b))):=by
 intro n
 induction n with
 | zero=>intro a b h;cases a;simp[size] at h
 | succ n ih =>
  intro a b hs hnd;obtain⟨ak,ai,an,al,aks⟩:=a;obtain⟨bk,bi,bn,bl,bks⟩:=b;simp only[size] at hs;simp only[Nd,Dv] at hnd;obtain⟨hn1,hn2,hn3,hn4,hn5,hn6⟩:=hnd;refine A9 Tryz.func15 O oL (n:=61) O O (A3 (BP O (BY O) fun b2=>BP O (BY O) fun b3=>Ax A8 1 [] O (Az (Az (Bb [0,1,2,3,4,5] 41 (fun y=>y= .p (.bool (ak !=bk||ai !=bi|| !(an.toList==bn.toList)|| !(NQ al bl)||(((BK aks).length:Int) !=(BK bks).length)))) ?_ ?_)))))
  ·refine A7 (A2 A8 6 [1,0] O (BQ 11 O (fun g1=>?_) (fun g1=>?_)))
   ·(try simp only[sd] at g1);refine A2 A8 7 [] O (BQ 18 O (fun g2=>?_) (fun g2=>?_))
    ·(try simp only[sd] at g2);refine A2 A8 7 [] O (BQ 25 O (fun g3=>?_) (fun g3=>?_))
     ·(try simp only[sd] at g3);refine A2 A8 8 [] O (BQ 33 O (fun g4=>?_) (fun g4=>?_))
      ·(try simp only[sd] at g4);exact Ax A8 8 [] O (⟨O,O,AK,pB Ap,⟨O,O,O,O,O,O,Au⟩⟩)
      (try simp only[sd] at g4);exact A2 A8 2 [1] O (BF O (Ct Br O) (A2 A8 2 [0] O (BF O (Ct Br O) (Ax A8 2 [] O (⟨O,O,AK,pB Ap,⟨O,O,O,O,O,O,Au⟩⟩)))))
     (try simp only[sd] at g3);refine A2 A8 4 [1,0] O (BF O (BM O O (Nh al bl hn2 hn3) O) (A2 A8 3 [] O (BQ 33 O (fun g5=>?_) (fun g5=>?_))))
     ·(try simp only[sd] at g5);exact Ax A8 8 [] O (⟨O,O,AK,pB Ap,⟨O,O,O,O,O,O,Au⟩⟩)
     (try simp only[sd] at g5);exact A2 A8 2 [1] O (BF O (Ct Br O) (A2 A8 2 [0] O (BF O (Ct Br O) (Ax A8 2 [] O (⟨O,O,AK,pB Ap,⟨O,O,O,O,O,O,Au⟩⟩)))))
    (try simp only[sd] at g2);refine A2 A8 4 [1,0] O (BF O (Jc O O) (A2 A8 2 [] O (BQ 25 O (fun g6=>?_) (fun g6=>?_))))
    ·(try simp only[sd] at g6);refine A2 A8 8 [] O (BQ 33 O (fun g7=>?_) (fun g7=>?_))
     ·(try simp only[sd] at g7);exact Ax A8 8 [] O (⟨O,O,AK,pB Ap,⟨O,O,O,O,O,O,Au⟩⟩)
     (try simp only[sd] at g7);exact A2 A8 2 [1] O (BF O (Ct Br O) (A2 A8 2 [0] O (BF O (Ct Br O) (Ax A8 2 [] O (⟨O,O,AK,pB Ap,⟨O,O,O,O,O,O,Au⟩⟩)))))
    (try simp only[sd] at g6);refine A2 A8 4 [1,0] O (BF O (BM O O (Nh al bl hn2 hn3) O) (A2 A8 3 [] O (BQ 33 O (fun g8=>?_) (fun g8=>?_))))
    ·(try simp only[sd] at g8);exact Ax A8 8 [] O (⟨O,O,AK,pB Ap,⟨O,O,O,O,O,O,Au⟩⟩)
    (try simp only[sd] at g8);exact A2 A8 2 [1] O (BF O (Ct Br O) (A2 A8 2 [0] O (BF O (Ct Br O) (Ax A8 2 [] O (⟨O,O,AK,pB Ap,⟨O,O,O,O,O,O,Au⟩⟩)))))
   (try simp only[sd] at g1);refine A2 A8 7 [1,0] O (BQ 18 O (fun g9=>?_) (fun g9=>?_))
   ·(try simp only[sd] at g9);refine A2 A8 7 [] O (BQ 25 O (fun g10=>?_) (fun g10=>?_))
    ·(try simp only[sd] at g10);refine A2 A8 8 [] O (BQ 33 O (fun g11=>?_) (fun g11=>?_))
     ·(try simp only[sd] at g11);exact Ax A8 8 [] O (⟨O,O,AK,pB Ap,⟨O,O,O,O,O,O,Au⟩⟩)
     (try simp only[sd] at g11);exact A2 A8 2 [1] O (BF O (Ct Br O) (A2 A8 2 [0] O (BF O (Ct Br O) (Ax A8 2 [] O (⟨O,O,AK,pB Ap,⟨O,O,O,O,O,O,Au⟩⟩)))))
    (try simp only[sd] at g10);refine A2 A8 4 [1,0] O (BF O (BM O O (Nh al bl hn2 hn3) O) (A2 A8 3 [] O (BQ 33 O (fun g12=>?_) (fun g12=>?_))))
    ·(try simp only[sd] at g12);exact Ax A8 8 [] O (⟨O,O,AK,pB Ap,⟨O,O,O,O,O,O,Au⟩⟩)
    (try simp only[sd] at g12);exact A2 A8 2 [1] O (BF O (Ct Br O) (A2 A8 2 [0] O (BF O (Ct Br O) (Ax A8 2 [] O (⟨O,O,AK,pB Ap,⟨O,O,O,O,O,O,Au⟩⟩)))))
   (try simp only[sd] at g9);refine A2 A8 4 [1,0] O (BF O (Jc O O) (A2 A8 2 [] O (BQ 25 O (fun g13=>?_) (fun g13=>?_))))
   ·(try simp only[sd] at g13);refine A2 A8 8 [] O (BQ 33 O (fun g14=>?_) (fun g14=>?_))
    ·(try simp only[sd] at g14);exact Ax A8 8 [] O (⟨O,O,AK,pB Ap,⟨O,O,O,O,O,O,Au⟩⟩)
    (try simp only[sd] at g14);exact A2 A8 2 [1] O (BF O (Ct Br O) (A2 A8 2 [0] O (BF O (Ct Br O) (Ax A8 2 [] O (⟨O,O,AK,pB Ap,⟨O,O,O,O,O,O,Au⟩⟩)))))
   (try simp only[sd] at g13);refine A2 A8 4 [1,0] O (BF O (BM O O (Nh al bl hn2 hn3) O) (A2 A8 3 [] O (BQ 33 O (fun g15=>?_) (fun g15=>?_))))
   ·(try simp only[sd] at g15);exact Ax A8 8 [] O (⟨O,O,AK,pB Ap,⟨O,O,O,O,O,O,Au⟩⟩)
   (try simp only[sd] at g15);exact A2 A8 2 [1] O (BF O (Ct Br O) (A2 A8 2 [0] O (BF O (Ct Br O) (Ax A8 2 [] O (⟨O,O,AK,pB Ap,⟨O,O,O,O,O,O,Au⟩⟩)))))
  rintro _ rfl;refine A0 O (fun c16=>?_) (fun c16=>?_)
  ·(try simp only[sd] at c16);refine Ay A8 1 [] O (A4 ⟨O,_,[],Bi O,List.nil_sublist _,?_⟩);exact⟨pB (HV (fun h=>by simp at h;simp[h,Fg] at *)).symm,rfl⟩
  (try simp only[sd] at c16);have h1:ak=bk∧ai=bi∧an.toList=bn.toList∧al=bl∧aks.length=bks.length:=by simp[Bc,HY] at c16;obtain⟨⟨⟨⟨e1,e2⟩,e3⟩,e4⟩,e5⟩:=c16;exact⟨e1,e2,e3,e4,by omega⟩
  refine A5 (Az (Ay A8 1 [] O (BH (Hr (aks.length) (fun i=>agree aks bks i) (fun i=>⟨61,mk [(2,.ptr b2 0),(3,.ptr b3 0),(5,.p (I i))],[.box b3 ((BU (.mk bk bi bn bl bks)).map .p),.box b2 ((BU (.mk ak ai an al aks)).map .p)],[]⟩) (0) Ar (MI _ _) ?_ ?_))))
  ·exact D2 ⟨O,O,O,Au⟩ AA
  intro i hi hC;refine Az (A3 (A2 A8 3 [1] O (Av O (Ct Br O) (Ax A8 1 [] O (A0 O (fun c17=>?_) (fun c17=>?_))))))
  ·(try simp only[sd] at c17);have hi2:i<aks.length:=by simp[Bc] at c17;omega
   obtain⟨x,hx⟩:=BB hi2;obtain⟨y,hy⟩:=BB (l:=bks) (i:=i) Ar;refine A5 (Az (BH (Az (CG (fun k=>false) Eg (A1 O (fun _=>Aw Dq O O) Au (BT (j:=1) O O O (fun H i hi=>BG (i:=i) E3 O hi O) AD Au (A1 O (fun _=>BC O) Au (A1 O (fun _=>BA Br O O Ar (Bj hx) (BJ _)) Au (A1 O (fun _=>BO Ba O (BJ _)) Au (A1 O (fun _=>Aw Dq O O) Au (BT (j:=0) O O O (fun H i hi=>BG (i:=i) E3 O hi O) AD Au (A1 O (fun _=>BC O) Au (A1 O (fun _=>BA Br O O Ar (Bj hy) (BJ _)) Au (A1 O (fun _=>BO Ba O (BJ _)) Au (A1 O (fun _=>BM O O (ih x y (by have:=Cj hx;omega) (Dy hn5 hx)) O) Au (A1 O (fun _=>PS O) Au (B6 O An (A0 O (fun c18=>?_) (fun c18=>?_)))))))))))))))))))
   ·(try simp only[sd] at c18);refine Ay A8 1 [] O (A4 ⟨O,_,[],Bi O,List.nil_sublist _,?_⟩);exact⟨pB (HV (fun h=>by simp at h;obtain⟨_,_,_,_,rfl⟩:=h;rw[hx] at hy;injection hy with hy;subst hy;simp[Fg] at *)).symm,rfl⟩
   (try simp only[sd] at c18);have hxy:x=y:=HY.1 (by simpa using c18);subst hxy;exact A5 (A7 (Ax A8 3 [] O (⟨by omega,MT hC hx hy,D2 ⟨rfl,rfl,rfl,trivial⟩ AA⟩)))
  (try simp only[sd] at c17);have hi2:i=aks.length:=by simp[Bc] at c17;omega
  refine Bp (Ay A8 1 [] O (A4 ⟨O,_,[],Bi O,List.nil_sublist _,?_⟩));exact⟨pB (Fg (by obtain⟨e1,e2,e3,e4,e5⟩:=h1;rw[e1,e2,e4,G4 e3,N1 hC Ar Ar])).symm,rfl⟩
end Go.Proofs.YtboammbpdaoojaaGreat
namespace Go.Eu
open Go.Abs
def IE (TA:Fu→List BL) (T0:List BL) (nm:ByteArray) (l:List (ByteArray×Fu)):List BL:=match Ck nm l with
 | some e=>TA e
 | none=>T0
section
variable {TA:Fu→List BL}{T0:List BL}{nm:ByteArray}{d:CM}{i:Int}{j:Nat}
theorem WV (h:d.kind=0∨d.kind=1∨d.kind=2):IE TA T0 nm (E9 d i)=if d.name=nm then TA ⟨d.kind,i,0,d.params,d.type⟩ else T0:=by
 unfold IE E9;rw[if_pos h];simp only[Ck];by_cases e:d.name=nm<;>simp[e]
theorem Yz (h:d.kind=3) (hn:d.name=nm):IE TA T0 nm (E9 d i)=TA ⟨3,i,0,d.params,d.type⟩:=by
 unfold IE E9;rw[if_neg Ar,if_pos h];simp only[Ck,if_pos hn]
theorem WN (h:d.kind=3) (hn:¬d.name=nm) {c:Hz}(hx:d.ctors[j]?=some c) (he:c.name=nm) (hb:∀q,q<j→∀y,d.ctors[q]?=some y→y.name≠nm):IE TA T0 nm (E9 d i)=TA ⟨4,i,j,d.params,c.type⟩:=by
 unfold IE E9;rw[if_neg Ar,if_pos h];simp only[Ck,if_neg hn,KE,Og hx he hb,Int.zero_add]
theorem YV (h:d.kind=3) (hn:¬d.name=nm) (hb:∀q:Nat,q<d.ctors.length→∀y,d.ctors[q]?=some y→y.name≠nm):IE TA T0 nm (E9 d i)=if S9 d.name=nm then TA ⟨5,i,0,d.recs.params,d.recs.type⟩ else T0:=by
 unfold IE E9;rw[if_neg Ar,if_pos h];simp only[Ck,if_neg hn,KE,MQ hb];by_cases e:S9 d.name=nm<;>simp[e]
theorem Zb (h:d.kind=4) {c:HB}(hx:d.funs[j]?=some c) (he:c.name=nm) (hb:∀q,q<j→∀y,d.funs[q]?=some y→y.name≠nm):IE TA T0 nm (E9 d i)=TA ⟨6,i,j,d.params,c.type⟩:=by
 unfold IE E9;rw[if_neg Ar,if_neg Ar,if_pos h];simp only[Qn hx he hb,Int.zero_add]
theorem Wb (h:d.kind=4) (hb:∀q:Nat,q<d.funs.length→∀y,d.funs[q]?=some y→y.name≠nm):IE TA T0 nm (E9 d i)=T0:=by
 unfold IE E9;rw[if_neg Ar,if_neg Ar,if_pos h];simp only[N3 hb]
theorem WC (h:¬(d.kind=0∨d.kind=1∨d.kind=2)) (h3:¬d.kind=3) (h4:¬d.kind=4):IE TA T0 nm (E9 d i)=T0:=by
 unfold IE E9;rw[if_neg h,if_neg h3,if_neg h4];rfl
theorem cG (h:d.kind=0∨d.kind=1∨d.kind=2):(d.name,(⟨d.kind,i,0,d.params,d.type⟩:Fu))∈E9 d i:=by
 unfold E9;rw[if_pos h];simp
theorem et (h:d.kind=3):(d.name,(⟨3,i,0,d.params,d.type⟩:Fu))∈E9 d i:=by
 unfold E9;rw[if_neg Ar,if_pos h];simp
theorem dN (h:d.kind=3) {c:Hz}(hx:d.ctors[j]?=some c):(c.name,(⟨4,i,j,d.params,c.type⟩:Fu))∈E9 d i:=by
 unfold E9;rw[if_neg Ar,if_pos h];have:=Rx (i:=i) (p:=d.params) (k:=0) hx;rw[Int.zero_add] at this;simp[this]
theorem eJ (h:d.kind=3):(S9 d.name,(⟨5,i,0,d.recs.params,d.recs.type⟩:Fu))∈E9 d i:=by
 unfold E9;rw[if_neg Ar,if_pos h];simp
theorem fB (h:d.kind=4) {c:HB}(hx:d.funs[j]?=some c):(c.name,(⟨6,i,j,d.params,c.type⟩:Fu))∈E9 d i:=by
 unfold E9;rw[if_neg Ar,if_neg Ar,if_pos h];have:=Ve (i:=i) (p:=d.params) (k:=0) hx
 rwa [Int.zero_add] at this
end
theorem U8 {nm:ByteArray}{e:Fu}:∀{ds:List CM}{i:Nat}{k:Int}{d:CM},ds[i]?=some d→(∀j,j<i→∀y,ds[j]?=some y→Ck nm (E9 y (k+j))=none)→Ck nm (E9 d (k+i))=some e→findF nm ds k=some e
 | [],i,k,d,h,_,_=>by simp at h
 | a::ds,0,k,d,h,_,hn=>by
  simp at h;subst h;rw[findF];rw[show k+((0:Nat):Int)=k by omega] at hn;rw[hn]
 | a::ds,i+1,k,d,h,hb,hn=>by
  have h0:=hb 0 Ar a rfl;rw[show k+((0:Nat):Int)=k by omega] at h0;rw[findF,h0];exact U8 (by simpa using h) (fun j hj y hy=>by have:=hb (j+1) Ar y (by simpa using hy);rwa [show k+((j+1:Nat):Int)=k+1+j by omega] at this) (by rwa [show k+((i+1:Nat):Int)=k+1+i by omega] at hn)
theorem UU {nm:ByteArray}:∀{ds:List CM}{k:Int},(∀j,j<ds.length→∀y,ds[j]?=some y→Ck nm (E9 y (k+j))=none)→findF nm ds k=none
 | [],k,_=>rfl
 | a::ds,k,hb=>by
  have h0:=hb 0 As a rfl;rw[show k+((0:Nat):Int)=k by omega] at h0;rw[findF,h0];exact UU fun j hj y hy=>by have:=hb (j+1) (by simpa using hj) y (by simpa using hy);rwa [show k+((j+1:Nat):Int)=k+1+j by omega] at this
theorem ae {nm:ByteArray}{e:Fu}{ds:List CM}{i:Nat}{d:CM}(hx:ds[i]?=some d) (hb:∀j,j<i→∀y,ds[j]?=some y→Ck nm (E9 y j)=none) (he:Ck nm (E9 d i)=some e):Bw ds nm=(e,0):=by
 rw[Bw,U8 hx (fun j hj y hy=>by rw[Int.zero_add];exact hb j hj y hy) (by rwa [Int.zero_add])]
theorem dg {nm:ByteArray}{ds:List CM}(hb:∀j,j<ds.length→∀y,ds[j]?=some y→Ck nm (E9 y j)=none):Bw ds nm=(cr,9):=by
 rw[Bw,UU fun j hj y hy=>by rw[Int.zero_add];exact hb j hj y hy]
def og (ds:List CM):Prop:=∀d∈ds,d.kind=0∨OD d
end Go.Eu
namespace Go.Proofs.YtboammbpdaoojaaGreat
open Go.Abs Go.Eu
theorem _root_.Go.AT {α:Prop}(h:α:=by first | omega | (simp only;omega)):α:=h
theorem TS:∀(l:List ByteArray) (s:ByteArray),(l.length<9000000)→FF Tryz.prog 56 [.p (.lst (List.map GD l)),.p (.str s)] (.p (.bool (Gn l s))):=by
 intro l s h1;refine A9 Tryz.func56 O nq (n:=18) O O (Ay A8 1 [] O (Az (Ay A8 1 [] O (BH ?_))));refine Bn (α:=Nat) (fun i=>⟨18,mk [(0,.p (.lst (List.map GD l))),(1,.p (.str s)),(5,.p (I (i:Int)))],[],[]⟩) (fun i=>l.length - i) (fun i=>i≤l.length∧(∀j,j<i→∀y,l[j]?=some y→y≠s)) 0 (⟨by omega,fun j h=>by omega⟩) ?_ ?_
 ·exact Bh ⟨we O,we O,we O,Au⟩ (leH (is:=[]) O (Dd))
 rintro i hC
 try simp only at hC
 obtain⟨hi,hC⟩:=hC;refine Az (A3 (A2 A8 2 [] O (Av O (BS GS O (List.length_map _)) (Ax A8 1 [] O (A0 O (fun c=>?_) (fun c=>?_))))))
 ·(try simp only[sd,se] at c);refine A5 (Az (BH (A3 (A2 A8 2 [] O ?_))));obtain⟨x,hx⟩:=BB (l:=l) (i:=i) Ar;refine Av O (BA GS O O Ar (Nq hx) (O)) (A2 A8 2 [] O (Av O (F4 O O) (Bk O (A0 O (fun c1=>?_) (fun c1=>?_)))))
  ·(try simp only[sd,se] at c1);refine Ay A8 1 [] O (A4 (⟨O,_,_,⟨_,_,O,O,O⟩,(List.nil_sublist _),?_⟩))
   all_goals exact⟨by show (.p (.bool true):AV)=_;rw[cE hx (G4 (by simpa using c1))],rfl⟩
  (try simp only[sd,se] at c1);refine A5 (A7 (Ax A8 3 [] O ?_));refine⟨(i+1),AT,⟨by omega,C6 (p:=fun _ (y:ByteArray)=>y≠s) hC hx (fun e=>by subst e;simp at c1)⟩,Bh ⟨we rfl,we rfl,we rfl,trivial⟩ (leH (is:=[]) rfl (Dd))⟩
 (try simp only[sd,se] at c);refine Bp (Ay A8 1 [] O (A4 (⟨O,_,_,⟨_,_,O,O,O⟩,(List.nil_sublist _),?_⟩)))
 all_goals exact⟨by show (.p (.bool false):AV)=_;rw[ZZ fun j hj=>hC j Ar],rfl⟩
theorem _root_.Go.AF {α:Prop}(h:α:=by simp only[List.length_map,List.length_append,List.length_cons,List.length_nil,List.length_take];omega):α:=h
theorem _root_.Go.AP {α:Prop}(h:α:=by first | trivial | omega | simp | (simp;omega)):α:=h
theorem Ls:∀(d:CM),(d.ctors.length<2000000)→(d.funs.length<2000000)→(d.name.size<2000000)→FF Tryz.prog 57 [.agg ((Bo d).map .p)] (.p (.lst (List.map GD (Cw d)))):=by
 intro d h1 h2 h3;refine A9 Tryz.func57 O pj (n:=62) O O (A3 (BP O (BY O) fun b1=>Ax A8 1 [] O (Az (A3 (Av O (Aw Cm O O) (Av O (A6 (i:=0) C7 O O (Du _)) (Bk O (BH (Az (Ay A8 2 [] O (Bb [1,8] 9 (fun y=>y= .p (.bool (decide (d.kind=0∨d.kind=1∨d.kind=2)))) ?_ ?_)))))))))))
 ·refine A0 O (fun c=>?_) (fun c=>?_)
  ·(try simp only[sd,se] at c);exact A5 (⟨O,O,(List.Sublist.refl _),(by refine pB (Bool.eq_iff_iff.2 ?_);simp only[beq_iff_eq,decide_eq_true_eq];omega),⟨O,O,Au⟩⟩)
  (try simp only[sd,se] at c);refine Ay A8 2 [] O (A0 O (fun c1=>?_) (fun c1=>?_))
  ·(try simp only[sd,se] at c1);exact A5 (⟨O,O,(List.Sublist.refl _),(by refine pB (Bool.eq_iff_iff.2 ?_);simp only[beq_iff_eq,decide_eq_true_eq];omega),⟨O,O,Au⟩⟩)
  (try simp only[sd,se] at c1);exact A7 (Ax A8 2 [] O (⟨O,O,(List.Sublist.refl _),(by refine pB (Bool.eq_iff_iff.2 ?_);simp only[beq_iff_eq,decide_eq_true_eq];omega),⟨O,O,Au⟩⟩))
 rintro _ rfl;refine A0 O (fun c=>?_) (fun c=>?_)
 ·(try simp only[sd,se] at c);refine A3 (Av O (Aw Cm O O) (Av O (A6 (i:=0) Lz O O (De _)) (Av O (CC GS gb O O O O O) (Ax A8 1 [] O (A4 (⟨O,_,_,⟨_,_,O,O,O⟩,(List.nil_sublist _),?_⟩))))))
  all_goals exact⟨by show (.p (.lst (List.map GD [d.name])):AV)=_;rw[Cw,if_pos (by simpa using c)],rfl⟩
 (try simp only[sd,se] at c);refine Ay A8 2 [] O (A0 O (fun c1=>?_) (fun c1=>?_))
 ·(try simp only[sd,se] at c1);refine A3 (Av O (Aw Cm O O) (Av O (A6 (i:=0) Lz O O (De _)) (P1 O O (PG (rows:=List.map GD [d.name]) GS gb O O O O O) fun b20 cp=>Ax A8 1 [] O (Az (Ay A8 1 [] O (BH (Bn (α:=Nat×Option Nat×Nat) (fun(i,o,cp1)=>⟨62,mk [(1,.ptr b1 0),(3,.vs o (List.map GD (d.name::(d.ctors.take i).map Hz.name)).length cp1),(4,.p (I (i:Int)))],[.vec o 1 (List.map GD (d.name::(d.ctors.take i).map Hz.name)) cp1,.box b1 ((Bo d).map .p)],[]⟩) (fun(i,o,cp1)=>d.ctors.length - i) (fun(i,o,cp1)=>i≤d.ctors.length) ⟨0,(some b20),cp⟩ AP ?_ ?_)))))))
  ·exact Bh ⟨we O,we O,we O,Au⟩ (leH (is:=[0,1]) O (wl (oe O) (wl (oe O) (Dd))))
  rintro⟨i,o,cp1⟩ hC
  try simp only at hC
  have hi:=hC;refine Az (A3 (A2 A8 2 [] O (Av O (A6 (i:=1) IM O O (CJ _)) (Av O (BS Hu O (List.length_map _)) (Ax A8 1 [] O (A0 O (fun c2=>?_) (fun c2=>?_)))))))
  ·(try simp only[sd,se] at c2);refine A5 (Az (BH (A7 (A2 A8 2 [] O (Av O (A6 (i:=1) IM O O (CJ _)) (B0 O ?_))))));obtain⟨x,hx⟩:=BB (l:=d.ctors) (i:=i) Ar;refine Av O (BA Hu O O Ar (Eh hx) (EI _)) (Av O (B3 I8 O O) (Av O (DW Lz O (Fy _)) (Av O (CC GS gb O O O O O) (Il O O (C4 (i:=0) (rows':=List.map GD [x.name]) GS GS gb O O O O O O (Jt _) AF (JS (f:=GD) (d.name::(d.ctors.take i).map Hz.name) [x.name])) fun o1 cp2=>Ax A8 1 [] O (A7 (Ax A8 3 [] O ?_))))));refine⟨⟨i+1,o1,cp2⟩,AT,by omega,Bh ⟨we rfl,we (Gq (f:=GD) ((d.name::(d.ctors.take i).map Hz.name)++[x.name]) (by simp[List.take_add_one,hx])),we rfl,trivial⟩ (leH (is:=[0,1]) rfl (wl (F6 (f:=GD) ((d.name::(d.ctors.take i).map Hz.name)++[x.name]) (by simp[List.take_add_one,hx])) (wl (oe rfl) (Dd))))⟩
  (try simp only[sd,se] at c2);refine Bp (A3 (A2 A8 2 [] O (Av O (A6 (i:=1) Lz O O (De _)) (Av O (QH O O (by have:(⟨#[46,114,101,99]⟩:ByteArray).size=4:=rfl;omega)) (Av O (CC GS gb O O O O O) (Il O O (C4 (i:=0) (rows':=List.map GD ([(d.name++⟨#[46,114,101,99]⟩)])) GS GS gb O O O O O O (Jt _) AF (JS (f:=GD) (d.name::(d.ctors.take i).map Hz.name) ([(d.name++⟨#[46,114,101,99]⟩)]))) fun o1 cp2=>Ax A8 1 [] O (BZ (DE (i:=0) [42,2] O (FQ ⟨O,O,Au⟩)) (A4 (⟨O,_,_,⟨_,_,O,O,O⟩,(List.nil_sublist _),?_⟩)))))))))
  all_goals exact⟨by show (.p (.lst (List.map GD ((d.name::(d.ctors.take i).map Hz.name)++([(d.name++⟨#[46,114,101,99]⟩)])))):AV)=_;rw[Cw,if_neg (by simpa using c),if_pos (by simpa using c1),List.take_of_length_le Ar];rfl,rfl⟩
 (try simp only[sd,se] at c1);refine Ay A8 2 [] O (A0 O (fun c2=>?_) (fun c2=>?_))
 ·(try simp only[sd,se] at c2);refine Ay A8 1 [] O (Az (Ay A8 1 [] O (BH (BZ (F3 (t:=5) (sz:=1) O) (Bn (α:=Nat×Option Nat×Nat) (fun(i,o,cp)=>⟨62,mk [(1,.ptr b1 0),(5,.vs o (List.map GD ((d.funs.take i).map HB.name)).length cp),(6,.p (I (i:Int)))],[.vec o 1 (List.map GD ((d.funs.take i).map HB.name)) cp,.box b1 ((Bo d).map .p)],[]⟩) (fun(i,o,cp)=>d.funs.length - i) (fun(i,o,cp)=>i≤d.funs.length) ⟨0,none,0⟩ AP ?_ ?_)))))
  ·exact Bh ⟨we O,we O,we O,Au⟩ (leH (is:=[0,1]) O (wl (oe O) (wl (oe O) (Dd))))
  rintro⟨i,o,cp⟩ hC
  try simp only at hC
  have hi:=hC;refine Az (A3 (A2 A8 2 [] O (Av O (A6 (i:=1) HS O O (CI _)) (Av O (BS G9 O (List.length_map _)) (Ax A8 1 [] O (A0 O (fun c3=>?_) (fun c3=>?_)))))))
  ·(try simp only[sd,se] at c3);refine A5 (Az (BH (A7 (A2 A8 2 [] O (Av O (A6 (i:=1) HS O O (CI _)) (B0 O ?_))))));obtain⟨x,hx⟩:=BB (l:=d.funs) (i:=i) Ar;refine Av O (BA G9 O O Ar (Ec hx) (DQ _)) (Av O (B3 G2 O O) (Av O (DW Lz O (IP _)) (Av O (CC GS gb O O O O O) (Il O O (C4 (i:=0) (rows':=List.map GD [x.name]) GS GS gb O O O O O O (Jt _) AF (JS (f:=GD) ((d.funs.take i).map HB.name) [x.name])) fun o1 cp1=>Ax A8 1 [] O (A7 (Ax A8 3 [] O ?_))))));refine⟨⟨i+1,o1,cp1⟩,AT,by omega,Bh ⟨we rfl,we (Gq (f:=GD) (((d.funs.take i).map HB.name)++[x.name]) (by simp[List.take_add_one,hx])),we rfl,trivial⟩ (leH (is:=[0,1]) rfl (wl (F6 (f:=GD) (((d.funs.take i).map HB.name)++[x.name]) (by simp[List.take_add_one,hx])) (wl (oe rfl) (Dd))))⟩
  (try simp only[sd,se] at c3);refine Bp (Ay A8 2 [] O (BZ (DE (i:=0) [5,61,2] O (FQ ⟨O,O,O,Au⟩)) (A4 (⟨O,_,_,⟨_,_,O,O,O⟩,(List.nil_sublist _),?_⟩))))
  all_goals exact⟨by show (.p (.lst (List.map GD ((d.funs.take i).map HB.name))):AV)=_;rw[Cw,if_neg (by simpa using c),if_neg (by simpa using c1),if_pos (by simpa using c2),List.take_of_length_le Ar],rfl⟩
 (try simp only[sd,se] at c2);refine A5 (Ay A8 1 [] O (BZ (Fi 2) (A4 (⟨O,_,_,⟨_,_,O,O,O⟩,(List.nil_sublist _),?_⟩))))
 all_goals exact⟨by show (.p (.lst (List.map GD [])):AV)=_;rw[Cw,if_neg (by simpa using c),if_neg (by simpa using c1),if_neg (by simpa using c2)],rfl⟩
theorem _root_.Go.AW {α:Prop}(h:α:=by first | rfl | simp[QX]):α:=h
theorem _root_.Go.AB {α:Prop}(h:α:=by repeat' first | exact trivial | refine And.intro ?_ ?_ | ((refine Or.inr (And.intro ?_ ?_)<;>repeat (first | exact List.Mem.head _ | apply List.Mem.tail));done) | exact Or.inl (by kernel_rfl)):α:=h
theorem _root_.Go.Ai {α:Prop}(h:α:=by simp[QX]):α:=h
set_option maxHeartbeats 2000000 in
theorem Sy:∀(d:CM) (ix:Int) (nm:ByteArray),(d.ctors.length<2000000)→(d.funs.length<2000000)→FF Tryz.prog 58 [.agg ((Bo d).map .p),.p (I ix),.p (.str nm)] (.agg ((Dj (FR d ix nm)).map .p)):=by
 intro d ix nm h1 h2;refine A9 Tryz.func58 O pV (n:=96) O O (A3 (BP O (BY O) fun b3=>BP O (BE IK O) fun b6=>Bk O (A3 (A2 A8 2 [] O (Av O (A6 (i:=1) C7 O O (Ci _)) (Av O (Aw Cm O O) (Av O (B4 (i:=1) Ba O O (FO _) (BJ _)) (Av O (CE E8 IK (aS O O O)) (BP O (BE IK O) fun b7=>Ax A8 1 [0,1] O (Az (A3 (Av O (Aw Cm O O) (Av O (A6 (i:=2) C7 O O (Du _)) (Bk O (BH (Ay A8 2 [] O (A0 O (fun c=>?_) (fun c=>?_))))))))))))))))))
 ·(try simp only[sd,se] at c);refine A7 (Av O (Aw E8 O O) (Av O (Ds (i:=0) (ds:=(Dj (Fu.mk 0 ix 0 d.params d.type)).map .p) C7 O O O O O O O) (Bk O (Ay A8 2 [0,1,1] O (A4 (⟨O,_,_,⟨_,_,O,(BN (i:=1) I1 O O Ai),O⟩,(List.nil_sublist _),?_⟩))))))
  all_goals exact⟨by show (.agg ((Dj (Fu.mk 0 ix 0 d.params d.type)).map .p):AV)=_;rw[MM (.inl (by simpa using c)) (k:=0) (by simpa using c)],rfl⟩
 (try simp only[sd,se] at c);refine Ay A8 2 [] O (A0 O (fun c1=>?_) (fun c1=>?_))
 ·(try simp only[sd,se] at c1);refine A7 (Av O (Aw E8 O O) (Av O (Ds (i:=0) (ds:=(Dj (Fu.mk 1 ix 0 d.params d.type)).map .p) C7 O O O O O O O) (Bk O (Ay A8 2 [0,1,1] O (A4 (⟨O,_,_,⟨_,_,O,(BN (i:=1) I1 O O Ai),O⟩,(List.nil_sublist _),?_⟩))))))
  all_goals exact⟨by show (.agg ((Dj (Fu.mk 1 ix 0 d.params d.type)).map .p):AV)=_;rw[MM (.inr (.inl (by simpa using c1))) (k:=1) (by simpa using c1)],rfl⟩
 (try simp only[sd,se] at c1);refine Ay A8 2 [] O (A0 O (fun c2=>?_) (fun c2=>?_))
 ·(try simp only[sd,se] at c2);refine A7 (Av O (Aw E8 O O) (Av O (Ds (i:=0) (ds:=(Dj (Fu.mk 2 ix 0 d.params d.type)).map .p) C7 O O O O O O O) (Bk O (Ay A8 2 [0,1,1] O (A4 (⟨O,_,_,⟨_,_,O,(BN (i:=1) I1 O O Ai),O⟩,(List.nil_sublist _),?_⟩))))))
  all_goals exact⟨by show (.agg ((Dj (Fu.mk 2 ix 0 d.params d.type)).map .p):AV)=_;rw[MM (.inr (.inr (by simpa using c2))) (k:=2) (by simpa using c2)],rfl⟩
 (try simp only[sd,se] at c2);refine Ay A8 2 [] O (A0 O (fun c3=>?_) (fun c3=>?_))
 ·(try simp only[sd,se] at c3);refine A3 (Av O (Aw E8 O O) (Av O (Ds (i:=0) (ds:=(Dj (Fu.mk 3 ix 0 d.params d.type)).map .p) C7 O O O O O O O) (Bk O (Az (A3 (A2 A8 2 [] O (Av O (A6 (i:=2) Lz O O (De _)) (Av O (F4 O O) (Bk O (A0 O (fun c4=>?_) (fun c4=>?_)))))))))))
  ·(try simp only[sd,se] at c4);refine Ay A8 2 [0,1,1] O (A4 (⟨O,_,_,⟨_,_,O,(BN (i:=1) I1 O O Ai),O⟩,(List.nil_sublist _),?_⟩))
   all_goals exact⟨by show (.agg ((Dj (Fu.mk 3 ix 0 d.params d.type)).map .p):AV)=_;rw[Yf (by simpa using c3) (G4 (by simpa using c4))],rfl⟩
  (try simp only[sd,se] at c4);refine A5 (Az (Ay A8 1 [] O (BH ?_)));refine Bn (α:=Nat) (fun i=>⟨96,mk [(1,.p (I ix)),(2,.p (.str nm)),(3,.ptr b3 0),(6,.ptr b6 0),(8,.p (I (i:Int)))],[.box b6 [.p (I 0),.p (I 0),.p (I 0),.p (I 0),.p (I 0),.p (I 0),.p (.str ⟨#[]⟩),.p (.nils),.p (.nils)],.box b3 ((Bo d).map .p)],[]⟩) (fun i=>d.ctors.length - i) (fun i=>i≤d.ctors.length∧(∀j,j<i→∀y,d.ctors[j]?=some y→y.name≠nm)) 0 (⟨by omega,fun j h=>by omega⟩) ?_ ?_
  ·exact Bh ⟨we O,we O,we O,we O,we O,Au⟩ (leH (is:=[1,2]) O (wl (oe O) (wl (oe O) (Dd))))
  rintro i hC
  try simp only at hC
  obtain⟨hi,hC⟩:=hC;refine Az (A3 (A2 A8 2 [] O (Av O (A6 (i:=1) IM O O (CJ _)) (Av O (BS Hu O (List.length_map _)) (Ax A8 1 [] O (A0 O (fun c5=>?_) (fun c5=>?_)))))))
  ·(try simp only[sd,se] at c5);refine A5 (Az (BH (A3 (Av O (Aw Cm O O) (Av O (A6 (i:=1) IM O O (CJ _)) (B0 O ?_))))));obtain⟨x,hx⟩:=BB (l:=d.ctors) (i:=i) Ar;refine Av O (BA Hu O O Ar (Eh hx) (EI _)) (Av O (B3 I8 O O) (Av O (DW Lz O (Fy _)) (B0 O (Av O (F4 O O) (Bk O (A0 O (fun c6=>?_) (fun c6=>?_)))))))
   ·(try simp only[sd,se] at c6);refine Az (CG (fun k=>false) Eg (A1 O (fun _=>BC O) Au (A1 O (fun _=>BC O) Au (A1 O (fun _=>Aw Cm O O) Au (BT (j:=1) O O O (fun H i hi=>A6 (i:=i) C7 O hi (Ci _)) AB Au (A1 O (fun _=>Aw Cm O O) Au (BT (j:=1) O O O (fun H i hi=>A6 (i:=i) IM O hi (CJ _)) AB Au (A1 O (fun _=>BC O) Au (A1 O (fun _=>BA Hu O O Ar (Eh hx) (EI _)) Au (A1 O (fun _=>B3 I8 O O) Au (A1 O (fun _=>DV Ba O (FP _) (BJ _)) Au (A1 O (fun _=>CE E8 IK (M9 O O O O O)) Au (Cd O O (Bd (i:=0) I1 O O O Ai AW (Lk _)) AB Au (B6 O An (A4 (⟨O,_,_,⟨_,_,O,(BN (i:=0) I1 O O Ai),O⟩,(List.nil_sublist _),?_⟩))))))))))))))))
    all_goals exact⟨by show (.agg ((Dj (Fu.mk 4 ix (i:Int) d.params x.type)).map .p):AV)=_;rw[V0 (j:=i) (by simpa using c3) (fun h=>by subst h;simp at c4) hx (G4 (by simpa using c6)) hC],rfl⟩
   (try simp only[sd,se] at c6);refine A5 (A7 (Ax A8 3 [] O ?_));refine⟨(i+1),AT,⟨by omega,C6 (p:=fun _ (y:Hz)=>y.name≠nm) hC hx (fun e=>by subst e;simp at c6)⟩,Bh ⟨we rfl,we rfl,we rfl,we rfl,we rfl,trivial⟩ (leH (is:=[0,1]) rfl (wl (oe rfl) (wl (oe rfl) (Dd))))⟩
  (try simp only[sd,se] at c5);refine Bp (A3 (A2 A8 3 [] O (Av O (A6 (i:=1) C7 O O (DU _)) (A2 A8 2 [] O (Av O (B4 (i:=1) Ba O O (Em _) (BJ _)) (Av O (CE E8 IK (X7 O O O O)) (Ax A8 1 [0,1] O (A4 (⟨O,_,_,⟨_,_,O,(BN (i:=0) I1 O O Ai),O⟩,(List.nil_sublist _),?_⟩)))))))))
  all_goals exact⟨by show (.agg ((Dj (Fu.mk 5 ix 0 d.recs.params d.recs.type)).map .p):AV)=_;rw[ZO (by simpa using c3) (fun h=>by subst h;simp at c4) fun j hj=>hC j Ar],rfl⟩
 (try simp only[sd,se] at c3);refine Ay A8 1 [] O (BH ?_);refine Bn (α:=Nat) (fun i=>⟨96,mk [(1,.p (I ix)),(2,.p (.str nm)),(3,.ptr b3 0),(6,.ptr b6 0),(7,.ptr b7 0),(9,.p (I (i:Int)))],[.box b7 ((Dj (Fu.mk 0 ix 0 d.params d.type)).map .p),.box b6 [.p (I 0),.p (I 0),.p (I 0),.p (I 0),.p (I 0),.p (I 0),.p (.str ⟨#[]⟩),.p (.nils),.p (.nils)],.box b3 ((Bo d).map .p)],[]⟩) (fun i=>d.funs.length - i) (fun i=>i≤d.funs.length∧(∀j,j<i→∀y,d.funs[j]?=some y→y.name≠nm)) 0 (⟨by omega,fun j h=>by omega⟩) ?_ ?_
 ·exact Bh ⟨we O,we O,we O,we O,we O,we O,Au⟩ (leH (is:=[0,1,2]) O (wl (oe O) (wl (oe O) (wl (oe O) (Dd)))))
 rintro i hC
 try simp only at hC
 obtain⟨hi,hC⟩:=hC;refine Az (A3 (A2 A8 2 [] O (Av O (A6 (i:=2) HS O O (CI _)) (Av O (BS G9 O (List.length_map _)) (Ax A8 1 [] O (A0 O (fun c4=>?_) (fun c4=>?_)))))))
 ·(try simp only[sd,se] at c4);refine A5 (Az (BH (A3 (Av O (Aw Cm O O) (Av O (A6 (i:=2) HS O O (CI _)) (B0 O ?_))))));obtain⟨x,hx⟩:=BB (l:=d.funs) (i:=i) Ar;refine Av O (BA G9 O O Ar (Ec hx) (DQ _)) (Av O (B3 G2 O O) (Av O (DW Lz O (IP _)) (B0 O (Av O (F4 O O) (Bk O (A0 O (fun c5=>?_) (fun c5=>?_)))))))
  ·(try simp only[sd,se] at c5);refine Az (CG (fun k=>false) Eg (A1 O (fun _=>BC O) Au (A1 O (fun _=>BC O) Au (A1 O (fun _=>Aw Cm O O) Au (BT (j:=2) O O O (fun H i hi=>A6 (i:=i) C7 O hi (Ci _)) AB Au (A1 O (fun _=>Aw Cm O O) Au (BT (j:=2) O O O (fun H i hi=>A6 (i:=i) HS O hi (CI _)) AB Au (A1 O (fun _=>BC O) Au (A1 O (fun _=>BA G9 O O Ar (Ec hx) (DQ _)) Au (A1 O (fun _=>B3 G2 O O) Au (A1 O (fun _=>DV Ba O (IQ _) (BJ _)) Au (A1 O (fun _=>CE E8 IK (M9 O O O O O)) Au (Cd O O (Bd (i:=1) I1 O O O Ai AW (Lk _)) AB Au (B6 O An (A4 (⟨O,_,_,⟨_,_,O,(BN (i:=1) I1 O O Ai),O⟩,(List.nil_sublist _),?_⟩))))))))))))))))
   all_goals exact⟨by show (.agg ((Dj (Fu.mk 6 ix (i:Int) d.params x.type)).map .p):AV)=_;rw[ZM (j:=i) (not_or.2 ⟨(by simpa using c),not_or.2 ⟨(by simpa using c1),(by simpa using c2)⟩⟩) (by simpa using c3) hx (G4 (by simpa using c5)) hC],rfl⟩
  (try simp only[sd,se] at c5);refine A5 (A7 (Ax A8 3 [] O ?_));refine⟨(i+1),AT,⟨by omega,C6 (p:=fun _ (y:HB)=>y.name≠nm) hC hx (fun e=>by subst e;simp at c5)⟩,Bh ⟨we rfl,we rfl,we rfl,we rfl,we rfl,we rfl,trivial⟩ (leH (is:=[0,1,2]) rfl (wl (oe rfl) (wl (oe rfl) (wl (oe rfl) (Dd)))))⟩
 (try simp only[sd,se] at c4);refine Bp (Ay A8 2 [0,1,1] O (A4 (⟨O,_,_,⟨_,_,O,(BN (i:=1) I1 O O Ai),O⟩,(List.nil_sublist _),?_⟩)))
 all_goals exact⟨by show (.agg ((Dj (Fu.mk 0 ix 0 d.params d.type)).map .p):AV)=_;rw[Zo (not_or.2 ⟨(by simpa using c),not_or.2 ⟨(by simpa using c1),(by simpa using c2)⟩⟩) (by simpa using c3) fun j hj=>hC j Ar],rfl⟩
theorem NR:∀(ds:List CM) (nm:ByteArray),(Ho ds)→FF Tryz.prog 22 [.p (.lst (List.map Bo ds)),.p (.str nm)] (.tup [.agg ((Dj ((Bw ds nm).1)).map .p),.p (I ((Bw ds nm).2))]):=by
 intro ds nm h1;have hl:=h1.len;refine A9 Tryz.func22 O oI (n:=28) O O (A3 (BP O (BE IK O) fun b4=>Ax A8 1 [] O (Az (Ay A8 1 [] O (BH ?_)))));refine Bn (α:=Nat) (fun i=>⟨28,mk [(0,.p (.lst (List.map Bo ds))),(1,.p (.str nm)),(4,.ptr b4 0),(6,.p (I (i:Int)))],[.box b4 [.p (I 0),.p (I 0),.p (I 0),.p (I 0),.p (I 0),.p (I 0),.p (.str ⟨#[]⟩),.p (.nils),.p (.nils)]],[]⟩) (fun i=>ds.length - i) (fun i=>i≤ds.length∧(∀j,j<i→∀y,ds[j]?=some y→Gn (Cw y) nm=false)) 0 (⟨by omega,fun j h=>by omega⟩) ?_ ?_
 ·exact Bh ⟨we O,we O,we O,we O,Au⟩ (leH (is:=[0]) O (wl (oe O) (Dd)))
 rintro i hC
 try simp only at hC
 obtain⟨hi,hC⟩:=hC;refine Az (A3 (A2 A8 2 [] O (Av O (BS Iv O (List.length_map _)) (Ax A8 1 [] O (A0 O (fun c=>?_) (fun c=>?_))))))
 ·(try simp only[sd,se] at c);refine A5 (Az (BH (A3 (A2 A8 2 [] O ?_))));obtain⟨x,hx⟩:=BB (l:=ds) (i:=i) Ar;have hD:=h1.all _ (List.mem_of_getElem? hx);have hcl:=hD.cl;have hfl:=hD.fl;refine Av O (BA Iv O O Ar (En hx) (Cp _)) (Av O (BO Ew O (Cp _)) (Av O (BM O O (Ls x hD.cl hD.fl hD.nm) O) (B0 O (Av O (BM O O (TS (Cw x) nm (by have:=MN x;omega)) O) (Bk O (A0 O (fun c1=>?_) (fun c1=>?_)))))))
  ·(try simp only[sd,se] at c1);refine A3 (A2 A8 2 [] O (Av O (BA Iv O O Ar (En hx) (Cp _)) (A2 A8 3 [] O (Av O (BM O O (Sy x (i:Int) nm hD.cl hD.fl) O) (Ax A8 2 [0,1] O (A4 (⟨O,_,_,⟨_,_,O,(BN (i:=0) I1 O O Ai),⟨_,_,O,O,O⟩⟩,(List.nil_sublist _),?_⟩)))))))
   all_goals exact⟨by show (.tup [.agg ((Dj (FR x (i:Int) nm)).map .p),.p (I 0)]:AV)=_;rw[ZU hx hC (by simpa using c1)],rfl⟩
  (try simp only[sd,se] at c1);refine A5 (A7 (Ax A8 3 [] O (⟨(i+1),AT,⟨by omega,C6 (p:=fun _ (y:CM)=>Gn (Cw y) nm=false) hC hx (by simpa using c1)⟩,Bh ⟨we rfl,we rfl,we rfl,we rfl,trivial⟩ (leH (is:=[0]) rfl (wl (oe rfl) (Dd)))⟩)))
 (try simp only[sd,se] at c);refine Bp (Ay A8 3 [0,0] O (BZ (Bl (i:=0) O) (A4 (⟨O,_,_,⟨_,_,O,(BN (i:=0) I1 O O O),⟨_,_,O,O,O⟩⟩,(List.nil_sublist _),?_⟩))))
 all_goals exact⟨by show (.tup [.agg [.p (I 0),.p (I 0),.p (I 0),.p (I 0),.p (I 0),.p (I 0),.p (.str ⟨#[]⟩),.p (.lst []),.p (.lst [])],.p (I 9)]:AV)=_;rw[WD fun j hj=>hC j Ar];rfl,rfl⟩
theorem Je:∀(t:Tm),(Nd t)→FF Tryz.prog 149 [.agg ((BU t).map .p)] (.p (.bool (NQ t Be))):=by
 intro t h1;refine A9 Tryz.func149 O lG (n:=6) O O (A3 (BP O (BY O) fun b1=>Ax A8 1 [] O (A3 (A2 A8 2 [0] O (Av O (G1 O O (Mj _ t (.mk 0 0 ⟨#[]⟩ [] []:Tm) (Nat.le_refl _) h1) (aw (we O) (aw (Dz O) (FB)))) (Ax A8 1 [] O (A4 (⟨O,_,_,⟨_,_,O,O,O⟩,(List.nil_sublist _),?_⟩))))))))
 all_goals exact⟨rfl,rfl⟩
end Go.Proofs.YtboammbpdaoojaaGreat
