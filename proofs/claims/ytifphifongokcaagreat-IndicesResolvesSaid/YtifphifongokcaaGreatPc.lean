/- Part of the proofs: an abstract program logic, plain models and contracts of functions. -/
import Derived.Test.YtifphifongokcaaGreatPb
import Derived.ProofKit
import Derived.Test.YtifphifongokcaaGreatRows
import Derived.Test.YtifphifongokcaaGreatProg
import Derived.Lib.AppendStr
import Derived.Lib.Builder
import Derived.Laws.Externs
import Derived.Lib.UnsafeStr
import Derived.Below
set_option linter.unusedVariables false
set_option linter.unusedSimpArgs false
namespace Go.Eu
open Go.Abs Go.RowKit Go.ChangeShapes Go.ChangeAt Go.WideShapes
theorem Qz:∀{ts:List Tm},(∀t∈ts,Wd t)→WB ts
 | [],_=>trivial
 | t::ts,h=>⟨h t Ai,Qz fun x hx=>h x (by simp[hx])⟩
abbrev F0:Nat→Prop:=fun _=>False
def Ds (w:World):List PV→List Value→Prop
 | [],cs=>cs=[]
 | p::ps,cs=>∃c cs',cs=c::cs'∧Bt F0 w p c∧Ds w ps cs'
theorem Ds.length {w:World}:∀{ps:List PV}{cs:List Value},Ds w ps cs→ps.length=cs.length
 | [],cs,h=>by simp only[Ds] at h;subst h;rfl
 | p::ps,cs,h=>by
  obtain⟨c,cs',rfl,_,h⟩:=h;simp[Ds.length h]
theorem Ds.append {w:World}:∀{a b:List PV}{x y:List Value},Ds w a x→Ds w b y→Ds w (a++b) (x++y)
 | [],b,x,y,h,h'=>by simp only[Ds] at h;subst h;exact h'
 | p::a,b,x,y,h,h'=>by
  obtain⟨c,cs',rfl,h1,h⟩:=h;exact⟨c,cs'++y,O,h1,Ds.append h h'⟩
theorem Ds.one {w:World}{p:PV}{c:Value}(h:Bt F0 w p c):Ds w [p] [c]:=⟨c,[],rfl,h,rfl⟩
theorem Ds.repL {w:World}:∀{ps:List PV}{cs:List Value},Ds w ps cs→BY F0 w (ps.map .p) cs
 | [],cs,h=>by simp only[Ds] at h;subst h;exact rfl
 | p::ps,cs,h=>by
  obtain⟨c,cs',rfl,h1,h⟩:=h;exact⟨c,cs',O,by simp only[Bl];exact h1,Ds.repL h⟩
theorem NZ {w:World}{b:Nat}:∀(r:List PV) (cs:List Value) (o:Nat),Ds w r cs→(∀j,j<cs.length→w.cell? ⟨b,o+j,none⟩=cs[j]?)→Bk F0 w b o r
 | [],cs,o,h,hc=>by simp[Bk]
 | p::r,cs,o,h,hc=>by
  obtain⟨c,cs',rfl,h1,h⟩:=h;refine⟨⟨c,by have:=hc 0 Ai;simpa using this,h1⟩,NZ r cs' (o+1) h fun j hj=>?_⟩;have:=hc (j+1) Ac;rw[show o+1+j=o+(j+1) by omega];simpa using this
theorem Ni {w:World}{base:Nat}{a:Addr}{n:Nat}{cs:List Value}(h:w.cells? base a n=some cs):cs.length=n∧∀j,j<n→w.cell? (a.add j)=cs[j]?:=by
 unfold World.cells? at h;split at h
 ·exact⟨by simpa using mapM_some_length h,fun j hj=>mapM_some_get h j j (by simp[hj])⟩
 cases h
section
variable {H:Type}{enc:TypeId×Value→H}{P:Program}{w:World}{base:Nat}{sp:Nat→Bool}{hd:Bool}{n:Nat}
theorem Fq {α:Type}{e t C:Nat}(ut:P.underlying t=some (.slice e)) (hC:P.cellsOf e=C) (hC1:1≤C) (f:α→List PV) (Q:α→Prop)
  (he:∀m cs y,m<n→DataW.trod enc P w base sp hd m e cs=some y→∃a,Ds w (f a) cs∧Q a) {cs:List Value} {y:DataW H×List MemPlace} (h:DataW.trod enc P w base sp hd n t cs=some y) :
  ∃l:List α,l.length<wide∧(∀a∈l,Q a)∧∃v,cs=[v]∧Bt F0 w (.lst (l.map f)) v:=by
 rcases DataW.trod_slice ut h with ⟨rfl,_⟩ | ⟨a,len,cap,elems,rest,m,rfl,rfl,_,hb,hl,hc,hel,hget,_,_⟩
 ·exact⟨[],by simp[wide],fun a ha=>by simp at ha,_,rfl,by simp only[Bt];exact .inl ⟨rfl,none,0,rfl⟩⟩
 rw[hC] at hget;have hml:maxLen<wide:=by decide
 rcases Nat.eq_zero_or_pos len with h0 | h0
 ·subst h0;exact⟨[],by simp[wide],fun a ha=>by simp at ha,_,rfl,by simp only[Bt];exact .inl ⟨rfl,some a,cap,rfl⟩⟩
 have hone:∀i,i<len→∃ci y,w.cells? base (a.add (i*C)) C=some ci∧DataW.trod enc P w base sp hd m e ci=some y:=fun i hi=>by
  have:=hget i hi;rw[List.getElem?_eq_getElem Ah] at this;obtain⟨ci,h1,h2⟩:=Option.bind_eq_some_iff.1 this;exact⟨ci,_,h1,h2⟩
 obtain⟨c0,y0,hc0,_⟩:=hone 0 h0;obtain⟨hl0,hg0⟩:=Ni hc0;have hcell:∃v,w.cell? a=some v:=by
  have:=hg0 0 Ah;rw[Nat.zero_mul,Addr.add,if_pos rfl,Addr.add,if_pos rfl] at this;rw[List.getElem?_eq_getElem Ah] at this;exact⟨_,this⟩
 obtain⟨v0,hv0⟩:=hcell;obtain⟨blk,off,spot⟩:=a;have hspot:spot=none:=by
  unfold World.cell? at hv0;simp only at hv0;split at hv0
  ·cases spot with
   | none=>rfl
   | some s=>simp at hv0
  cases hv0
 subst hspot;have hblk:blk<w.heap.size:=by
  unfold World.cell? at hv0;simp only at hv0;split at hv0
  ·rename_i hh;exact(Array.getElem?_eq_some_iff.1 hh).1
  cases hv0
 have hadd:∀k,(⟨blk,off,none⟩:Addr).add k=⟨blk,off+k,none⟩:=fun k=>by
  unfold Addr.add;split
  ·rename_i e;subst e;rfl
  rfl
 have hadd2:∀o k,(⟨blk,o,none⟩:Addr).add k=⟨blk,o+k,none⟩:=fun o k=>by
  unfold Addr.add;split
  ·rename_i e;subst e;rfl
  rfl
 have hrows:∀k,k≤len→∃l:List α,l.length=k∧(∀x∈l,Q x)∧BN F0 w blk C (off+(len - k)*C) (l.map f):=by
  intro k
  induction k with
  | zero=>exact fun _=>⟨[],rfl,fun a ha=>by simp at ha,by simp[BN]⟩
  | succ k ih =>
   intro hk;obtain⟨l,h1,h2,h3⟩:=ih Ah;obtain⟨ci,y,hci,ht⟩:=hone (len - (k+1)) Ah;obtain⟨g1,g2⟩:=Ni hci;obtain⟨x,hx,hq⟩:=he m ci y Ah ht;refine⟨x::l,by simp[h1],fun z hz=>?_,?_⟩
   ·rcases List.mem_cons.1 hz with rfl | hz
    ·exact hq
    exact h2 z hz
   refine⟨by rw[hx.length,g1],NZ _ ci _ hx fun j hj=>?_,?_⟩
   ·have:=g2 j Ah;rw[hadd,hadd2] at this;exact this
   rw[show off+(len - (k+1))*C+C=off+(len - k)*C by rw[Nat.add_assoc,←Nat.succ_mul];congr 2;omega];exact h3
 obtain⟨l,h1,h2,h3⟩:=hrows len (Nat.le_refl _);rw[Nat.sub_self,Nat.zero_mul,Nat.add_zero] at h3;refine⟨l,by omega,h2,_,rfl,?_⟩;simp only[Bt];refine .inr ⟨blk,off,cap,C,by rw[List.length_map,h1],fun h=>h,hblk,by rw[List.length_map];omega,h3⟩
def Q9 (P:Program) (t:TypeId):Option (List (Nat×Nat)) :=
 match P.underlying t with
 | some (.struct fs)=>some (fs.toList.map fun f=>(f.type,f.offset))
 | _=>none
theorem O4 {t:TypeId}{l:List (Nat×Nat)}(hf:Q9 P t=some l) {cs:List Value}{y:DataW H×List MemPlace}(h:DataW.trod enc P w base sp hd n t cs=some y) :
  ∃m,n=m+1∧cs.length=P.cellsOf t∧∀(i:Nat) (p:Nat×Nat),l[i]?=some p→∃z,DataW.trod enc P w base sp hd m p.1 ((cs.drop p.2).take (P.cellsOf p.1))=some z:=by
 unfold Q9 at hf;split at hf
 ·rename_i fs hu;injection hf with hf;subst hf;obtain⟨xs,m,h1,_,h2,h3,h4⟩:=DataW.trod_struct hu h;refine⟨m,h1,h2,fun i p hp=>?_⟩;rw[List.getElem?_map] at hp;obtain⟨fl,hfl,rfl⟩:=Option.map_eq_some_iff.1 hp;have hi:fs[i]?=some fl:=by simpa using hfl
  have:=h4 i fl hi;have hlt:i<xs.length:=by rw[h3];exact(Array.getElem?_eq_some_iff.1 hi).1
  rw[List.getElem?_eq_getElem hlt] at this;exact⟨_,this⟩
 cases hf
end
structure HD (P:Program) (tI tS tV tVs tL tLs tT tTs:TypeId):Prop where
 uI:P.underlying tI=some (.int .i64)
 uS:P.underlying tS=some .string
 uVs:P.underlying tVs=some (.slice tV)
 uLs:P.underlying tLs=some (.slice tL)
 uTs:P.underlying tTs=some (.slice tT)
 fV:Q9 P tV=some [(tI,0),(tI,1)]
 fL:Q9 P tL=some [(tI,0),(tVs,1)]
 fT:Q9 P tT=some [(tI,0),(tI,1),(tS,2),(tLs,3),(tTs,4)]
 cI:P.cellsOf tI=1
 cS:P.cellsOf tS=1
 cVs:P.cellsOf tVs=1
 cLs:P.cellsOf tLs=1
 cTs:P.cellsOf tTs=1
 cV:P.cellsOf tV=2
 cL:P.cellsOf tL=2
 cT:P.cellsOf tT=5
theorem MW {n:Int}(h:(Lit.int .i64 n).wf=true):Gy n:=by
 simp only[Lit.wf,Bool.and_eq_true,decide_eq_true_eq] at h;exact h
theorem _root_.Go.Ag {α:Prop}(h:α:=by decide):α:=h
section
variable {H:Type}{enc:TypeId×Value→H}{P:Program}{w:World}{base:Nat}{sp:Nat→Bool}{hd:Bool}{tI tB tS tV tVs tL tLs tT tTs tM tMs:TypeId}
theorem ZC (E:HD P tI tS tV tVs tL tLs tT tTs) {n:Nat}{cs:List Value}{y:DataW H×List MemPlace}(h:DataW.trod enc P w base sp hd n tV cs=some y):∃v:B9,Ds w (I9 v) cs∧(Gy v.index∧Gy v.plus):=by
 obtain⟨m,rfl,hl,hg⟩:=O4 E.fV h;rw[E.cV] at hl
 match cs,hl with
 | [c0,c1],_ =>
  obtain⟨z0,h0⟩:=hg 0 _ rfl;obtain⟨z1,h1⟩:=hg 1 _ rfl;simp only[E.cI,List.drop_zero,List.drop_succ_cons,List.take_succ_cons,List.take_zero] at h0 h1;obtain⟨a,ha,_,fa⟩:=DataW.trod_int E.uI h0;obtain⟨b,hb,_,fb⟩:=DataW.trod_int E.uI h1;injection ha with ha;injection hb with hb;subst ha hb;exact⟨⟨a,b⟩,⟨_,_,O,by simp[Bt],_,_,rfl,by simp[Bt],rfl⟩,MW fa,MW fb⟩
theorem Z0 (E:HD P tI tS tV tVs tL tLs tT tTs) {n:Nat}{cs:List Value}{y:DataW H×List MemPlace}(h:DataW.trod enc P w base sp hd n tL cs=some y):∃v:CB,Ds w (Bz v) cs∧aW v:=by
 obtain⟨m,rfl,hl,hg⟩:=O4 E.fL h;rw[E.cL] at hl
 match cs,hl with
 | [c0,c1],_ =>
  obtain⟨z0,h0⟩:=hg 0 _ rfl;obtain⟨z1,h1⟩:=hg 1 _ rfl;simp only[E.cI,E.cVs,List.drop_zero,List.drop_succ_cons,List.take_succ_cons,List.take_zero] at h0 h1;obtain⟨a,ha,_,fa⟩:=DataW.trod_int E.uI h0;injection ha with ha;subst ha;obtain⟨l,g1,g2,v,hv,g3⟩:=Fq E.uVs E.cV Ag I9 (fun v=>Gy v.index∧Gy v.plus) (fun m cs y _ h=>ZC E h) h1;injection hv with hv;subst hv;exact⟨⟨a,l⟩,⟨_,_,O,by simp[Bt],_,_,rfl,g3,rfl⟩,⟨g1,MW fa,g2⟩⟩
theorem VY (E:HD P tI tS tV tVs tL tLs tT tTs):∀(n:Nat) (cs:List Value) (y:DataW H×List MemPlace),DataW.trod enc P w base sp hd n tT cs=some y→∃t:Tm,Ds w (BQ t) cs∧Wd t:=by
 intro n
 induction n using Nat.strongRecOn with
 | ind n ih =>
  intro cs y h;obtain⟨m,rfl,hl,hg⟩:=O4 E.fT h;rw[E.cT] at hl
  match cs,hl with
  | [c0,c1,c2,c3,c4],_ =>
   obtain⟨z0,h0⟩:=hg 0 _ rfl;obtain⟨z1,h1⟩:=hg 1 _ rfl;obtain⟨z2,h2⟩:=hg 2 _ rfl;obtain⟨z3,h3⟩:=hg 3 _ rfl;obtain⟨z4,h4⟩:=hg 4 _ rfl;simp only[E.cI,E.cS,E.cLs,E.cTs,List.drop_zero,List.drop_succ_cons,List.take_succ_cons,List.take_zero] at h0 h1 h2 h3 h4;obtain⟨a,ha,_,wa⟩:=DataW.trod_int E.uI h0;obtain⟨b,hb,_,wb⟩:=DataW.trod_int E.uI h1;obtain⟨s,hs,_,ws⟩:=DataW.trod_string E.uS h2;injection ha with ha;injection hb with hb;injection hs with hs;subst ha hb hs;obtain⟨l,g1,g2,v,hv,g3⟩:=Fq E.uLs E.cL Ag Bz aW (fun m cs y _ h=>Z0 E h) h3;obtain⟨ks,k1,k2,u,hu,k3⟩:=Fq E.uTs E.cT Ag BQ Wd (fun m' cs y hm h=>ih m' Ah cs y h) h4;injection hv with hv;injection hu with hu;subst hv hu;have hml:maxLen<wide:=by decide
   exact⟨.mk a b s l ks,⟨_,_,O,by simp[Bt],_,_,rfl,by simp[Bt],_,_,rfl,by simp[Bt],_,_,rfl,g3,_,_,rfl,by rw[DE];exact k3,rfl⟩,
    ⟨by omega,g1,g2,k1,Qz fun t ht=>k2 t ht,MW wa,MW wb⟩⟩
theorem Wm (E:HD P tI tS tV tVs tL tLs tT tTs) {n:Nat}{cs:List Value}{y:DataW H×List MemPlace}(h:DataW.trod enc P w base sp hd n tTs cs=some y):∃l:List Tm,l.length<wide∧WB l∧∃v,cs=[v]∧Bt F0 w (.lst (Ay l)) v:=by
 obtain⟨l,g1,g2,v,hv,g3⟩:=Fq E.uTs E.cT Ag BQ Wd (fun m cs y _ h=>VY E m cs y h) h;exact⟨l,g1,Qz g2,v,hv,by rw[DE];exact g3⟩
structure ey (P:Program) (tB tT tM tMs:TypeId):Prop where
 uB:P.underlying tB=some .bool
 uMs:P.underlying tMs=some (.slice tM)
 fM:Q9 P tM=some [(tT,0),(tB,5),(tT,6),(tB,11)]
 cB:P.cellsOf tB=1
 cM:P.cellsOf tM=12
theorem Nk {b2:Nat}{r:Reach}{t e:TypeId}(ut:P.underlying t=some (.slice e)) {v u:Value}(hk:Value.okWide P w r b2 t v) (h:v.cells.toList=[u]):v=u:=by
 unfold Value.okWide at hk;rw[ut] at hk;simp only at hk;unfold Cell.okWide at hk;rw[ut] at hk;cases v with
 | agg cs=>simp only at hk;unfold Cell.ok at hk;rw[ut] at hk;simp at hk
 | _=>simp[Value.cells] at h;exact h
theorem ZI (E:HD P tI tS tV tVs tL tLs tT tTs) {b2:Nat}{r:Reach}{v:Value}{d:DataW H}{ps:List MemPlace}(hk:Value.okWide P w r b2 tTs v) (h:DataW.Trod enc P w base sp hd tTs v d ps):∃l:List Tm,l.length<wide∧WB l∧Bl F0 w (K8 l) v:=by
 obtain⟨n,h⟩:=h;obtain⟨l,g1,g2,u,hu,g3⟩:=Wm E h;have:=Nk E.uTs hk hu;subst this;exact⟨l,g1,g2,by simp only[Bl];exact g3⟩
theorem dL (E:HD P tI tS tV tVs tL tLs tT tTs) {b2:Nat}{r:Reach}{v:Value}{d:DataW H}{ps:List MemPlace}(hk:Value.okWide P w r b2 tT v) (h:DataW.Trod enc P w base sp hd tT v d ps):∃t:Tm,Wd t∧Bl F0 w (TV t) v:=by
 obtain⟨n,h⟩:=h;obtain⟨t,g1,g2⟩:=VY E _ _ _ h;have hf:=E.fT;unfold Q9 at hf;unfold Value.okWide at hk;split at hk
 ·obtain⟨cs,rfl,_,_⟩:=hk;refine⟨t,g2,?_⟩;exact⟨cs.toList,by simp,Ds.repL g1⟩
 ·rename_i hu;rw[hu] at hf;cases hf
 rename_i h1 h2;split at hf
 ·rename_i fs hu;exact absurd hu (h1 fs)
 cases hf
end
theorem T4 (w:World):HRel F0 [] w:=⟨fun o ho=>by simp at ho,by simp,fun o ho=>by simp at ho,fun b hb=>hb.elim⟩
theorem Ra {P:Program}{f:FuncId}{xs:List AV}(h:Df P f xs (.p (.bool true))) {w:World}{vs:List Value}(ha:BY F0 w xs vs):Calls P f ⟨vs⟩ w fun e w'=>e= .returned (.bool true)∧Below w.heap.size w w':=by
 refine(h.2 F0 w vs (T4 w) ha).mono ?_;rintro e w' ⟨r,H',F',hr,he,hH,ht⟩;cases r with
 | panic v=>exact hr.elim
 | val v =>
  obtain⟨rfl,rfl⟩:=hr;obtain⟨u,rfl,hu⟩:=he;simp only[Bl,Bt] at hu;subst hu;exact⟨O,ht.os,ht.tape,ht.out,ht.size,fun k hk=>ht.same k hk fun o ho=>by simp at ho⟩
theorem Q3 {H:Type}{enc:TypeId×Value→H}{P:Program}{f:Func}{s:ChangeSpec}{tB:TypeId}(hl:laidOutB P=true) (hB:P.underlying tB=some .bool) (hrt:f.resultTypes=#[tB]) (hv0:s.vars=[]) {W W':World}{args:Array Value}{ds:List (DataW H)}{before:List MemPlace}
  (hpr:∀t∈f.params.toList,P.readableRec t=true∧t<P.types.size) (hW:DataW.Whole enc P f.params.toList s.vars false W args.toList ds [] before) (hres:(s.fn H ds).results=[.lit (.bool true)]) (hargs:(s.fn H ds).args=ds) (hvars:(s.fn H ds).vars=[]) (hb:Below W.heap.size W W') :
  s.post enc P f false true false false W args (.bool true) W':=by
 have hW':=hW;obtain⟨p,q,hA,hV,rfl,hfz,hnd⟩:=hW;have hq:q=[]:=by rw[hv0] at hV;exact hV
 subst hq;have hstay:∀{ts:List TypeId} {vs:List Value} {ds:List (DataW H)} {ps:List MemPlace},(∀t∈ts,P.readableRec t=true∧t<P.types.size)→(∀x∈ps,x.block<W.heap.size)→DataW.TrodAll enc P W 0 (fun _=>true) true ts vs ds ps→DataW.TrodAll enc P W' 0 (fun b=>decide (b<W.heap.size)) true ts vs ds ps:=by
  intro ts
  induction ts with
  | nil =>
   intro vs ds ps _ _ h;cases vs<;>cases ds<;>simp[DataW.TrodAll] at h ⊢;exact h
  | cons t ts ih =>
   intro vs ds ps h1 h2 h;obtain⟨v,vs',d,ds',a,b,rfl,rfl,rfl,h3,h4⟩:=trodAll_cons h;exact⟨a,b,Below.trod hl (h1 t Ai).1 (h1 t Ai).2 h3 hb (fun x hx=>h2 x (by simp[hx])),ih (fun t ht=>h1 t (by simp[ht])) (fun x hx=>h2 x (by simp[hx])) h4,O⟩
 refine⟨ds,[],p++[],[],p,[],hW',?_,?_,?_,hb.frame _,fun h=>by cases h⟩
 ·rw[List.append_nil,hres,hrt];refine⟨[],[],⟨1,?_⟩,O,O⟩;unfold DataW.trod;rw[hB];rfl
 ·rw[List.append_nil,hargs];exact hstay hpr (fun x hx=>hW'.lt x (by simpa using hx)) hA
 rw[List.append_nil,hvars,hv0];exact O
section
variable {H:Type}{enc:TypeId×Value→H}{P:Program}{w:World}{base:Nat}{sp:Nat→Bool}{hd:Bool}{tB tBs:TypeId}
structure SP (P:Program) (tB tBs:TypeId):Prop where
 uB:P.underlying tB=some .bool
 uBs:P.underlying tBs=some (.slice tB)
 cB:P.cellsOf tB=1
theorem Zl (E:SP P tB tBs) {b2:Nat}{r:Reach}{v:Value}{d:DataW H}{ps:List MemPlace}(hk:Value.okWide P w r b2 tBs v) (h:DataW.Trod enc P w base sp hd tBs v d ps):∃l:List Bool,l.length<wide∧Bl F0 w (.p (.lst (l.map Bp))) v:=by
 obtain⟨n,h⟩:=h;obtain⟨l,g1,_,u,hu,g3⟩:=Fq E.uBs E.cB Ag Bp (fun _=>True) (fun m cs y _ h=>by
  obtain⟨a,ha,_⟩:=DataW.trod_bool E.uB h;subst ha;exact⟨a,⟨_,_,O,by simp[Bt],rfl⟩,trivial⟩) h
 have:=Nk E.uBs hk hu;subst this;exact⟨l,g1,by simp only[Bl];exact g3⟩
end
end Go.Eu
namespace Go.Proofs.YtifphifongokcaaGreat
open Go.Eu
theorem own:ownKnob Tryz.prog.godebug=none:=by kernel_rfl
theorem laidOut:laidOutB Tryz.prog=true:=by kernel_rfl
theorem ia:HD Tryz.prog 3 9 60 61 63 22 25 23:=⟨by kernel_rfl,by kernel_rfl,by kernel_rfl,by kernel_rfl,by kernel_rfl,by kernel_rfl,by kernel_rfl,by kernel_rfl,by kernel_rfl,by kernel_rfl,by kernel_rfl,by kernel_rfl,by kernel_rfl,by kernel_rfl,by kernel_rfl,by kernel_rfl⟩
theorem jV:SP Tryz.prog 4 47:=⟨by kernel_rfl,by kernel_rfl,by kernel_rfl⟩
end Go.Proofs.YtifphifongokcaaGreat
namespace Go.Proofs.YtifphifongokcaaGreat
open Go.Abs
theorem Eh:DY Tryz.prog 22=some (63,2,32):=by kernel_rfl
theorem BP:DY Tryz.prog 23=some (25,5,80):=by kernel_rfl
theorem RY:DY Tryz.prog 26=some (76,6,96):=by kernel_rfl
theorem dq:DY Tryz.prog 29=some (114,15,224):=by kernel_rfl
theorem Z2:DY Tryz.prog 34=some (72,4,88):=by kernel_rfl
theorem FC:DY Tryz.prog 47=some (4,1,1):=by kernel_rfl
theorem Fv:DY Tryz.prog 61=some (60,2,16):=by kernel_rfl
theorem Zx:DY Tryz.prog 70=some (86,3,56):=by kernel_rfl
theorem N7:DY Tryz.prog 100=some (31,23,360):=by kernel_rfl
theorem Po:DY Tryz.prog 121=some (3,1,8):=by kernel_rfl
theorem Km:DY Tryz.prog 147=some (152,10,160):=by kernel_rfl
theorem HW:DY Tryz.prog 148=some (152,10,160):=by kernel_rfl
theorem kC:A9 Tryz.prog 4=true:=by kernel_rfl
theorem gu:A9 Tryz.prog 10=true:=by kernel_rfl
theorem gD:A9 Tryz.prog 13=true:=by kernel_rfl
theorem fH:A9 Tryz.prog 14=true:=by kernel_rfl
theorem gL:A9 Tryz.prog 15=true:=by kernel_rfl
theorem fP:A9 Tryz.prog 16=true:=by kernel_rfl
theorem iI:A9 Tryz.prog 17=true:=by kernel_rfl
theorem gH:A9 Tryz.prog 18=true:=by kernel_rfl
theorem fF:A9 Tryz.prog 19=true:=by kernel_rfl
theorem gK:A9 Tryz.prog 22=true:=by kernel_rfl
theorem iB:A9 Tryz.prog 31=true:=by kernel_rfl
theorem fQ:A9 Tryz.prog 39=true:=by kernel_rfl
theorem iR:A9 Tryz.prog 43=true:=by kernel_rfl
theorem hG:A9 Tryz.prog 46=true:=by kernel_rfl
theorem iO:A9 Tryz.prog 47=true:=by kernel_rfl
theorem gR:A9 Tryz.prog 48=true:=by kernel_rfl
theorem fG:A9 Tryz.prog 49=true:=by kernel_rfl
theorem eZ:A9 Tryz.prog 50=true:=by kernel_rfl
theorem dB:A9 Tryz.prog 51=true:=by kernel_rfl
theorem iJ:A9 Tryz.prog 52=true:=by kernel_rfl
theorem iN:A9 Tryz.prog 53=true:=by kernel_rfl
theorem fo:A9 Tryz.prog 54=true:=by kernel_rfl
theorem gp:A9 Tryz.prog 55=true:=by kernel_rfl
theorem gy:A9 Tryz.prog 56=true:=by kernel_rfl
theorem fp:A9 Tryz.prog 57=true:=by kernel_rfl
theorem bK:A9 Tryz.prog 58=true:=by kernel_rfl
theorem gI:A9 Tryz.prog 59=true:=by kernel_rfl
theorem gx:A9 Tryz.prog 60=true:=by kernel_rfl
theorem fK:A9 Tryz.prog 63=true:=by kernel_rfl
theorem hO:A9 Tryz.prog 64=true:=by kernel_rfl
theorem fq:A9 Tryz.prog 74=true:=by kernel_rfl
theorem gw:A9 Tryz.prog 78=true:=by kernel_rfl
theorem fk:A9 Tryz.prog 79=true:=by kernel_rfl
theorem gM:A9 Tryz.prog 81=true:=by kernel_rfl
theorem fS:A9 Tryz.prog 82=true:=by kernel_rfl
theorem gv:A9 Tryz.prog 83=true:=by kernel_rfl
theorem iG:A9 Tryz.prog 93=true:=by kernel_rfl
theorem hM:A9 Tryz.prog 95=true:=by kernel_rfl
theorem gA:A9 Tryz.prog 97=true:=by kernel_rfl
theorem gf:A9 Tryz.prog 98=true:=by kernel_rfl
theorem iS:A9 Tryz.prog 99=true:=by kernel_rfl
theorem dA:A9 Tryz.prog 100=true:=by kernel_rfl
theorem Yd:A9 Tryz.prog 101=true:=by kernel_rfl
theorem R9:A9 Tryz.prog 102=true:=by kernel_rfl
theorem bu:A9 Tryz.prog 103=true:=by kernel_rfl
theorem dE:A9 Tryz.prog 104=true:=by kernel_rfl
theorem dF:A9 Tryz.prog 105=true:=by kernel_rfl
theorem dk:A9 Tryz.prog 106=true:=by kernel_rfl
theorem bH:A9 Tryz.prog 107=true:=by kernel_rfl
theorem eC:A9 Tryz.prog 108=true:=by kernel_rfl
theorem aa:A9 Tryz.prog 118=true:=by kernel_rfl
theorem bW:A9 Tryz.prog 119=true:=by kernel_rfl
theorem dv:A9 Tryz.prog 121=true:=by kernel_rfl
theorem bZ:A9 Tryz.prog 122=true:=by kernel_rfl
theorem cu:A9 Tryz.prog 123=true:=by kernel_rfl
theorem cD:A9 Tryz.prog 124=true:=by kernel_rfl
theorem eV:A9 Tryz.prog 125=true:=by kernel_rfl
theorem UP:A9 Tryz.prog 126=true:=by kernel_rfl
theorem eT:A9 Tryz.prog 127=true:=by kernel_rfl
theorem eS:A9 Tryz.prog 129=true:=by kernel_rfl
theorem a8:A9 Tryz.prog 130=true:=by kernel_rfl
theorem az:A9 Tryz.prog 131=true:=by kernel_rfl
theorem cc:A9 Tryz.prog 132=true:=by kernel_rfl
theorem dx:A9 Tryz.prog 133=true:=by kernel_rfl
theorem ay:A9 Tryz.prog 142=true:=by kernel_rfl
theorem eQ:A9 Tryz.prog 143=true:=by kernel_rfl
theorem eL:A9 Tryz.prog 144=true:=by kernel_rfl
theorem bA:A9 Tryz.prog 145=true:=by kernel_rfl
theorem cr:A9 Tryz.prog 146=true:=by kernel_rfl
theorem dH:A9 Tryz.prog 147=true:=by kernel_rfl
theorem dh:A9 Tryz.prog 148=true:=by kernel_rfl
theorem ae:A9 Tryz.prog 149=true:=by kernel_rfl
theorem YS:A9 Tryz.prog 150=true:=by kernel_rfl
theorem eX:A9 Tryz.prog 151=true:=by kernel_rfl
theorem aj:A9 Tryz.prog 152=true:=by kernel_rfl
theorem dr:A9 Tryz.prog 153=true:=by kernel_rfl
theorem Yg:A9 Tryz.prog 156=true:=by kernel_rfl
theorem eK:A9 Tryz.prog 157=true:=by kernel_rfl
theorem db:A9 Tryz.prog 158=true:=by kernel_rfl
theorem cU:A9 Tryz.prog 159=true:=by kernel_rfl
theorem di:A9 Tryz.prog 160=true:=by kernel_rfl
theorem da:A9 Tryz.prog 161=true:=by kernel_rfl
theorem dI:A9 Tryz.prog 162=true:=by kernel_rfl
theorem cN:A9 Tryz.prog 163=true:=by kernel_rfl
theorem eO:A9 Tryz.prog 164=true:=by kernel_rfl
theorem dg:A9 Tryz.prog 165=true:=by kernel_rfl
theorem dV:A9 Tryz.prog 166=true:=by kernel_rfl
theorem bq:A9 Tryz.prog 167=true:=by kernel_rfl
theorem cg:A9 Tryz.prog 176=true:=by kernel_rfl
theorem du:A9 Tryz.prog 178=true:=by kernel_rfl
theorem bQ:A9 Tryz.prog 179=true:=by kernel_rfl
theorem YK:A9 Tryz.prog 180=true:=by kernel_rfl
theorem Yi:A9 Tryz.prog 181=true:=by kernel_rfl
theorem bS:A9 Tryz.prog 182=true:=by kernel_rfl
theorem bF:A9 Tryz.prog 183=true:=by kernel_rfl
theorem eB:A9 Tryz.prog 187=true:=by kernel_rfl
theorem bO:A9 Tryz.prog 188=true:=by kernel_rfl
theorem cj:A9 Tryz.prog 189=true:=by kernel_rfl
theorem dy:A9 Tryz.prog 194=true:=by kernel_rfl
theorem df:A9 Tryz.prog 197=true:=by kernel_rfl
theorem cQ:A9 Tryz.prog 198=true:=by kernel_rfl
theorem eW:A9 Tryz.prog 205=true:=by kernel_rfl
theorem ah:A9 Tryz.prog 209=true:=by kernel_rfl
theorem D0:fieldsOf Tryz.prog 25=some [(0,1),(1,1),(2,1),(3,1),(4,1)]:=by kernel_rfl
theorem fI:fieldsOf Tryz.prog 28=some [(0,1),(1,5),(6,1)]:=by kernel_rfl
theorem Gq:fieldsOf Tryz.prog 31=some [(0,1),(1,1),(2,1),(3,5),(8,5),(13,1),(14,1),(15,7),(22,1)]:=by kernel_rfl
theorem Zf:fieldsOf Tryz.prog 36=some [(0,1),(1,1),(2,1),(3,1),(4,5),(9,1)]:=by kernel_rfl
theorem Zs:fieldsOf Tryz.prog 63=some [(0,1),(1,1)]:=by kernel_rfl
theorem Td:fieldsOf Tryz.prog 76=some [(0,1),(1,5)]:=by kernel_rfl
theorem cC:fieldsOf Tryz.prog 114=some [(0,1),(1,5),(6,1),(7,8)]:=by kernel_rfl
theorem Ng:fieldsOf Tryz.prog 150=some [(0,1),(1,1),(2,1),(3,1)]:=by kernel_rfl
theorem YB:fieldsOf Tryz.prog 152=some [(0,5),(5,5)]:=by kernel_rfl
theorem au:fieldsOf Tryz.prog 161=some [(0,5),(5,1),(6,1)]:=by kernel_rfl
theorem YG:fieldsOf Tryz.prog 178=some [(0,1),(1,1)]:=by kernel_rfl
theorem Ie:fieldsOf Tryz.prog 187=some [(0,1),(1,1),(2,1),(3,1)]:=by kernel_rfl
theorem br:fieldsOf Tryz.prog 202=some [(0,1),(1,1),(2,1),(3,1),(4,1)]:=by kernel_rfl
theorem bT:fieldsOf Tryz.prog 222=some [(0,1)]:=by kernel_rfl
theorem K5:fieldsOf Tryz.prog 241=some [(0,1),(1,1),(2,1),(3,1),(4,5)]:=by kernel_rfl
theorem Eg:Tryz.prog.follows .mixedOrders=true:=by kernel_rfl
theorem cf:JT Tryz.prog 60=true:=by kernel_rfl
theorem ty2:Cj Tryz.prog 2=some (false,1):=by kernel_rfl
theorem FW:Cj Tryz.prog 3=some (false,1):=by kernel_rfl
theorem Y7:Cj Tryz.prog 4=some (false,1):=by kernel_rfl
theorem P3:Cj Tryz.prog 9=some (false,1):=by kernel_rfl
theorem WN:Cj Tryz.prog 22=some (false,1):=by kernel_rfl
theorem NK:Cj Tryz.prog 23=some (false,1):=by kernel_rfl
theorem Bf:Cj Tryz.prog 25=some (true,5):=by kernel_rfl
theorem Xk:Cj Tryz.prog 26=some (false,1):=by kernel_rfl
theorem fX:Cj Tryz.prog 29=some (false,1):=by kernel_rfl
theorem Q0:Cj Tryz.prog 31=some (true,23):=by kernel_rfl
theorem Uw:Cj Tryz.prog 36=some (true,10):=by kernel_rfl
theorem Qw:Cj Tryz.prog 39=some (false,1):=by kernel_rfl
theorem VZ:Cj Tryz.prog 47=some (false,1):=by kernel_rfl
theorem ZS:Cj Tryz.prog 60=some (true,2):=by kernel_rfl
theorem S6:Cj Tryz.prog 63=some (true,2):=by kernel_rfl
theorem WE:Cj Tryz.prog 72=some (true,4):=by kernel_rfl
theorem eN:Cj Tryz.prog 76=some (true,6):=by kernel_rfl
theorem cY:Cj Tryz.prog 100=some (false,1):=by kernel_rfl
theorem dw:Cj Tryz.prog 114=some (true,15):=by kernel_rfl
theorem cw:Cj Tryz.prog 145=some (false,1):=by kernel_rfl
theorem Sf:Cj Tryz.prog 146=some (false,1):=by kernel_rfl
theorem YR:Cj Tryz.prog 147=some (false,1):=by kernel_rfl
theorem Sx:Cj Tryz.prog 148=some (false,1):=by kernel_rfl
theorem Is:Cj Tryz.prog 152=some (true,10):=by kernel_rfl
theorem Il:Cj Tryz.prog 187=some (true,4):=by kernel_rfl
theorem Ys:Cj Tryz.prog 202=some (true,5):=by kernel_rfl
theorem eG:Cj Tryz.prog 203=some (true,65):=by kernel_rfl
theorem aY:Cj Tryz.prog 220=some (false,1):=by kernel_rfl
theorem bY:Cj Tryz.prog 225=some (true,1):=by kernel_rfl
theorem NY:Cj Tryz.prog 241=some (true,9):=by kernel_rfl
theorem Yq:Cj Tryz.prog 264=some (false,1):=by kernel_rfl
theorem YX:Tryz.prog.underlying 203=some (.array 13 202):=by kernel_rfl
theorem Ye:Tryz.prog.underlying 265=some (.array 7 264):=by kernel_rfl
theorem Y1:Tryz.prog.underlying 20=some (.interface #[]):=by kernel_rfl
theorem Yr:Tryz.prog.underlying 245=some (.int .i64):=by kernel_rfl
theorem kP:Tryz.prog.underlying 4=some .bool:=by kernel_rfl
theorem eu:Tryz.prog.underlying 9=some .string:=by kernel_rfl
theorem dR:zeroOf Tryz.prog 3=some (.int .i64 0):=by kernel_rfl
theorem bD:zeroOf Tryz.prog 4=some (.bool false):=by kernel_rfl
theorem Bj:zeroOf Tryz.prog 25=some (.agg { toList:=[.int .i64 0,.int .i64 0,.string { data:={ toList:=[] } },.slice none 0 0,.slice none 0 0] }):=by kernel_rfl
theorem fm:zeroOf Tryz.prog 28=some (.agg { toList:=[.int .i64 0,.int .i64 0,.int .i64 0,.string { data:={ toList:=[] } },.slice none 0 0,.slice none 0 0,.slice none 0 0] }):=by kernel_rfl
theorem Ub:zeroOf Tryz.prog 31=some (.agg { toList:=[.int .i64 0,.string { data:={ toList:=[] } },.int .i64 0,.int .i64 0,.int .i64 0,.string { data:={ toList:=[] } },.slice none 0 0,.slice none 0 0,.int .i64 0,.int .i64 0,.string { data:={ toList:=[] } },.slice none 0 0,.slice none 0 0,.int .i64 0,.slice none 0 0,.int .i64 0,.int .i64 0,.int .i64 0,.string { data:={ toList:=[] } },.slice none 0 0,.slice none 0 0,.slice none 0 0,.slice none 0 0] }):=by kernel_rfl
theorem Wp:zeroOf Tryz.prog 36=some (.agg { toList:=[.string { data:={ toList:=[] } },.int .i64 0,.slice none 0 0,.slice none 0 0,.int .i64 0,.int .i64 0,.string { data:={ toList:=[] } },.slice none 0 0,.slice none 0 0,.slice none 0 0] }):=by kernel_rfl
theorem ZV:zeroOf Tryz.prog 39=some (.int .i64 0):=by kernel_rfl
theorem Y3:zeroOf Tryz.prog 60=some (.agg { toList:=[.int .i64 0,.int .i64 0] }):=by kernel_rfl
theorem Li:zeroOf Tryz.prog 63=some (.agg { toList:=[.int .i64 0,.slice none 0 0] }):=by kernel_rfl
theorem Xf:zeroOf Tryz.prog 72=some (.agg { toList:=[.string { data:={ toList:=[] } },.slice none 0 0,.slice none 0 0,.slice none 0 0] }):=by kernel_rfl
theorem Ud:zeroOf Tryz.prog 76=some (.agg { toList:=[.string { data:={ toList:=[] } },.int .i64 0,.int .i64 0,.string { data:={ toList:=[] } },.slice none 0 0,.slice none 0 0] }):=by kernel_rfl
theorem bP:zeroOf Tryz.prog 86=some (.agg { toList:=[.int .i64 0,.slice none 0 0,.slice none 0 0] }):=by kernel_rfl
theorem bw:zeroOf Tryz.prog 114=some (.agg { toList:=[.string { data:={ toList:=[] } },.int .i64 0,.int .i64 0,.string { data:={ toList:=[] } },.slice none 0 0,.slice none 0 0,.int .i64 0,.int .i64 0,.int .i64 0,.int .i64 0,.string { data:={ toList:=[] } },.slice none 0 0,.slice none 0 0,.int .i64 0,.slice none 0 0] }):=by kernel_rfl
theorem bg:zeroOf Tryz.prog 121=some (.slice none 0 0):=by kernel_rfl
theorem dY:zeroOf Tryz.prog 150=some (.agg { toList:=[.pointer none,.slice none 0 0,.slice none 0 0,.slice none 0 0] }):=by kernel_rfl
theorem GG:zeroOf Tryz.prog 152=some (.agg { toList:=[.int .i64 0,.int .i64 0,.string { data:={ toList:=[] } },.slice none 0 0,.slice none 0 0,.int .i64 0,.int .i64 0,.string { data:={ toList:=[] } },.slice none 0 0,.slice none 0 0] }):=by kernel_rfl
theorem X4:zeroOf Tryz.prog 161=some (.agg { toList:=[.int .i64 0,.int .i64 0,.string { data:={ toList:=[] } },.slice none 0 0,.slice none 0 0,.slice none 0 0,.int .i64 0] }):=by kernel_rfl
theorem Yf:zeroOf Tryz.prog 178=some (.agg { toList:=[.int .i64 0,.int .i64 0] }):=by kernel_rfl
theorem Lx:zeroOf Tryz.prog 187=some (.agg { toList:=[.string { data:={ toList:=[] } },.string { data:={ toList:=[] } },.slice none 0 0,.slice none 0 0] }):=by kernel_rfl
theorem Vs:zeroOf Tryz.prog 203=some (.agg { toList:=[.bool false,.bool false,.int .i64 0,.int .i64 0,.int .i64 0,.bool false,.bool false,.int .i64 0,.int .i64 0,.int .i64 0,.bool false,.bool false,.int .i64 0,.int .i64 0,.int .i64 0,.bool false,.bool false,.int .i64 0,.int .i64 0,.int .i64 0,.bool false,.bool false,.int .i64 0,.int .i64 0,.int .i64 0,.bool false,.bool false,.int .i64 0,.int .i64 0,.int .i64 0,.bool false,.bool false,.int .i64 0,.int .i64 0,.int .i64 0,.bool false,.bool false,.int .i64 0,.int .i64 0,.int .i64 0,.bool false,.bool false,.int .i64 0,.int .i64 0,.int .i64 0,.bool false,.bool false,.int .i64 0,.int .i64 0,.int .i64 0,.bool false,.bool false,.int .i64 0,.int .i64 0,.int .i64 0,.bool false,.bool false,.int .i64 0,.int .i64 0,.int .i64 0,.bool false,.bool false,.int .i64 0,.int .i64 0,.int .i64 0] }):=by kernel_rfl
theorem eI:zeroOf Tryz.prog 205=some .nilFunc:=by kernel_rfl
theorem bM:zeroOf Tryz.prog 219=some .nilFunc:=by kernel_rfl
theorem ax:zeroOf Tryz.prog 220=some (.pointer none):=by kernel_rfl
theorem dQ:zeroOf Tryz.prog 222=some (.agg { toList:=[.int .i64 0] }):=by kernel_rfl
theorem eH:zeroOf Tryz.prog 225=some (.agg { toList:=[.nilFunc] }):=by kernel_rfl
theorem YM:zeroOf Tryz.prog 238=some .nilFunc:=by kernel_rfl
theorem Hp:zeroOf Tryz.prog 241=some (.agg { toList:=[.int .i64 0,.int .i64 0,.int .i64 0,.int .i64 0,.int .i64 0,.int .i64 0,.string { data:={ toList:=[] } },.slice none 0 0,.slice none 0 0] }):=by kernel_rfl
theorem bJ:zeroOf Tryz.prog 265=some (.agg { toList:=[.nilFunc,.nilFunc,.nilFunc,.nilFunc,.nilFunc,.nilFunc,.nilFunc] }):=by kernel_rfl
end Go.Proofs.YtifphifongokcaaGreat
namespace Go.Abs
section
variable {P:Program}{H:List Ax}{dst:Option Tmp}{ty:TypeId}{pos:String}{aft:Array Edge}{x y:Operand}{ρ:Operand→AV}{g:Option (Nat×Bool)}
end
section
variable {P:Program}{dst:Option Tmp}{ty:TypeId}{pos:String}{aft:Array Edge}{g:Option (Nat×Bool)}{ρ:Operand→AV}{H:List Ax}{x y z:Operand}{v:AV}
def eo (s:ByteArray):List (List PV):=s.data.toList.map fun b=>[PV.int .u8 b.toNat]
end
section
variable {P:Program}{dst:Option Tmp}{ty:TypeId}{pos:String}{aft:Array Edge}{g:Option (Nat×Bool)}{ρ:Operand→AV}{H:List Ax}{x y z:Operand}{v:AV}
def eg (T:TypeId) (cs:List AV) (H:List Ax):Ct→List Ax→Prop
 | .val v,H'=>∃b,v= .ptr b 0∧H'= .boxT b T cs::H
 | .panic _,_=>False
end
section
variable {P:Program}{dst:Option Tmp}{ty:TypeId}{pos:String}{aft:Array Edge}{g:Option (Nat×Bool)}{ρ:Operand→AV}{H:List Ax}{x:Operand}
end
def At (cells:List PV) (o:Nat) (us:List PV):Prop:=∃rest,cells.drop o=us++rest
theorem At.front {us rest:List PV}:At (us++rest) 0 us:=⟨rest,rfl⟩
theorem At.all {us:List PV}:At us 0 us:=⟨[],by simp⟩
theorem At.one {c:PV}{rest:List PV}:At (c::rest) 0 [c]:=⟨rest,rfl⟩
theorem At.cons {c:PV}{cells us:List PV}{o:Nat}(h:At cells o us):At (c::cells) (o+1) us:=h
theorem At.app {a cells us:List PV}{o n:Nat}(hn:a.length=n) (h:At cells o us):At (a++cells) (n+o) us:=by
 obtain⟨rest,h⟩:=h;exact⟨rest,by rw[List.drop_append,←hn,List.drop_of_length_le Ah];simpa using h⟩
theorem At.sub {cells us vs:List PV}{o p:Nat}(h:At cells o us) (h':At us p vs) (hp:p≤us.length):At cells (o+p) vs:=by
 obtain⟨r,h⟩:=h;obtain⟨r',h'⟩:=h';exact⟨r'++r,by rw[←List.drop_drop,h,List.drop_append_of_le_length hp,h',List.append_assoc]⟩
theorem At.drop {cells us:List PV}{a b:Nat}(h:At cells (a+b) us):At (cells.drop a) b us:=by
 unfold At at h ⊢
 rwa [List.drop_drop]
section
variable {P:Program}{dst:Option Tmp}{ty:TypeId}{pos:String}{aft:Array Edge}{g:Option (Nat×Bool)}{ρ:Operand→AV}{H:List Ax}{x:Operand}{T:TypeId}{b o i n:Nat}{cells us:List PV}{c:PV}
theorem CT (hT:Cj P T=some (true,n)) (hx:ρ x= .ptr b o) (hi:H[i]?=some (.box b (cells.map .p))) (ha:At cells o us) (hn:us.length=n):Co P ⟨dst,.load T x,ty,pos,aft,g⟩ ρ H (.agg (us.map .p)) H:=by
 have e:((cells.map AV.p).drop o).take n=us.map .p:=by
  obtain⟨rest,h⟩:=ha;rw[←List.map_drop,h,List.map_append,List.take_left' (by rw[List.length_map,hn])]
 exact FP hT hx hi (by rw[e,List.length_map,hn]) (by rw[e])
theorem A6 (hT:Cj P T=some (false,n)) (hx:ρ x= .ptr b o) (hi:H[i]?=some (.box b (cells.map .p))) (ha:At cells o [c]):Co P ⟨dst,.load T x,ty,pos,aft,g⟩ ρ H (.p c) H :=
 Bd hT hx hi (by
  obtain⟨rest,h⟩:=ha;have:=congrArg (fun l:List PV=>l[0]?) h;simp only[List.getElem?_drop,Nat.add_zero,List.singleton_append,List.getElem?_cons_zero] at this;simp[this])
theorem QN (hT:Cj P T=some (true,n)) (hx:ρ x= .ref (cells.drop o)) (ha:At cells o us) (hn:us.length=n):Co P ⟨dst,.load T x,ty,pos,aft,g⟩ ρ H (.agg (us.map .p)) H :=
 HV hT hx hn (by obtain⟨rest,h⟩:=ha;rw[h];exact List.take_left)
variable {y:Operand}
theorem RO {a b:Bool}{T U:TypeId}(hu:P.underlying T=some .bool) (hx:ρ x= .p (.bool a)) (hy:ρ y= .p (.bool b)):Co P ⟨dst,.binOp .neq T x y U,ty,pos,aft,g⟩ ρ H (.p (.bool (a !=b))) H :=
 Bn fun F w E hH hE=>by
  have e1:=hE x AW;have e2:=hE y AW;rw[hx] at e1;rw[hy] at e2;simp only[Bl,Bt] at e1 e2;refine⟨.bool (a !=b),?_,by simp[Bl,Bt]⟩;have hg:(eqGuard .neq T x y (.bool a) (.bool b)).run P w= .ok () w:=by unfold eqGuard;rfl
  have hq:(Op.equal T (.bool a) (.bool b)).run P w= .ok (a==b) w:=Kb hu rfl;simp[execOp,Sem.run_bind,hg,e1,e2,binOp,hq,bne]
theorem Iw {bl:Bool}{cs vs ds:List AV}(hT:Cj P T=some (bl,n+1)) (hx:ρ x= .ptr b o) (hi:H[i]?=some (.box b cs)) (hy:DM (ρ y)=some vs) (hn:vs.length=n+1)
  (ho:Nat.ble (o+(n+1)) cs.length=true) (h1:vs.all one=true) (hd:splice cs o vs=ds):Co P ⟨dst,.store T x y,ty,pos,aft,g⟩ ρ H (.p .any) (H.set i (.box b ds)):=by
 subst hd;exact EB hT hx hi hy hn ho h1
end
theorem P6 {F:Nat→Prop}{w:World}{b:Nat}{vs:List Value}{T:TypeId}(hb:w.heap[b]?=some (.cells ⟨vs⟩ T (0,0))):∀(cs:List PV) (o:Nat),BY F w (cs.map .p) (vs.drop o)→Bk F w b o cs
 | [],_,_=>by simp[Bk]
 | c::cs,o,h=>by
  simp only[List.map_cons,BY,Bl] at h;obtain⟨u,us,e,hu,hr⟩:=h;have ho:o<vs.length:=by
   by_cases q:o<vs.length
   ·exact q
   rw[List.drop_eq_nil_of_le Ah] at e;cases e
  rw[List.drop_eq_getElem_cons ho] at e;injection e with e1 e2;simp only[Bk];refine⟨⟨u,?_,hu⟩,P6 hb cs (o+1) (by rw[e2];exact hr)⟩;unfold World.cell?;rw[hb];simp[ho,e1]
theorem KF {n:Nat}{τ:Nat→AV}{H:List Ax}{D:List Cu}{i b:Nat}{cs:List PV}(ts:List Nat) (hi:H[i]?=some (.box b (cs.map .p))) (ht:∀t∈ts,τ t= .ptr b 0) :
  FB ⟨n,τ,H,D⟩ ⟨n,Ht ts (.ref cs) τ,H.eraseIdx i,D⟩:=by
 intro F a w hs;have hmem:=List.mem_of_getElem? hi;have hFb:F b:=hs.heap.sub _ hmem b rfl;have hbd:b<w.heap.size:=hs.heap.bd b hFb;have st:Cd F w (fun k=>F k∧k≠b) w:=⟨Nat.le_refl _,fun _ _ _=>rfl,fun _ h _ h'=>h h'.1⟩;have hne:∀x∈H.eraseIdx i,∀k,x.key=some k→k≠b:=by
  intro x hx k hk hkb;subst hkb;obtain⟨j,hj⟩:=List.mem_iff_getElem?.1 hx;rw[List.getElem?_eraseIdx] at hj;split at hj
  ·have:=Er hs.heap.nodup hj hi hk rfl;omega
  have:=Er hs.heap.nodup hj hi hk rfl;omega
 have hsub:(H.eraseIdx i).Sublist H:=List.eraseIdx_sublist H i;refine⟨fun k=>F k∧k≠b,⟨hs.size,?_,?_,DW.mono st _ _ hs.defs⟩,?_⟩
 ·intro t;simp only[Ht];cases hq:ts.any (Nat.beq t ·) with
  | false=>exact Bl.mono st _ _ (hs.tmp t)
  | true =>
   obtain⟨t',ht',he⟩:=List.any_eq_true.1 hq;have e:=Nat.eq_of_beq_eq_true he;subst e;have hv:=hs.tmp t;simp only[ht t ht',Bl] at hv;obtain⟨vs,T,hb,hr⟩:=hs.heap.obj _ hmem;show Bl (fun k=>F k∧k≠b) w (.ref cs) _;simp only[Bl];exact⟨b,0,hv,fun h=>h.2 O,hbd,P6 hb cs 0 (by rw[List.drop_zero];exact BY.mono st _ _ hr)⟩
 ·have:=hs.heap.sublist hsub;exact⟨fun x hx k hk=>⟨this.sub x hx k hk,hne x hx k hk⟩,this.nodup,fun x hx=>Fc.mono st x (fun _ _=>O) (this.obj x hx),fun k hk=>this.bd k hk.1⟩
 exact⟨Nat.le_refl _,fun _ _ _=>O,fun k hk hn=>⟨hk,fun e=>hn _ hmem (by rw[e];rfl)⟩,fun k hk=> .inl hk.1,fun x hx k hk=> .inl ⟨x,hsub.subset hx,hk⟩,O,O,O⟩
def iE (k:ByteArray):List (ByteArray×AV)→Option AV
 | []=>none
 | (j,x)::r=>if j=k then some x else iE k r
def sset (k:ByteArray) (v:AV):List (ByteArray×AV)→List (ByteArray×AV)
 | []=>[(k,v)]
 | (j,x)::r=>if j=k then (j,v)::r else (j,x)::sset k v r
def kW (l:List (ByteArray×AV)):List (PV×AV):=l.map fun p=>(.str p.1,p.2)
def gJ (P:Program) (T:TypeId):Option TypeId :=
 match P.underlying T with
 | some (.map k e)=>match P.underlying k with
  | some .string=>some e
  | _=>none
 | _=>none
section
variable {F:Nat→Prop}{w:World}
end
section
variable {P:Program}{dst:Option Tmp}{ty:TypeId}{pos:String}{aft:Array Edge}{g:Option (Nat×Bool)}{ρ:Operand→AV}{H:List Ax}{x y z:Operand}{v:AV}
end
section
variable {P:Program}{dst:Option Tmp}{ty:TypeId}{pos:String}{aft:Array Edge}{g:Option (Nat×Bool)}{ρ:Operand→AV}{H:List Ax}{x y z:Operand}{v:AV}
def appendTR (i:Nat) (e:TypeId) (rows:List (List PV)) (H:List Ax):Ct→List Ax→Prop
 | .val v,H'=>∃o c,v= .vs o rows.length c∧H'=H.set i (.vecT o e false rows c)
 | .panic _,_=>False
theorem RL {a b:ByteArray}{T U:TypeId}(hx:ρ x= .p (.str a)) (hy:ρ y= .p (.str b)) (hsz:a.size+b.size≤9223372036854775807):Co P ⟨dst,.binOp .add T x y U,ty,pos,aft,g⟩ ρ H (.p (.str (a++b))) H :=
 Bn fun F w E hH hE=>by
  have e1:=hE x AW;have e2:=hE y AW;rw[hx] at e1;rw[hy] at e2;simp only[Bl,Bt] at e1 e2;have hm:¬(((a.size+b.size:Nat):Int) > IntKind.i64.max):=by rw[show IntKind.i64.max=9223372036854775807 from rfl];omega
  have h1:(Op.stringOp .add a b).run P w= .ok (.string (a++b)) w:=by
   unfold Op.stringOp;simp only[if_neg hm];rfl
  exact⟨.string (a++b),by simp[execOp,Sem.run_bind,Hl,e1,e2,binOp,h1],by simp[Bl,Bt]⟩
end
section
variable {P:Program}{r:Option Nat}{ops:Array Oper}{Q:B7→BJ→Prop}{k:Nat}{n:Nat}{τ:Nat→AV}{H H':List Ax}{D:List Cu}{dst:Option Tmp}{op:Op}{ty:TypeId}{pos:String}{aft:Array Edge}{g:Option (Nat×Bool)}{v:AV}
end
section
variable {P:Program}{dst:Option Tmp}{ty:TypeId}{pos:String}{aft:Array Edge}{g:Option (Nat×Bool)}{ρ:Operand→AV}{H:List Ax}{x f:Operand}
end
section
variable {P:Program}{ops:Array Oper}{n:Nat}{τ₀ τ:Nat→AV}{D:List Cu}{Q:B7→BJ→Prop}{opn:Nat→Bool}{k:Nat}{T:List Ax}{dst:Option Tmp}{ty:TypeId}{pos:String}{aft:Array Edge}{c:Call}{f:Operand}{fid:FuncId}{first caps A:List AV}{v:AV}{C:List Ax→Prop}
end
def Rz (l:List UInt8):List (List PV):=l.map fun b=>[PV.int .u8 b.toNat]
def BW (U e:TypeId) (b:Nat) (l:List UInt8) (T:List Ax):Prop :=
 ∃a o cp,(a= .nilp∨a= .ptr b 0)∧T=[.boxT b U [a,.vs o (Rz l).length cp],.vecT o e false (Rz l) cp]
def BX (U e:TypeId) (b:Nat) (l:List UInt8) (T:List Ax):Prop :=
 ∃a o cp fr,T=[.boxT b U [a,.vs (some o) (Rz l).length cp],.vecT (some o) e fr (Rz l) cp]
def kt (l:List UInt8):ByteArray:=⟨l.toArray⟩
section
variable {P:Program}{dst:Option Tmp}{ty:TypeId}{pos:String}{aft:Array Edge}{g:Option (Nat×Bool)}{ρ:Operand→AV}{H:List Ax}{x y z:Operand}
end
theorem OO {α:Type}:∀(xs l:List α) (o:Nat),o+xs.length≤l.length→splice l o xs=l.take o++xs++l.drop (o+xs.length)
 | [],l,o,h=>by simp[splice]
 | x::xs,l,o,h=>by
  simp only[List.length_cons] at h;rw[splice,OO xs _ _ (by rw[List.length_set];omega)];have h1:(l.set o x).take (o+1)=l.take o++[x]:=by
   rw[List.take_add_one,List.getElem?_set_self Ah,List.take_set_of_le (Nat.le_refl _)];rfl
  have h2:(l.set o x).drop (o+1+xs.length)=l.drop (o+(x::xs).length):=by
   rw[List.drop_set_of_lt Ah];congr 1;simp only[List.length_cons];omega
  rw[h1,h2];simp
def EC:Nat→List (List PV)→List (Nat×AV)
 | _,[]=>[]
 | k,r::rs=>(k,.agg (r.map .p))::EC (k+1) rs
theorem QP {sz:Nat}:∀(rows:List (List PV)) (k:Nat) (base:List AV),(∀r∈rows,r.length=sz)→(k+rows.length)*sz=base.length→ES (fun i=>some (i*sz,sz)) base (EC k rows)=some (base.take (k*sz)++rows.flatten.map .p)
 | [],k,base,hr,hb=>by
  simp only[List.length_nil,Nat.add_zero] at hb;simp[EC,ES,hb]
 | r::rows,k,base,hr,hb=>by
  have hl:=hr r Ai;have hb2:k*sz+sz+rows.length*sz=base.length:=by
   rw[←hb,List.length_cons,Nat.add_mul,Nat.add_mul,Nat.one_mul];omega
  simp only[EC,ES,DM];rw[if_pos ⟨by simp[hl],by simp[hl];omega⟩,OO _ _ _ (by simp[hl];omega)];rw[QP rows (k+1) _ (fun x hx=>hr x (by simp[hx])) (by simp only[List.length_append,List.length_take,List.length_drop,List.length_map,hl];rw[Nat.add_mul,Nat.add_mul,Nat.one_mul];omega)];congr 1;have h1:((base.take (k*sz)++r.map AV.p)++base.drop (k*sz+(r.map AV.p).length)).take ((k+1)*sz)=base.take (k*sz)++r.map .p:=by
   have:(k+1)*sz=(base.take (k*sz)++r.map AV.p).length:=by
    simp only[List.length_append,List.length_take,List.length_map,hl];rw[Nat.add_mul,Nat.one_mul];omega
   rw[this,List.take_left'];rfl
  rw[h1];simp
theorem K4 {α:Type}{sz:Nat}:∀{rows:List (List α)},(∀r∈rows,r.length=sz)→chunks sz rows.length rows.flatten=rows
 | [],_=>rfl
 | r::rows,h=>by
  have hl:=h r Ai;simp only[List.length_cons,chunks,List.flatten_cons];rw[List.take_left' hl,List.drop_left' hl,K4 fun x hx=>h x (by simp[hx])]
theorem ME:∀(rows:List (List PV)) (k:Nat),(∀r∈rows,∀c∈r,c≠ .nils)→(EC k rows).map (fun p=>(p.1,norm p.2))=EC k rows
 | [],k,h=>rfl
 | r::rows,k,h=>by
  simp only[EC,List.map_cons];show (k,AV.agg ((r.map AV.p).map dn))::_=_;rw[ME rows (k+1) fun x hx=>h x (by simp[hx])];congr 3;have:=h r Ai;clear h
  induction r with
  | nil=>rfl
  | cons c r ih =>
   simp only[List.map_cons];rw[ih fun d hd=>this d (by simp[hd])];have:=this c Ai;cases c<;>simp_all [dn]
section
variable {P:Program}{dst:Option Tmp}{ty:TypeId}{pos:String}{aft:Array Edge}{g:Option (Nat×Bool)}{ρ:Operand→AV}{H:List Ax}
theorem M5:∀(r:List PV),EO (r.map .p)=some r
 | []=>rfl
 | c::r=>by simp[EO,M5 r]
theorem Rj {parts:Array (Nat×Operand)}{rows:List (List PV)}(hp:parts.toList.map (fun p=>(p.1,ρ p.2))=EC 0 rows) (hn:∀r∈rows,∀c∈r,c≠ .nils):parts.toList.map (fun p=>(p.1,norm (ρ p.2)))=EC 0 rows:=by
 have h2:=ME rows 0 hn;rw[←hp,List.map_map] at h2;rw[←hp];exact h2
theorem Bi {T e:TypeId}{len sz bytes:Nat}{parts:Array (Nat×Operand)}{z:Value}{rows:List (List PV)}(hT:DY P T=some (e,sz,bytes)) (hz:zeroOf P e=some z) (hsz:z.cells.size=sz) (hpos:(Nat.blt 0 sz&&Nat.ble (len*sz) 16777216)=true)
  (hp:parts.toList.map (fun p=>(p.1,ρ p.2))=EC 0 rows) (hl:rows.length=len) (hr:∀r∈rows,r.length=sz) (hn:∀r∈rows,∀c∈r,c≠ .nils) :
  Co P ⟨dst,.buildSlice T len parts,ty,pos,aft,g⟩ ρ H (.p (.lst rows)) H:=by
 subst hl;refine BT (cs:=rows.flatten.map .p) (ps:=rows.flatten) hT hz hsz hpos ?_ (M5 _) (K4 hr);rw[Rj hp hn,QP rows 0 _ hr (by simp[hsz])];simp
end
section
variable {P:Program}{ops:Array Oper}{n:Nat}{τ₀:Nat→AV}{D:List Cu}{Q:B7→BJ→Prop}{opn:Nat→Bool}{k:Nat}{τ:Nat→AV}{H:List Ax}{rd:Qs}{ef:Qk}{effs:List Bool}{fx:List (Nat×Sp)}{dst:Option Tmp}{op:Op}{ty:TypeId}{pos:String}{aft:Array Edge}
theorem Y0 {sz:Nat}{rows:List (List PV)}(fx':List (Nat×Sp)) (ho:ops[k]?=some ⟨dst,op,ty,pos,aft,none⟩) (hn:opn k=true) (h:CW P ⟨dst,op,ty,pos,aft,none⟩ (ev τ) H (Ga sz rows H)) (haft:DR ops k (fx'.map (·.1))=true)
  (next:∀b c,HA ops k H (.vec (some b) sz rows c::H) rd∧Ew k (.eff (.vs (some b) rows.length c) (.vec (some b) sz rows c::H)) fx∧Dr P ops n τ₀ D Q opn (k+1) (put τ dst (.vs (some b) rows.length c)) (.vec (some b) sz rows c::H) rd ((k,H,.vec (some b) sz rows c::H)::ef) (true::effs) (fx'++fx)):Dr P ops n τ₀ D Q opn k τ H rd ef effs fx :=
 JS fx' ho hn h haft ⟨_,_,0,0,rfl,rfl⟩ (fun _ _ h=>h.elim) (fun v H' ⟨b,c,h1,h2⟩=>by subst h1;subst h2;exact next b c)
end
section
variable {P:Program}{ty:TypeId}{pos:String}{aft:Array Edge}{g:Option (Nat×Bool)}{ρ:Operand→AV}{H:List Ax}{x y:Operand}
end
inductive Ey where
 | val (v:AV)
 | skip
 | new (cs:List AV)
 | newv (sz:Nat) (rows:List (List PV))
def Ey.v (b:Nat×Nat):Ey→AV
 | .val v=>v
 | .skip=> .tup []
 | .new _=> .ptr b.1 0
 | .newv _ rows=> .vs (some b.1) rows.length b.2
def Ey.box (b:Nat×Nat):Ey→List Ax
 | .new cs=>[.box b.1 cs]
 | .newv sz rows=>[.vec (some b.1) sz rows b.2]
 | _=>[]
def Yw (P:Program) (ops:Array Oper) (H₀:List Ax) (o:Oper) (τ:Nat→AV):Ey→Prop
 | .val v=>CL ops ⟨0,τ,[],[]⟩ o∧∀Bs,Co P o (ev τ) (Bs++H₀) v (Bs++H₀)
 | .skip=>∃j want d,o.guard=some (j,want)∧(ops[j]?).bind (·.dst)=some d∧WA (τ d) want
 | .new cs=>o.guard=none∧∀Bs,CW P o (ev τ) (Bs++H₀) (FK cs (Bs++H₀))
 | .newv sz rows=>o.guard=none∧∀Bs,CW P o (ev τ) (Bs++H₀) (Ga sz rows (Bs++H₀))
def EW (P:Program) (ops:Array Oper) (H₀:List Ax):Nat→(Nat→AV)→List Ey→((Nat→AV)→List Ax→Prop)→Prop
 | _,τ,[],K=>K τ []
 | k,τ,e::r,K=>∃o,ops[k]?=some o∧Yw P ops H₀ o τ e∧∀b,EW P ops H₀ (k+1) (put τ o.dst (e.v b)) r (fun τ' Hs=>K τ' (e.box b++Hs))
def J6 (β:Nat→Nat×Nat):Nat→List Ey→List Sp
 | _,[]=>[]
 | k,e::r=> .free (e.v (β k))::J6 β (k+1) r
def bI (β:Nat→Nat×Nat):Nat→List Ey→List Ax
 | _,[]=>[]
 | k,e::r=>e.box (β k)++bI β (k+1) r
def Qq (β:Nat→Nat×Nat) (l:Nat→Bool):Nat→List Ey→List Ax
 | _,[]=>[]
 | k,e::r=>(if l k=true then e.box (β k) else [])++Qq β l (k+1) r
theorem LI (β:Nat→Nat×Nat):∀(r:List Ey) (k j:Nat),j<r.length→(J6 β k r).getD j .skip= .free ((r.getD j .skip).v (β (k+j)))
 | [],k,j,h=>by simp at h
 | e::r,k,0,h=>by simp[J6]
 | e::r,k,j+1,h=>by
  have:=LI β r (k+1) j (by simpa using h);simp only[J6,List.getD_cons_succ];rw[this,show k+1+j=k+(j+1) by omega]
theorem Sw (β:Nat→Nat×Nat):∀(r:List Ey) (k:Nat),(J6 β k r).length=r.length
 | [],k=>rfl
 | e::r,k=>by simp[J6,Sw β r (k+1)]
theorem Rv (β:Nat→Nat×Nat) {r:List Ey}{k j:Nat}(h:r.length≤j):(J6 β k r).getD j .skip= .skip:=by
 rw[List.getD_eq_getElem?_getD,List.getElem?_eq_none (by rw[Sw];exact h)];rfl
theorem XM (β:Nat→Nat×Nat) (r:List Ey) (k j:Nat):((J6 β k r).getD j .skip).isEff=false:=by
 rcases Nat.lt_or_ge j r.length with h | h
 ·rw[LI β r k j h];rfl
 rw[Rv β h];rfl
theorem UU (β:Nat→Nat×Nat) (r:List Ey) (k j:Nat) (ob:List Ax) (v:AV):(J6 β k r).getD j .skip≠ .read ob v:=by
 rcases Nat.lt_or_ge j r.length with h | h
 ·rw[LI β r k j h];simp
 rw[Rv β h];simp
theorem La (β:Nat→Nat×Nat) {r:List Ey}{j:Nat}(h:j<r.length):((J6 β 0 r).getD j .skip).val=(r.getD j .skip).v (β j):=by
 rw[LI β r 0 j h,Nat.zero_add];rfl
theorem EW.facts {P:Program}{ops:Array Oper}{H₀:List Ax}{τ:Nat→AV}{base:List Ey}(β:Nat→Nat×Nat):∀(r:List Ey) (k:Nat) (τk:Nat→AV) (K:(Nat→AV)→List Ax→Prop),base.drop k=r→k+r.length=base.length→τk=τS ops (J6 β 0 base) τ k→EW P ops H₀ k τk r K →
  (∀j,k≤j→j<base.length→∃o,ops[j]?=some o∧Yw P ops H₀ o (τS ops (J6 β 0 base) τ j) (base.getD j .skip))∧K (τS ops (J6 β 0 base) τ base.length) (bI β k r)
 | [],k,τk,K,hd,hk,ht,h=>by
  simp only[List.length_nil,Nat.add_zero] at hk;subst hk;exact⟨fun j h1 h2=>by omega,by rw[←ht];exact h⟩
 | e::r,k,τk,K,hd,hk,ht,h=>by
  obtain⟨o,ho,hok,hn⟩:=h;simp only[List.length_cons] at hk;have hb:base.getD k .skip=e:=by
   have:(base.drop k)[0]?=some e:=by rw[hd];rfl
   rw[List.getElem?_drop] at this;rw[List.getD_eq_getElem?_getD,show k=k+0 by omega,this];rfl
  have hd2:base.drop (k+1)=r:=by
   rw[←List.drop_drop,hd];rfl
  obtain⟨h1,h2⟩:=EW.facts (τ:=τ) (base:=base) β r (k+1) _ _ hd2 Ah (by simp only[τS,ho,Option.bind_some];rw[La β Ah,hb,←ht]) (hn (β k));refine⟨fun j hj hl=>?_,h2⟩;by_cases e2:j=k
  ·subst e2;exact⟨o,ho,by rw[hb,←ht];exact hok⟩
  exact h1 j Ah hl
theorem Kd {β β':Nat→Nat×Nat}{l l':Nat→Bool}:∀(r:List Ey) (k:Nat),(∀j,k≤j→l j=l' j∧(l j=true→β j=β' j))→Qq β l k r=Qq β' l' k r
 | [],k,h=>rfl
 | e::r,k,h=>by
  simp only[Qq];obtain⟨h1,h2⟩:=h k (Nat.le_refl _);rw[Kd r (k+1) fun j hj=>h j Ah,←h1];cases hl:l k
  ·rfl
  rw[h2 hl]
theorem SF {β:Nat→Nat×Nat}{l:Nat→Bool}{i:Nat}{b:Nat×Nat}(hi:l i=false):∀(r:List Ey) (k:Nat),k≤i→i<k+r.length→((r.getD (i - k) .skip).box b++Qq β l k r).Perm (Qq (fun j=>if j=i then b else β j) (fun j=>l j||j==i) k r)
 | [],k,h1,h2=>by simp at h2;omega
 | e::r,k,h1,h2=>by
  simp only[Qq];by_cases hk:k=i
  ·subst hk;simp only[hi,Bool.false_eq_true,if_false,List.nil_append,Nat.sub_self,List.getD_cons_zero,beq_self_eq_true,Bool.or_true,if_true];rw[Kd (β':=fun j=>if j=k then b else β j) (l':=fun j=>l j||j==k) r (k+1) fun j hj=>⟨by simp[show (j==k)=false by simp;omega],fun _=>by rw[if_neg Ah]⟩]
  have hp:=SF (β:=β) hi r (k+1) (b:=b) Ah (by simp only[List.length_cons] at h2;omega);have e1:(e::r).getD (i - k) .skip=r.getD (i - (k+1)) .skip:=by
   rw[show i - k=(i - (k+1))+1 by omega];rfl
  have e2:(if (l k||k==i)=true then e.box (if k=i then b else β k) else [])=(if l k=true then e.box (β k) else []):=by
   rw[if_neg hk];simp[hk]
  rw[e1,e2];refine List.Perm.trans ?_ (hp.append_left _);rw[←List.append_assoc,←List.append_assoc];exact List.perm_append_comm.append_right _
theorem SZ {β:Nat→Nat×Nat}{l:Nat→Bool}:∀(r:List Ey) (k:Nat),(∀j,k≤j→j<k+r.length→l j=true)→Qq β l k r=bI β k r
 | [],k,h=>rfl
 | e::r,k,h=>by
  simp only[Qq,bI];rw[if_pos (h k (Nat.le_refl _) Ai),SZ r (k+1) fun j h1 h2=>h j Ah (by simp only[List.length_cons];omega)]
theorem QG {β:Nat→Nat×Nat}{l:Nat→Bool}:∀(r:List Ey) (k:Nat),(∀j,l j=false)→Qq β l k r=[]
 | [],k,h=>rfl
 | e::r,k,h=>by simp only[Qq];rw[QG r (k+1) h,h k];rfl
def VP (ops:Array Oper) (e:Nat):Bool:=(List.range ops.size).all fun i=>Nat.blt i e||(List.range i).all fun j=>Js ops j i
theorem HM {ops:Array Oper}{e:Nat}(h:VP ops e=true) {i j:Nat}(hi:e≤i) (hs:i<ops.size) (hj:j<i):Pred ops j i:=by
 have:=List.all_eq_true.1 h i (by simpa using hs);simp only[Bool.or_eq_true] at this;rcases this with h1 | h1
 ·rw[Nat.blt_eq] at h1;omega
 exact DN (List.all_eq_true.1 h1 j (by simpa using hj))
theorem SG {P:Program}{r:Option Nat}{ops:Array Oper}{id n:Nat}{τ:Nat→AV}{H:List Ax}{D:List Cu}{Q:B7→BJ→Prop}(base:List Ey) (hm:P.follows .mixedOrders=true)
  (he:Nat.ble base.length ops.size=true) (chk:Jt ops n []=true) (late:VP ops base.length=true) (h:EW P ops H 0 τ base (fun τ' Hs=>AL P r ops base.length ⟨n,τ',Hs++H,D⟩ Q)):FJ P r (.region id ops true) ⟨n,τ,H,D⟩ Q:=by
 intro F₀ a₀ w₀ hs₀;rw[Nat.ble_eq] at he;refine wpIn_region_any hm ?_;have same:Cd F₀ w₀ F₀ { w₀ with drawn:=w₀.drawn+1 }:=⟨Nat.le_refl _,fun _ _ _=>rfl,fun _ h _=>h⟩;have t₀:Trans F₀ H w₀ F₀ H { w₀ with drawn:=w₀.drawn+1 } :=
  ⟨Nat.le_refl _,fun _ _ _=>rfl,fun _ h _=>h,fun _ h=> .inl h,fun o ho b hb=> .inl ⟨o,ho,hb⟩,rfl,rfl,rfl⟩
 have hs₁:Ck F₀ ⟨n,τ,H,D⟩ a₀ { w₀ with drawn:=w₀.drawn+1 } :=
  ⟨hs₀.size,fun t=>Bl.mono same _ _ (hs₀.tmp t),hs₀.heap.stable' same (fun _ h=>h) (fun _ _ _ _=>rfl) hs₀.heap.bd,DW.mono same _ _ hs₀.defs⟩
 obtain⟨hdst,c0,c1,c2,_⟩:=IQ chk;have hd:∀β,Kp P ops n (fun _=>False) τ H (J6 β 0 base):=fun β =>
  ⟨hdst,fun _ _ _ h=>h.elim,c0,c1,c2,fun i k _ _ h _=>(by rw[XM] at h;cases h),fun i e ob v _ _ _ h _ _=>absurd h (UU β base 0 i ob v)⟩
 have hE:∀β,(∀j,j<base.length→∃o,ops[j]?=some o∧Yw P ops H o (τS ops (J6 β 0 base) τ j) (base.getD j .skip))∧AL P r ops base.length ⟨n,τS ops (J6 β 0 base) τ base.length,bI β 0 base++H,D⟩ Q:=fun β=>by
  obtain⟨h1,h2⟩:=EW.facts (base:=base) β base 0 τ _ Ai Ai rfl h;exact⟨fun j hj=>h1 j (Nat.zero_le _) hj,h2⟩
 -- where all of the first part has been carried out,the rest goes in the order of the text
 have conv:∀{l:Array Bool} {a w β τ' F Hb},(∀j,j<base.length→l.getD j false=true)→(∀k,base.length≤k→l.getD k false=false)→Dv ops (J6 β 0 base) τ (fun i=>l.getD i false=true) τ'→Hb.Perm (Qq β (fun k=>l.getD k false) 0 base)→Ck F ⟨n,τ',Hb++H,D⟩ a w→Trans F₀ H w₀ F (Hb++H) w →
   wpOpsIn (W r) 0 P ops (post F₀ H w₀ Q) (List.range' base.length (ops.size - base.length)) a w:=by
  intro l a w β τ' F Hb hall hno hτ hp hs ht;have hτe:τ'=τS ops (J6 β 0 base) τ base.length:=by
   funext t;have h2:=IB (hd β) base.length he t;by_cases hw:∃(k:Nat) (o':Oper),ops[k]?=some o'∧o'.dst=some t∧k<base.length
   ·obtain⟨k,o',ho',hk,hlt⟩:=hw;rw[(hτ t).1 k o' ho' hk (hall k hlt),h2.1 k o' ho' hk hlt]
   have hw':∀(k:Nat) o',ops[k]?=some o'→o'.dst=some t→¬k<base.length:=fun k o' h1 h2 h3=>hw ⟨k,o',h1,h2,h3⟩;rw[(hτ t).2 fun k o' h1 h2 h3=>(by have h4:l.getD k false=true:=h3;have:=hno k (by have:=hw' k o' h1 h2;omega);rw[this] at h4;cases h4),h2.2 fun k o' h1 h2 h3=>hw' k o' h1 h2 h3]
  rw[SZ base 0 fun j _ hj=>hall j Ah] at hp;have hp2:=hp.append_right H;have:=(hE β).2 F a w (by rw[←hτe];exact⟨hs.size,hs.tmp,hs.heap.perm hp2,hs.defs⟩);refine C2 (fun e a' w' hq=>?_) _ _ _ this;exact Dw hs₀.heap.bd { ht with keys:=fun o ho=>ht.keys o (hp2.mem_iff.2 ho) } hq
 refine IH (I:=fun l a w=>l.size=ops.size∧((∃β τ' F Hb,Down ops (fun i=>l.getD i false=true)∧(∀k,base.length≤k→l.getD k false=false)∧Dv ops (J6 β 0 base) τ (fun i=>l.getD i false=true) τ'∧Hb.Perm (Qq β (fun k=>l.getD k false) 0 base)∧Ck F ⟨n,τ',Hb++H,D⟩ a w∧Trans F₀ H w₀ F (Hb++H) w) ∨
  (∃m,base.length≤m∧m≤ops.size∧(∀k,k<ops.size→(l.getD k false=true↔k<m))∧wpOpsIn (W r) 0 P ops (post F₀ H w₀ Q) (List.range' m (ops.size - m)) a w))) (fun l a w h=>h.1) ?_ ?_ _ _ _ _ ?_ ?_
 ·rintro l a w ⟨hsz,hI⟩ i hi;obtain⟨hun,o,ho,hall⟩:=mem_ready.1 hi;have hlt:i<ops.size:=by
   rcases Nat.lt_or_ge i ops.size with h | h
   ·exact h
   simp[Array.getElem?_eq_none h] at ho
  have hil:i<l.size:=by omega
  have hnot:l.getD i false=false:=by
   have:l[i]=false:=by simpa [hil] using hun
   simp[hil,this]
  have hr:∀j∈Cx o,l.getD j false=true:=by
   intro j hj;simp only[Cx,List.mem_map,List.mem_filter] at hj;obtain⟨e,⟨he,hb⟩,rfl⟩:=hj;exact hall e (by simpa using he) hb
  have hset:∀k,(l.setIfInBounds i true).getD k false=true↔(l.getD k false=true∨k=i):=by
   intro k;by_cases hk:k=i
   ·subst hk;simp[hil]
   simp[Array.getElem?_setIfInBounds_ne (Ne.symm hk),hk]
  have hset2:∀k,(l.setIfInBounds i true).getD k false=(l.getD k false||k==i):=by
   intro k;by_cases hk:k=i
   ·subst hk;simp[hil]
   simp[Array.getElem?_setIfInBounds_ne (Ne.symm hk),hk]
  have hsz':(l.setIfInBounds i true).size=ops.size:=by simp[hsz]
  have goLate:∀m,i=m→base.length≤m→m≤ops.size→(∀k,k<ops.size→(l.getD k false=true↔k<m))→wpOpsIn (W r) 0 P ops (post F₀ H w₀ Q) (List.range' m (ops.size - m)) a w →
    wpOpIn (W r) 0 P ops (post F₀ H w₀ Q) i (fun a w=>(l.setIfInBounds i true).size=ops.size∧((∃β τ' F Hb,Down ops (fun k=>(l.setIfInBounds i true).getD k false=true)∧(∀k,base.length≤k→(l.setIfInBounds i true).getD k false=false)∧Dv ops (J6 β 0 base) τ (fun k=>(l.setIfInBounds i true).getD k false=true) τ'∧Hb.Perm (Qq β (fun k=>(l.setIfInBounds i true).getD k false) 0 base)∧Ck F ⟨n,τ',Hb++H,D⟩ a w∧Trans F₀ H w₀ F (Hb++H) w) ∨
     (∃m,base.length≤m∧m≤ops.size∧(∀k,k<ops.size→((l.setIfInBounds i true).getD k false=true↔k<m))∧wpOpsIn (W r) 0 P ops (post F₀ H w₀ Q) (List.range' m (ops.size - m)) a w))) a w:=by
   intro m him h1 h2 h3 hw;subst him;rw[Fo hlt,wpOpsIn_cons] at hw;refine wpOpIn_mono (fun a' w' h'=>⟨hsz',.inr ⟨i+1,by omega,by omega,fun k hk=>?_,h'⟩⟩) hw;rw[hset k,h3 k hk];omega
  rcases hI with ⟨β,τ',F,Hb,hdown,hno,hτ,hp,hs,ht⟩ | ⟨m,hm1,hm2,hm3,hw⟩
  ·rcases Nat.lt_or_ge i base.length with hib | hib
   ·-- of the first part
    obtain⟨o',ho',hok⟩:=(hE β).1 i hib;rw[ho] at ho';injection ho' with ho';subst ho';have hlook:∀t∈looks ops o,τ' t=τS ops (J6 β 0 base) τ i t:=fun t ht=>II (hd β) hdown hτ ho (by rw[hnot];decide) hr ht;have hops:∀x∈o.op.operands.toList,ev τ' x=ev (τS ops (J6 β 0 base) τ i) x:=by
     intro x hx;cases x with
     | tmp t=>exact hlook t (List.mem_append_left _ (List.mem_filterMap.2 ⟨.tmp t,hx,rfl⟩))
     | _=>rfl
    have hguard:∀j want d,o.guard=some (j,want)→(ops[j]?).bind (·.dst)=some d→τ' d=τS ops (J6 β 0 base) τ i d:=by
     intro j want d hg hj;refine hlook d (List.mem_append_right _ ?_);simp[hg,hj]
    have hdown':Down ops (fun k=>(l.setIfInBounds i true).getD k false=true):=by
     intro k o' j ho' hk hj;rcases (hset k).1 hk with h | h
     ·exact(hset j).2 (.inl (hdown k o' j ho' h hj))
     subst h;rw[ho] at ho';injection ho' with ho';subst ho';exact(hset j).2 (.inl (hr j hj))
    have hno':∀k,base.length≤k→(l.setIfInBounds i true).getD k false=false:=by
     intro k hk;rw[hset2 k,hno k hk];simp;omega
    generalize hbe:base.getD i .skip=e at hok;have close:∀{a' w' F' b H'},H'=e.box b++(Hb++H)→Ck F' ⟨n,put τ' o.dst (e.v b),H',D⟩ a' w'→Trans F (Hb++H) w F' H' w' →
      (l.setIfInBounds i true).size=ops.size∧((∃β τ' F Hb,Down ops (fun k=>(l.setIfInBounds i true).getD k false=true)∧(∀k,base.length≤k→(l.setIfInBounds i true).getD k false=false)∧Dv ops (J6 β 0 base) τ (fun k=>(l.setIfInBounds i true).getD k false=true) τ'∧Hb.Perm (Qq β (fun k=>(l.setIfInBounds i true).getD k false) 0 base)∧Ck F ⟨n,τ',Hb++H,D⟩ a' w'∧Trans F₀ H w₀ F (Hb++H) w') ∨
       (∃m,base.length≤m∧m≤ops.size∧(∀k,k<ops.size→((l.setIfInBounds i true).getD k false=true↔k<m))∧wpOpsIn (W r) 0 P ops (post F₀ H w₀ Q) (List.range' m (ops.size - m)) a' w')):=by
     intro a' w' F' b H' hH h3 h4;subst hH;refine⟨hsz',.inl ⟨fun j=>if j=i then b else β j,put τ' o.dst (e.v b),F',e.box b++Hb,hdown',hno',?_,?_,by rw[List.append_assoc];exact h3,by rw[List.append_assoc];exact ht.trans hs₀.heap.bd h4⟩⟩
     ·have hτ2:Dv ops (J6 (fun j=>if j=i then b else β j) 0 base) τ (fun k=>l.getD k false=true) τ':=by
       intro t;refine⟨fun k o' a1 a2 a3=>?_,(hτ t).2⟩;have a4:l.getD k false=true:=a3;have hki:k≠i:=fun e=>by subst e;rw[hnot] at a4;cases a4
       rw[(hτ t).1 k o' a1 a2 a3];rcases Nat.lt_or_ge k base.length with hk | hk
       ·rw[La _ hk,La _ hk,if_neg hki]
       have:=hno k hk;rw[this] at a4;cases a4
      have hτ3:=hτ2.put (hd _) ho;rw[La _ hib,if_pos rfl,hbe] at hτ3;intro t;exact⟨fun k o' a1 a2 a3=>(hτ3 t).1 k o' a1 a2 ((hset k).1 a3),fun hn=>(hτ3 t).2 fun k o' a1 a2 a3=>hn k o' a1 a2 ((hset k).2 a3)⟩
     have h1:=SF (β:=β) (l:=fun k=>l.getD k false) (i:=i) (b:=b) hnot base 0 (Nat.zero_le _) Ah;rw[Nat.sub_zero,hbe] at h1;refine(hp.append_left _).trans (h1.trans (List.Perm.of_eq ?_));exact Kd base 0 fun j _=>⟨(hset2 j).symm,fun _=>O⟩
    have wants:CL ops ⟨0,τS ops (J6 β 0 base) τ i,[],[]⟩ o→CL ops ⟨n,τ',Hb++H,D⟩ o:=by
     intro h;unfold CL at *;cases hg:o.guard with
     | none=>simp[hg]
     | some jw =>
      obtain⟨j,want⟩:=jw;simp only[hg] at h ⊢;obtain⟨d,h1,h2⟩:=h;exact⟨d,h1,by rw[←h2];exact hguard j want d hg h1⟩
    have yields:CL ops ⟨n,τ',Hb++H,D⟩ o→CW P o (ev (τS ops (J6 β 0 base) τ i)) (Hb++H) (fun r H'=>match r with | .val v=>∃b,v=e.v b∧H'=e.box b++(Hb++H) | .panic _=>False)→wpOpIn (W r) 0 P ops (post F₀ H w₀ Q) i (fun a' w'=>(l.setIfInBounds i true).size=ops.size∧((∃β τ' F Hb,Down ops (fun k=>(l.setIfInBounds i true).getD k false=true)∧(∀k,base.length≤k→(l.setIfInBounds i true).getD k false=false)∧Dv ops (J6 β 0 base) τ (fun k=>(l.setIfInBounds i true).getD k false=true) τ'∧Hb.Perm (Qq β (fun k=>(l.setIfInBounds i true).getD k false) 0 base)∧Ck F ⟨n,τ',Hb++H,D⟩ a' w'∧Trans F₀ H w₀ F (Hb++H) w') ∨
       (∃m,base.length≤m∧m≤ops.size∧(∀k,k<ops.size→((l.setIfInBounds i true).getD k false=true↔k<m))∧wpOpsIn (W r) 0 P ops (post F₀ H w₀ Q) (List.range' m (ops.size - m)) a' w'))) a w:=by
     intro hwant hop;unfold wpOpIn;simp only[ho,Fj hs hwant,if_true];have hw:=hop r F _ a w hs rfl (fun x hx=>hops x hx) (fun t ht=>hdst i o t ho ht);unfold Oper.wpIn at *;refine⟨hw.1,?_⟩;replace hw:=hw.2;generalize (o.semAt (W r).round a.eval).run P w=rr at *;cases rr with
     | ok nx w' =>
      cases nx<;>simp only[Oper.uponIn] at hw ⊢
      case value u=>obtain⟨v',H'',F',⟨b,h1,h2⟩,h3,h4⟩:=hw;subst h1;exact close h2 h3 h4
      case skip=>obtain⟨v',H'',F',⟨b,h1,h2⟩,h3,h4⟩:=hw;subst h1;exact close h2 h3 h4
      case defer d=>obtain⟨v',H'',F',⟨b,h1,h2⟩,h3,h4⟩:=hw;subst h1;exact close h2 h3 h4
      case enter f args =>
       refine⟨hw.1,hw.2.mono fun e w'' he=>?_⟩;cases e with
       | returned u=>obtain⟨v',H'',F',⟨b,h1,h2⟩,h3,h4⟩:=he;subst h1;exact close h2 h3 h4
       | panicked c=>obtain⟨_,_,_,_,h,_⟩:=he;exact h.elim
       | outgrown=>obtain⟨_,_,_,_,_,_,h,_⟩:=he;exact h.elim
      case row row args=>exact⟨hw.1,hw.2.mono fun u w'' h=>by obtain⟨v',H'',F',⟨b,h1,h2⟩,h3,h4⟩:=h;subst h1;exact close h2 h3 h4⟩
      case round l' f tmps assign body =>
       refine⟨hw.1,hw.2.mono fun e w'' he=>?_⟩;cases e with
       | returned u=>obtain⟨v',H'',F',⟨b,h1,h2⟩,h3,h4⟩:=he;subst h1;exact close h2 h3 h4
       | panicked c=>obtain⟨_,_,_,_,h,_⟩:=he;exact h.elim
       | outgrown=>obtain⟨_,_,_,_,_,_,h,_⟩:=he;exact h.elim
     | halt x w' =>
      cases x<;>simp only[Oper.uponIn] at hw ⊢
      case panic u=>obtain⟨_,_,_,_,h,_⟩:=hw;exact h.elim
    cases e with
    | val v=>exact yields (wants hok.1) ((hok.2 Hb).mono (by
      intro r H' hR;cases r with
      | val v'=>obtain⟨rfl,rfl⟩:=hR;exact⟨(0,0),rfl,rfl⟩
      | panic v'=>exact hR.elim))
    | new cs =>
     refine yields (by unfold CL;rw[hok.1];trivial) ((hok.2 _).mono ?_);intro r H' hR;cases r with
     | val v'=>obtain⟨b,rfl,rfl⟩:=hR;exact⟨(b,0),rfl,rfl⟩
     | panic v'=>exact hR.elim
    | newv sz rows =>
     refine yields (by unfold CL;rw[hok.1];trivial) ((hok.2 _).mono ?_);intro r H' hR;cases r with
     | val v'=>obtain⟨b,c,rfl,rfl⟩:=hR;exact⟨(b,c),rfl,rfl⟩
     | panic v'=>exact hR.elim
    | skip =>
     obtain⟨j,want,d,hg,hj,hb⟩:=hok;have hw:Region.wanted o (yielded ops a.tmps)=false:=HY (S:=⟨n,τ',Hb++H,D⟩) hs hg hj (by show WA (τ' d) want;rw[hguard j want d hg hj];exact hb);unfold wpOpIn;simp only[ho,hw,Bool.false_eq_true,if_false];refine⟨fun _ _=>Aj,close (b:=(0,0)) O ?_ .refl⟩;exact hs.put (fun t ht=>hdst i o t ho ht) ⟨Nat.le_refl _,fun _ _ _=>O,fun _ h _=>h⟩ hs.heap (by simp only[Ey.v,Bl,BY,undef];exact⟨[],rfl,rfl⟩)
   -- the first of the rest
   have hpre:∀j,j<i→l.getD j false=true:=by
    intro j hj;have hpi:=HM late hib hlt hj;have:∀{a b},Pred ops a b→b=i→l.getD a false=true:=by
     intro a b hab
     induction hab with
     | base ho' hj=>intro e;subst e;rw[ho] at ho';injection ho' with ho';subst ho';exact hr _ hj
     | trans p1 _ _ ih2=>intro e;exact hdown.pred p1 (ih2 e)
    exact this hpi O
   have hie:i=base.length:=by
    rcases Nat.lt_or_ge base.length i with h | h
    ·have h1:=hpre base.length h;rw[hno base.length (Nat.le_refl _)] at h1;cases h1
    omega
   refine goLate base.length hie (Nat.le_refl _) he (fun k hk=>⟨fun h=>?_,fun h=>hpre k Ah⟩) (conv (fun j hj=>hpre j Ah) hno hτ hp hs ht);rcases Nat.lt_or_ge k base.length with h' | h'
   ·exact h'
   rw[hno k h'] at h;cases h
  have hmi:m≤i:=by
   rcases Nat.lt_or_ge i m with h | h
   ·have:=(hm3 i hlt).2 h;rw[hnot] at this;cases this
   exact h
  have him:i=m:=by
   rcases Nat.lt_or_ge m i with h | h
   ·have hpi:=HM late (by omega:base.length≤i) hlt h;have hdown:∀{a b},Pred ops a b→b=i→l.getD a false=true:=by
     intro a b hab
     induction hab with
     | base ho' hj=>intro e;subst e;rw[ho] at ho';injection ho' with ho';subst ho';exact hr _ hj
     | @trans a k b p1 p2 _ ih2 =>
      intro e;have hk:=ih2 e;have hks:k<ops.size:=by
       rcases Nat.lt_or_ge k ops.size with h | h
       ·exact h
       have:l.getD k false=false:=by
        have:¬k<l.size:=by omega
        simp[this]
       rw[this] at hk;cases hk
      have hkm:=(hm3 k hks).1 hk;have hak:a<k:=Pred.lt (hd fun _=>(0,0)) p1;exact(hm3 a Ah).2 Ah
    have:=(hm3 m Ah).1 (hdown hpi rfl);omega
   omega
  exact goLate m him hm1 hm2 hm3 hw
 ·rintro l a w ⟨hsz,hI⟩ hr;have hall:∀i,i<ops.size→l.getD i false=true:=by
   intro i
   induction i using Nat.strongRecOn with
   | _ i ih =>
    intro hi;cases hq:l.getD i false with
    | true=>rfl
    | false =>
     have ho:ops[i]?=some ops[i]:=Array.getElem?_eq_getElem hi;have:i∈Region.ready .any ops l:=by
      refine mem_ready.2 ⟨?_,ops[i],ho,?_⟩
      ·have:i<l.size:=by omega
       simp[this] at hq ⊢;exact hq
      intro e he hb;have hj:e.on∈Cx ops[i]:=by
       simp only[Cx,List.mem_map,List.mem_filter];exact⟨e,⟨by simpa using he,hb⟩,rfl⟩
      have hlt:=c0 i _ _ ho hj;exact ih e.on hlt Ah
     rw[hr] at this;cases this
  rcases hI with ⟨β,τ',F,Hb,hdown,hno,hτ,hp,hs,ht⟩ | ⟨m,hm1,hm2,hm3,hw⟩
  ·have hbs:base.length=ops.size:=by
    rcases Nat.lt_or_ge base.length ops.size with h | h
    ·have:=hall base.length h;rw[hno base.length (Nat.le_refl _)] at this;cases this
    omega
   have:=conv (fun j hj=>hall j Ah) hno hτ hp hs ht;rw[hbs,Nat.sub_self] at this;exact this
  have hms:m=ops.size:=by
   rcases Nat.lt_or_ge m ops.size with h | h
   ·have:=(hm3 m h).1 (hall m h);omega
   omega
  rw[hms,Nat.sub_self] at hw;exact hw
 ·refine⟨by simp,.inl ⟨fun _=>(0,0),τ,F₀,[],?_,?_,?_,?_,hs₁,t₀⟩⟩
  ·intro i o j ho hi;by_cases h:i<ops.size<;>simp[h] at hi
  ·intro k _;by_cases h:k<ops.size<;>simp[h]
  ·intro t;refine⟨fun k o ho hk hl=>?_,fun _=>O⟩;by_cases h:k<ops.size<;>simp[h] at hl
  rw[QG base 0 fun j=>by by_cases h:j<ops.size<;>simp[h]]
 have:=List.length_filter_le (fun b:Bool=> !b) (Array.replicate ops.size false).toList;simp at this ⊢
section
variable {P:Program}{ops:Array Oper}{H₀:List Ax}{k:Nat}{τ:Nat→AV}{r:List Ey}{K:(Nat→AV)→List Ax→Prop}{dst:Option Tmp}{op:Op}{ty:TypeId}{pos:String}{aft:Array Edge}{v:AV}
theorem C0 (ho:ops[k]?=some ⟨dst,op,ty,pos,aft,none⟩) (h:∀Bs,Co P ⟨dst,op,ty,pos,aft,none⟩ (ev τ) (Bs++H₀) v (Bs++H₀)) (next:EW P ops H₀ (k+1) (put τ dst v) r K):EW P ops H₀ k τ (.val v::r) K :=
 ⟨_,ho,⟨trivial,h⟩,fun _=>next⟩
theorem V8 {cs:List AV}(ho:ops[k]?=some ⟨dst,op,ty,pos,aft,none⟩) (h:∀Bs,CW P ⟨dst,op,ty,pos,aft,none⟩ (ev τ) (Bs++H₀) (FK cs (Bs++H₀))) (next:∀b,EW P ops H₀ (k+1) (put τ dst (.ptr b 0)) r (fun τ' Hs=>K τ' (.box b cs::Hs))):EW P ops H₀ k τ (.new cs::r) K :=
 ⟨_,ho,⟨rfl,h⟩,fun b=>next b.1⟩
theorem UX (h:K τ []):EW P ops H₀ k τ [] K:=h
theorem Du {α:Type}{Bs H:List α}{j:Nat}{x:α}(h:H[j]?=some x):(Bs++H)[Bs.length+j]?=some x:=by
 rw[List.getElem?_append_right Ah,Nat.add_sub_cancel_left];exact h
theorem VA {c:Call}{f:Operand}{fid:FuncId}{first caps A:List AV}{ρ:Operand→AV}{H Hs:List Ax}{g:Option (Nat×Bool)}{Bs:List Ax}(is:List Nat) (hc:c.callee= .value f) (hf:(ρ f= .p (.fn fid)∧first=[]∧caps=[])∨ρ f= .fn (.func fid) first caps) (h:Bb P fid A Hs (Dz v Hs)) (hg:Dg H is Hs) (hn:is.Nodup) (hA:Ed (first++c.args.toList.map ρ++caps) A) :
  Co P ⟨dst,.call c,ty,pos,aft,g⟩ ρ (Bs++H) v (Bs++H):=by
 have hp:(Bs++H).Perm (Hs++(Bs++CG is 0 H)):=by
  refine((CK hn hg).append_left Bs).trans ?_;rw[←List.append_assoc,←List.append_assoc];exact List.perm_append_comm.append_right _
 refine CW.permR (EX (H:=Bs++H) hc hf hp (h.args hA) (.inl O)) ?_;rintro r H' ⟨Hs',h1,rfl⟩;cases r with
 | val v'=>obtain⟨rfl,rfl⟩:=h1;exact⟨Bs++H,hp.symm,rfl,rfl⟩
 | panic v'=>exact h1.elim
end
def cq (ops:Array Oper) (k:Nat) (ef:Qk):List Ax→Prop
 | []=>True
 | ob::r=>RD ops k ob ef∧cq ops k ef r
section
variable {P:Program}{ops:Array Oper}{n:Nat}{τ₀:Nat→AV}{D:List Cu}{Q:B7→BJ→Prop}{opn:Nat→Bool}{k:Nat}{τ:Nat→AV}{H Hs:List Ax}{rd:Qs}{ef:Qk}{effs:List Bool}{fx:List (Nat×Sp)}{dst:Option Tmp}{ty:TypeId}{pos:String}{aft:Array Edge}{v:AV}{c:Call}{f:Operand}{fid:FuncId}{first caps A:List AV}
end
def e7 (P:Program) (T:TypeId):Bool :=
 match P.underlying T with
 | some (.struct fs)=>match fs.toList with
  | [f,g]=>f.name != "_" &&g.name != "_" &&Nat.beq f.offset 0&&Nat.beq g.offset 1&&(match P.underlying f.type,P.underlying g.type with | some (.int .i64),some .bool=>true | _,_=>false)&& !P.stoodInHeld T&& !P.eqGuardType P.depth T
  | _=>false
 | _=>false
section
variable {P:Program}{dst:Option Tmp}{ty:TypeId}{pos:String}{aft:Array Edge}{g:Option (Nat×Bool)}{ρ:Operand→AV}{H:List Ax}{x y z:Operand}{v:AV}
end
theorem PH {α:Type}{base T xs:List α}{is:List Nat}(hn:is.Nodup) (h:Dg base is xs):(base++T).Perm (xs++(CG is 0 base++T)):=by
 rw[←List.append_assoc];exact(CK hn h).append_right T
theorem NW {α:Type}{base T xs rest:List α}{is:List Nat}(hn:is.Nodup) (h:Dg base is xs) (hd:CG is 0 base=rest):(base++T).Perm (xs++(rest++T)):=by
 subst hd;exact PH hn h
theorem HQ {P:Program}{fn:Func}{R:Ct→List Ax→Prop}{S:BJ}{Hs:List Ax}(h:Hi P fn S R [] .ret Hs):∀U:List Nat,Hi P fn S R (U.map .mark) .ret (Hs++U.map .dfr)
 | []=>by simpa using h
 | d::U=>by
  refine⟨Hs.length,by simp,?_⟩;have:(Hs++(d::U).map Ax.dfr).eraseIdx Hs.length=Hs++U.map Ax.dfr:=by
   rw[List.eraseIdx_append_of_length_le (Nat.le_refl _)];simp
  rw[this];exact HQ h U
theorem K2 {P:Program}{fn:Func}{R:Ct→List Ax→Prop}{n:Nat}{τ:Nat→AV}(U:List Nat) {Hs:List Ax}(h:Hi P fn ⟨n,τ,Hs++U.map .dfr,U.map .mark⟩ R [] .ret Hs):Vf P fn R .ret ⟨n,τ,Hs++U.map .dfr,U.map .mark⟩ :=
 HQ h U
theorem Kq {P:Program}{l d i:Nat}{S:BJ}{Q:B7→BJ→Prop}{v:AV}{H':List Ax}{L:Jo}(H2:List Ax) (h1:H'[i]?=some (.loop l L)) (hs:L.state≠ .busy) (hp:L.pending=none) (he:H'.eraseIdx i=H2) (h:Q .normal ⟨S.n,S.τ,H2,.mark d::S.D⟩):O7 P l d S Q (.val v) H':=by
 subst he;exact⟨i,L,h1,hs,by rw[hp];exact h⟩
theorem L4 {P:Program}{l d i:Nat}{S:BJ}{Q:B7→BJ→Prop}{v:AV}{H':List Ax}{L:Jo}(H2:List Ax) (h1:H'[i]?=some (.loop l L)) (hs:L.state≠ .busy) (hp:L.pending=some .ret) (he:H'.eraseIdx i=H2) (h:FJ P none .ret ⟨S.n,S.τ,H2,.mark d::S.D⟩ Q):O7 P l d S Q (.val v) H':=by
 subst he;exact⟨i,L,h1,hs,by rw[hp];exact h⟩
abbrev BV:=Nat×Nat×AV
inductive Ez where
 | val (v:AV)
 | skip
 | new (cs:List AV)
 | newv (sz:Nat) (rows:List (List PV))
 | rel (R:AV→Prop)
def Ez.v (b:BV):Ez→AV
 | .val v=>v
 | .skip=> .tup []
 | .new _=> .ptr b.1 0
 | .newv _ rows=> .vs (some b.1) rows.length b.2.1
 | .rel _=>b.2.2
def Ez.box (b:BV):Ez→List Ax
 | .new cs=>[.box b.1 cs]
 | .newv sz rows=>[.vec (some b.1) sz rows b.2.1]
 | _=>[]
def Ez.ok (b:BV):Ez→Prop
 | .rel R=>R b.2.2
 | _=>True
def X3:List Ez→Prop
 | []=>True
 | .rel R::r=>(∃v,R v)∧X3 r
 | _::r=>X3 r
def Rl (P:Program) (ops:Array Oper) (H₀:List Ax) (o:Oper) (τ:Nat→AV):Ez→Prop
 | .val v=>CL ops ⟨0,τ,[],[]⟩ o∧∀Bs,Co P o (ev τ) (Bs++H₀) v (Bs++H₀)
 | .skip=>∃j want d,o.guard=some (j,want)∧(ops[j]?).bind (·.dst)=some d∧WA (τ d) want
 | .new cs=>o.guard=none∧∀Bs,CW P o (ev τ) (Bs++H₀) (FK cs (Bs++H₀))
 | .newv sz rows=>o.guard=none∧∀Bs,CW P o (ev τ) (Bs++H₀) (Ga sz rows (Bs++H₀))
 | .rel R=>o.guard=none∧∀Bs,CW P o (ev τ) (Bs++H₀) (Nt R (Bs++H₀))
def EV (P:Program) (ops:Array Oper) (H₀:List Ax):Nat→(Nat→AV)→List Ez→((Nat→AV)→List Ax→Prop)→Prop
 | _,τ,[],K=>K τ []
 | k,τ,e::r,K=>∃o,ops[k]?=some o∧Rl P ops H₀ o τ e∧∀b,e.ok b→EV P ops H₀ (k+1) (put τ o.dst (e.v b)) r (fun τ' Hs=>K τ' (e.box b++Hs))
def Fk (β:Nat→BV):Nat→List Ez→List Sp
 | _,[]=>[]
 | k,e::r=> .free (e.v (β k))::Fk β (k+1) r
def XA (β:Nat→BV):Nat→List Ez→List Ax
 | _,[]=>[]
 | k,e::r=>e.box (β k)++XA β (k+1) r
def Sz (β:Nat→BV) (l:Nat→Bool):Nat→List Ez→List Ax
 | _,[]=>[]
 | k,e::r=>(if l k=true then e.box (β k) else [])++Sz β l (k+1) r
theorem LL (β:Nat→BV):∀(r:List Ez) (k j:Nat),j<r.length→(Fk β k r).getD j .skip= .free ((r.getD j .skip).v (β (k+j)))
 | [],k,j,h=>by simp at h
 | e::r,k,0,h=>by simp[Fk]
 | e::r,k,j+1,h=>by
  have:=LL β r (k+1) j (by simpa using h);simp only[Fk,List.getD_cons_succ];rw[this,show k+1+j=k+(j+1) by omega]
theorem Si (β:Nat→BV):∀(r:List Ez) (k:Nat),(Fk β k r).length=r.length
 | [],k=>rfl
 | e::r,k=>by simp[Fk,Si β r (k+1)]
theorem LM (β:Nat→BV) {r:List Ez}{k j:Nat}(h:r.length≤j):(Fk β k r).getD j .skip= .skip:=by
 rw[List.getD_eq_getElem?_getD,List.getElem?_eq_none (by rw[Si];exact h)];rfl
theorem XK (β:Nat→BV) (r:List Ez) (k j:Nat):((Fk β k r).getD j .skip).isEff=false:=by
 rcases Nat.lt_or_ge j r.length with h | h
 ·rw[LL β r k j h];rfl
 rw[LM β h];rfl
theorem V5 (β:Nat→BV) (r:List Ez) (k j:Nat) (ob:List Ax) (v:AV):(Fk β k r).getD j .skip≠ .read ob v:=by
 rcases Nat.lt_or_ge j r.length with h | h
 ·rw[LL β r k j h];simp
 rw[LM β h];simp
theorem EG (β:Nat→BV) {r:List Ez}{j:Nat}(h:j<r.length):((Fk β 0 r).getD j .skip).val=(r.getD j .skip).v (β j):=by
 rw[LL β r 0 j h,Nat.zero_add];rfl
theorem EV.facts {P:Program}{ops:Array Oper}{H₀:List Ax}{τ:Nat→AV}{base:List Ez}(β:Nat→BV):∀(r:List Ez) (k:Nat) (τk:Nat→AV) (K:(Nat→AV)→List Ax→Prop),base.drop k=r→k+r.length=base.length→τk=τS ops (Fk β 0 base) τ k→EV P ops H₀ k τk r K→(∀j,k≤j→j<base.length→(base.getD j .skip).ok (β j)) →
  (∀j,k≤j→j<base.length→∃o,ops[j]?=some o∧Rl P ops H₀ o (τS ops (Fk β 0 base) τ j) (base.getD j .skip))∧K (τS ops (Fk β 0 base) τ base.length) (XA β k r)
 | [],k,τk,K,hd,hk,ht,h,hβ=>by
  simp only[List.length_nil,Nat.add_zero] at hk;subst hk;exact⟨fun j h1 h2=>by omega,by rw[←ht];exact h⟩
 | e::r,k,τk,K,hd,hk,ht,h,hβ=>by
  obtain⟨o,ho,hok,hn⟩:=h;simp only[List.length_cons] at hk;have hb:base.getD k .skip=e:=by
   have:(base.drop k)[0]?=some e:=by rw[hd];rfl
   rw[List.getElem?_drop] at this;rw[List.getD_eq_getElem?_getD,show k=k+0 by omega,this];rfl
  have hd2:base.drop (k+1)=r:=by
   rw[←List.drop_drop,hd];rfl
  obtain⟨h1,h2⟩:=EV.facts (τ:=τ) (base:=base) β r (k+1) _ _ hd2 Ah (by simp only[τS,ho,Option.bind_some];rw[EG β Ah,hb,←ht]) (hn (β k) (by have:=hβ k (Nat.le_refl _) Ah;rwa [hb] at this)) (fun j h1 h2=>hβ j Ah h2);refine⟨fun j hj hl=>?_,h2⟩;by_cases e2:j=k
  ·subst e2;exact⟨o,ho,by rw[hb,←ht];exact hok⟩
  exact h1 j Ah hl
theorem KS {β β':Nat→BV}{l l':Nat→Bool}:∀(r:List Ez) (k:Nat),(∀j,k≤j→l j=l' j∧(l j=true→β j=β' j))→Sz β l k r=Sz β' l' k r
 | [],k,h=>rfl
 | e::r,k,h=>by
  simp only[Sz];obtain⟨h1,h2⟩:=h k (Nat.le_refl _);rw[KS r (k+1) fun j hj=>h j Ah,←h1];cases hl:l k
  ·rfl
  rw[h2 hl]
theorem Sg {β:Nat→BV}{l:Nat→Bool}{i:Nat}{b:BV}(hi:l i=false):∀(r:List Ez) (k:Nat),k≤i→i<k+r.length→((r.getD (i - k) .skip).box b++Sz β l k r).Perm (Sz (fun j=>if j=i then b else β j) (fun j=>l j||j==i) k r)
 | [],k,h1,h2=>by simp at h2;omega
 | e::r,k,h1,h2=>by
  simp only[Sz];by_cases hk:k=i
  ·subst hk;simp only[hi,Bool.false_eq_true,if_false,List.nil_append,Nat.sub_self,List.getD_cons_zero,beq_self_eq_true,Bool.or_true,if_true];rw[KS (β':=fun j=>if j=k then b else β j) (l':=fun j=>l j||j==k) r (k+1) fun j hj=>⟨by simp[show (j==k)=false by simp;omega],fun _=>by rw[if_neg Ah]⟩]
  have hp:=Sg (β:=β) hi r (k+1) (b:=b) Ah (by simp only[List.length_cons] at h2;omega);have e1:(e::r).getD (i - k) .skip=r.getD (i - (k+1)) .skip:=by
   rw[show i - k=(i - (k+1))+1 by omega];rfl
  have e2:(if (l k||k==i)=true then e.box (if k=i then b else β k) else [])=(if l k=true then e.box (β k) else []):=by
   rw[if_neg hk];simp[hk]
  rw[e1,e2];refine List.Perm.trans ?_ (hp.append_left _);rw[←List.append_assoc,←List.append_assoc];exact List.perm_append_comm.append_right _
theorem SR {β:Nat→BV}{l:Nat→Bool}:∀(r:List Ez) (k:Nat),(∀j,k≤j→j<k+r.length→l j=true)→Sz β l k r=XA β k r
 | [],k,h=>rfl
 | e::r,k,h=>by
  simp only[Sz,XA];rw[if_pos (h k (Nat.le_refl _) Ai),SR r (k+1) fun j h1 h2=>h j Ah (by simp only[List.length_cons];omega)]
theorem QI {β:Nat→BV}{l:Nat→Bool}:∀(r:List Ez) (k:Nat),(∀j,l j=false)→Sz β l k r=[]
 | [],k,h=>rfl
 | e::r,k,h=>by simp only[Sz];rw[QI r (k+1) h,h k];rfl
theorem X3.pick:∀(l:List Ez),X3 l→∃β:Nat→BV,∀j,j<l.length→(l.getD j .skip).ok (β j)
 | [],_=>⟨fun _=>(0,0,.p .any),fun j h=>by simp at h⟩
 | e::r,h=>by
  have h2:X3 r∧∃b,e.ok b:=by
   cases e with
   | rel R=>exact⟨h.2,let ⟨v,hv⟩:=h.1;⟨(0,0,v),hv⟩⟩
   | _=>exact⟨h,(0,0,.p .any),trivial⟩
  obtain⟨β,hβ⟩:=X3.pick r h2.1;obtain⟨b,hb⟩:=h2.2;refine⟨fun j=>match j with | 0=>b | j+1=>β j,fun j hj=>?_⟩;cases j with
  | zero=>exact hb
  | succ j=>exact hβ j (by simpa using hj)
section
variable {P:Program}{ops:Array Oper}{H₀:List Ax}{k:Nat}{τ:Nat→AV}{r:List Ez}{K:(Nat→AV)→List Ax→Prop}{dst:Option Tmp}{op:Op}{ty:TypeId}{pos:String}{aft:Array Edge}{v:AV}
theorem DD (ho:ops[k]?=some ⟨dst,op,ty,pos,aft,none⟩) (h:∀Bs,Co P ⟨dst,op,ty,pos,aft,none⟩ (ev τ) (Bs++H₀) v (Bs++H₀)) (next:EV P ops H₀ (k+1) (put τ dst v) r K):EV P ops H₀ k τ (.val v::r) K :=
 ⟨_,ho,⟨trivial,h⟩,fun _ _=>next⟩
theorem UY {cs:List AV}(ho:ops[k]?=some ⟨dst,op,ty,pos,aft,none⟩) (h:∀Bs,CW P ⟨dst,op,ty,pos,aft,none⟩ (ev τ) (Bs++H₀) (FK cs (Bs++H₀))) (next:∀b,EV P ops H₀ (k+1) (put τ dst (.ptr b 0)) r (fun τ' Hs=>K τ' (.box b cs::Hs))):EV P ops H₀ k τ (.new cs::r) K :=
 ⟨_,ho,⟨rfl,h⟩,fun b _=>next b.1⟩
theorem Uc (h:K τ []):EV P ops H₀ k τ [] K:=h
end
def TW (P:Program) (ops:Array Oper) (H₀:List Ax):Nat→(Nat→AV)→List Ax→List AV→((Nat→AV)→List Ax→Prop)→Prop
 | _,τ,H,[],K=>K τ H
 | k,τ,H,v::r,K=>∃o H',ops[k]?=some o∧o.guard=none∧Co P o (ev τ) (H++H₀) v (H'++H₀)∧TW P ops H₀ (k+1) (put τ o.dst v) H' r K
def Zg (fl:List Nat) (base:List Ez):Bool:=fl.all fun j=>match base.getD j .skip with | .val _=>true | _=>false
def Yj (ops:Array Oper) (e:Nat) (fl:List Nat):Bool:=(List.range ops.size).all fun i=>Nat.blt i e||(List.range i).all fun j=>(Nat.blt j e&&fl.contains j)||Js ops j i
theorem Mm {ops:Array Oper}{e:Nat}{fl:List Nat}(h:Yj ops e fl=true) {i j:Nat}(hi:e≤i) (hs:i<ops.size) (hj:j<i) (hf:¬(j<e∧j∈fl)):Pred ops j i:=by
 have:=List.all_eq_true.1 h i (by simpa using hs);simp only[Bool.or_eq_true] at this;rcases this with h1 | h1
 ·rw[Nat.blt_eq] at h1;omega
 have h2:=List.all_eq_true.1 h1 j (by simpa using hj);simp only[Bool.or_eq_true,Bool.and_eq_true,Nat.blt_eq] at h2;rcases h2 with h2 | h2
 ·exact absurd ⟨h2.1,by simpa using h2.2⟩ hf
 exact DN h2
theorem EV.facts4 {P:Program}{ops:Array Oper}{H₀:List Ax}{τ:Nat→AV}{base fb:List Ez}(hf:∀j,j<base.length→j<fb.length∧fb.getD j .skip=base.getD j .skip) (β:Nat→BV):∀(r:List Ez) (k:Nat) (τk:Nat→AV) (K:(Nat→AV)→List Ax→Prop),base.drop k=r→k+r.length=base.length→τk=τS ops (Fk β 0 fb) τ k→EV P ops H₀ k τk r K→(∀j,k≤j→j<base.length→(base.getD j .skip).ok (β j)) →
  (∀j,k≤j→j<base.length→∃o,ops[j]?=some o∧Rl P ops H₀ o (τS ops (Fk β 0 fb) τ j) (base.getD j .skip))∧K (τS ops (Fk β 0 fb) τ base.length) (XA β k r)
 | [],k,τk,K,hd,hk,ht,h,hβ=>by
  simp only[List.length_nil,Nat.add_zero] at hk;subst hk;exact⟨fun j h1 h2=>by omega,by rw[←ht];exact h⟩
 | e::r,k,τk,K,hd,hk,ht,h,hβ=>by
  obtain⟨o,ho,hok,hn⟩:=h;simp only[List.length_cons] at hk;have hb:base.getD k .skip=e:=by
   have:(base.drop k)[0]?=some e:=by rw[hd];rfl
   rw[List.getElem?_drop] at this;rw[List.getD_eq_getElem?_getD,show k=k+0 by omega,this];rfl
  have hd2:base.drop (k+1)=r:=by
   rw[←List.drop_drop,hd];rfl
  obtain⟨f1,f2⟩:=hf k Ah;obtain⟨h1,h2⟩:=EV.facts4 (τ:=τ) (base:=base) hf β r (k+1) _ _ hd2 Ah (by simp only[τS,ho,Option.bind_some];rw[EG β f1,f2,hb,←ht]) (hn (β k) (by have:=hβ k (Nat.le_refl _) Ah;rwa [hb] at this)) (fun j h1 h2=>hβ j Ah h2);refine⟨fun j hj hl=>?_,h2⟩;by_cases e2:j=k
  ·subst e2;exact⟨o,ho,by rw[hb,←ht];exact hok⟩
  exact h1 j Ah hl
theorem TW.facts {P:Program}{ops:Array Oper}{H₀:List Ax}{τ:Nat→AV}{fb:List Ez}(β:Nat→BV):∀(r:List AV) (k:Nat) (τk:Nat→AV) (H:List Ax) (K:(Nat→AV)→List Ax→Prop),(∀m,m<r.length→k+m<fb.length∧fb.getD (k+m) .skip= .val (r.getD m (.p .any)))→τk=τS ops (Fk β 0 fb) τ k→TW P ops H₀ k τk H r K →
  ∃Hm:Nat→List Ax,Hm k=H∧(∀j,k≤j→j<k+r.length→∃o,ops[j]?=some o∧o.guard=none∧Co P o (ev (τS ops (Fk β 0 fb) τ j)) (Hm j++H₀) ((fb.getD j .skip).v (β j)) (Hm (j+1)++H₀))∧K (τS ops (Fk β 0 fb) τ (k+r.length)) (Hm (k+r.length))
 | [],k,τk,H,K,hf,ht,h=>⟨fun _=>H,rfl,fun j h1 h2=>by simp at h2;omega,by simp only[List.length_nil,Nat.add_zero];rw[←ht];exact h⟩
 | v::r,k,τk,H,K,hf,ht,h=>by
  obtain⟨o,H',ho,hg,hop,hn⟩:=h;obtain⟨f1,f2⟩:=hf 0 Ai;simp only[Nat.add_zero,List.getD_cons_zero] at f1 f2;obtain⟨Hm,h1,h2,h3⟩:=TW.facts (τ:=τ) (fb:=fb) β r (k+1) _ H' K (fun m hm=>by have:=hf (m+1) (by simpa using hm);rw[show k+(m+1)=k+1+m by omega] at this;simpa using this) (by simp only[τS,ho,Option.bind_some];rw[EG β f1,f2,←ht];rfl) hn;refine⟨fun j=>if j=k then H else Hm j,by simp,fun j hj hl=>?_,?_⟩
  ·by_cases e:j=k
   ·subst e;refine⟨o,ho,hg,?_⟩;rw[f2,←ht];show Co P o (ev τk) ((if j=j then H else Hm j)++H₀) v ((if j+1=j then H else Hm (j+1))++H₀);rw[if_pos rfl,if_neg Ah,h1];exact hop
   show ∃o,ops[j]?=some o∧o.guard=none∧Co P o _ ((if j=k then H else Hm j)++H₀) _ ((if j+1=k then H else Hm (j+1))++H₀);rw[if_neg e,if_neg Ah];exact h2 j Ah (by simp only[List.length_cons] at hl;omega)
  show K _ (if k+(v::r).length=k then H else Hm (k+(v::r).length));simp only[List.length_cons];rw[if_neg Ah,show k+(r.length+1)=k+1+r.length by omega];exact h3
theorem UL {β:Nat→BV}{l:Nat→Bool}:∀(r:List Ez) (k:Nat),(∀j,j<r.length→l (k+j)=true∨∃v,r.getD j .skip= .val v)→Sz β l k r=XA β k r
 | [],k,h=>rfl
 | e::r,k,h=>by
  simp only[Sz,XA];rw[UL r (k+1) fun j hj=>by have:=h (j+1) (by simpa using hj);rw[show k+(j+1)=k+1+j by omega] at this;simpa using this];rcases h 0 Ai with h1 | ⟨v,h1⟩
  ·rw[Nat.add_zero] at h1;rw[if_pos h1]
  simp only[List.getD_cons_zero] at h1;subst h1;split<;>rfl
theorem Sm {P:Program}{r:Option Nat}{ops:Array Oper}{id n:Nat}{τ:Nat→AV}{H:List Ax}{D:List Cu}{Q:B7→BJ→Prop}(base:List Ez) (tl:List AV) (fl:List Nat) (hm:P.follows .mixedOrders=true)
  (he:base.length+tl.length=ops.size) (chk:Jt ops n []=true) (late:Yj ops base.length fl=true) (hfl:Zg fl base=true) (hne:X3 base)
  (h:EV P ops H 0 τ base (fun τ' Hs=>TW P ops H base.length τ' Hs tl (fun τ'' Bs=>Q .normal ⟨n,τ'',Bs++H,D⟩))):FJ P r (.region id ops true) ⟨n,τ,H,D⟩ Q:=by
 intro F₀ a₀ w₀ hs₀;refine wpIn_region_any hm ?_;have same:Cd F₀ w₀ F₀ { w₀ with drawn:=w₀.drawn+1 }:=⟨Nat.le_refl _,fun _ _ _=>rfl,fun _ h _=>h⟩;have t₀:Trans F₀ H w₀ F₀ H { w₀ with drawn:=w₀.drawn+1 } :=
  ⟨Nat.le_refl _,fun _ _ _=>rfl,fun _ h _=>h,fun _ h=> .inl h,fun o ho b hb=> .inl ⟨o,ho,hb⟩,rfl,rfl,rfl⟩
 have hs₁:Ck F₀ ⟨n,τ,H,D⟩ a₀ { w₀ with drawn:=w₀.drawn+1 } :=
  ⟨hs₀.size,fun t=>Bl.mono same _ _ (hs₀.tmp t),hs₀.heap.stable' same (fun _ h=>h) (fun _ _ _ _=>rfl) hs₀.heap.bd,DW.mono same _ _ hs₀.defs⟩
 obtain⟨hdst,c0,c1,c2,_⟩:=IQ chk;obtain⟨fb,hfb⟩:∃fb,fb=base++tl.map Ez.val:=⟨_,rfl⟩;have hfl1:fb.length=ops.size:=by rw[hfb];simp;omega
 have hf1:∀j,j<base.length→j<fb.length∧fb.getD j .skip=base.getD j .skip:=fun j hj=>⟨by omega,by
  rw[hfb,List.getD_eq_getElem?_getD,List.getD_eq_getElem?_getD,List.getElem?_append_left hj]⟩
 have hf2:∀m,m<tl.length→base.length+m<fb.length∧fb.getD (base.length+m) .skip= .val (tl.getD m (.p .any)):=fun m hm=>⟨by omega,by
  rw[hfb,List.getD_eq_getElem?_getD,List.getElem?_append_right Ah,Nat.add_sub_cancel_left,List.getElem?_map,List.getElem?_eq_getElem hm];simp[List.getElem?_eq_getElem hm]⟩
 have hd:∀β,Kp P ops n (fun _=>False) τ H (Fk β 0 fb):=fun β =>
  ⟨hdst,fun _ _ _ h=>h.elim,c0,c1,c2,fun i k _ _ h _=>(by rw[XK] at h;cases h),fun i e ob v _ _ _ h _ _=>absurd h (V5 β fb 0 i ob v)⟩
 have flv:∀j,j∈fl→∃v,base.getD j .skip= .val v:=fun j hj=>by
  have:=List.all_eq_true.1 hfl j hj;cases hq:base.getD j .skip with
  | val v=>exact⟨v,rfl⟩
  | _=>simp only[hq] at this;cases this
 have hE:∀β,(∀j,j<base.length→(base.getD j .skip).ok (β j))→(∀j,j<base.length→∃o,ops[j]?=some o∧Rl P ops H o (τS ops (Fk β 0 fb) τ j) (base.getD j .skip)) ∧
   ∃Hm:Nat→List Ax,Hm base.length=XA β 0 base∧(∀j,base.length≤j→j<ops.size→∃o,ops[j]?=some o∧o.guard=none∧Co P o (ev (τS ops (Fk β 0 fb) τ j)) (Hm j++H) ((fb.getD j .skip).v (β j)) (Hm (j+1)++H))∧Q .normal ⟨n,τS ops (Fk β 0 fb) τ ops.size,Hm ops.size++H,D⟩:=fun β hβ=>by
  obtain⟨h1,h2⟩:=EV.facts4 (base:=base) (fb:=fb) hf1 β base 0 τ _ Ai Ai rfl h (fun j _ h=>hβ j h);obtain⟨Hm,g1,g2,g3⟩:=TW.facts (fb:=fb) β tl base.length _ _ _ hf2 rfl h2;rw[he] at g2 g3;exact⟨fun j hj=>h1 j (Nat.zero_le _) hj,Hm,g1,g2,g3⟩
 obtain⟨I,hI0⟩:∃I:Array Bool→Act→World→Prop,I=fun l a w=>l.size=ops.size∧∃β τ' F Hb,(∀j,j<base.length→(base.getD j .skip).ok (β j))∧Down ops (fun i=>l.getD i false=true)∧Dv ops (Fk β 0 fb) τ (fun i=>l.getD i false=true) τ'∧Ck F ⟨n,τ',Hb++H,D⟩ a w∧Trans F₀ H w₀ F (Hb++H) w ∧
  (((∀k,base.length≤k→l.getD k false=false)∧Hb.Perm (Sz β (fun k=>l.getD k false) 0 base)) ∨
   (∃(m:Nat) (Hm:Nat→List Ax),(∀j,base.length≤j→j<ops.size→∃o,ops[j]?=some o∧o.guard=none∧Co P o (ev (τS ops (Fk β 0 fb) τ j)) (Hm j++H) ((fb.getD j .skip).v (β j)) (Hm (j+1)++H))∧Q .normal ⟨n,τS ops (Fk β 0 fb) τ ops.size,Hm ops.size++H,D⟩∧base.length≤m∧m≤ops.size∧(∀k,base.length≤k→(l.getD k false=true↔k<m))∧(∀k,k<base.length→k ∉ fl→l.getD k false=true)∧Hb=Hm m)):=⟨_,rfl⟩
 refine IH (I:=I) (fun l a w h=>by rw[hI0] at h;exact h.1) ?_ ?_ _ _ _ _ ?_ ?_
 ·intro l a w hI i hi;rw[hI0] at hI;obtain⟨hsz,β,τ',F,Hb,hβ,hdown,hτ,hs,ht,hI⟩:=hI;obtain⟨hun,o,ho,hall⟩:=mem_ready.1 hi;have hlt:i<ops.size:=by
   rcases Nat.lt_or_ge i ops.size with h | h
   ·exact h
   simp[Array.getElem?_eq_none h] at ho
  have hil:i<l.size:=by omega
  have hnot:l.getD i false=false:=by
   have:l[i]=false:=by simpa [hil] using hun
   simp[hil,this]
  have hr:∀j∈Cx o,l.getD j false=true:=by
   intro j hj;simp only[Cx,List.mem_map,List.mem_filter] at hj;obtain⟨e,⟨he,hb⟩,rfl⟩:=hj;exact hall e (by simpa using he) hb
  have hset:∀k,(l.setIfInBounds i true).getD k false=true↔(l.getD k false=true∨k=i):=by
   intro k;by_cases hk:k=i
   ·subst hk;simp[hil]
   simp[Array.getElem?_setIfInBounds_ne (Ne.symm hk),hk]
  have hset2:∀k,(l.setIfInBounds i true).getD k false=(l.getD k false||k==i):=by
   intro k;by_cases hk:k=i
   ·subst hk;simp[hil]
   simp[Array.getElem?_setIfInBounds_ne (Ne.symm hk),hk]
  have hsz':(l.setIfInBounds i true).size=ops.size:=by simp[hsz]
  have hdown':Down ops (fun k=>(l.setIfInBounds i true).getD k false=true):=by
   intro k o' j ho' hk hj;rcases (hset k).1 hk with h | h
   ·exact(hset j).2 (.inl (hdown k o' j ho' h hj))
   subst h;rw[ho] at ho';injection ho' with ho';subst ho';exact(hset j).2 (.inl (hr j hj))
  have hlook:∀t∈looks ops o,τ' t=τS ops (Fk β 0 fb) τ i t:=fun t ht=>II (hd β) hdown hτ ho (by rw[hnot];decide) hr ht;have hops:∀x∈o.op.operands.toList,ev τ' x=ev (τS ops (Fk β 0 fb) τ i) x:=by
   intro x hx;cases x with
   | tmp t=>exact hlook t (List.mem_append_left _ (List.mem_filterMap.2 ⟨.tmp t,hx,rfl⟩))
   | _=>rfl
  have hguard:∀j want d,o.guard=some (j,want)→(ops[j]?).bind (·.dst)=some d→τ' d=τS ops (Fk β 0 fb) τ i d:=by
   intro j want d hg hj;refine hlook d (List.mem_append_right _ ?_);simp[hg,hj]
  have hpred:∀{a},Pred ops a i→l.getD a false=true:=by
   have:∀{a b},Pred ops a b→b=i→l.getD a false=true:=by
    intro a b hab
    induction hab with
    | base ho' hj=>intro e;subst e;rw[ho] at ho';injection ho' with ho';subst ho';exact hr _ hj
    | trans p1 _ _ ih2=>intro e;exact hdown.pred p1 (ih2 e)
   exact fun {a} h=>this h O
  have wants:CL ops ⟨0,τS ops (Fk β 0 fb) τ i,[],[]⟩ o→CL ops ⟨n,τ',Hb++H,D⟩ o:=by
   intro h;unfold CL at *;cases hg:o.guard with
   | none=>simp[hg]
   | some jw =>
    obtain⟨j,want⟩:=jw;simp only[hg] at h ⊢;obtain⟨d,h1,h2⟩:=h;exact⟨d,h1,by rw[←h2];exact hguard j want d hg h1⟩
  -- one operation
  have exec:∀{Hx:List Ax} {C:AV→List Ax→Prop},Ck F ⟨n,τ',Hx,D⟩ a w→CL ops ⟨n,τ',Hx,D⟩ o→CW P o (ev (τS ops (Fk β 0 fb) τ i)) Hx (fun r H'=>match r with | .val v=>C v H' | .panic _=>False)→(∀v H' a' w' F',C v H'→Ck F' ⟨n,put τ' o.dst v,H',D⟩ a' w'→Trans F Hx w F' H' w'→I (l.setIfInBounds i true) a' w')→wpOpIn (W r) 0 P ops (post F₀ H w₀ Q) i (fun a' w'=>I (l.setIfInBounds i true) a' w') a w:=by
   intro Hx C hs hwant hop close;unfold wpOpIn;simp only[ho,Fj hs hwant,if_true];have hw:=hop r F _ a w hs rfl (fun x hx=>hops x hx) (fun t ht=>hdst i o t ho ht);unfold Oper.wpIn at *;refine⟨hw.1,?_⟩;replace hw:=hw.2;generalize (o.semAt (W r).round a.eval).run P w=rr at *;cases rr with
   | ok nx w' =>
    cases nx<;>simp only[Oper.uponIn] at hw ⊢
    case value u=>obtain⟨v',H'',F',h1,h3,h4⟩:=hw;exact close _ _ _ _ _ h1 h3 h4
    case skip=>obtain⟨v',H'',F',h1,h3,h4⟩:=hw;exact close _ _ _ _ _ h1 h3 h4
    case defer d=>obtain⟨v',H'',F',h1,h3,h4⟩:=hw;exact close _ _ _ _ _ h1 h3 h4
    case enter f args =>
     refine⟨hw.1,hw.2.mono fun e w'' he=>?_⟩;cases e with
     | returned u=>obtain⟨v',H'',F',h1,h3,h4⟩:=he;exact close _ _ _ _ _ h1 h3 h4
     | panicked c=>obtain⟨_,_,_,_,h,_⟩:=he;exact h.elim
     | outgrown=>obtain⟨_,_,_,_,_,_,h,_⟩:=he;exact h.elim
    case row row args=>exact⟨hw.1,hw.2.mono fun u w'' h=>by obtain⟨v',H'',F',h1,h3,h4⟩:=h;exact close _ _ _ _ _ h1 h3 h4⟩
    case round l' f tmps assign body =>
     refine⟨hw.1,hw.2.mono fun e w'' he=>?_⟩;cases e with
     | returned u=>obtain⟨v',H'',F',h1,h3,h4⟩:=he;exact close _ _ _ _ _ h1 h3 h4
     | panicked c=>obtain⟨_,_,_,_,h,_⟩:=he;exact h.elim
     | outgrown=>obtain⟨_,_,_,_,_,_,h,_⟩:=he;exact h.elim
   | halt x w' =>
    cases x<;>simp only[Oper.uponIn] at hw ⊢
    case panic u=>obtain⟨_,_,_,_,h,_⟩:=hw;exact h.elim
  have hτput:∀{v:AV},v=((Fk β 0 fb).getD i .skip).val→Dv ops (Fk β 0 fb) τ (fun k=>(l.setIfInBounds i true).getD k false=true) (put τ' o.dst v):=by
   intro v hv;have hτ3:=hτ.put (hd β) ho;rw[←hv] at hτ3;intro t;exact⟨fun k o' a1 a2 a3=>(hτ3 t).1 k o' a1 a2 ((hset k).1 a3),fun hn=>(hτ3 t).2 fun k o' a1 a2 a3=>hn k o' a1 a2 ((hset k).2 a3)⟩
  -- a tail operation
  have goTail:∀Hm:Nat→List Ax,(∀j,base.length≤j→j<ops.size→∃o,ops[j]?=some o∧o.guard=none∧Co P o (ev (τS ops (Fk β 0 fb) τ j)) (Hm j++H) ((fb.getD j .skip).v (β j)) (Hm (j+1)++H))→Q .normal ⟨n,τS ops (Fk β 0 fb) τ ops.size,Hm ops.size++H,D⟩→base.length≤i→(∀k,base.length≤k→(l.getD k false=true↔k<i))→(∀k,k<base.length→k ∉ fl→l.getD k false=true)→Ck F ⟨n,τ',Hm i++H,D⟩ a w→Trans F₀ H w₀ F (Hm i++H) w→wpOpIn (W r) 0 P ops (post F₀ H w₀ Q) i (fun a' w'=>I (l.setIfInBounds i true) a' w') a w:=by
   intro Hm g2 g3 hbi hk1 hk2 hs ht;obtain⟨o',ho',hg,hop⟩:=g2 i hbi hlt;rw[ho] at ho';injection ho' with ho';subst ho';refine exec (C:=fun v H'=>v=(fb.getD i .skip).v (β i)∧H'=Hm (i+1)++H) hs (by unfold CL;rw[hg];trivial) (CW.mono hop (by
    intro r H' hR;cases r with
    | val v'=>exact hR
    | panic v'=>exact hR.elim)) ?_
   rintro v H' a' w' F' ⟨hv,rfl⟩ h3 h4;rw[hI0];refine⟨hsz',β,_,F',Hm (i+1),hβ,hdown',hτput (by rw[hv,EG β Ah]),h3,ht.trans hs₀.heap.bd h4,.inr ⟨i+1,Hm,g2,g3,by omega,by omega,fun k hk=>?_,fun k h1 h2=>(hset k).2 (.inl (hk2 k h1 h2)),rfl⟩⟩;rw[hset k,hk1 k hk];omega
  rcases hI with ⟨hno,hp⟩ | ⟨m,Hm,g2,g3,hm1,hm2,hk1,hk2,rfl⟩
  ·rcases Nat.lt_or_ge i base.length with hib | hib
   ·-- of the first part
    obtain⟨o',ho',hok⟩:=(hE β hβ).1 i hib;rw[ho] at ho';injection ho' with ho';subst ho';have hno':∀k,base.length≤k→(l.setIfInBounds i true).getD k false=false:=by
     intro k hk;rw[hset2 k,hno k hk];simp;omega
    generalize hbe:base.getD i .skip=e at hok;have close:∀{a' w' F' b H'},e.ok b→H'=e.box b++(Hb++H)→Ck F' ⟨n,put τ' o.dst (e.v b),H',D⟩ a' w'→Trans F (Hb++H) w F' H' w'→I (l.setIfInBounds i true) a' w':=by
     intro a' w' F' b H' hb0 hH h3 h4;subst hH;rw[hI0];have hspn:∀k,k<fb.length→((Fk (fun j=>if j=i then b else β j) 0 fb).getD k .skip).val=(fb.getD k .skip).v (if k=i then b else β k):=fun k hk=>EG _ hk;refine⟨hsz',fun j=>if j=i then b else β j,put τ' o.dst (e.v b),F',e.box b++Hb,(fun j hj=>by
      by_cases e3:j=i
      ·subst e3;simp only[if_true];rw[hbe];exact hb0
      simp only[if_neg e3];exact hβ j hj),hdown',?_,by rw[List.append_assoc];exact h3,by rw[List.append_assoc];exact ht.trans hs₀.heap.bd h4,.inl ⟨hno',?_⟩⟩
     ·have hτ2:Dv ops (Fk (fun j=>if j=i then b else β j) 0 fb) τ (fun k=>l.getD k false=true) τ':=by
       intro t;refine⟨fun k o' a1 a2 a3=>?_,(hτ t).2⟩;have a4:l.getD k false=true:=a3;have hki:k≠i:=fun e=>by subst e;rw[hnot] at a4;cases a4
       rw[(hτ t).1 k o' a1 a2 a3];rcases Nat.lt_or_ge k fb.length with hk | hk
       ·rw[EG _ hk,EG _ hk,if_neg hki]
       rw[LM _ hk,LM _ hk]
      have hτ3:=hτ2.put (hd _) ho;rw[EG _ Ah,if_pos rfl,(hf1 i hib).2,hbe] at hτ3;intro t;exact⟨fun k o' a1 a2 a3=>(hτ3 t).1 k o' a1 a2 ((hset k).1 a3),fun hn=>(hτ3 t).2 fun k o' a1 a2 a3=>hn k o' a1 a2 ((hset k).2 a3)⟩
     have h1:=Sg (β:=β) (l:=fun k=>l.getD k false) (i:=i) (b:=b) hnot base 0 (Nat.zero_le _) Ah;rw[Nat.sub_zero,hbe] at h1;refine(hp.append_left _).trans (h1.trans (List.Perm.of_eq ?_));exact KS base 0 fun j _=>⟨(hset2 j).symm,fun _=>O⟩
    have yields:CL ops ⟨n,τ',Hb++H,D⟩ o→CW P o (ev (τS ops (Fk β 0 fb) τ i)) (Hb++H) (fun r H'=>match r with | .val v=>∃b,e.ok b∧v=e.v b∧H'=e.box b++(Hb++H) | .panic _=>False)→wpOpIn (W r) 0 P ops (post F₀ H w₀ Q) i (fun a' w'=>I (l.setIfInBounds i true) a' w') a w:=fun h1 h2 =>
     exec (C:=fun v H'=>∃b,e.ok b∧v=e.v b∧H'=e.box b++(Hb++H)) hs h1 h2 (by rintro v H' a' w' F' ⟨b,h0,rfl,h1⟩ h3 h4;exact close h0 h1 h3 h4)
    cases e with
    | val v=>exact yields (wants hok.1) ((hok.2 Hb).mono (by
      intro r H' hR;cases r with
      | val v'=>obtain⟨rfl,rfl⟩:=hR;exact⟨(0,0,.p .any),trivial,rfl,rfl⟩
      | panic v'=>exact hR.elim))
    | new cs =>
     refine yields (by unfold CL;rw[hok.1];trivial) ((hok.2 _).mono ?_);intro r H' hR;cases r with
     | val v'=>obtain⟨b,rfl,rfl⟩:=hR;exact⟨(b,0,.p .any),trivial,rfl,rfl⟩
     | panic v'=>exact hR.elim
    | newv sz rows =>
     refine yields (by unfold CL;rw[hok.1];trivial) ((hok.2 _).mono ?_);intro r H' hR;cases r with
     | val v'=>obtain⟨b,c,rfl,rfl⟩:=hR;exact⟨(b,c,.p .any),trivial,rfl,rfl⟩
     | panic v'=>exact hR.elim
    | rel R =>
     refine yields (by unfold CL;rw[hok.1];trivial) ((hok.2 _).mono ?_);intro r H' hR;cases r with
     | val v'=>obtain⟨h1,rfl⟩:=hR;exact⟨(0,0,v'),h1,rfl,rfl⟩
     | panic v'=>exact hR.elim
    | skip =>
     obtain⟨j,want,d,hg,hj,hb⟩:=hok;have hw:Region.wanted o (yielded ops a.tmps)=false:=HY (S:=⟨n,τ',Hb++H,D⟩) hs hg hj (by show WA (τ' d) want;rw[hguard j want d hg hj];exact hb);unfold wpOpIn;simp only[ho,hw,Bool.false_eq_true,if_false];refine⟨fun _ _=>Aj,close (b:=(0,0,.p .any)) Aj O ?_ .refl⟩;exact hs.put (fun t ht=>hdst i o t ho ht) ⟨Nat.le_refl _,fun _ _ _=>O,fun _ h _=>h⟩ hs.heap (by simp only[Ez.v,Bl,BY,undef];exact⟨[],rfl,rfl⟩)
   -- the first of the rest
   have hpre:∀j,j<i→¬(j<base.length∧j∈fl)→l.getD j false=true:=fun j hj hf=>hpred (Mm late hib hlt hj hf);have hie:i=base.length:=by
    rcases Nat.lt_or_ge base.length i with h | h
    ·have h1:=hpre base.length h (fun h=>Nat.lt_irrefl _ h.1);rw[hno base.length (Nat.le_refl _)] at h1;cases h1
    omega
   obtain⟨Hm,g1,g2,g3⟩:=(hE β hβ).2;have hp2:(Hb++H).Perm (Hm i++H):=by
    rw[hie,g1];refine List.Perm.append_right H (hp.trans (List.Perm.of_eq (UL base 0 fun j hj=>?_)));rw[Nat.zero_add];by_cases hq:j∈fl
    ·exact .inr (flv j hq)
    exact .inl (hpre j Ah fun h=>hq h.2)
   refine goTail Hm g2 g3 hib (fun k hk=>⟨fun h=>?_,fun h=>by omega⟩) (fun k h1 h2=>hpre k Ah fun h=>h2 h.2) ⟨hs.size,hs.tmp,hs.heap.perm hp2,hs.defs⟩ { ht with keys:=fun o ho=>ht.keys o (hp2.mem_iff.2 ho) };rw[hno k hk] at h;cases h
  rcases Nat.lt_or_ge i base.length with hib | hib
  ·-- a value that floats
   have hif:i∈fl:=Classical.byContradiction fun hq=>by rw[hk2 i hib hq] at hnot;cases hnot
   obtain⟨v,hv⟩:=flv i hif;obtain⟨o',ho',hok⟩:=(hE β hβ).1 i hib;rw[ho] at ho';injection ho' with ho';subst ho';rw[hv] at hok;refine exec (C:=fun v' H'=>v'=v∧H'=Hm m++H) hs (wants hok.1) ((hok.2 (Hm m)).mono (by
    intro r H' hR;cases r with
    | val v'=>exact hR
    | panic v'=>exact hR.elim)) ?_
   rintro v' H' a' w' F' ⟨rfl,rfl⟩ h3 h4;rw[hI0];refine⟨hsz',β,_,F',Hm m,hβ,hdown',hτput (by rw[EG β Ah,(hf1 i hib).2,hv];rfl),h3,ht.trans hs₀.heap.bd h4,.inr ⟨m,Hm,g2,g3,hm1,hm2,fun k hk=>?_,fun k h1 h2=>(hset k).2 (.inl (hk2 k h1 h2)),O⟩⟩;rw[hset k,hk1 k hk];exact⟨fun h=>h.resolve_right Ah,.inl⟩
  have him:i=m:=by
   rcases Nat.lt_trichotomy i m with h | h | h
   ·rw[(hk1 i hib).2 h] at hnot;cases hnot
   ·exact h
   have:=hpred (Mm late (by omega:base.length≤i) hlt h (fun h=>by omega));have:=(hk1 m hm1).1 this;omega
  subst him;exact goTail Hm g2 g3 hib hk1 hk2 hs ht
 ·intro l a w hI hr;rw[hI0] at hI;obtain⟨hsz,β,τ',F,Hb,hβ,hdown,hτ,hs,ht,hI⟩:=hI;have hall:∀i,i<ops.size→l.getD i false=true:=by
   intro i
   induction i using Nat.strongRecOn with
   | _ i ih =>
    intro hi;cases hq:l.getD i false with
    | true=>rfl
    | false =>
     have ho:ops[i]?=some ops[i]:=Array.getElem?_eq_getElem hi;have:i∈Region.ready .any ops l:=by
      refine mem_ready.2 ⟨?_,ops[i],ho,?_⟩
      ·have:i<l.size:=by omega
       simp[this] at hq ⊢;exact hq
      intro e he hb;have hj:e.on∈Cx ops[i]:=by
       simp only[Cx,List.mem_map,List.mem_filter];exact⟨e,⟨by simpa using he,hb⟩,rfl⟩
      have hlt:=c0 i _ _ ho hj;exact ih e.on hlt Ah
     rw[hr] at this;cases this
  have hτe:τ'=τS ops (Fk β 0 fb) τ ops.size:=by
   funext t;have h2:=IB (hd β) ops.size (Nat.le_refl _) t;by_cases hw:∃(k:Nat) (o':Oper),ops[k]?=some o'∧o'.dst=some t
   ·obtain⟨k,o',ho',hk⟩:=hw;have hlt:k<ops.size:=by
     rcases Nat.lt_or_ge k ops.size with h | h
     ·exact h
     simp[Array.getElem?_eq_none h] at ho'
    rw[(hτ t).1 k o' ho' hk (hall k hlt),h2.1 k o' ho' hk hlt]
   rw[(hτ t).2 fun k o' h1 h2 _=>hw ⟨k,o',h1,h2⟩,h2.2 fun k o' h1 h2 _=>hw ⟨k,o',h1,h2⟩]
  have fin:∀Hx:List Ax,(Hb++H).Perm (Hx++H)→Q .normal ⟨n,τS ops (Fk β 0 fb) τ ops.size,Hx++H,D⟩→post F₀ H w₀ Q .normal a w:=fun Hx hp hq =>
   ⟨.normal,_,F,hq,rfl,⟨by exact hs.size,by rw[←hτe];exact hs.tmp,hs.heap.perm hp,hs.defs⟩,{ ht with keys:=fun o ho=>ht.keys o (hp.mem_iff.2 ho) }⟩
  rcases hI with ⟨hno,hp⟩ | ⟨m,Hm,g2,g3,hm1,hm2,hk1,hk2,rfl⟩
  ·have hbs:base.length=ops.size:=by
    rcases Nat.lt_or_ge base.length ops.size with h | h
    ·have:=hall base.length h;rw[hno base.length (Nat.le_refl _)] at this;cases this
    omega
   obtain⟨Hm,g1,g2,g3⟩:=(hE β hβ).2;refine fin (Hm ops.size) ?_ g3;rw[←hbs,g1];exact List.Perm.append_right H (hp.trans (List.Perm.of_eq (SR base 0 fun j _ hj=>hall j Ah)))
  have hms:m=ops.size:=by
   rcases Nat.lt_or_ge m ops.size with h | h
   ·have:=(hk1 m hm1).1 (hall m h);omega
   omega
  subst hms;exact fin _ (List.Perm.refl _) g3
 ·obtain⟨β0,hβ0⟩:=X3.pick base hne;rw[hI0];refine⟨by simp,β0,τ,F₀,[],hβ0,?_,?_,hs₁,t₀,.inl ⟨?_,?_⟩⟩
  ·intro i o j ho hi;by_cases h:i<ops.size<;>simp[h] at hi
  ·intro t;refine⟨fun k o ho hk hl=>?_,fun _=>O⟩;by_cases h:k<ops.size<;>simp[h] at hl
  ·intro k _;by_cases h:k<ops.size<;>simp[h]
  rw[QI base 0 fun j=>by by_cases h:j<ops.size<;>simp[h]]
 have:=List.length_filter_le (fun b:Bool=> !b) (Array.replicate ops.size false).toList;simp at this ⊢
section
variable {P:Program}{ops:Array Oper}{H₀:List Ax}{k:Nat}{τ:Nat→AV}{r:List AV}{K:(Nat→AV)→List Ax→Prop}{dst:Option Tmp}{op:Op}{ty:TypeId}{pos:String}{aft:Array Edge}{v:AV}{H:List Ax}
theorem LH (H':List Ax) (ho:ops[k]?=some ⟨dst,op,ty,pos,aft,none⟩) (h:Co P ⟨dst,op,ty,pos,aft,none⟩ (ev τ) (H++H₀) v (H'++H₀)) (next:TW P ops H₀ (k+1) (put τ dst v) H' r K):TW P ops H₀ k τ H (v::r) K :=
 ⟨_,H',ho,rfl,h,next⟩
theorem Ur (h:K τ H):TW P ops H₀ k τ H [] K:=h
end
end Go.Abs
