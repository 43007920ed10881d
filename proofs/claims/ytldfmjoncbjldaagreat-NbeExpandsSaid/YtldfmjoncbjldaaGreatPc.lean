/- Part of the proofs: an abstract program logic, plain models and contracts of functions. -/
import Derived.Test.YtldfmjoncbjldaaGreatPb
import Derived.ProofKit
import Derived.Test.YtldfmjoncbjldaaGreatRows
import Derived.Test.YtldfmjoncbjldaaGreatProg
import Derived.Lib.AppendStr
import Derived.Lib.Builder
import Derived.Laws.Externs
import Derived.Lib.UnsafeStr
import Derived.Below
set_option linter.unusedVariables false
set_option linter.unusedSimpArgs false
namespace Go.Eu
open Go.Abs Go.RowKit Go.ChangeShapes Go.ChangeAt Go.WideShapes
theorem TU:∀{ts:List Tm},(∀t∈ts,Wd t)→Vv ts
 | [],_=>trivial
 | t::ts,h=>⟨h t Ab,TU fun x hx=>h x (by simp[hx])⟩
abbrev F0:Nat→Prop:=fun _=>False
def DD (w:World):List PV→List Value→Prop
 | [],cs=>cs=[]
 | p::ps,cs=>∃c cs',cs=c::cs'∧BN F0 w p c∧DD w ps cs'
theorem DD.length {w:World}:∀{ps:List PV}{cs:List Value},DD w ps cs→ps.length=cs.length
 | [],cs,h=>by simp only[DD] at h;subst h;rfl
 | p::ps,cs,h=>by
  obtain⟨c,cs',rfl,_,h⟩:=h;simp[DD.length h]
theorem DD.append {w:World}:∀{a b:List PV}{x y:List Value},DD w a x→DD w b y→DD w (a++b) (x++y)
 | [],b,x,y,h,h'=>by simp only[DD] at h;subst h;exact h'
 | p::a,b,x,y,h,h'=>by
  obtain⟨c,cs',rfl,h1,h⟩:=h;exact⟨c,cs'++y,O,h1,DD.append h h'⟩
theorem DD.one {w:World}{p:PV}{c:Value}(h:BN F0 w p c):DD w [p] [c]:=⟨c,[],rfl,h,rfl⟩
theorem DD.repL {w:World}:∀{ps:List PV}{cs:List Value},DD w ps cs→A8 F0 w (ps.map .p) cs
 | [],cs,h=>by simp only[DD] at h;subst h;exact rfl
 | p::ps,cs,h=>by
  obtain⟨c,cs',rfl,h1,h⟩:=h;exact⟨c,cs',O,by simp only[BM];exact h1,DD.repL h⟩
theorem L8 {w:World}{b:Nat}:∀(r:List PV) (cs:List Value) (o:Nat),DD w r cs→(∀j,j<cs.length→w.cell? ⟨b,o+j,none⟩=cs[j]?)→BT F0 w b o r
 | [],cs,o,h,hc=>by simp[BT]
 | p::r,cs,o,h,hc=>by
  obtain⟨c,cs',rfl,h1,h⟩:=h;refine⟨⟨c,by have:=hc 0 Ab;simpa using this,h1⟩,L8 r cs' (o+1) h fun j hj=>?_⟩;have:=hc (j+1) AU;rw[show o+1+j=o+(j+1) by omega];simpa using this
theorem MF {w:World}{base:Nat}{a:Addr}{n:Nat}{cs:List Value}(h:w.cells? base a n=some cs):cs.length=n∧∀j,j<n→w.cell? (a.add j)=cs[j]?:=by
 unfold World.cells? at h;split at h
 ·exact⟨by simpa using mapM_some_length h,fun j hj=>mapM_some_get h j j (by simp[hj])⟩
 cases h
section
variable {H:Type}{enc:TypeId×Value→H}{P:Program}{w:World}{base:Nat}{sp:Nat→Bool}{hd:Bool}{n:Nat}
theorem HA {α:Type}{e t C:Nat}(ut:P.underlying t=some (.slice e)) (hC:P.cellsOf e=C) (hC1:1≤C) (f:α→List PV) (Q:α→Prop)
  (he:∀m cs y,m<n→DataW.trod enc P w base sp hd m e cs=some y→∃a,DD w (f a) cs∧Q a) {cs:List Value} {y:DataW H×List MemPlace} (h:DataW.trod enc P w base sp hd n t cs=some y) :
  ∃l:List α,l.length<wide∧(∀a∈l,Q a)∧∃v,cs=[v]∧BN F0 w (.lst (l.map f)) v:=by
 rcases DataW.trod_slice ut h with ⟨rfl,_⟩ | ⟨a,len,cap,elems,rest,m,rfl,rfl,_,hb,hl,hc,hel,hget,_,_⟩
 ·exact⟨[],by simp[wide],fun a ha=>by simp at ha,_,rfl,by simp only[BN];exact .inl ⟨rfl,none,0,rfl⟩⟩
 rw[hC] at hget;have hml:maxLen<wide:=by decide
 rcases Nat.eq_zero_or_pos len with h0 | h0
 ·subst h0;exact⟨[],by simp[wide],fun a ha=>by simp at ha,_,rfl,by simp only[BN];exact .inl ⟨rfl,some a,cap,rfl⟩⟩
 have hone:∀i,i<len→∃ci y,w.cells? base (a.add (i*C)) C=some ci∧DataW.trod enc P w base sp hd m e ci=some y:=fun i hi=>by
  have:=hget i hi;rw[List.getElem?_eq_getElem Aa] at this;obtain⟨ci,h1,h2⟩:=Option.bind_eq_some_iff.1 this;exact⟨ci,_,h1,h2⟩
 obtain⟨c0,y0,hc0,_⟩:=hone 0 h0;obtain⟨hl0,hg0⟩:=MF hc0;have hcell:∃v,w.cell? a=some v:=by
  have:=hg0 0 Aa;rw[Nat.zero_mul,Addr.add,if_pos rfl,Addr.add,if_pos rfl] at this;rw[List.getElem?_eq_getElem Aa] at this;exact⟨_,this⟩
 obtain⟨v0,hv0⟩:=hcell;obtain⟨blk,off,spot⟩:=a;have hspot:spot=none:=by
  unfold World.cell? at hv0;simp only at hv0;split at hv0
  ·cases spot with
   | none=>rfl
   | some s=>simp at hv0
  cases hv0
 subst hspot;have hblk:blk<w.heap.size:=by
  unfold World.cell? at hv0;simp only at hv0;split at hv0
  ·rename_i hh;exact(Array.getElem?_eq_some_iff.1 hh).1
  cases hv0
 have hadd:∀k,(⟨blk,off,none⟩:Addr).add k=⟨blk,off+k,none⟩:=fun k=>by
  unfold Addr.add;split
  ·rename_i e;subst e;rfl
  rfl
 have hadd2:∀o k,(⟨blk,o,none⟩:Addr).add k=⟨blk,o+k,none⟩:=fun o k=>by
  unfold Addr.add;split
  ·rename_i e;subst e;rfl
  rfl
 have hrows:∀k,k≤len→∃l:List α,l.length=k∧(∀x∈l,Q x)∧BB F0 w blk C (off+(len - k)*C) (l.map f):=by
  intro k
  induction k with
  | zero=>exact fun _=>⟨[],rfl,fun a ha=>by simp at ha,by simp[BB]⟩
  | succ k ih =>
   intro hk;obtain⟨l,h1,h2,h3⟩:=ih Aa;obtain⟨ci,y,hci,ht⟩:=hone (len - (k+1)) Aa;obtain⟨g1,g2⟩:=MF hci;obtain⟨x,hx,hq⟩:=he m ci y Aa ht;refine⟨x::l,by simp[h1],fun z hz=>?_,?_⟩
   ·rcases List.mem_cons.1 hz with rfl | hz
    ·exact hq
    exact h2 z hz
   refine⟨by rw[hx.length,g1],L8 _ ci _ hx fun j hj=>?_,?_⟩
   ·have:=g2 j Aa;rw[hadd,hadd2] at this;exact this
   rw[show off+(len - (k+1))*C+C=off+(len - k)*C by rw[Nat.add_assoc,←Nat.succ_mul];congr 2;omega];exact h3
 obtain⟨l,h1,h2,h3⟩:=hrows len (Nat.le_refl _);rw[Nat.sub_self,Nat.zero_mul,Nat.add_zero] at h3;refine⟨l,by omega,h2,_,rfl,?_⟩;simp only[BN];refine .inr ⟨blk,off,cap,C,by rw[List.length_map,h1],fun h=>h,hblk,by rw[List.length_map];omega,h3⟩
def Oy (P:Program) (t:TypeId):Option (List (Nat×Nat)) :=
 match P.underlying t with
 | some (.struct fs)=>some (fs.toList.map fun f=>(f.type,f.offset))
 | _=>none
theorem M8 {t:TypeId}{l:List (Nat×Nat)}(hf:Oy P t=some l) {cs:List Value}{y:DataW H×List MemPlace}(h:DataW.trod enc P w base sp hd n t cs=some y) :
  ∃m,n=m+1∧cs.length=P.cellsOf t∧∀(i:Nat) (p:Nat×Nat),l[i]?=some p→∃z,DataW.trod enc P w base sp hd m p.1 ((cs.drop p.2).take (P.cellsOf p.1))=some z:=by
 unfold Oy at hf;split at hf
 ·rename_i fs hu;injection hf with hf;subst hf;obtain⟨xs,m,h1,_,h2,h3,h4⟩:=DataW.trod_struct hu h;refine⟨m,h1,h2,fun i p hp=>?_⟩;rw[List.getElem?_map] at hp;obtain⟨fl,hfl,rfl⟩:=Option.map_eq_some_iff.1 hp;have hi:fs[i]?=some fl:=by simpa using hfl
  have:=h4 i fl hi;have hlt:i<xs.length:=by rw[h3];exact(Array.getElem?_eq_some_iff.1 hi).1
  rw[List.getElem?_eq_getElem hlt] at this;exact⟨_,this⟩
 cases hf
end
structure HZ (P:Program) (tI tS tV tVs tL tLs tT tTs:TypeId):Prop where
 uI:P.underlying tI=some (.int .i64)
 uS:P.underlying tS=some .string
 uVs:P.underlying tVs=some (.slice tV)
 uLs:P.underlying tLs=some (.slice tL)
 uTs:P.underlying tTs=some (.slice tT)
 fV:Oy P tV=some [(tI,0),(tI,1)]
 fL:Oy P tL=some [(tI,0),(tVs,1)]
 fT:Oy P tT=some [(tI,0),(tI,1),(tS,2),(tLs,3),(tTs,4)]
 cI:P.cellsOf tI=1
 cS:P.cellsOf tS=1
 cVs:P.cellsOf tVs=1
 cLs:P.cellsOf tLs=1
 cTs:P.cellsOf tTs=1
 cV:P.cellsOf tV=2
 cL:P.cellsOf tL=2
 cT:P.cellsOf tT=5
theorem Kt {n:Int}(h:(Lit.int .i64 n).wf=true):FR n:=by
 simp only[Lit.wf,Bool.and_eq_true,decide_eq_true_eq] at h;exact h
theorem _root_.Go.AZ {α:Prop}(h:α:=by decide):α:=h
section
variable {H:Type}{enc:TypeId×Value→H}{P:Program}{w:World}{base:Nat}{sp:Nat→Bool}{hd:Bool}{tI tB tS tV tVs tL tLs tT tTs tM tMs:TypeId}
theorem YF (E:HZ P tI tS tV tVs tL tLs tT tTs) {n:Nat}{cs:List Value}{y:DataW H×List MemPlace}(h:DataW.trod enc P w base sp hd n tV cs=some y):∃v:Bm,DD w (HN v) cs∧(FR v.index∧FR v.plus):=by
 obtain⟨m,rfl,hl,hg⟩:=M8 E.fV h;rw[E.cV] at hl
 match cs,hl with
 | [c0,c1],_ =>
  obtain⟨z0,h0⟩:=hg 0 _ rfl;obtain⟨z1,h1⟩:=hg 1 _ rfl;simp only[E.cI,List.drop_zero,List.drop_succ_cons,List.take_succ_cons,List.take_zero] at h0 h1;obtain⟨a,ha,_,fa⟩:=DataW.trod_int E.uI h0;obtain⟨b,hb,_,fb⟩:=DataW.trod_int E.uI h1;injection ha with ha;injection hb with hb;subst ha hb;exact⟨⟨a,b⟩,⟨_,_,O,by simp[BN],_,_,rfl,by simp[BN],rfl⟩,Kt fa,Kt fb⟩
theorem XW (E:HZ P tI tS tV tVs tL tLs tT tTs) {n:Nat}{cs:List Value}{y:DataW H×List MemPlace}(h:DataW.trod enc P w base sp hd n tL cs=some y):∃v:B6,DD w (By v) cs∧YU v:=by
 obtain⟨m,rfl,hl,hg⟩:=M8 E.fL h;rw[E.cL] at hl
 match cs,hl with
 | [c0,c1],_ =>
  obtain⟨z0,h0⟩:=hg 0 _ rfl;obtain⟨z1,h1⟩:=hg 1 _ rfl;simp only[E.cI,E.cVs,List.drop_zero,List.drop_succ_cons,List.take_succ_cons,List.take_zero] at h0 h1;obtain⟨a,ha,_,fa⟩:=DataW.trod_int E.uI h0;injection ha with ha;subst ha;obtain⟨l,g1,g2,v,hv,g3⟩:=HA E.uVs E.cV AZ HN (fun v=>FR v.index∧FR v.plus) (fun m cs y _ h=>YF E h) h1;injection hv with hv;subst hv;exact⟨⟨a,l⟩,⟨_,_,O,by simp[BN],_,_,rfl,g3,rfl⟩,⟨g1,Kt fa,g2⟩⟩
theorem Xb (E:HZ P tI tS tV tVs tL tLs tT tTs):∀(n:Nat) (cs:List Value) (y:DataW H×List MemPlace),DataW.trod enc P w base sp hd n tT cs=some y→∃t:Tm,DD w (A3 t) cs∧Wd t:=by
 intro n
 induction n using Nat.strongRecOn with
 | ind n ih =>
  intro cs y h;obtain⟨m,rfl,hl,hg⟩:=M8 E.fT h;rw[E.cT] at hl
  match cs,hl with
  | [c0,c1,c2,c3,c4],_ =>
   obtain⟨z0,h0⟩:=hg 0 _ rfl;obtain⟨z1,h1⟩:=hg 1 _ rfl;obtain⟨z2,h2⟩:=hg 2 _ rfl;obtain⟨z3,h3⟩:=hg 3 _ rfl;obtain⟨z4,h4⟩:=hg 4 _ rfl;simp only[E.cI,E.cS,E.cLs,E.cTs,List.drop_zero,List.drop_succ_cons,List.take_succ_cons,List.take_zero] at h0 h1 h2 h3 h4;obtain⟨a,ha,_,wa⟩:=DataW.trod_int E.uI h0;obtain⟨b,hb,_,wb⟩:=DataW.trod_int E.uI h1;obtain⟨s,hs,_,ws⟩:=DataW.trod_string E.uS h2;injection ha with ha;injection hb with hb;injection hs with hs;subst ha hb hs;obtain⟨l,g1,g2,v,hv,g3⟩:=HA E.uLs E.cL AZ By YU (fun m cs y _ h=>XW E h) h3;obtain⟨ks,k1,k2,u,hu,k3⟩:=HA E.uTs E.cT AZ A3 Wd (fun m' cs y hm h=>ih m' Aa cs y h) h4;injection hv with hv;injection hu with hu;subst hv hu;have hml:maxLen<wide:=by decide
   exact⟨.mk a b s l ks,⟨_,_,O,by simp[BN],_,_,rfl,by simp[BN],_,_,rfl,by simp[BN],_,_,rfl,g3,_,_,rfl,by rw[C5];exact k3,rfl⟩,
    ⟨by omega,g1,g2,k1,TU fun t ht=>k2 t ht,Kt wa,Kt wb⟩⟩
structure aq (P:Program) (tB tT tM tMs:TypeId):Prop where
 uB:P.underlying tB=some .bool
 uMs:P.underlying tMs=some (.slice tM)
 fM:Oy P tM=some [(tT,0),(tB,5),(tT,6),(tB,11)]
 cB:P.cellsOf tB=1
 cM:P.cellsOf tM=12
theorem WU (E:HZ P tI tS tV tVs tL tLs tT tTs) {b2:Nat}{r:Reach}{v:Value}{d:DataW H}{ps:List MemPlace}(hk:Value.okWide P w r b2 tT v) (h:DataW.Trod enc P w base sp hd tT v d ps):∃t:Tm,Wd t∧BM F0 w (TV t) v:=by
 obtain⟨n,h⟩:=h;obtain⟨t,g1,g2⟩:=Xb E _ _ _ h;have hf:=E.fT;unfold Oy at hf;unfold Value.okWide at hk;split at hk
 ·obtain⟨cs,rfl,_,_⟩:=hk;refine⟨t,g2,?_⟩;exact⟨cs.toList,by simp,DD.repL g1⟩
 ·rename_i hu;rw[hu] at hf;cases hf
 rename_i h1 h2;split at hf
 ·rename_i fs hu;exact absurd hu (h1 fs)
 cases hf
end
theorem RA (w:World):HRel F0 [] w:=⟨fun o ho=>by simp at ho,by simp,fun o ho=>by simp at ho,fun b hb=>hb.elim⟩
theorem Pe {P:Program}{f:FuncId}{xs:List AV}(h:Dl P f xs (.p (.bool true))) {w:World}{vs:List Value}(ha:A8 F0 w xs vs):Calls P f ⟨vs⟩ w fun e w'=>e= .returned (.bool true)∧Below w.heap.size w w':=by
 refine(h.2 F0 w vs (RA w) ha).mono ?_;rintro e w' ⟨r,H',F',hr,he,hH,ht⟩;cases r with
 | panic v=>exact hr.elim
 | val v =>
  obtain⟨rfl,rfl⟩:=hr;obtain⟨u,rfl,hu⟩:=he;simp only[BM,BN] at hu;subst hu;exact⟨O,ht.os,ht.tape,ht.out,ht.size,fun k hk=>ht.same k hk fun o ho=>by simp at ho⟩
theorem PA {H:Type}{enc:TypeId×Value→H}{P:Program}{f:Func}{s:ChangeSpec}{tB:TypeId}(hl:laidOutB P=true) (hB:P.underlying tB=some .bool) (hrt:f.resultTypes=#[tB]) (hv0:s.vars=[]) {W W':World}{args:Array Value}{ds:List (DataW H)}{before:List MemPlace}
  (hpr:∀t∈f.params.toList,P.readableRec t=true∧t<P.types.size) (hW:DataW.Whole enc P f.params.toList s.vars false W args.toList ds [] before) (hres:(s.fn H ds).results=[.lit (.bool true)]) (hargs:(s.fn H ds).args=ds) (hvars:(s.fn H ds).vars=[]) (hb:Below W.heap.size W W') :
  s.post enc P f false true false false W args (.bool true) W':=by
 have hW':=hW;obtain⟨p,q,hA,hV,rfl,hfz,hnd⟩:=hW;have hq:q=[]:=by rw[hv0] at hV;exact hV
 subst hq;have hstay:∀{ts:List TypeId} {vs:List Value} {ds:List (DataW H)} {ps:List MemPlace},(∀t∈ts,P.readableRec t=true∧t<P.types.size)→(∀x∈ps,x.block<W.heap.size)→DataW.TrodAll enc P W 0 (fun _=>true) true ts vs ds ps→DataW.TrodAll enc P W' 0 (fun b=>decide (b<W.heap.size)) true ts vs ds ps:=by
  intro ts
  induction ts with
  | nil =>
   intro vs ds ps _ _ h;cases vs<;>cases ds<;>simp[DataW.TrodAll] at h ⊢;exact h
  | cons t ts ih =>
   intro vs ds ps h1 h2 h;obtain⟨v,vs',d,ds',a,b,rfl,rfl,rfl,h3,h4⟩:=trodAll_cons h;exact⟨a,b,Below.trod hl (h1 t Ab).1 (h1 t Ab).2 h3 hb (fun x hx=>h2 x (by simp[hx])),ih (fun t ht=>h1 t (by simp[ht])) (fun x hx=>h2 x (by simp[hx])) h4,O⟩
 refine⟨ds,[],p++[],[],p,[],hW',?_,?_,?_,hb.frame _,fun h=>by cases h⟩
 ·rw[List.append_nil,hres,hrt];refine⟨[],[],⟨1,?_⟩,O,O⟩;unfold DataW.trod;rw[hB];rfl
 ·rw[List.append_nil,hargs];exact hstay hpr (fun x hx=>hW'.lt x (by simpa using hx)) hA
 rw[List.append_nil,hvars,hv0];exact O
end Go.Eu
namespace Go.Proofs.YtldfmjoncbjldaaGreat
open Go.Eu
theorem own:ownKnob Tryz.prog.godebug=none:=by kernel_rfl
theorem laidOut:laidOutB Tryz.prog=true:=by kernel_rfl
theorem eB:HZ Tryz.prog 3 9 177 114 116 23 26 24:=⟨by kernel_rfl,by kernel_rfl,by kernel_rfl,by kernel_rfl,by kernel_rfl,by kernel_rfl,by kernel_rfl,by kernel_rfl,by kernel_rfl,by kernel_rfl,by kernel_rfl,by kernel_rfl,by kernel_rfl,by kernel_rfl,by kernel_rfl,by kernel_rfl⟩
end Go.Proofs.YtldfmjoncbjldaaGreat
namespace Go.Proofs.YtldfmjoncbjldaaGreat
open Go.Abs
theorem Tg:Cy Tryz.prog 22=some (134,23,360):=by kernel_rfl
theorem Ek:Cy Tryz.prog 23=some (116,2,32):=by kernel_rfl
theorem BJ:Cy Tryz.prog 24=some (26,5,80):=by kernel_rfl
theorem El:Cy Tryz.prog 105=some (91,1,8):=by kernel_rfl
theorem DO:Cy Tryz.prog 114=some (177,2,16):=by kernel_rfl
theorem OZ:Cy Tryz.prog 122=some (24,1,24):=by kernel_rfl
theorem UF:Cy Tryz.prog 150=some (3,1,8):=by kernel_rfl
theorem fe:Aw Tryz.prog 9=true:=by kernel_rfl
theorem bu:Aw Tryz.prog 10=true:=by kernel_rfl
theorem bj:Aw Tryz.prog 11=true:=by kernel_rfl
theorem bE:Aw Tryz.prog 12=true:=by kernel_rfl
theorem bq:Aw Tryz.prog 14=true:=by kernel_rfl
theorem dk:Aw Tryz.prog 15=true:=by kernel_rfl
theorem br:Aw Tryz.prog 18=true:=by kernel_rfl
theorem bM:Aw Tryz.prog 22=true:=by kernel_rfl
theorem bN:Aw Tryz.prog 23=true:=by kernel_rfl
theorem dF:Aw Tryz.prog 24=true:=by kernel_rfl
theorem dc:Aw Tryz.prog 25=true:=by kernel_rfl
theorem dT:Aw Tryz.prog 26=true:=by kernel_rfl
theorem dq:Aw Tryz.prog 27=true:=by kernel_rfl
theorem cc:Aw Tryz.prog 28=true:=by kernel_rfl
theorem cX:Aw Tryz.prog 29=true:=by kernel_rfl
theorem cx:Aw Tryz.prog 30=true:=by kernel_rfl
theorem ba:Aw Tryz.prog 31=true:=by kernel_rfl
theorem cE:Aw Tryz.prog 32=true:=by kernel_rfl
theorem bC:Aw Tryz.prog 33=true:=by kernel_rfl
theorem dr:Aw Tryz.prog 36=true:=by kernel_rfl
theorem cH:Aw Tryz.prog 37=true:=by kernel_rfl
theorem cv:Aw Tryz.prog 38=true:=by kernel_rfl
theorem bx:Aw Tryz.prog 39=true:=by kernel_rfl
theorem bP:Aw Tryz.prog 43=true:=by kernel_rfl
theorem bV:Aw Tryz.prog 44=true:=by kernel_rfl
theorem dC:Aw Tryz.prog 48=true:=by kernel_rfl
theorem dQ:Aw Tryz.prog 49=true:=by kernel_rfl
theorem bT:Aw Tryz.prog 50=true:=by kernel_rfl
theorem di:Aw Tryz.prog 51=true:=by kernel_rfl
theorem cg:Aw Tryz.prog 52=true:=by kernel_rfl
theorem dA:Aw Tryz.prog 53=true:=by kernel_rfl
theorem df:Aw Tryz.prog 54=true:=by kernel_rfl
theorem ct:Aw Tryz.prog 55=true:=by kernel_rfl
theorem a9:Aw Tryz.prog 56=true:=by kernel_rfl
theorem dN:Aw Tryz.prog 57=true:=by kernel_rfl
theorem bD:Aw Tryz.prog 58=true:=by kernel_rfl
theorem dJ:Aw Tryz.prog 59=true:=by kernel_rfl
theorem cm:Aw Tryz.prog 64=true:=by kernel_rfl
theorem cF:Aw Tryz.prog 65=true:=by kernel_rfl
theorem cC:Aw Tryz.prog 66=true:=by kernel_rfl
theorem cU:Aw Tryz.prog 67=true:=by kernel_rfl
theorem cP:Aw Tryz.prog 68=true:=by kernel_rfl
theorem dG:Aw Tryz.prog 69=true:=by kernel_rfl
theorem bZ:Aw Tryz.prog 70=true:=by kernel_rfl
theorem bO:Aw Tryz.prog 71=true:=by kernel_rfl
theorem Zt:Aw Tryz.prog 79=true:=by kernel_rfl
theorem ca:Aw Tryz.prog 80=true:=by kernel_rfl
theorem dO:Aw Tryz.prog 81=true:=by kernel_rfl
theorem cG:Aw Tryz.prog 82=true:=by kernel_rfl
theorem dZ:Aw Tryz.prog 83=true:=by kernel_rfl
theorem bQ:Aw Tryz.prog 84=true:=by kernel_rfl
theorem cq:Aw Tryz.prog 87=true:=by kernel_rfl
theorem Yo:Aw Tryz.prog 88=true:=by kernel_rfl
theorem dW:Aw Tryz.prog 89=true:=by kernel_rfl
theorem db:Aw Tryz.prog 90=true:=by kernel_rfl
theorem bJ:Aw Tryz.prog 91=true:=by kernel_rfl
theorem bL:Aw Tryz.prog 92=true:=by kernel_rfl
theorem bg:Aw Tryz.prog 93=true:=by kernel_rfl
theorem dP:Aw Tryz.prog 94=true:=by kernel_rfl
theorem bz:Aw Tryz.prog 95=true:=by kernel_rfl
theorem bS:Aw Tryz.prog 96=true:=by kernel_rfl
theorem da:Aw Tryz.prog 97=true:=by kernel_rfl
theorem a8:Aw Tryz.prog 98=true:=by kernel_rfl
theorem bF:Aw Tryz.prog 99=true:=by kernel_rfl
theorem aJ:Aw Tryz.prog 100=true:=by kernel_rfl
theorem aM:Aw Tryz.prog 101=true:=by kernel_rfl
theorem aF:Aw Tryz.prog 102=true:=by kernel_rfl
theorem Yx:Aw Tryz.prog 105=true:=by kernel_rfl
theorem Z8:Aw Tryz.prog 106=true:=by kernel_rfl
theorem Yq:Aw Tryz.prog 107=true:=by kernel_rfl
theorem aE:Aw Tryz.prog 108=true:=by kernel_rfl
theorem ZK:Aw Tryz.prog 109=true:=by kernel_rfl
theorem Z0:Aw Tryz.prog 111=true:=by kernel_rfl
theorem ZV:Aw Tryz.prog 112=true:=by kernel_rfl
theorem Y6:Aw Tryz.prog 113=true:=by kernel_rfl
theorem Z5:Aw Tryz.prog 115=true:=by kernel_rfl
theorem Z6:Aw Tryz.prog 116=true:=by kernel_rfl
theorem ZP:Aw Tryz.prog 128=true:=by kernel_rfl
theorem Ye:Aw Tryz.prog 129=true:=by kernel_rfl
theorem Yv:Aw Tryz.prog 130=true:=by kernel_rfl
theorem Z2:Aw Tryz.prog 132=true:=by kernel_rfl
theorem Zp:Aw Tryz.prog 133=true:=by kernel_rfl
theorem Zf:Aw Tryz.prog 134=true:=by kernel_rfl
theorem ZJ:Aw Tryz.prog 135=true:=by kernel_rfl
theorem Y2:Aw Tryz.prog 136=true:=by kernel_rfl
theorem Zc:Aw Tryz.prog 137=true:=by kernel_rfl
theorem Zv:Aw Tryz.prog 148=true:=by kernel_rfl
theorem aO:Aw Tryz.prog 149=true:=by kernel_rfl
theorem ZE:Aw Tryz.prog 156=true:=by kernel_rfl
theorem aQ:Aw Tryz.prog 157=true:=by kernel_rfl
theorem Yd:Aw Tryz.prog 158=true:=by kernel_rfl
theorem Zr:Aw Tryz.prog 165=true:=by kernel_rfl
theorem ZT:Aw Tryz.prog 166=true:=by kernel_rfl
theorem Yp:Aw Tryz.prog 167=true:=by kernel_rfl
theorem ZL:Aw Tryz.prog 248=true:=by kernel_rfl
theorem aD:Aw Tryz.prog 249=true:=by kernel_rfl
theorem aN:Aw Tryz.prog 251=true:=by kernel_rfl
theorem Y7:Aw Tryz.prog 255=true:=by kernel_rfl
theorem Zs:Aw Tryz.prog 256=true:=by kernel_rfl
theorem Ze:Aw Tryz.prog 257=true:=by kernel_rfl
theorem K2:fieldsOf Tryz.prog 26=some [(0,1),(1,1),(2,1),(3,1),(4,1)]:=by kernel_rfl
theorem cQ:fieldsOf Tryz.prog 82=some [(0,1),(1,1)]:=by kernel_rfl
theorem dm:fieldsOf Tryz.prog 97=some [(0,1),(1,1)]:=by kernel_rfl
theorem Ym:fieldsOf Tryz.prog 99=some [(0,1),(1,1)]:=by kernel_rfl
theorem KL:fieldsOf Tryz.prog 109=some [(0,9),(9,1)]:=by kernel_rfl
theorem Y0:fieldsOf Tryz.prog 116=some [(0,1),(1,1)]:=by kernel_rfl
theorem Za:fieldsOf Tryz.prog 156=some [(0,1)]:=by kernel_rfl
theorem I9:fieldsOf Tryz.prog 171=some [(0,5),(5,1),(6,1)]:=by kernel_rfl
theorem Yf:fieldsOf Tryz.prog 229=some [(0,1),(1,1),(2,1),(3,1),(4,1)]:=by kernel_rfl
theorem Er:Tryz.prog.follows .mixedOrders=true:=by kernel_rfl
theorem WO:Hu Tryz.prog 177=true:=by kernel_rfl
theorem ty2:Ck Tryz.prog 2=some (false,1):=by kernel_rfl
theorem YW:Ck Tryz.prog 3=some (false,1):=by kernel_rfl
theorem Tl:Ck Tryz.prog 24=some (false,1):=by kernel_rfl
theorem Bd:Ck Tryz.prog 26=some (true,5):=by kernel_rfl
theorem M7:Ck Tryz.prog 29=some (false,1):=by kernel_rfl
theorem SU:Ck Tryz.prog 60=some (false,1):=by kernel_rfl
theorem Xl:Ck Tryz.prog 88=some (false,1):=by kernel_rfl
theorem dg:Ck Tryz.prog 91=some (false,1):=by kernel_rfl
theorem dM:Ck Tryz.prog 94=some (false,1):=by kernel_rfl
theorem Q3:Ck Tryz.prog 105=some (false,1):=by kernel_rfl
theorem Wb:Ck Tryz.prog 107=some (true,9):=by kernel_rfl
theorem Ls:Ck Tryz.prog 116=some (true,2):=by kernel_rfl
theorem WT:Ck Tryz.prog 126=some (true,9):=by kernel_rfl
theorem Y4:Ck Tryz.prog 154=some (false,1):=by kernel_rfl
theorem Yy:Ck Tryz.prog 160=some (true,1):=by kernel_rfl
theorem Sl:Ck Tryz.prog 177=some (true,2):=by kernel_rfl
theorem Wh:Ck Tryz.prog 229=some (true,5):=by kernel_rfl
theorem ZN:Ck Tryz.prog 230=some (true,65):=by kernel_rfl
theorem WY:Tryz.prog.underlying 230=some (.array 13 229):=by kernel_rfl
theorem RH:Tryz.prog.underlying 20=some (.interface #[]):=by kernel_rfl
theorem eh:Tryz.prog.underlying 3=some (.int .i64):=by kernel_rfl
theorem WQ:Tryz.prog.underlying 207=some (.int .i64):=by kernel_rfl
theorem au:Tryz.prog.underlying 9=some .string:=by kernel_rfl
theorem eC:zeroOf Tryz.prog 3=some (.int .i64 0):=by kernel_rfl
theorem ey:zeroOf Tryz.prog 4=some (.bool false):=by kernel_rfl
theorem dR:zeroOf Tryz.prog 24=some (.slice none 0 0):=by kernel_rfl
theorem Bf:zeroOf Tryz.prog 26=some (.agg { toList:=[.int .i64 0,.int .i64 0,.string { data:={ toList:=[] } },.slice none 0 0,.slice none 0 0] }):=by kernel_rfl
theorem UN:zeroOf Tryz.prog 29=some (.int .i64 0):=by kernel_rfl
theorem bX:zeroOf Tryz.prog 77=some .nilFunc:=by kernel_rfl
theorem dI:zeroOf Tryz.prog 82=some (.agg { toList:=[.int .i64 0,.int .i64 0] }):=by kernel_rfl
theorem Xz:zeroOf Tryz.prog 91=some (.pointer none):=by kernel_rfl
theorem Yu:zeroOf Tryz.prog 107=some (.agg { toList:=[.int .i64 0,.int .i64 0,.int .i64 0,.int .i64 0,.string { data:={ toList:=[] } },.slice none 0 0,.slice none 0 0,.slice none 0 0,.nilFunc] }):=by kernel_rfl
theorem ZF:zeroOf Tryz.prog 109=some (.agg { toList:=[.int .i64 0,.int .i64 0,.int .i64 0,.int .i64 0,.string { data:={ toList:=[] } },.slice none 0 0,.slice none 0 0,.slice none 0 0,.nilFunc,.slice none 0 0] }):=by kernel_rfl
theorem Lr:zeroOf Tryz.prog 116=some (.agg { toList:=[.int .i64 0,.slice none 0 0] }):=by kernel_rfl
theorem P8:zeroOf Tryz.prog 126=some (.agg { toList:=[.int .i64 0,.int .i64 0,.int .i64 0,.int .i64 0,.int .i64 0,.int .i64 0,.string { data:={ toList:=[] } },.slice none 0 0,.slice none 0 0] }):=by kernel_rfl
theorem Yj:zeroOf Tryz.prog 150=some (.slice none 0 0):=by kernel_rfl
theorem Z7:zeroOf Tryz.prog 153=some .nilFunc:=by kernel_rfl
theorem ZX:zeroOf Tryz.prog 154=some (.pointer none):=by kernel_rfl
theorem Yh:zeroOf Tryz.prog 156=some (.agg { toList:=[.int .i64 0] }):=by kernel_rfl
theorem Zj:zeroOf Tryz.prog 160=some (.agg { toList:=[.nilFunc] }):=by kernel_rfl
theorem Wf:zeroOf Tryz.prog 177=some (.agg { toList:=[.int .i64 0,.int .i64 0] }):=by kernel_rfl
theorem Ty:zeroOf Tryz.prog 230=some (.agg { toList:=[.bool false,.bool false,.int .i64 0,.int .i64 0,.int .i64 0,.bool false,.bool false,.int .i64 0,.int .i64 0,.int .i64 0,.bool false,.bool false,.int .i64 0,.int .i64 0,.int .i64 0,.bool false,.bool false,.int .i64 0,.int .i64 0,.int .i64 0,.bool false,.bool false,.int .i64 0,.int .i64 0,.int .i64 0,.bool false,.bool false,.int .i64 0,.int .i64 0,.int .i64 0,.bool false,.bool false,.int .i64 0,.int .i64 0,.int .i64 0,.bool false,.bool false,.int .i64 0,.int .i64 0,.int .i64 0,.bool false,.bool false,.int .i64 0,.int .i64 0,.int .i64 0,.bool false,.bool false,.int .i64 0,.int .i64 0,.int .i64 0,.bool false,.bool false,.int .i64 0,.int .i64 0,.int .i64 0,.bool false,.bool false,.int .i64 0,.int .i64 0,.int .i64 0,.bool false,.bool false,.int .i64 0,.int .i64 0,.int .i64 0] }):=by kernel_rfl
end Go.Proofs.YtldfmjoncbjldaaGreat
namespace Go.Abs
section
variable {P:Program}{H:List Ap}{dst:Option Tmp}{ty:TypeId}{pos:String}{aft:Array Edge}{x y:Operand}{ρ:Operand→AV}{g:Option (Nat×Bool)}
end
section
variable {P:Program}{dst:Option Tmp}{ty:TypeId}{pos:String}{aft:Array Edge}{g:Option (Nat×Bool)}{ρ:Operand→AV}{H:List Ap}{x y z:Operand}{v:AV}
def az (s:ByteArray):List (List PV):=s.data.toList.map fun b=>[PV.int .u8 b.toNat]
end
section
variable {P:Program}{dst:Option Tmp}{ty:TypeId}{pos:String}{aft:Array Edge}{g:Option (Nat×Bool)}{ρ:Operand→AV}{H:List Ap}{x y z:Operand}{v:AV}
def ah (T:TypeId) (cs:List AV) (H:List Ap):CA→List Ap→Prop
 | .val v,H'=>∃b,v= .ptr b 0∧H'= .boxT b T cs::H
 | .panic _,_=>False
end
section
variable {P:Program}{dst:Option Tmp}{ty:TypeId}{pos:String}{aft:Array Edge}{g:Option (Nat×Bool)}{ρ:Operand→AV}{H:List Ap}{x:Operand}
end
def At (cells:List PV) (o:Nat) (us:List PV):Prop:=∃rest,cells.drop o=us++rest
theorem At.all {us:List PV}:At us 0 us:=⟨[],by simp⟩
theorem At.one {c:PV}{rest:List PV}:At (c::rest) 0 [c]:=⟨rest,rfl⟩
theorem At.cons {c:PV}{cells us:List PV}{o:Nat}(h:At cells o us):At (c::cells) (o+1) us:=h
theorem At.sub {cells us vs:List PV}{o p:Nat}(h:At cells o us) (h':At us p vs) (hp:p≤us.length):At cells (o+p) vs:=by
 obtain⟨r,h⟩:=h;obtain⟨r',h'⟩:=h';exact⟨r'++r,by rw[←List.drop_drop,h,List.drop_append_of_le_length hp,h',List.append_assoc]⟩
theorem At.drop {cells us:List PV}{a b:Nat}(h:At cells (a+b) us):At (cells.drop a) b us:=by
 unfold At at h ⊢
 rwa [List.drop_drop]
section
variable {P:Program}{dst:Option Tmp}{ty:TypeId}{pos:String}{aft:Array Edge}{g:Option (Nat×Bool)}{ρ:Operand→AV}{H:List Ap}{x:Operand}{T:TypeId}{b o i n:Nat}{cells us:List PV}{c:PV}
variable {y:Operand}
end
theorem OX {F:Nat→Prop}{w:World}{b:Nat}{vs:List Value}{T:TypeId}(hb:w.heap[b]?=some (.cells ⟨vs⟩ T (0,0))):∀(cs:List PV) (o:Nat),A8 F w (cs.map .p) (vs.drop o)→BT F w b o cs
 | [],_,_=>by simp[BT]
 | c::cs,o,h=>by
  simp only[List.map_cons,A8,BM] at h;obtain⟨u,us,e,hu,hr⟩:=h;have ho:o<vs.length:=by
   by_cases q:o<vs.length
   ·exact q
   rw[List.drop_eq_nil_of_le Aa] at e;cases e
  rw[List.drop_eq_getElem_cons ho] at e;injection e with e1 e2;simp only[BT];refine⟨⟨u,?_,hu⟩,OX hb cs (o+1) (by rw[e2];exact hr)⟩;unfold World.cell?;rw[hb];simp[ho,e1]
theorem Dz {n:Nat}{τ:Nat→AV}{H:List Ap}{D:List CI}{i b:Nat}{cs:List PV}(ts:List Nat) (hi:H[i]?=some (.box b (cs.map .p))) (ht:∀t∈ts,τ t= .ptr b 0) :
  Dy ⟨n,τ,H,D⟩ ⟨n,F7 ts (.ref cs) τ,H.eraseIdx i,D⟩:=by
 intro F a w hs;have hmem:=List.mem_of_getElem? hi;have hFb:F b:=hs.heap.sub _ hmem b rfl;have hbd:b<w.heap.size:=hs.heap.bd b hFb;have st:B7 F w (fun k=>F k∧k≠b) w:=⟨Nat.le_refl _,fun _ _ _=>rfl,fun _ h _ h'=>h h'.1⟩;have hne:∀x∈H.eraseIdx i,∀k,x.key=some k→k≠b:=by
  intro x hx k hk hkb;subst hkb;obtain⟨j,hj⟩:=List.mem_iff_getElem?.1 hx;rw[List.getElem?_eraseIdx] at hj;split at hj
  ·have:=D2 hs.heap.nodup hj hi hk rfl;omega
  have:=D2 hs.heap.nodup hj hi hk rfl;omega
 have hsub:(H.eraseIdx i).Sublist H:=List.eraseIdx_sublist H i;refine⟨fun k=>F k∧k≠b,⟨hs.size,?_,?_,Ct.mono st _ _ hs.defs⟩,?_⟩
 ·intro t;simp only[F7];cases hq:ts.any (Nat.beq t ·) with
  | false=>exact BM.mono st _ _ (hs.tmp t)
  | true =>
   obtain⟨t',ht',he⟩:=List.any_eq_true.1 hq;have e:=Nat.eq_of_beq_eq_true he;subst e;have hv:=hs.tmp t;simp only[ht t ht',BM] at hv;obtain⟨vs,T,hb,hr⟩:=hs.heap.obj _ hmem;show BM (fun k=>F k∧k≠b) w (.ref cs) _;simp only[BM];exact⟨b,0,hv,fun h=>h.2 O,hbd,OX hb cs 0 (by rw[List.drop_zero];exact A8.mono st _ _ hr)⟩
 ·have:=hs.heap.sublist hsub;exact⟨fun x hx k hk=>⟨this.sub x hx k hk,hne x hx k hk⟩,this.nodup,fun x hx=>ES.mono st x (fun _ _=>O) (this.obj x hx),fun k hk=>this.bd k hk.1⟩
 exact⟨Nat.le_refl _,fun _ _ _=>O,fun k hk hn=>⟨hk,fun e=>hn _ hmem (by rw[e];rfl)⟩,fun k hk=> .inl hk.1,fun x hx k hk=> .inl ⟨x,hsub.subset hx,hk⟩,O,O,O⟩
def cj (k:ByteArray):List (ByteArray×AV)→Option AV
 | []=>none
 | (j,x)::r=>if j=k then some x else cj k r
def sset (k:ByteArray) (v:AV):List (ByteArray×AV)→List (ByteArray×AV)
 | []=>[(k,v)]
 | (j,x)::r=>if j=k then (j,v)::r else (j,x)::sset k v r
def eu (l:List (ByteArray×AV)):List (PV×AV):=l.map fun p=>(.str p.1,p.2)
def cD (P:Program) (T:TypeId):Option TypeId :=
 match P.underlying T with
 | some (.map k e)=>match P.underlying k with
  | some .string=>some e
  | _=>none
 | _=>none
section
variable {F:Nat→Prop}{w:World}
end
section
variable {P:Program}{dst:Option Tmp}{ty:TypeId}{pos:String}{aft:Array Edge}{g:Option (Nat×Bool)}{ρ:Operand→AV}{H:List Ap}{x y z:Operand}{v:AV}
end
section
variable {P:Program}{dst:Option Tmp}{ty:TypeId}{pos:String}{aft:Array Edge}{g:Option (Nat×Bool)}{ρ:Operand→AV}{H:List Ap}{x y z:Operand}{v:AV}
def appendTR (i:Nat) (e:TypeId) (rows:List (List PV)) (H:List Ap):CA→List Ap→Prop
 | .val v,H'=>∃o c,v= .vs o rows.length c∧H'=H.set i (.vecT o e false rows c)
 | .panic _,_=>False
end
section
variable {P:Program}{r:Option Nat}{ops:Array Oper}{Q:Bl→A4→Prop}{k:Nat}{n:Nat}{τ:Nat→AV}{H H':List Ap}{D:List CI}{dst:Option Tmp}{op:Op}{ty:TypeId}{pos:String}{aft:Array Edge}{g:Option (Nat×Bool)}{v:AV}
end
section
variable {P:Program}{dst:Option Tmp}{ty:TypeId}{pos:String}{aft:Array Edge}{g:Option (Nat×Bool)}{ρ:Operand→AV}{H:List Ap}{x f:Operand}
end
section
variable {P:Program}{ops:Array Oper}{n:Nat}{τ₀ τ:Nat→AV}{D:List CI}{Q:Bl→A4→Prop}{opn:Nat→Bool}{k:Nat}{T:List Ap}{dst:Option Tmp}{ty:TypeId}{pos:String}{aft:Array Edge}{c:Call}{f:Operand}{fid:FuncId}{first caps A:List AV}{v:AV}{C:List Ap→Prop}
end
def Qd (l:List UInt8):List (List PV):=l.map fun b=>[PV.int .u8 b.toNat]
def BW (U e:TypeId) (b:Nat) (l:List UInt8) (T:List Ap):Prop :=
 ∃a o cp,(a= .nilp∨a= .ptr b 0)∧T=[.boxT b U [a,.vs o (Qd l).length cp],.vecT o e false (Qd l) cp]
def BX (U e:TypeId) (b:Nat) (l:List UInt8) (T:List Ap):Prop :=
 ∃a o cp fr,T=[.boxT b U [a,.vs (some o) (Qd l).length cp],.vecT (some o) e fr (Qd l) cp]
def fh (l:List UInt8):ByteArray:=⟨l.toArray⟩
section
variable {P:Program}{dst:Option Tmp}{ty:TypeId}{pos:String}{aft:Array Edge}{g:Option (Nat×Bool)}{ρ:Operand→AV}{H:List Ap}{x y z:Operand}
end
theorem ML {α:Type}:∀(xs l:List α) (o:Nat),o+xs.length≤l.length→splice l o xs=l.take o++xs++l.drop (o+xs.length)
 | [],l,o,h=>by simp[splice]
 | x::xs,l,o,h=>by
  simp only[List.length_cons] at h;rw[splice,ML xs _ _ (by rw[List.length_set];omega)];have h1:(l.set o x).take (o+1)=l.take o++[x]:=by
   rw[List.take_add_one,List.getElem?_set_self Aa,List.take_set_of_le (Nat.le_refl _)];rfl
  have h2:(l.set o x).drop (o+1+xs.length)=l.drop (o+(x::xs).length):=by
   rw[List.drop_set_of_lt Aa];congr 1;simp only[List.length_cons];omega
  rw[h1,h2];simp
def DS:Nat→List (List PV)→List (Nat×AV)
 | _,[]=>[]
 | k,r::rs=>(k,.agg (r.map .p))::DS (k+1) rs
theorem Od {sz:Nat}:∀(rows:List (List PV)) (k:Nat) (base:List AV),(∀r∈rows,r.length=sz)→(k+rows.length)*sz=base.length→Et (fun i=>some (i*sz,sz)) base (DS k rows)=some (base.take (k*sz)++rows.flatten.map .p)
 | [],k,base,hr,hb=>by
  simp only[List.length_nil,Nat.add_zero] at hb;simp[DS,Et,hb]
 | r::rows,k,base,hr,hb=>by
  have hl:=hr r Ab;have hb2:k*sz+sz+rows.length*sz=base.length:=by
   rw[←hb,List.length_cons,Nat.add_mul,Nat.add_mul,Nat.one_mul];omega
  simp only[DS,Et,DC];rw[if_pos ⟨by simp[hl],by simp[hl];omega⟩,ML _ _ _ (by simp[hl];omega)];rw[Od rows (k+1) _ (fun x hx=>hr x (by simp[hx])) (by simp only[List.length_append,List.length_take,List.length_drop,List.length_map,hl];rw[Nat.add_mul,Nat.add_mul,Nat.one_mul];omega)];congr 1;have h1:((base.take (k*sz)++r.map AV.p)++base.drop (k*sz+(r.map AV.p).length)).take ((k+1)*sz)=base.take (k*sz)++r.map .p:=by
   have:(k+1)*sz=(base.take (k*sz)++r.map AV.p).length:=by
    simp only[List.length_append,List.length_take,List.length_map,hl];rw[Nat.add_mul,Nat.one_mul];omega
   rw[this,List.take_left'];rfl
  rw[h1];simp
theorem JC {α:Type}{sz:Nat}:∀{rows:List (List α)},(∀r∈rows,r.length=sz)→chunks sz rows.length rows.flatten=rows
 | [],_=>rfl
 | r::rows,h=>by
  have hl:=h r Ab;simp only[List.length_cons,chunks,List.flatten_cons];rw[List.take_left' hl,List.drop_left' hl,JC fun x hx=>h x (by simp[hx])]
theorem Jx:∀(rows:List (List PV)) (k:Nat),(∀r∈rows,∀c∈r,c≠ .nils)→(DS k rows).map (fun p=>(p.1,norm p.2))=DS k rows
 | [],k,h=>rfl
 | r::rows,k,h=>by
  simp only[DS,List.map_cons];show (k,AV.agg ((r.map AV.p).map dn))::_=_;rw[Jx rows (k+1) fun x hx=>h x (by simp[hx])];congr 3;have:=h r Ab;clear h
  induction r with
  | nil=>rfl
  | cons c r ih =>
   simp only[List.map_cons];rw[ih fun d hd=>this d (by simp[hd])];have:=this c Ab;cases c<;>simp_all [dn]
section
variable {P:Program}{dst:Option Tmp}{ty:TypeId}{pos:String}{aft:Array Edge}{g:Option (Nat×Bool)}{ρ:Operand→AV}{H:List Ap}
theorem J6:∀(r:List PV),Dh (r.map .p)=some r
 | []=>rfl
 | c::r=>by simp[Dh,J6 r]
theorem O3 {parts:Array (Nat×Operand)}{rows:List (List PV)}(hp:parts.toList.map (fun p=>(p.1,ρ p.2))=DS 0 rows) (hn:∀r∈rows,∀c∈r,c≠ .nils):parts.toList.map (fun p=>(p.1,norm (ρ p.2)))=DS 0 rows:=by
 have h2:=Jx rows 0 hn;rw[←hp,List.map_map] at h2;rw[←hp];exact h2
theorem BG {T e:TypeId}{len sz bytes:Nat}{parts:Array (Nat×Operand)}{z:Value}{rows:List (List PV)}(hT:Cy P T=some (e,sz,bytes)) (hz:zeroOf P e=some z) (hsz:z.cells.size=sz) (hpos:(Nat.blt 0 sz&&Nat.ble (len*sz) 16777216)=true)
  (hp:parts.toList.map (fun p=>(p.1,ρ p.2))=DS 0 rows) (hl:rows.length=len) (hr:∀r∈rows,r.length=sz) (hn:∀r∈rows,∀c∈r,c≠ .nils) :
  CG P ⟨dst,.buildSlice T len parts,ty,pos,aft,g⟩ ρ H (.p (.lst rows)) H:=by
 subst hl;refine Bt (cs:=rows.flatten.map .p) (ps:=rows.flatten) hT hz hsz hpos ?_ (J6 _) (JC hr);rw[O3 hp hn,Od rows 0 _ hr (by simp[hsz])];simp
end
section
variable {P:Program}{ops:Array Oper}{n:Nat}{τ₀:Nat→AV}{D:List CI}{Q:Bl→A4→Prop}{opn:Nat→Bool}{k:Nat}{τ:Nat→AV}{H:List Ap}{rd:On}{ef:OY}{effs:List Bool}{fx:List (Nat×Sp)}{dst:Option Tmp}{op:Op}{ty:TypeId}{pos:String}{aft:Array Edge}
theorem Xn {sz:Nat}{rows:List (List PV)}(fx':List (Nat×Sp)) (ho:ops[k]?=some ⟨dst,op,ty,pos,aft,none⟩) (hn:opn k=true) (h:Bz P ⟨dst,op,ty,pos,aft,none⟩ (ev τ) H (GK sz rows H)) (haft:Cg ops k (fx'.map (·.1))=true)
  (next:∀b c,FJ ops k H (.vec (some b) sz rows c::H) rd∧Dx k (.eff (.vs (some b) rows.length c) (.vec (some b) sz rows c::H)) fx∧Dr P ops n τ₀ D Q opn (k+1) (put τ dst (.vs (some b) rows.length c)) (.vec (some b) sz rows c::H) rd ((k,H,.vec (some b) sz rows c::H)::ef) (true::effs) (fx'++fx)):Dr P ops n τ₀ D Q opn k τ H rd ef effs fx :=
 Gb fx' ho hn h haft ⟨_,_,0,0,rfl,rfl⟩ (fun _ _ h=>h.elim) (fun v H' ⟨b,c,h1,h2⟩=>by subst h1;subst h2;exact next b c)
end
section
variable {P:Program}{ty:TypeId}{pos:String}{aft:Array Edge}{g:Option (Nat×Bool)}{ρ:Operand→AV}{H:List Ap}{x y:Operand}
end
inductive Ey where
 | val (v:AV)
 | skip
 | new (cs:List AV)
 | newv (sz:Nat) (rows:List (List PV))
def Ey.v (b:Nat×Nat):Ey→AV
 | .val v=>v
 | .skip=> .tup []
 | .new _=> .ptr b.1 0
 | .newv _ rows=> .vs (some b.1) rows.length b.2
def Ey.box (b:Nat×Nat):Ey→List Ap
 | .new cs=>[.box b.1 cs]
 | .newv sz rows=>[.vec (some b.1) sz rows b.2]
 | _=>[]
def Xu (P:Program) (ops:Array Oper) (H₀:List Ap) (o:Oper) (τ:Nat→AV):Ey→Prop
 | .val v=>B8 ops ⟨0,τ,[],[]⟩ o∧∀Bs,CG P o (ev τ) (Bs++H₀) v (Bs++H₀)
 | .skip=>∃j want d,o.guard=some (j,want)∧(ops[j]?).bind (·.dst)=some d∧WZ (τ d) want
 | .new cs=>o.guard=none∧∀Bs,Bz P o (ev τ) (Bs++H₀) (FC cs (Bs++H₀))
 | .newv sz rows=>o.guard=none∧∀Bs,Bz P o (ev τ) (Bs++H₀) (GK sz rows (Bs++H₀))
def EW (P:Program) (ops:Array Oper) (H₀:List Ap):Nat→(Nat→AV)→List Ey→((Nat→AV)→List Ap→Prop)→Prop
 | _,τ,[],K=>K τ []
 | k,τ,e::r,K=>∃o,ops[k]?=some o∧Xu P ops H₀ o τ e∧∀b,EW P ops H₀ (k+1) (put τ o.dst (e.v b)) r (fun τ' Hs=>K τ' (e.box b++Hs))
def IC (β:Nat→Nat×Nat):Nat→List Ey→List Sp
 | _,[]=>[]
 | k,e::r=> .free (e.v (β k))::IC β (k+1) r
def Y5 (β:Nat→Nat×Nat):Nat→List Ey→List Ap
 | _,[]=>[]
 | k,e::r=>e.box (β k)++Y5 β (k+1) r
def Ot (β:Nat→Nat×Nat) (l:Nat→Bool):Nat→List Ey→List Ap
 | _,[]=>[]
 | k,e::r=>(if l k=true then e.box (β k) else [])++Ot β l (k+1) r
theorem Jg (β:Nat→Nat×Nat):∀(r:List Ey) (k j:Nat),j<r.length→(IC β k r).getD j .skip= .free ((r.getD j .skip).v (β (k+j)))
 | [],k,j,h=>by simp at h
 | e::r,k,0,h=>by simp[IC]
 | e::r,k,j+1,h=>by
  have:=Jg β r (k+1) j (by simpa using h);simp only[IC,List.getD_cons_succ];rw[this,show k+1+j=k+(j+1) by omega]
theorem Qh (β:Nat→Nat×Nat):∀(r:List Ey) (k:Nat),(IC β k r).length=r.length
 | [],k=>rfl
 | e::r,k=>by simp[IC,Qh β r (k+1)]
theorem P0 (β:Nat→Nat×Nat) {r:List Ey}{k j:Nat}(h:r.length≤j):(IC β k r).getD j .skip= .skip:=by
 rw[List.getD_eq_getElem?_getD,List.getElem?_eq_none (by rw[Qh];exact h)];rfl
theorem U5 (β:Nat→Nat×Nat) (r:List Ey) (k j:Nat):((IC β k r).getD j .skip).isEff=false:=by
 rcases Nat.lt_or_ge j r.length with h | h
 ·rw[Jg β r k j h];rfl
 rw[P0 β h];rfl
theorem Tx (β:Nat→Nat×Nat) (r:List Ey) (k j:Nat) (ob:List Ap) (v:AV):(IC β k r).getD j .skip≠ .read ob v:=by
 rcases Nat.lt_or_ge j r.length with h | h
 ·rw[Jg β r k j h];simp
 rw[P0 β h];simp
theorem Je (β:Nat→Nat×Nat) {r:List Ey}{j:Nat}(h:j<r.length):((IC β 0 r).getD j .skip).val=(r.getD j .skip).v (β j):=by
 rw[Jg β r 0 j h,Nat.zero_add];rfl
theorem EW.facts {P:Program}{ops:Array Oper}{H₀:List Ap}{τ:Nat→AV}{base:List Ey}(β:Nat→Nat×Nat):∀(r:List Ey) (k:Nat) (τk:Nat→AV) (K:(Nat→AV)→List Ap→Prop),base.drop k=r→k+r.length=base.length→τk=τS ops (IC β 0 base) τ k→EW P ops H₀ k τk r K →
  (∀j,k≤j→j<base.length→∃o,ops[j]?=some o∧Xu P ops H₀ o (τS ops (IC β 0 base) τ j) (base.getD j .skip))∧K (τS ops (IC β 0 base) τ base.length) (Y5 β k r)
 | [],k,τk,K,hd,hk,ht,h=>by
  simp only[List.length_nil,Nat.add_zero] at hk;subst hk;exact⟨fun j h1 h2=>by omega,by rw[←ht];exact h⟩
 | e::r,k,τk,K,hd,hk,ht,h=>by
  obtain⟨o,ho,hok,hn⟩:=h;simp only[List.length_cons] at hk;have hb:base.getD k .skip=e:=by
   have:(base.drop k)[0]?=some e:=by rw[hd];rfl
   rw[List.getElem?_drop] at this;rw[List.getD_eq_getElem?_getD,show k=k+0 by omega,this];rfl
  have hd2:base.drop (k+1)=r:=by
   rw[←List.drop_drop,hd];rfl
  obtain⟨h1,h2⟩:=EW.facts (τ:=τ) (base:=base) β r (k+1) _ _ hd2 Aa (by simp only[τS,ho,Option.bind_some];rw[Je β Aa,hb,←ht]) (hn (β k));refine⟨fun j hj hl=>?_,h2⟩;by_cases e2:j=k
  ·subst e2;exact⟨o,ho,by rw[hb,←ht];exact hok⟩
  exact h1 j Aa hl
theorem Ik {β β':Nat→Nat×Nat}{l l':Nat→Bool}:∀(r:List Ey) (k:Nat),(∀j,k≤j→l j=l' j∧(l j=true→β j=β' j))→Ot β l k r=Ot β' l' k r
 | [],k,h=>rfl
 | e::r,k,h=>by
  simp only[Ot];obtain⟨h1,h2⟩:=h k (Nat.le_refl _);rw[Ik r (k+1) fun j hj=>h j Aa,←h1];cases hl:l k
  ·rfl
  rw[h2 hl]
theorem Qt {β:Nat→Nat×Nat}{l:Nat→Bool}{i:Nat}{b:Nat×Nat}(hi:l i=false):∀(r:List Ey) (k:Nat),k≤i→i<k+r.length→((r.getD (i - k) .skip).box b++Ot β l k r).Perm (Ot (fun j=>if j=i then b else β j) (fun j=>l j||j==i) k r)
 | [],k,h1,h2=>by simp at h2;omega
 | e::r,k,h1,h2=>by
  simp only[Ot];by_cases hk:k=i
  ·subst hk;simp only[hi,Bool.false_eq_true,if_false,List.nil_append,Nat.sub_self,List.getD_cons_zero,beq_self_eq_true,Bool.or_true,if_true];rw[Ik (β':=fun j=>if j=k then b else β j) (l':=fun j=>l j||j==k) r (k+1) fun j hj=>⟨by simp[show (j==k)=false by simp;omega],fun _=>by rw[if_neg Aa]⟩]
  have hp:=Qt (β:=β) hi r (k+1) (b:=b) Aa (by simp only[List.length_cons] at h2;omega);have e1:(e::r).getD (i - k) .skip=r.getD (i - (k+1)) .skip:=by
   rw[show i - k=(i - (k+1))+1 by omega];rfl
  have e2:(if (l k||k==i)=true then e.box (if k=i then b else β k) else [])=(if l k=true then e.box (β k) else []):=by
   rw[if_neg hk];simp[hk]
  rw[e1,e2];refine List.Perm.trans ?_ (hp.append_left _);rw[←List.append_assoc,←List.append_assoc];exact List.perm_append_comm.append_right _
theorem QS {β:Nat→Nat×Nat}{l:Nat→Bool}:∀(r:List Ey) (k:Nat),(∀j,k≤j→j<k+r.length→l j=true)→Ot β l k r=Y5 β k r
 | [],k,h=>rfl
 | e::r,k,h=>by
  simp only[Ot,Y5];rw[if_pos (h k (Nat.le_refl _) Ab),QS r (k+1) fun j h1 h2=>h j Aa (by simp only[List.length_cons];omega)]
theorem OW {β:Nat→Nat×Nat}{l:Nat→Bool}:∀(r:List Ey) (k:Nat),(∀j,l j=false)→Ot β l k r=[]
 | [],k,h=>rfl
 | e::r,k,h=>by simp only[Ot];rw[OW r (k+1) h,h k];rfl
def V5 (ops:Array Oper) (e:Nat):Bool:=(List.range ops.size).all fun i=>Nat.blt i e||(List.range i).all fun j=>Ha ops j i
theorem Kj {ops:Array Oper}{e:Nat}(h:V5 ops e=true) {i j:Nat}(hi:e≤i) (hs:i<ops.size) (hj:j<i):Pred ops j i:=by
 have:=List.all_eq_true.1 h i (by simpa using hs);simp only[Bool.or_eq_true] at this;rcases this with h1 | h1
 ·rw[Nat.blt_eq] at h1;omega
 exact Cj (List.all_eq_true.1 h1 j (by simpa using hj))
theorem Gc {P:Program}{r:Option Nat}{ops:Array Oper}{id n:Nat}{τ:Nat→AV}{H:List Ap}{D:List CI}{Q:Bl→A4→Prop}(base:List Ey) (hm:P.follows .mixedOrders=true)
  (he:Nat.ble base.length ops.size=true) (chk:Ir ops n []=true) (late:V5 ops base.length=true) (h:EW P ops H 0 τ base (fun τ' Hs=>AL P r ops base.length ⟨n,τ',Hs++H,D⟩ Q)):EX P r (.region id ops true) ⟨n,τ,H,D⟩ Q:=by
 intro F₀ a₀ w₀ hs₀;rw[Nat.ble_eq] at he;refine wpIn_region_any hm ?_;have same:B7 F₀ w₀ F₀ { w₀ with drawn:=w₀.drawn+1 }:=⟨Nat.le_refl _,fun _ _ _=>rfl,fun _ h _=>h⟩;have t₀:Trans F₀ H w₀ F₀ H { w₀ with drawn:=w₀.drawn+1 } :=
  ⟨Nat.le_refl _,fun _ _ _=>rfl,fun _ h _=>h,fun _ h=> .inl h,fun o ho b hb=> .inl ⟨o,ho,hb⟩,rfl,rfl,rfl⟩
 have hs₁:CL F₀ ⟨n,τ,H,D⟩ a₀ { w₀ with drawn:=w₀.drawn+1 } :=
  ⟨hs₀.size,fun t=>BM.mono same _ _ (hs₀.tmp t),hs₀.heap.stable' same (fun _ h=>h) (fun _ _ _ _=>rfl) hs₀.heap.bd,Ct.mono same _ _ hs₀.defs⟩
 obtain⟨hdst,c0,c1,c2,_⟩:=Ih chk;have hd:∀β,Ju P ops n (fun _=>False) τ H (IC β 0 base):=fun β =>
  ⟨hdst,fun _ _ _ h=>h.elim,c0,c1,c2,fun i k _ _ h _=>(by rw[U5] at h;cases h),fun i e ob v _ _ _ h _ _=>absurd h (Tx β base 0 i ob v)⟩
 have hE:∀β,(∀j,j<base.length→∃o,ops[j]?=some o∧Xu P ops H o (τS ops (IC β 0 base) τ j) (base.getD j .skip))∧AL P r ops base.length ⟨n,τS ops (IC β 0 base) τ base.length,Y5 β 0 base++H,D⟩ Q:=fun β=>by
  obtain⟨h1,h2⟩:=EW.facts (base:=base) β base 0 τ _ Ab Ab rfl h;exact⟨fun j hj=>h1 j (Nat.zero_le _) hj,h2⟩
 -- where all of the first part has been carried out,the rest goes in the order of the text
 have conv:∀{l:Array Bool} {a w β τ' F Hb},(∀j,j<base.length→l.getD j false=true)→(∀k,base.length≤k→l.getD k false=false)→ED ops (IC β 0 base) τ (fun i=>l.getD i false=true) τ'→Hb.Perm (Ot β (fun k=>l.getD k false) 0 base)→CL F ⟨n,τ',Hb++H,D⟩ a w→Trans F₀ H w₀ F (Hb++H) w →
   wpOpsIn (W r) 0 P ops (post F₀ H w₀ Q) (List.range' base.length (ops.size - base.length)) a w:=by
  intro l a w β τ' F Hb hall hno hτ hp hs ht;have hτe:τ'=τS ops (IC β 0 base) τ base.length:=by
   funext t;have h2:=H9 (hd β) base.length he t;by_cases hw:∃(k:Nat) (o':Oper),ops[k]?=some o'∧o'.dst=some t∧k<base.length
   ·obtain⟨k,o',ho',hk,hlt⟩:=hw;rw[(hτ t).1 k o' ho' hk (hall k hlt),h2.1 k o' ho' hk hlt]
   have hw':∀(k:Nat) o',ops[k]?=some o'→o'.dst=some t→¬k<base.length:=fun k o' h1 h2 h3=>hw ⟨k,o',h1,h2,h3⟩;rw[(hτ t).2 fun k o' h1 h2 h3=>(by have h4:l.getD k false=true:=h3;have:=hno k (by have:=hw' k o' h1 h2;omega);rw[this] at h4;cases h4),h2.2 fun k o' h1 h2 h3=>hw' k o' h1 h2 h3]
  rw[QS base 0 fun j _ hj=>hall j Aa] at hp;have hp2:=hp.append_right H;have:=(hE β).2 F a w (by rw[←hτe];exact⟨hs.size,hs.tmp,hs.heap.perm hp2,hs.defs⟩);refine CZ (fun e a' w' hq=>?_) _ _ _ this;exact De hs₀.heap.bd { ht with keys:=fun o ho=>ht.keys o (hp2.mem_iff.2 ho) } hq
 refine Ib (I:=fun l a w=>l.size=ops.size∧((∃β τ' F Hb,Down ops (fun i=>l.getD i false=true)∧(∀k,base.length≤k→l.getD k false=false)∧ED ops (IC β 0 base) τ (fun i=>l.getD i false=true) τ'∧Hb.Perm (Ot β (fun k=>l.getD k false) 0 base)∧CL F ⟨n,τ',Hb++H,D⟩ a w∧Trans F₀ H w₀ F (Hb++H) w) ∨
  (∃m,base.length≤m∧m≤ops.size∧(∀k,k<ops.size→(l.getD k false=true↔k<m))∧wpOpsIn (W r) 0 P ops (post F₀ H w₀ Q) (List.range' m (ops.size - m)) a w))) (fun l a w h=>h.1) ?_ ?_ _ _ _ _ ?_ ?_
 ·rintro l a w ⟨hsz,hI⟩ i hi;obtain⟨hun,o,ho,hall⟩:=mem_ready.1 hi;have hlt:i<ops.size:=by
   rcases Nat.lt_or_ge i ops.size with h | h
   ·exact h
   simp[Array.getElem?_eq_none h] at ho
  have hil:i<l.size:=by omega
  have hnot:l.getD i false=false:=by
   have:l[i]=false:=by simpa [hil] using hun
   simp[hil,this]
  have hr:∀j∈Cv o,l.getD j false=true:=by
   intro j hj;simp only[Cv,List.mem_map,List.mem_filter] at hj;obtain⟨e,⟨he,hb⟩,rfl⟩:=hj;exact hall e (by simpa using he) hb
  have hset:∀k,(l.setIfInBounds i true).getD k false=true↔(l.getD k false=true∨k=i):=by
   intro k;by_cases hk:k=i
   ·subst hk;simp[hil]
   simp[Array.getElem?_setIfInBounds_ne (Ne.symm hk),hk]
  have hset2:∀k,(l.setIfInBounds i true).getD k false=(l.getD k false||k==i):=by
   intro k;by_cases hk:k=i
   ·subst hk;simp[hil]
   simp[Array.getElem?_setIfInBounds_ne (Ne.symm hk),hk]
  have hsz':(l.setIfInBounds i true).size=ops.size:=by simp[hsz]
  have goLate:∀m,i=m→base.length≤m→m≤ops.size→(∀k,k<ops.size→(l.getD k false=true↔k<m))→wpOpsIn (W r) 0 P ops (post F₀ H w₀ Q) (List.range' m (ops.size - m)) a w →
    wpOpIn (W r) 0 P ops (post F₀ H w₀ Q) i (fun a w=>(l.setIfInBounds i true).size=ops.size∧((∃β τ' F Hb,Down ops (fun k=>(l.setIfInBounds i true).getD k false=true)∧(∀k,base.length≤k→(l.setIfInBounds i true).getD k false=false)∧ED ops (IC β 0 base) τ (fun k=>(l.setIfInBounds i true).getD k false=true) τ'∧Hb.Perm (Ot β (fun k=>(l.setIfInBounds i true).getD k false) 0 base)∧CL F ⟨n,τ',Hb++H,D⟩ a w∧Trans F₀ H w₀ F (Hb++H) w) ∨
     (∃m,base.length≤m∧m≤ops.size∧(∀k,k<ops.size→((l.setIfInBounds i true).getD k false=true↔k<m))∧wpOpsIn (W r) 0 P ops (post F₀ H w₀ Q) (List.range' m (ops.size - m)) a w))) a w:=by
   intro m him h1 h2 h3 hw;subst him;rw[FZ hlt,wpOpsIn_cons] at hw;refine wpOpIn_mono (fun a' w' h'=>⟨hsz',.inr ⟨i+1,by omega,by omega,fun k hk=>?_,h'⟩⟩) hw;rw[hset k,h3 k hk];omega
  rcases hI with ⟨β,τ',F,Hb,hdown,hno,hτ,hp,hs,ht⟩ | ⟨m,hm1,hm2,hm3,hw⟩
  ·rcases Nat.lt_or_ge i base.length with hib | hib
   ·-- of the first part
    obtain⟨o',ho',hok⟩:=(hE β).1 i hib;rw[ho] at ho';injection ho' with ho';subst ho';have hlook:∀t∈K4 ops o,τ' t=τS ops (IC β 0 base) τ i t:=fun t ht=>Il (hd β) hdown hτ ho (by rw[hnot];decide) hr ht;have hops:∀x∈o.op.operands.toList,ev τ' x=ev (τS ops (IC β 0 base) τ i) x:=by
     intro x hx;cases x with
     | tmp t=>exact hlook t (List.mem_append_left _ (List.mem_filterMap.2 ⟨.tmp t,hx,rfl⟩))
     | _=>rfl
    have hguard:∀j want d,o.guard=some (j,want)→(ops[j]?).bind (·.dst)=some d→τ' d=τS ops (IC β 0 base) τ i d:=by
     intro j want d hg hj;refine hlook d (List.mem_append_right _ ?_);simp[hg,hj]
    have hdown':Down ops (fun k=>(l.setIfInBounds i true).getD k false=true):=by
     intro k o' j ho' hk hj;rcases (hset k).1 hk with h | h
     ·exact(hset j).2 (.inl (hdown k o' j ho' h hj))
     subst h;rw[ho] at ho';injection ho' with ho';subst ho';exact(hset j).2 (.inl (hr j hj))
    have hno':∀k,base.length≤k→(l.setIfInBounds i true).getD k false=false:=by
     intro k hk;rw[hset2 k,hno k hk];simp;omega
    generalize hbe:base.getD i .skip=e at hok;have close:∀{a' w' F' b H'},H'=e.box b++(Hb++H)→CL F' ⟨n,put τ' o.dst (e.v b),H',D⟩ a' w'→Trans F (Hb++H) w F' H' w' →
      (l.setIfInBounds i true).size=ops.size∧((∃β τ' F Hb,Down ops (fun k=>(l.setIfInBounds i true).getD k false=true)∧(∀k,base.length≤k→(l.setIfInBounds i true).getD k false=false)∧ED ops (IC β 0 base) τ (fun k=>(l.setIfInBounds i true).getD k false=true) τ'∧Hb.Perm (Ot β (fun k=>(l.setIfInBounds i true).getD k false) 0 base)∧CL F ⟨n,τ',Hb++H,D⟩ a' w'∧Trans F₀ H w₀ F (Hb++H) w') ∨
       (∃m,base.length≤m∧m≤ops.size∧(∀k,k<ops.size→((l.setIfInBounds i true).getD k false=true↔k<m))∧wpOpsIn (W r) 0 P ops (post F₀ H w₀ Q) (List.range' m (ops.size - m)) a' w')):=by
     intro a' w' F' b H' hH h3 h4;subst hH;refine⟨hsz',.inl ⟨fun j=>if j=i then b else β j,put τ' o.dst (e.v b),F',e.box b++Hb,hdown',hno',?_,?_,by rw[List.append_assoc];exact h3,by rw[List.append_assoc];exact ht.trans hs₀.heap.bd h4⟩⟩
     ·have hτ2:ED ops (IC (fun j=>if j=i then b else β j) 0 base) τ (fun k=>l.getD k false=true) τ':=by
       intro t;refine⟨fun k o' a1 a2 a3=>?_,(hτ t).2⟩;have a4:l.getD k false=true:=a3;have hki:k≠i:=fun e=>by subst e;rw[hnot] at a4;cases a4
       rw[(hτ t).1 k o' a1 a2 a3];rcases Nat.lt_or_ge k base.length with hk | hk
       ·rw[Je _ hk,Je _ hk,if_neg hki]
       have:=hno k hk;rw[this] at a4;cases a4
      have hτ3:=hτ2.put (hd _) ho;rw[Je _ hib,if_pos rfl,hbe] at hτ3;intro t;exact⟨fun k o' a1 a2 a3=>(hτ3 t).1 k o' a1 a2 ((hset k).1 a3),fun hn=>(hτ3 t).2 fun k o' a1 a2 a3=>hn k o' a1 a2 ((hset k).2 a3)⟩
     have h1:=Qt (β:=β) (l:=fun k=>l.getD k false) (i:=i) (b:=b) hnot base 0 (Nat.zero_le _) Aa;rw[Nat.sub_zero,hbe] at h1;refine(hp.append_left _).trans (h1.trans (List.Perm.of_eq ?_));exact Ik base 0 fun j _=>⟨(hset2 j).symm,fun _=>O⟩
    have wants:B8 ops ⟨0,τS ops (IC β 0 base) τ i,[],[]⟩ o→B8 ops ⟨n,τ',Hb++H,D⟩ o:=by
     intro h;unfold B8 at *;cases hg:o.guard with
     | none=>simp[hg]
     | some jw =>
      obtain⟨j,want⟩:=jw;simp only[hg] at h ⊢;obtain⟨d,h1,h2⟩:=h;exact⟨d,h1,by rw[←h2];exact hguard j want d hg h1⟩
    have yields:B8 ops ⟨n,τ',Hb++H,D⟩ o→Bz P o (ev (τS ops (IC β 0 base) τ i)) (Hb++H) (fun r H'=>match r with | .val v=>∃b,v=e.v b∧H'=e.box b++(Hb++H) | .panic _=>False)→wpOpIn (W r) 0 P ops (post F₀ H w₀ Q) i (fun a' w'=>(l.setIfInBounds i true).size=ops.size∧((∃β τ' F Hb,Down ops (fun k=>(l.setIfInBounds i true).getD k false=true)∧(∀k,base.length≤k→(l.setIfInBounds i true).getD k false=false)∧ED ops (IC β 0 base) τ (fun k=>(l.setIfInBounds i true).getD k false=true) τ'∧Hb.Perm (Ot β (fun k=>(l.setIfInBounds i true).getD k false) 0 base)∧CL F ⟨n,τ',Hb++H,D⟩ a' w'∧Trans F₀ H w₀ F (Hb++H) w') ∨
       (∃m,base.length≤m∧m≤ops.size∧(∀k,k<ops.size→((l.setIfInBounds i true).getD k false=true↔k<m))∧wpOpsIn (W r) 0 P ops (post F₀ H w₀ Q) (List.range' m (ops.size - m)) a' w'))) a w:=by
     intro hwant hop;unfold wpOpIn;simp only[ho,FL hs hwant,if_true];have hw:=hop r F _ a w hs rfl (fun x hx=>hops x hx) (fun t ht=>hdst i o t ho ht);unfold Oper.wpIn at *;refine⟨hw.1,?_⟩;replace hw:=hw.2;generalize (o.semAt (W r).round a.eval).run P w=rr at *;cases rr with
     | ok nx w' =>
      cases nx<;>simp only[Oper.uponIn] at hw ⊢
      case value u=>obtain⟨v',H'',F',⟨b,h1,h2⟩,h3,h4⟩:=hw;subst h1;exact close h2 h3 h4
      case skip=>obtain⟨v',H'',F',⟨b,h1,h2⟩,h3,h4⟩:=hw;subst h1;exact close h2 h3 h4
      case defer d=>obtain⟨v',H'',F',⟨b,h1,h2⟩,h3,h4⟩:=hw;subst h1;exact close h2 h3 h4
      case enter f args =>
       refine⟨hw.1,hw.2.mono fun e w'' he=>?_⟩;cases e with
       | returned u=>obtain⟨v',H'',F',⟨b,h1,h2⟩,h3,h4⟩:=he;subst h1;exact close h2 h3 h4
       | panicked c=>obtain⟨_,_,_,_,h,_⟩:=he;exact h.elim
       | outgrown=>obtain⟨_,_,_,_,_,_,h,_⟩:=he;exact h.elim
      case row row args=>exact⟨hw.1,hw.2.mono fun u w'' h=>by obtain⟨v',H'',F',⟨b,h1,h2⟩,h3,h4⟩:=h;subst h1;exact close h2 h3 h4⟩
      case round l' f tmps assign body =>
       refine⟨hw.1,hw.2.mono fun e w'' he=>?_⟩;cases e with
       | returned u=>obtain⟨v',H'',F',⟨b,h1,h2⟩,h3,h4⟩:=he;subst h1;exact close h2 h3 h4
       | panicked c=>obtain⟨_,_,_,_,h,_⟩:=he;exact h.elim
       | outgrown=>obtain⟨_,_,_,_,_,_,h,_⟩:=he;exact h.elim
     | halt x w' =>
      cases x<;>simp only[Oper.uponIn] at hw ⊢
      case panic u=>obtain⟨_,_,_,_,h,_⟩:=hw;exact h.elim
    cases e with
    | val v=>exact yields (wants hok.1) ((hok.2 Hb).mono (by
      intro r H' hR;cases r with
      | val v'=>obtain⟨rfl,rfl⟩:=hR;exact⟨(0,0),rfl,rfl⟩
      | panic v'=>exact hR.elim))
    | new cs =>
     refine yields (by unfold B8;rw[hok.1];trivial) ((hok.2 _).mono ?_);intro r H' hR;cases r with
     | val v'=>obtain⟨b,rfl,rfl⟩:=hR;exact⟨(b,0),rfl,rfl⟩
     | panic v'=>exact hR.elim
    | newv sz rows =>
     refine yields (by unfold B8;rw[hok.1];trivial) ((hok.2 _).mono ?_);intro r H' hR;cases r with
     | val v'=>obtain⟨b,c,rfl,rfl⟩:=hR;exact⟨(b,c),rfl,rfl⟩
     | panic v'=>exact hR.elim
    | skip =>
     obtain⟨j,want,d,hg,hj,hb⟩:=hok;have hw:Region.wanted o (yielded ops a.tmps)=false:=Hz (S:=⟨n,τ',Hb++H,D⟩) hs hg hj (by show WZ (τ' d) want;rw[hguard j want d hg hj];exact hb);unfold wpOpIn;simp only[ho,hw,Bool.false_eq_true,if_false];refine⟨fun _ _=>Ac,close (b:=(0,0)) O ?_ .refl⟩;exact hs.put (fun t ht=>hdst i o t ho ht) ⟨Nat.le_refl _,fun _ _ _=>O,fun _ h _=>h⟩ hs.heap (by simp only[Ey.v,BM,A8,undef];exact⟨[],rfl,rfl⟩)
   -- the first of the rest
   have hpre:∀j,j<i→l.getD j false=true:=by
    intro j hj;have hpi:=Kj late hib hlt hj;have:∀{a b},Pred ops a b→b=i→l.getD a false=true:=by
     intro a b hab
     induction hab with
     | base ho' hj=>intro e;subst e;rw[ho] at ho';injection ho' with ho';subst ho';exact hr _ hj
     | trans p1 _ _ ih2=>intro e;exact hdown.pred p1 (ih2 e)
    exact this hpi O
   have hie:i=base.length:=by
    rcases Nat.lt_or_ge base.length i with h | h
    ·have h1:=hpre base.length h;rw[hno base.length (Nat.le_refl _)] at h1;cases h1
    omega
   refine goLate base.length hie (Nat.le_refl _) he (fun k hk=>⟨fun h=>?_,fun h=>hpre k Aa⟩) (conv (fun j hj=>hpre j Aa) hno hτ hp hs ht);rcases Nat.lt_or_ge k base.length with h' | h'
   ·exact h'
   rw[hno k h'] at h;cases h
  have hmi:m≤i:=by
   rcases Nat.lt_or_ge i m with h | h
   ·have:=(hm3 i hlt).2 h;rw[hnot] at this;cases this
   exact h
  have him:i=m:=by
   rcases Nat.lt_or_ge m i with h | h
   ·have hpi:=Kj late (by omega:base.length≤i) hlt h;have hdown:∀{a b},Pred ops a b→b=i→l.getD a false=true:=by
     intro a b hab
     induction hab with
     | base ho' hj=>intro e;subst e;rw[ho] at ho';injection ho' with ho';subst ho';exact hr _ hj
     | @trans a k b p1 p2 _ ih2 =>
      intro e;have hk:=ih2 e;have hks:k<ops.size:=by
       rcases Nat.lt_or_ge k ops.size with h | h
       ·exact h
       have:l.getD k false=false:=by
        have:¬k<l.size:=by omega
        simp[this]
       rw[this] at hk;cases hk
      have hkm:=(hm3 k hks).1 hk;have hak:a<k:=Pred.lt (hd fun _=>(0,0)) p1;exact(hm3 a Aa).2 Aa
    have:=(hm3 m Aa).1 (hdown hpi rfl);omega
   omega
  exact goLate m him hm1 hm2 hm3 hw
 ·rintro l a w ⟨hsz,hI⟩ hr;have hall:∀i,i<ops.size→l.getD i false=true:=by
   intro i
   induction i using Nat.strongRecOn with
   | _ i ih =>
    intro hi;cases hq:l.getD i false with
    | true=>rfl
    | false =>
     have ho:ops[i]?=some ops[i]:=Array.getElem?_eq_getElem hi;have:i∈Region.ready .any ops l:=by
      refine mem_ready.2 ⟨?_,ops[i],ho,?_⟩
      ·have:i<l.size:=by omega
       simp[this] at hq ⊢;exact hq
      intro e he hb;have hj:e.on∈Cv ops[i]:=by
       simp only[Cv,List.mem_map,List.mem_filter];exact⟨e,⟨by simpa using he,hb⟩,rfl⟩
      have hlt:=c0 i _ _ ho hj;exact ih e.on hlt Aa
     rw[hr] at this;cases this
  rcases hI with ⟨β,τ',F,Hb,hdown,hno,hτ,hp,hs,ht⟩ | ⟨m,hm1,hm2,hm3,hw⟩
  ·have hbs:base.length=ops.size:=by
    rcases Nat.lt_or_ge base.length ops.size with h | h
    ·have:=hall base.length h;rw[hno base.length (Nat.le_refl _)] at this;cases this
    omega
   have:=conv (fun j hj=>hall j Aa) hno hτ hp hs ht;rw[hbs,Nat.sub_self] at this;exact this
  have hms:m=ops.size:=by
   rcases Nat.lt_or_ge m ops.size with h | h
   ·have:=(hm3 m h).1 (hall m h);omega
   omega
  rw[hms,Nat.sub_self] at hw;exact hw
 ·refine⟨by simp,.inl ⟨fun _=>(0,0),τ,F₀,[],?_,?_,?_,?_,hs₁,t₀⟩⟩
  ·intro i o j ho hi;by_cases h:i<ops.size<;>simp[h] at hi
  ·intro k _;by_cases h:k<ops.size<;>simp[h]
  ·intro t;refine⟨fun k o ho hk hl=>?_,fun _=>O⟩;by_cases h:k<ops.size<;>simp[h] at hl
  rw[OW base 0 fun j=>by by_cases h:j<ops.size<;>simp[h]]
 have:=List.length_filter_le (fun b:Bool=> !b) (Array.replicate ops.size false).toList;simp at this ⊢
section
variable {P:Program}{ops:Array Oper}{H₀:List Ap}{k:Nat}{τ:Nat→AV}{r:List Ey}{K:(Nat→AV)→List Ap→Prop}{dst:Option Tmp}{op:Op}{ty:TypeId}{pos:String}{aft:Array Edge}{v:AV}
theorem Bg (ho:ops[k]?=some ⟨dst,op,ty,pos,aft,none⟩) (h:∀Bs,CG P ⟨dst,op,ty,pos,aft,none⟩ (ev τ) (Bs++H₀) v (Bs++H₀)) (next:EW P ops H₀ (k+1) (put τ dst v) r K):EW P ops H₀ k τ (.val v::r) K :=
 ⟨_,ho,⟨trivial,h⟩,fun _=>next⟩
theorem Iw {cs:List AV}(ho:ops[k]?=some ⟨dst,op,ty,pos,aft,none⟩) (h:∀Bs,Bz P ⟨dst,op,ty,pos,aft,none⟩ (ev τ) (Bs++H₀) (FC cs (Bs++H₀))) (next:∀b,EW P ops H₀ (k+1) (put τ dst (.ptr b 0)) r (fun τ' Hs=>K τ' (.box b cs::Hs))):EW P ops H₀ k τ (.new cs::r) K :=
 ⟨_,ho,⟨rfl,h⟩,fun b=>next b.1⟩
theorem IX (h:K τ []):EW P ops H₀ k τ [] K:=h
theorem Fh {α:Type}{Bs H:List α}{j:Nat}{x:α}(h:H[j]?=some x):(Bs++H)[Bs.length+j]?=some x:=by
 rw[List.getElem?_append_right Aa,Nat.add_sub_cancel_left];exact h
end
def aH (ops:Array Oper) (k:Nat) (ef:OY):List Ap→Prop
 | []=>True
 | ob::r=>RR ops k ob ef∧aH ops k ef r
section
variable {P:Program}{ops:Array Oper}{n:Nat}{τ₀:Nat→AV}{D:List CI}{Q:Bl→A4→Prop}{opn:Nat→Bool}{k:Nat}{τ:Nat→AV}{H Hs:List Ap}{rd:On}{ef:OY}{effs:List Bool}{fx:List (Nat×Sp)}{dst:Option Tmp}{ty:TypeId}{pos:String}{aft:Array Edge}{v:AV}{c:Call}{f:Operand}{fid:FuncId}{first caps A:List AV}
end
def ax (P:Program) (T:TypeId):Bool :=
 match P.underlying T with
 | some (.struct fs)=>match fs.toList with
  | [f,g]=>f.name != "_" &&g.name != "_" &&Nat.beq f.offset 0&&Nat.beq g.offset 1&&(match P.underlying f.type,P.underlying g.type with | some (.int .i64),some .bool=>true | _,_=>false)&& !P.stoodInHeld T&& !P.eqGuardType P.depth T
  | _=>false
 | _=>false
section
variable {P:Program}{dst:Option Tmp}{ty:TypeId}{pos:String}{aft:Array Edge}{g:Option (Nat×Bool)}{ρ:Operand→AV}{H:List Ap}{x y z:Operand}{v:AV}
end
abbrev BV:=Nat×Nat×AV
inductive Ez where
 | val (v:AV)
 | skip
 | new (cs:List AV)
 | newv (sz:Nat) (rows:List (List PV))
 | rel (R:AV→Prop)
def Ez.v (b:BV):Ez→AV
 | .val v=>v
 | .skip=> .tup []
 | .new _=> .ptr b.1 0
 | .newv _ rows=> .vs (some b.1) rows.length b.2.1
 | .rel _=>b.2.2
def Ez.box (b:BV):Ez→List Ap
 | .new cs=>[.box b.1 cs]
 | .newv sz rows=>[.vec (some b.1) sz rows b.2.1]
 | _=>[]
def Ez.ok (b:BV):Ez→Prop
 | .rel R=>R b.2.2
 | _=>True
def Wk:List Ez→Prop
 | []=>True
 | .rel R::r=>(∃v,R v)∧Wk r
 | _::r=>Wk r
def Pc (P:Program) (ops:Array Oper) (H₀:List Ap) (o:Oper) (τ:Nat→AV):Ez→Prop
 | .val v=>B8 ops ⟨0,τ,[],[]⟩ o∧∀Bs,CG P o (ev τ) (Bs++H₀) v (Bs++H₀)
 | .skip=>∃j want d,o.guard=some (j,want)∧(ops[j]?).bind (·.dst)=some d∧WZ (τ d) want
 | .new cs=>o.guard=none∧∀Bs,Bz P o (ev τ) (Bs++H₀) (FC cs (Bs++H₀))
 | .newv sz rows=>o.guard=none∧∀Bs,Bz P o (ev τ) (Bs++H₀) (GK sz rows (Bs++H₀))
 | .rel R=>o.guard=none∧∀Bs,Bz P o (ev τ) (Bs++H₀) (Ob R (Bs++H₀))
def EV (P:Program) (ops:Array Oper) (H₀:List Ap):Nat→(Nat→AV)→List Ez→((Nat→AV)→List Ap→Prop)→Prop
 | _,τ,[],K=>K τ []
 | k,τ,e::r,K=>∃o,ops[k]?=some o∧Pc P ops H₀ o τ e∧∀b,e.ok b→EV P ops H₀ (k+1) (put τ o.dst (e.v b)) r (fun τ' Hs=>K τ' (e.box b++Hs))
def Eb (β:Nat→BV):Nat→List Ez→List Sp
 | _,[]=>[]
 | k,e::r=> .free (e.v (β k))::Eb β (k+1) r
def UQ (β:Nat→BV):Nat→List Ez→List Ap
 | _,[]=>[]
 | k,e::r=>e.box (β k)++UQ β (k+1) r
def Qw (β:Nat→BV) (l:Nat→Bool):Nat→List Ez→List Ap
 | _,[]=>[]
 | k,e::r=>(if l k=true then e.box (β k) else [])++Qw β l (k+1) r
theorem JY (β:Nat→BV):∀(r:List Ez) (k j:Nat),j<r.length→(Eb β k r).getD j .skip= .free ((r.getD j .skip).v (β (k+j)))
 | [],k,j,h=>by simp at h
 | e::r,k,0,h=>by simp[Eb]
 | e::r,k,j+1,h=>by
  have:=JY β r (k+1) j (by simpa using h);simp only[Eb,List.getD_cons_succ];rw[this,show k+1+j=k+(j+1) by omega]
theorem QV (β:Nat→BV):∀(r:List Ez) (k:Nat),(Eb β k r).length=r.length
 | [],k=>rfl
 | e::r,k=>by simp[Eb,QV β r (k+1)]
theorem Jm (β:Nat→BV) {r:List Ez}{k j:Nat}(h:r.length≤j):(Eb β k r).getD j .skip= .skip:=by
 rw[List.getD_eq_getElem?_getD,List.getElem?_eq_none (by rw[QV];exact h)];rfl
theorem Vd (β:Nat→BV) (r:List Ez) (k j:Nat):((Eb β k r).getD j .skip).isEff=false:=by
 rcases Nat.lt_or_ge j r.length with h | h
 ·rw[JY β r k j h];rfl
 rw[Jm β h];rfl
theorem Ss (β:Nat→BV) (r:List Ez) (k j:Nat) (ob:List Ap) (v:AV):(Eb β k r).getD j .skip≠ .read ob v:=by
 rcases Nat.lt_or_ge j r.length with h | h
 ·rw[JY β r k j h];simp
 rw[Jm β h];simp
theorem DW (β:Nat→BV) {r:List Ez}{j:Nat}(h:j<r.length):((Eb β 0 r).getD j .skip).val=(r.getD j .skip).v (β j):=by
 rw[JY β r 0 j h,Nat.zero_add];rfl
theorem EV.facts {P:Program}{ops:Array Oper}{H₀:List Ap}{τ:Nat→AV}{base:List Ez}(β:Nat→BV):∀(r:List Ez) (k:Nat) (τk:Nat→AV) (K:(Nat→AV)→List Ap→Prop),base.drop k=r→k+r.length=base.length→τk=τS ops (Eb β 0 base) τ k→EV P ops H₀ k τk r K→(∀j,k≤j→j<base.length→(base.getD j .skip).ok (β j)) →
  (∀j,k≤j→j<base.length→∃o,ops[j]?=some o∧Pc P ops H₀ o (τS ops (Eb β 0 base) τ j) (base.getD j .skip))∧K (τS ops (Eb β 0 base) τ base.length) (UQ β k r)
 | [],k,τk,K,hd,hk,ht,h,hβ=>by
  simp only[List.length_nil,Nat.add_zero] at hk;subst hk;exact⟨fun j h1 h2=>by omega,by rw[←ht];exact h⟩
 | e::r,k,τk,K,hd,hk,ht,h,hβ=>by
  obtain⟨o,ho,hok,hn⟩:=h;simp only[List.length_cons] at hk;have hb:base.getD k .skip=e:=by
   have:(base.drop k)[0]?=some e:=by rw[hd];rfl
   rw[List.getElem?_drop] at this;rw[List.getD_eq_getElem?_getD,show k=k+0 by omega,this];rfl
  have hd2:base.drop (k+1)=r:=by
   rw[←List.drop_drop,hd];rfl
  obtain⟨h1,h2⟩:=EV.facts (τ:=τ) (base:=base) β r (k+1) _ _ hd2 Aa (by simp only[τS,ho,Option.bind_some];rw[DW β Aa,hb,←ht]) (hn (β k) (by have:=hβ k (Nat.le_refl _) Aa;rwa [hb] at this)) (fun j h1 h2=>hβ j Aa h2);refine⟨fun j hj hl=>?_,h2⟩;by_cases e2:j=k
  ·subst e2;exact⟨o,ho,by rw[hb,←ht];exact hok⟩
  exact h1 j Aa hl
theorem Ie {β β':Nat→BV}{l l':Nat→Bool}:∀(r:List Ez) (k:Nat),(∀j,k≤j→l j=l' j∧(l j=true→β j=β' j))→Qw β l k r=Qw β' l' k r
 | [],k,h=>rfl
 | e::r,k,h=>by
  simp only[Qw];obtain⟨h1,h2⟩:=h k (Nat.le_refl _);rw[Ie r (k+1) fun j hj=>h j Aa,←h1];cases hl:l k
  ·rfl
  rw[h2 hl]
theorem Q7 {β:Nat→BV}{l:Nat→Bool}{i:Nat}{b:BV}(hi:l i=false):∀(r:List Ez) (k:Nat),k≤i→i<k+r.length→((r.getD (i - k) .skip).box b++Qw β l k r).Perm (Qw (fun j=>if j=i then b else β j) (fun j=>l j||j==i) k r)
 | [],k,h1,h2=>by simp at h2;omega
 | e::r,k,h1,h2=>by
  simp only[Qw];by_cases hk:k=i
  ·subst hk;simp only[hi,Bool.false_eq_true,if_false,List.nil_append,Nat.sub_self,List.getD_cons_zero,beq_self_eq_true,Bool.or_true,if_true];rw[Ie (β':=fun j=>if j=k then b else β j) (l':=fun j=>l j||j==k) r (k+1) fun j hj=>⟨by simp[show (j==k)=false by simp;omega],fun _=>by rw[if_neg Aa]⟩]
  have hp:=Q7 (β:=β) hi r (k+1) (b:=b) Aa (by simp only[List.length_cons] at h2;omega);have e1:(e::r).getD (i - k) .skip=r.getD (i - (k+1)) .skip:=by
   rw[show i - k=(i - (k+1))+1 by omega];rfl
  have e2:(if (l k||k==i)=true then e.box (if k=i then b else β k) else [])=(if l k=true then e.box (β k) else []):=by
   rw[if_neg hk];simp[hk]
  rw[e1,e2];refine List.Perm.trans ?_ (hp.append_left _);rw[←List.append_assoc,←List.append_assoc];exact List.perm_append_comm.append_right _
theorem QT {β:Nat→BV}{l:Nat→Bool}:∀(r:List Ez) (k:Nat),(∀j,k≤j→j<k+r.length→l j=true)→Qw β l k r=UQ β k r
 | [],k,h=>rfl
 | e::r,k,h=>by
  simp only[Qw,UQ];rw[if_pos (h k (Nat.le_refl _) Ab),QT r (k+1) fun j h1 h2=>h j Aa (by simp only[List.length_cons];omega)]
theorem OV {β:Nat→BV}{l:Nat→Bool}:∀(r:List Ez) (k:Nat),(∀j,l j=false)→Qw β l k r=[]
 | [],k,h=>rfl
 | e::r,k,h=>by simp only[Qw];rw[OV r (k+1) h,h k];rfl
theorem Wk.pick:∀(l:List Ez),Wk l→∃β:Nat→BV,∀j,j<l.length→(l.getD j .skip).ok (β j)
 | [],_=>⟨fun _=>(0,0,.p .any),fun j h=>by simp at h⟩
 | e::r,h=>by
  have h2:Wk r∧∃b,e.ok b:=by
   cases e with
   | rel R=>exact⟨h.2,let ⟨v,hv⟩:=h.1;⟨(0,0,v),hv⟩⟩
   | _=>exact⟨h,(0,0,.p .any),trivial⟩
  obtain⟨β,hβ⟩:=Wk.pick r h2.1;obtain⟨b,hb⟩:=h2.2;refine⟨fun j=>match j with | 0=>b | j+1=>β j,fun j hj=>?_⟩;cases j with
  | zero=>exact hb
  | succ j=>exact hβ j (by simpa using hj)
section
variable {P:Program}{ops:Array Oper}{H₀:List Ap}{k:Nat}{τ:Nat→AV}{r:List Ez}{K:(Nat→AV)→List Ap→Prop}{dst:Option Tmp}{op:Op}{ty:TypeId}{pos:String}{aft:Array Edge}{v:AV}
theorem IJ (ho:ops[k]?=some ⟨dst,op,ty,pos,aft,none⟩) (h:∀Bs,CG P ⟨dst,op,ty,pos,aft,none⟩ (ev τ) (Bs++H₀) v (Bs++H₀)) (next:EV P ops H₀ (k+1) (put τ dst v) r K):EV P ops H₀ k τ (.val v::r) K :=
 ⟨_,ho,⟨trivial,h⟩,fun _ _=>next⟩
theorem UK {cs:List AV}(ho:ops[k]?=some ⟨dst,op,ty,pos,aft,none⟩) (h:∀Bs,Bz P ⟨dst,op,ty,pos,aft,none⟩ (ev τ) (Bs++H₀) (FC cs (Bs++H₀))) (next:∀b,EV P ops H₀ (k+1) (put τ dst (.ptr b 0)) r (fun τ' Hs=>K τ' (.box b cs::Hs))):EV P ops H₀ k τ (.new cs::r) K :=
 ⟨_,ho,⟨rfl,h⟩,fun b _=>next b.1⟩
theorem Xm (h:K τ []):EV P ops H₀ k τ [] K:=h
end
def TW (P:Program) (ops:Array Oper) (H₀:List Ap):Nat→(Nat→AV)→List Ap→List AV→((Nat→AV)→List Ap→Prop)→Prop
 | _,τ,H,[],K=>K τ H
 | k,τ,H,v::r,K=>∃o H',ops[k]?=some o∧o.guard=none∧CG P o (ev τ) (H++H₀) v (H'++H₀)∧TW P ops H₀ (k+1) (put τ o.dst v) H' r K
def XN (fl:List Nat) (base:List Ez):Bool:=fl.all fun j=>match base.getD j .skip with | .val _=>true | _=>false
def Wj (ops:Array Oper) (e:Nat) (fl:List Nat):Bool:=(List.range ops.size).all fun i=>Nat.blt i e||(List.range i).all fun j=>(Nat.blt j e&&fl.contains j)||Ha ops j i
theorem J2 {ops:Array Oper}{e:Nat}{fl:List Nat}(h:Wj ops e fl=true) {i j:Nat}(hi:e≤i) (hs:i<ops.size) (hj:j<i) (hf:¬(j<e∧j∈fl)):Pred ops j i:=by
 have:=List.all_eq_true.1 h i (by simpa using hs);simp only[Bool.or_eq_true] at this;rcases this with h1 | h1
 ·rw[Nat.blt_eq] at h1;omega
 have h2:=List.all_eq_true.1 h1 j (by simpa using hj);simp only[Bool.or_eq_true,Bool.and_eq_true,Nat.blt_eq] at h2;rcases h2 with h2 | h2
 ·exact absurd ⟨h2.1,by simpa using h2.2⟩ hf
 exact Cj h2
theorem EV.facts4 {P:Program}{ops:Array Oper}{H₀:List Ap}{τ:Nat→AV}{base fb:List Ez}(hf:∀j,j<base.length→j<fb.length∧fb.getD j .skip=base.getD j .skip) (β:Nat→BV):∀(r:List Ez) (k:Nat) (τk:Nat→AV) (K:(Nat→AV)→List Ap→Prop),base.drop k=r→k+r.length=base.length→τk=τS ops (Eb β 0 fb) τ k→EV P ops H₀ k τk r K→(∀j,k≤j→j<base.length→(base.getD j .skip).ok (β j)) →
  (∀j,k≤j→j<base.length→∃o,ops[j]?=some o∧Pc P ops H₀ o (τS ops (Eb β 0 fb) τ j) (base.getD j .skip))∧K (τS ops (Eb β 0 fb) τ base.length) (UQ β k r)
 | [],k,τk,K,hd,hk,ht,h,hβ=>by
  simp only[List.length_nil,Nat.add_zero] at hk;subst hk;exact⟨fun j h1 h2=>by omega,by rw[←ht];exact h⟩
 | e::r,k,τk,K,hd,hk,ht,h,hβ=>by
  obtain⟨o,ho,hok,hn⟩:=h;simp only[List.length_cons] at hk;have hb:base.getD k .skip=e:=by
   have:(base.drop k)[0]?=some e:=by rw[hd];rfl
   rw[List.getElem?_drop] at this;rw[List.getD_eq_getElem?_getD,show k=k+0 by omega,this];rfl
  have hd2:base.drop (k+1)=r:=by
   rw[←List.drop_drop,hd];rfl
  obtain⟨f1,f2⟩:=hf k Aa;obtain⟨h1,h2⟩:=EV.facts4 (τ:=τ) (base:=base) hf β r (k+1) _ _ hd2 Aa (by simp only[τS,ho,Option.bind_some];rw[DW β f1,f2,hb,←ht]) (hn (β k) (by have:=hβ k (Nat.le_refl _) Aa;rwa [hb] at this)) (fun j h1 h2=>hβ j Aa h2);refine⟨fun j hj hl=>?_,h2⟩;by_cases e2:j=k
  ·subst e2;exact⟨o,ho,by rw[hb,←ht];exact hok⟩
  exact h1 j Aa hl
theorem TW.facts {P:Program}{ops:Array Oper}{H₀:List Ap}{τ:Nat→AV}{fb:List Ez}(β:Nat→BV):∀(r:List AV) (k:Nat) (τk:Nat→AV) (H:List Ap) (K:(Nat→AV)→List Ap→Prop),(∀m,m<r.length→k+m<fb.length∧fb.getD (k+m) .skip= .val (r.getD m (.p .any)))→τk=τS ops (Eb β 0 fb) τ k→TW P ops H₀ k τk H r K →
  ∃Hm:Nat→List Ap,Hm k=H∧(∀j,k≤j→j<k+r.length→∃o,ops[j]?=some o∧o.guard=none∧CG P o (ev (τS ops (Eb β 0 fb) τ j)) (Hm j++H₀) ((fb.getD j .skip).v (β j)) (Hm (j+1)++H₀))∧K (τS ops (Eb β 0 fb) τ (k+r.length)) (Hm (k+r.length))
 | [],k,τk,H,K,hf,ht,h=>⟨fun _=>H,rfl,fun j h1 h2=>by simp at h2;omega,by simp only[List.length_nil,Nat.add_zero];rw[←ht];exact h⟩
 | v::r,k,τk,H,K,hf,ht,h=>by
  obtain⟨o,H',ho,hg,hop,hn⟩:=h;obtain⟨f1,f2⟩:=hf 0 Ab;simp only[Nat.add_zero,List.getD_cons_zero] at f1 f2;obtain⟨Hm,h1,h2,h3⟩:=TW.facts (τ:=τ) (fb:=fb) β r (k+1) _ H' K (fun m hm=>by have:=hf (m+1) (by simpa using hm);rw[show k+(m+1)=k+1+m by omega] at this;simpa using this) (by simp only[τS,ho,Option.bind_some];rw[DW β f1,f2,←ht];rfl) hn;refine⟨fun j=>if j=k then H else Hm j,by simp,fun j hj hl=>?_,?_⟩
  ·by_cases e:j=k
   ·subst e;refine⟨o,ho,hg,?_⟩;rw[f2,←ht];show CG P o (ev τk) ((if j=j then H else Hm j)++H₀) v ((if j+1=j then H else Hm (j+1))++H₀);rw[if_pos rfl,if_neg Aa,h1];exact hop
   show ∃o,ops[j]?=some o∧o.guard=none∧CG P o _ ((if j=k then H else Hm j)++H₀) _ ((if j+1=k then H else Hm (j+1))++H₀);rw[if_neg e,if_neg Aa];exact h2 j Aa (by simp only[List.length_cons] at hl;omega)
  show K _ (if k+(v::r).length=k then H else Hm (k+(v::r).length));simp only[List.length_cons];rw[if_neg Aa,show k+(r.length+1)=k+1+r.length by omega];exact h3
theorem SH {β:Nat→BV}{l:Nat→Bool}:∀(r:List Ez) (k:Nat),(∀j,j<r.length→l (k+j)=true∨∃v,r.getD j .skip= .val v)→Qw β l k r=UQ β k r
 | [],k,h=>rfl
 | e::r,k,h=>by
  simp only[Qw,UQ];rw[SH r (k+1) fun j hj=>by have:=h (j+1) (by simpa using hj);rw[show k+(j+1)=k+1+j by omega] at this;simpa using this];rcases h 0 Ab with h1 | ⟨v,h1⟩
  ·rw[Nat.add_zero] at h1;rw[if_pos h1]
  simp only[List.getD_cons_zero] at h1;subst h1;split<;>rfl
theorem Vf {P:Program}{r:Option Nat}{ops:Array Oper}{id n:Nat}{τ:Nat→AV}{H:List Ap}{D:List CI}{Q:Bl→A4→Prop}(base:List Ez) (tl:List AV) (fl:List Nat) (hm:P.follows .mixedOrders=true)
  (he:base.length+tl.length=ops.size) (chk:Ir ops n []=true) (late:Wj ops base.length fl=true) (hfl:XN fl base=true) (hne:Wk base)
  (h:EV P ops H 0 τ base (fun τ' Hs=>TW P ops H base.length τ' Hs tl (fun τ'' Bs=>Q .normal ⟨n,τ'',Bs++H,D⟩))):EX P r (.region id ops true) ⟨n,τ,H,D⟩ Q:=by
 intro F₀ a₀ w₀ hs₀;refine wpIn_region_any hm ?_;have same:B7 F₀ w₀ F₀ { w₀ with drawn:=w₀.drawn+1 }:=⟨Nat.le_refl _,fun _ _ _=>rfl,fun _ h _=>h⟩;have t₀:Trans F₀ H w₀ F₀ H { w₀ with drawn:=w₀.drawn+1 } :=
  ⟨Nat.le_refl _,fun _ _ _=>rfl,fun _ h _=>h,fun _ h=> .inl h,fun o ho b hb=> .inl ⟨o,ho,hb⟩,rfl,rfl,rfl⟩
 have hs₁:CL F₀ ⟨n,τ,H,D⟩ a₀ { w₀ with drawn:=w₀.drawn+1 } :=
  ⟨hs₀.size,fun t=>BM.mono same _ _ (hs₀.tmp t),hs₀.heap.stable' same (fun _ h=>h) (fun _ _ _ _=>rfl) hs₀.heap.bd,Ct.mono same _ _ hs₀.defs⟩
 obtain⟨hdst,c0,c1,c2,_⟩:=Ih chk;obtain⟨fb,hfb⟩:∃fb,fb=base++tl.map Ez.val:=⟨_,rfl⟩;have hfl1:fb.length=ops.size:=by rw[hfb];simp;omega
 have hf1:∀j,j<base.length→j<fb.length∧fb.getD j .skip=base.getD j .skip:=fun j hj=>⟨by omega,by
  rw[hfb,List.getD_eq_getElem?_getD,List.getD_eq_getElem?_getD,List.getElem?_append_left hj]⟩
 have hf2:∀m,m<tl.length→base.length+m<fb.length∧fb.getD (base.length+m) .skip= .val (tl.getD m (.p .any)):=fun m hm=>⟨by omega,by
  rw[hfb,List.getD_eq_getElem?_getD,List.getElem?_append_right Aa,Nat.add_sub_cancel_left,List.getElem?_map,List.getElem?_eq_getElem hm];simp[List.getElem?_eq_getElem hm]⟩
 have hd:∀β,Ju P ops n (fun _=>False) τ H (Eb β 0 fb):=fun β =>
  ⟨hdst,fun _ _ _ h=>h.elim,c0,c1,c2,fun i k _ _ h _=>(by rw[Vd] at h;cases h),fun i e ob v _ _ _ h _ _=>absurd h (Ss β fb 0 i ob v)⟩
 have flv:∀j,j∈fl→∃v,base.getD j .skip= .val v:=fun j hj=>by
  have:=List.all_eq_true.1 hfl j hj;cases hq:base.getD j .skip with
  | val v=>exact⟨v,rfl⟩
  | _=>simp only[hq] at this;cases this
 have hE:∀β,(∀j,j<base.length→(base.getD j .skip).ok (β j))→(∀j,j<base.length→∃o,ops[j]?=some o∧Pc P ops H o (τS ops (Eb β 0 fb) τ j) (base.getD j .skip)) ∧
   ∃Hm:Nat→List Ap,Hm base.length=UQ β 0 base∧(∀j,base.length≤j→j<ops.size→∃o,ops[j]?=some o∧o.guard=none∧CG P o (ev (τS ops (Eb β 0 fb) τ j)) (Hm j++H) ((fb.getD j .skip).v (β j)) (Hm (j+1)++H))∧Q .normal ⟨n,τS ops (Eb β 0 fb) τ ops.size,Hm ops.size++H,D⟩:=fun β hβ=>by
  obtain⟨h1,h2⟩:=EV.facts4 (base:=base) (fb:=fb) hf1 β base 0 τ _ Ab Ab rfl h (fun j _ h=>hβ j h);obtain⟨Hm,g1,g2,g3⟩:=TW.facts (fb:=fb) β tl base.length _ _ _ hf2 rfl h2;rw[he] at g2 g3;exact⟨fun j hj=>h1 j (Nat.zero_le _) hj,Hm,g1,g2,g3⟩
 obtain⟨I,hI0⟩:∃I:Array Bool→Act→World→Prop,I=fun l a w=>l.size=ops.size∧∃β τ' F Hb,(∀j,j<base.length→(base.getD j .skip).ok (β j))∧Down ops (fun i=>l.getD i false=true)∧ED ops (Eb β 0 fb) τ (fun i=>l.getD i false=true) τ'∧CL F ⟨n,τ',Hb++H,D⟩ a w∧Trans F₀ H w₀ F (Hb++H) w ∧
  (((∀k,base.length≤k→l.getD k false=false)∧Hb.Perm (Qw β (fun k=>l.getD k false) 0 base)) ∨
   (∃(m:Nat) (Hm:Nat→List Ap),(∀j,base.length≤j→j<ops.size→∃o,ops[j]?=some o∧o.guard=none∧CG P o (ev (τS ops (Eb β 0 fb) τ j)) (Hm j++H) ((fb.getD j .skip).v (β j)) (Hm (j+1)++H))∧Q .normal ⟨n,τS ops (Eb β 0 fb) τ ops.size,Hm ops.size++H,D⟩∧base.length≤m∧m≤ops.size∧(∀k,base.length≤k→(l.getD k false=true↔k<m))∧(∀k,k<base.length→k ∉ fl→l.getD k false=true)∧Hb=Hm m)):=⟨_,rfl⟩
 refine Ib (I:=I) (fun l a w h=>by rw[hI0] at h;exact h.1) ?_ ?_ _ _ _ _ ?_ ?_
 ·intro l a w hI i hi;rw[hI0] at hI;obtain⟨hsz,β,τ',F,Hb,hβ,hdown,hτ,hs,ht,hI⟩:=hI;obtain⟨hun,o,ho,hall⟩:=mem_ready.1 hi;have hlt:i<ops.size:=by
   rcases Nat.lt_or_ge i ops.size with h | h
   ·exact h
   simp[Array.getElem?_eq_none h] at ho
  have hil:i<l.size:=by omega
  have hnot:l.getD i false=false:=by
   have:l[i]=false:=by simpa [hil] using hun
   simp[hil,this]
  have hr:∀j∈Cv o,l.getD j false=true:=by
   intro j hj;simp only[Cv,List.mem_map,List.mem_filter] at hj;obtain⟨e,⟨he,hb⟩,rfl⟩:=hj;exact hall e (by simpa using he) hb
  have hset:∀k,(l.setIfInBounds i true).getD k false=true↔(l.getD k false=true∨k=i):=by
   intro k;by_cases hk:k=i
   ·subst hk;simp[hil]
   simp[Array.getElem?_setIfInBounds_ne (Ne.symm hk),hk]
  have hset2:∀k,(l.setIfInBounds i true).getD k false=(l.getD k false||k==i):=by
   intro k;by_cases hk:k=i
   ·subst hk;simp[hil]
   simp[Array.getElem?_setIfInBounds_ne (Ne.symm hk),hk]
  have hsz':(l.setIfInBounds i true).size=ops.size:=by simp[hsz]
  have hdown':Down ops (fun k=>(l.setIfInBounds i true).getD k false=true):=by
   intro k o' j ho' hk hj;rcases (hset k).1 hk with h | h
   ·exact(hset j).2 (.inl (hdown k o' j ho' h hj))
   subst h;rw[ho] at ho';injection ho' with ho';subst ho';exact(hset j).2 (.inl (hr j hj))
  have hlook:∀t∈K4 ops o,τ' t=τS ops (Eb β 0 fb) τ i t:=fun t ht=>Il (hd β) hdown hτ ho (by rw[hnot];decide) hr ht;have hops:∀x∈o.op.operands.toList,ev τ' x=ev (τS ops (Eb β 0 fb) τ i) x:=by
   intro x hx;cases x with
   | tmp t=>exact hlook t (List.mem_append_left _ (List.mem_filterMap.2 ⟨.tmp t,hx,rfl⟩))
   | _=>rfl
  have hguard:∀j want d,o.guard=some (j,want)→(ops[j]?).bind (·.dst)=some d→τ' d=τS ops (Eb β 0 fb) τ i d:=by
   intro j want d hg hj;refine hlook d (List.mem_append_right _ ?_);simp[hg,hj]
  have hpred:∀{a},Pred ops a i→l.getD a false=true:=by
   have:∀{a b},Pred ops a b→b=i→l.getD a false=true:=by
    intro a b hab
    induction hab with
    | base ho' hj=>intro e;subst e;rw[ho] at ho';injection ho' with ho';subst ho';exact hr _ hj
    | trans p1 _ _ ih2=>intro e;exact hdown.pred p1 (ih2 e)
   exact fun {a} h=>this h O
  have wants:B8 ops ⟨0,τS ops (Eb β 0 fb) τ i,[],[]⟩ o→B8 ops ⟨n,τ',Hb++H,D⟩ o:=by
   intro h;unfold B8 at *;cases hg:o.guard with
   | none=>simp[hg]
   | some jw =>
    obtain⟨j,want⟩:=jw;simp only[hg] at h ⊢;obtain⟨d,h1,h2⟩:=h;exact⟨d,h1,by rw[←h2];exact hguard j want d hg h1⟩
  -- one operation
  have exec:∀{Hx:List Ap} {C:AV→List Ap→Prop},CL F ⟨n,τ',Hx,D⟩ a w→B8 ops ⟨n,τ',Hx,D⟩ o→Bz P o (ev (τS ops (Eb β 0 fb) τ i)) Hx (fun r H'=>match r with | .val v=>C v H' | .panic _=>False)→(∀v H' a' w' F',C v H'→CL F' ⟨n,put τ' o.dst v,H',D⟩ a' w'→Trans F Hx w F' H' w'→I (l.setIfInBounds i true) a' w')→wpOpIn (W r) 0 P ops (post F₀ H w₀ Q) i (fun a' w'=>I (l.setIfInBounds i true) a' w') a w:=by
   intro Hx C hs hwant hop close;unfold wpOpIn;simp only[ho,FL hs hwant,if_true];have hw:=hop r F _ a w hs rfl (fun x hx=>hops x hx) (fun t ht=>hdst i o t ho ht);unfold Oper.wpIn at *;refine⟨hw.1,?_⟩;replace hw:=hw.2;generalize (o.semAt (W r).round a.eval).run P w=rr at *;cases rr with
   | ok nx w' =>
    cases nx<;>simp only[Oper.uponIn] at hw ⊢
    case value u=>obtain⟨v',H'',F',h1,h3,h4⟩:=hw;exact close _ _ _ _ _ h1 h3 h4
    case skip=>obtain⟨v',H'',F',h1,h3,h4⟩:=hw;exact close _ _ _ _ _ h1 h3 h4
    case defer d=>obtain⟨v',H'',F',h1,h3,h4⟩:=hw;exact close _ _ _ _ _ h1 h3 h4
    case enter f args =>
     refine⟨hw.1,hw.2.mono fun e w'' he=>?_⟩;cases e with
     | returned u=>obtain⟨v',H'',F',h1,h3,h4⟩:=he;exact close _ _ _ _ _ h1 h3 h4
     | panicked c=>obtain⟨_,_,_,_,h,_⟩:=he;exact h.elim
     | outgrown=>obtain⟨_,_,_,_,_,_,h,_⟩:=he;exact h.elim
    case row row args=>exact⟨hw.1,hw.2.mono fun u w'' h=>by obtain⟨v',H'',F',h1,h3,h4⟩:=h;exact close _ _ _ _ _ h1 h3 h4⟩
    case round l' f tmps assign body =>
     refine⟨hw.1,hw.2.mono fun e w'' he=>?_⟩;cases e with
     | returned u=>obtain⟨v',H'',F',h1,h3,h4⟩:=he;exact close _ _ _ _ _ h1 h3 h4
     | panicked c=>obtain⟨_,_,_,_,h,_⟩:=he;exact h.elim
     | outgrown=>obtain⟨_,_,_,_,_,_,h,_⟩:=he;exact h.elim
   | halt x w' =>
    cases x<;>simp only[Oper.uponIn] at hw ⊢
    case panic u=>obtain⟨_,_,_,_,h,_⟩:=hw;exact h.elim
  have hτput:∀{v:AV},v=((Eb β 0 fb).getD i .skip).val→ED ops (Eb β 0 fb) τ (fun k=>(l.setIfInBounds i true).getD k false=true) (put τ' o.dst v):=by
   intro v hv;have hτ3:=hτ.put (hd β) ho;rw[←hv] at hτ3;intro t;exact⟨fun k o' a1 a2 a3=>(hτ3 t).1 k o' a1 a2 ((hset k).1 a3),fun hn=>(hτ3 t).2 fun k o' a1 a2 a3=>hn k o' a1 a2 ((hset k).2 a3)⟩
  -- a tail operation
  have goTail:∀Hm:Nat→List Ap,(∀j,base.length≤j→j<ops.size→∃o,ops[j]?=some o∧o.guard=none∧CG P o (ev (τS ops (Eb β 0 fb) τ j)) (Hm j++H) ((fb.getD j .skip).v (β j)) (Hm (j+1)++H))→Q .normal ⟨n,τS ops (Eb β 0 fb) τ ops.size,Hm ops.size++H,D⟩→base.length≤i→(∀k,base.length≤k→(l.getD k false=true↔k<i))→(∀k,k<base.length→k ∉ fl→l.getD k false=true)→CL F ⟨n,τ',Hm i++H,D⟩ a w→Trans F₀ H w₀ F (Hm i++H) w→wpOpIn (W r) 0 P ops (post F₀ H w₀ Q) i (fun a' w'=>I (l.setIfInBounds i true) a' w') a w:=by
   intro Hm g2 g3 hbi hk1 hk2 hs ht;obtain⟨o',ho',hg,hop⟩:=g2 i hbi hlt;rw[ho] at ho';injection ho' with ho';subst ho';refine exec (C:=fun v H'=>v=(fb.getD i .skip).v (β i)∧H'=Hm (i+1)++H) hs (by unfold B8;rw[hg];trivial) (Bz.mono hop (by
    intro r H' hR;cases r with
    | val v'=>exact hR
    | panic v'=>exact hR.elim)) ?_
   rintro v H' a' w' F' ⟨hv,rfl⟩ h3 h4;rw[hI0];refine⟨hsz',β,_,F',Hm (i+1),hβ,hdown',hτput (by rw[hv,DW β Aa]),h3,ht.trans hs₀.heap.bd h4,.inr ⟨i+1,Hm,g2,g3,by omega,by omega,fun k hk=>?_,fun k h1 h2=>(hset k).2 (.inl (hk2 k h1 h2)),rfl⟩⟩;rw[hset k,hk1 k hk];omega
  rcases hI with ⟨hno,hp⟩ | ⟨m,Hm,g2,g3,hm1,hm2,hk1,hk2,rfl⟩
  ·rcases Nat.lt_or_ge i base.length with hib | hib
   ·-- of the first part
    obtain⟨o',ho',hok⟩:=(hE β hβ).1 i hib;rw[ho] at ho';injection ho' with ho';subst ho';have hno':∀k,base.length≤k→(l.setIfInBounds i true).getD k false=false:=by
     intro k hk;rw[hset2 k,hno k hk];simp;omega
    generalize hbe:base.getD i .skip=e at hok;have close:∀{a' w' F' b H'},e.ok b→H'=e.box b++(Hb++H)→CL F' ⟨n,put τ' o.dst (e.v b),H',D⟩ a' w'→Trans F (Hb++H) w F' H' w'→I (l.setIfInBounds i true) a' w':=by
     intro a' w' F' b H' hb0 hH h3 h4;subst hH;rw[hI0];have hspn:∀k,k<fb.length→((Eb (fun j=>if j=i then b else β j) 0 fb).getD k .skip).val=(fb.getD k .skip).v (if k=i then b else β k):=fun k hk=>DW _ hk;refine⟨hsz',fun j=>if j=i then b else β j,put τ' o.dst (e.v b),F',e.box b++Hb,(fun j hj=>by
      by_cases e3:j=i
      ·subst e3;simp only[if_true];rw[hbe];exact hb0
      simp only[if_neg e3];exact hβ j hj),hdown',?_,by rw[List.append_assoc];exact h3,by rw[List.append_assoc];exact ht.trans hs₀.heap.bd h4,.inl ⟨hno',?_⟩⟩
     ·have hτ2:ED ops (Eb (fun j=>if j=i then b else β j) 0 fb) τ (fun k=>l.getD k false=true) τ':=by
       intro t;refine⟨fun k o' a1 a2 a3=>?_,(hτ t).2⟩;have a4:l.getD k false=true:=a3;have hki:k≠i:=fun e=>by subst e;rw[hnot] at a4;cases a4
       rw[(hτ t).1 k o' a1 a2 a3];rcases Nat.lt_or_ge k fb.length with hk | hk
       ·rw[DW _ hk,DW _ hk,if_neg hki]
       rw[Jm _ hk,Jm _ hk]
      have hτ3:=hτ2.put (hd _) ho;rw[DW _ Aa,if_pos rfl,(hf1 i hib).2,hbe] at hτ3;intro t;exact⟨fun k o' a1 a2 a3=>(hτ3 t).1 k o' a1 a2 ((hset k).1 a3),fun hn=>(hτ3 t).2 fun k o' a1 a2 a3=>hn k o' a1 a2 ((hset k).2 a3)⟩
     have h1:=Q7 (β:=β) (l:=fun k=>l.getD k false) (i:=i) (b:=b) hnot base 0 (Nat.zero_le _) Aa;rw[Nat.sub_zero,hbe] at h1;refine(hp.append_left _).trans (h1.trans (List.Perm.of_eq ?_));exact Ie base 0 fun j _=>⟨(hset2 j).symm,fun _=>O⟩
    have yields:B8 ops ⟨n,τ',Hb++H,D⟩ o→Bz P o (ev (τS ops (Eb β 0 fb) τ i)) (Hb++H) (fun r H'=>match r with | .val v=>∃b,e.ok b∧v=e.v b∧H'=e.box b++(Hb++H) | .panic _=>False)→wpOpIn (W r) 0 P ops (post F₀ H w₀ Q) i (fun a' w'=>I (l.setIfInBounds i true) a' w') a w:=fun h1 h2 =>
     exec (C:=fun v H'=>∃b,e.ok b∧v=e.v b∧H'=e.box b++(Hb++H)) hs h1 h2 (by rintro v H' a' w' F' ⟨b,h0,rfl,h1⟩ h3 h4;exact close h0 h1 h3 h4)
    cases e with
    | val v=>exact yields (wants hok.1) ((hok.2 Hb).mono (by
      intro r H' hR;cases r with
      | val v'=>obtain⟨rfl,rfl⟩:=hR;exact⟨(0,0,.p .any),trivial,rfl,rfl⟩
      | panic v'=>exact hR.elim))
    | new cs =>
     refine yields (by unfold B8;rw[hok.1];trivial) ((hok.2 _).mono ?_);intro r H' hR;cases r with
     | val v'=>obtain⟨b,rfl,rfl⟩:=hR;exact⟨(b,0,.p .any),trivial,rfl,rfl⟩
     | panic v'=>exact hR.elim
    | newv sz rows =>
     refine yields (by unfold B8;rw[hok.1];trivial) ((hok.2 _).mono ?_);intro r H' hR;cases r with
     | val v'=>obtain⟨b,c,rfl,rfl⟩:=hR;exact⟨(b,c,.p .any),trivial,rfl,rfl⟩
     | panic v'=>exact hR.elim
    | rel R =>
     refine yields (by unfold B8;rw[hok.1];trivial) ((hok.2 _).mono ?_);intro r H' hR;cases r with
     | val v'=>obtain⟨h1,rfl⟩:=hR;exact⟨(0,0,v'),h1,rfl,rfl⟩
     | panic v'=>exact hR.elim
    | skip =>
     obtain⟨j,want,d,hg,hj,hb⟩:=hok;have hw:Region.wanted o (yielded ops a.tmps)=false:=Hz (S:=⟨n,τ',Hb++H,D⟩) hs hg hj (by show WZ (τ' d) want;rw[hguard j want d hg hj];exact hb);unfold wpOpIn;simp only[ho,hw,Bool.false_eq_true,if_false];refine⟨fun _ _=>Ac,close (b:=(0,0,.p .any)) Ac O ?_ .refl⟩;exact hs.put (fun t ht=>hdst i o t ho ht) ⟨Nat.le_refl _,fun _ _ _=>O,fun _ h _=>h⟩ hs.heap (by simp only[Ez.v,BM,A8,undef];exact⟨[],rfl,rfl⟩)
   -- the first of the rest
   have hpre:∀j,j<i→¬(j<base.length∧j∈fl)→l.getD j false=true:=fun j hj hf=>hpred (J2 late hib hlt hj hf);have hie:i=base.length:=by
    rcases Nat.lt_or_ge base.length i with h | h
    ·have h1:=hpre base.length h (fun h=>Nat.lt_irrefl _ h.1);rw[hno base.length (Nat.le_refl _)] at h1;cases h1
    omega
   obtain⟨Hm,g1,g2,g3⟩:=(hE β hβ).2;have hp2:(Hb++H).Perm (Hm i++H):=by
    rw[hie,g1];refine List.Perm.append_right H (hp.trans (List.Perm.of_eq (SH base 0 fun j hj=>?_)));rw[Nat.zero_add];by_cases hq:j∈fl
    ·exact .inr (flv j hq)
    exact .inl (hpre j Aa fun h=>hq h.2)
   refine goTail Hm g2 g3 hib (fun k hk=>⟨fun h=>?_,fun h=>by omega⟩) (fun k h1 h2=>hpre k Aa fun h=>h2 h.2) ⟨hs.size,hs.tmp,hs.heap.perm hp2,hs.defs⟩ { ht with keys:=fun o ho=>ht.keys o (hp2.mem_iff.2 ho) };rw[hno k hk] at h;cases h
  rcases Nat.lt_or_ge i base.length with hib | hib
  ·-- a value that floats
   have hif:i∈fl:=Classical.byContradiction fun hq=>by rw[hk2 i hib hq] at hnot;cases hnot
   obtain⟨v,hv⟩:=flv i hif;obtain⟨o',ho',hok⟩:=(hE β hβ).1 i hib;rw[ho] at ho';injection ho' with ho';subst ho';rw[hv] at hok;refine exec (C:=fun v' H'=>v'=v∧H'=Hm m++H) hs (wants hok.1) ((hok.2 (Hm m)).mono (by
    intro r H' hR;cases r with
    | val v'=>exact hR
    | panic v'=>exact hR.elim)) ?_
   rintro v' H' a' w' F' ⟨rfl,rfl⟩ h3 h4;rw[hI0];refine⟨hsz',β,_,F',Hm m,hβ,hdown',hτput (by rw[DW β Aa,(hf1 i hib).2,hv];rfl),h3,ht.trans hs₀.heap.bd h4,.inr ⟨m,Hm,g2,g3,hm1,hm2,fun k hk=>?_,fun k h1 h2=>(hset k).2 (.inl (hk2 k h1 h2)),O⟩⟩;rw[hset k,hk1 k hk];exact⟨fun h=>h.resolve_right Aa,.inl⟩
  have him:i=m:=by
   rcases Nat.lt_trichotomy i m with h | h | h
   ·rw[(hk1 i hib).2 h] at hnot;cases hnot
   ·exact h
   have:=hpred (J2 late (by omega:base.length≤i) hlt h (fun h=>by omega));have:=(hk1 m hm1).1 this;omega
  subst him;exact goTail Hm g2 g3 hib hk1 hk2 hs ht
 ·intro l a w hI hr;rw[hI0] at hI;obtain⟨hsz,β,τ',F,Hb,hβ,hdown,hτ,hs,ht,hI⟩:=hI;have hall:∀i,i<ops.size→l.getD i false=true:=by
   intro i
   induction i using Nat.strongRecOn with
   | _ i ih =>
    intro hi;cases hq:l.getD i false with
    | true=>rfl
    | false =>
     have ho:ops[i]?=some ops[i]:=Array.getElem?_eq_getElem hi;have:i∈Region.ready .any ops l:=by
      refine mem_ready.2 ⟨?_,ops[i],ho,?_⟩
      ·have:i<l.size:=by omega
       simp[this] at hq ⊢;exact hq
      intro e he hb;have hj:e.on∈Cv ops[i]:=by
       simp only[Cv,List.mem_map,List.mem_filter];exact⟨e,⟨by simpa using he,hb⟩,rfl⟩
      have hlt:=c0 i _ _ ho hj;exact ih e.on hlt Aa
     rw[hr] at this;cases this
  have hτe:τ'=τS ops (Eb β 0 fb) τ ops.size:=by
   funext t;have h2:=H9 (hd β) ops.size (Nat.le_refl _) t;by_cases hw:∃(k:Nat) (o':Oper),ops[k]?=some o'∧o'.dst=some t
   ·obtain⟨k,o',ho',hk⟩:=hw;have hlt:k<ops.size:=by
     rcases Nat.lt_or_ge k ops.size with h | h
     ·exact h
     simp[Array.getElem?_eq_none h] at ho'
    rw[(hτ t).1 k o' ho' hk (hall k hlt),h2.1 k o' ho' hk hlt]
   rw[(hτ t).2 fun k o' h1 h2 _=>hw ⟨k,o',h1,h2⟩,h2.2 fun k o' h1 h2 _=>hw ⟨k,o',h1,h2⟩]
  have fin:∀Hx:List Ap,(Hb++H).Perm (Hx++H)→Q .normal ⟨n,τS ops (Eb β 0 fb) τ ops.size,Hx++H,D⟩→post F₀ H w₀ Q .normal a w:=fun Hx hp hq =>
   ⟨.normal,_,F,hq,rfl,⟨by exact hs.size,by rw[←hτe];exact hs.tmp,hs.heap.perm hp,hs.defs⟩,{ ht with keys:=fun o ho=>ht.keys o (hp.mem_iff.2 ho) }⟩
  rcases hI with ⟨hno,hp⟩ | ⟨m,Hm,g2,g3,hm1,hm2,hk1,hk2,rfl⟩
  ·have hbs:base.length=ops.size:=by
    rcases Nat.lt_or_ge base.length ops.size with h | h
    ·have:=hall base.length h;rw[hno base.length (Nat.le_refl _)] at this;cases this
    omega
   obtain⟨Hm,g1,g2,g3⟩:=(hE β hβ).2;refine fin (Hm ops.size) ?_ g3;rw[←hbs,g1];exact List.Perm.append_right H (hp.trans (List.Perm.of_eq (QT base 0 fun j _ hj=>hall j Aa)))
  have hms:m=ops.size:=by
   rcases Nat.lt_or_ge m ops.size with h | h
   ·have:=(hk1 m hm1).1 (hall m h);omega
   omega
  subst hms;exact fin _ (List.Perm.refl _) g3
 ·obtain⟨β0,hβ0⟩:=Wk.pick base hne;rw[hI0];refine⟨by simp,β0,τ,F₀,[],hβ0,?_,?_,hs₁,t₀,.inl ⟨?_,?_⟩⟩
  ·intro i o j ho hi;by_cases h:i<ops.size<;>simp[h] at hi
  ·intro t;refine⟨fun k o ho hk hl=>?_,fun _=>O⟩;by_cases h:k<ops.size<;>simp[h] at hl
  ·intro k _;by_cases h:k<ops.size<;>simp[h]
  rw[OV base 0 fun j=>by by_cases h:j<ops.size<;>simp[h]]
 have:=List.length_filter_le (fun b:Bool=> !b) (Array.replicate ops.size false).toList;simp at this ⊢
section
variable {P:Program}{ops:Array Oper}{H₀:List Ap}{k:Nat}{τ:Nat→AV}{r:List AV}{K:(Nat→AV)→List Ap→Prop}{dst:Option Tmp}{op:Op}{ty:TypeId}{pos:String}{aft:Array Edge}{v:AV}{H:List Ap}
theorem P4 (H':List Ap) (ho:ops[k]?=some ⟨dst,op,ty,pos,aft,none⟩) (h:CG P ⟨dst,op,ty,pos,aft,none⟩ (ev τ) (H++H₀) v (H'++H₀)) (next:TW P ops H₀ (k+1) (put τ dst v) H' r K):TW P ops H₀ k τ H (v::r) K :=
 ⟨_,H',ho,rfl,h,next⟩
theorem XQ (h:K τ H):TW P ops H₀ k τ H [] K:=h
end
def dx (P:Program) (ops:Array Oper) (H₀ H₁:List Ap) (i₀:Nat) (fl:List Nat) (k:Nat) (o:Oper) (τ:Nat→AV) (e:Ez):Prop :=
 if k=i₀ then ∃v,e= .val v∧o.guard=none∧∀Bs,CG P o (ev τ) (Bs++H₀) v (Bs++H₁) else Pc P ops H₀ o τ e∧Pc P ops H₁ o τ e∧(fl.contains k=true→∀v,e= .val v→∀X,CG P o (ev τ) X v X)
def E5 (P:Program) (ops:Array Oper) (H₀ H₁:List Ap) (i₀:Nat) (fl:List Nat):Nat→(Nat→AV)→List Ez→((Nat→AV)→List Ap→Prop)→Prop
 | _,τ,[],K=>K τ []
 | k,τ,e::r,K=>∃o,ops[k]?=some o∧dx P ops H₀ H₁ i₀ fl k o τ e∧∀b,e.ok b→E5 P ops H₀ H₁ i₀ fl (k+1) (put τ o.dst (e.v b)) r (fun τ' Hs=>K τ' (e.box b++Hs))
theorem E5.facts {P:Program}{ops:Array Oper}{H₀ H₁:List Ap}{i₀:Nat}{fl:List Nat}{τ:Nat→AV}{base fb:List Ez}(hf:∀j,j<base.length→j<fb.length∧fb.getD j .skip=base.getD j .skip) (β:Nat→BV):∀(r:List Ez) (k:Nat) (τk:Nat→AV) (K:(Nat→AV)→List Ap→Prop),base.drop k=r→k+r.length=base.length→τk=τS ops (Eb β 0 fb) τ k→E5 P ops H₀ H₁ i₀ fl k τk r K→(∀j,k≤j→j<base.length→(base.getD j .skip).ok (β j)) →
  (∀j,k≤j→j<base.length→∃o,ops[j]?=some o∧dx P ops H₀ H₁ i₀ fl j o (τS ops (Eb β 0 fb) τ j) (base.getD j .skip))∧K (τS ops (Eb β 0 fb) τ base.length) (UQ β k r)
 | [],k,τk,K,hd,hk,ht,h,hβ=>by
  simp only[List.length_nil,Nat.add_zero] at hk;subst hk;exact⟨fun j h1 h2=>by omega,by rw[←ht];exact h⟩
 | e::r,k,τk,K,hd,hk,ht,h,hβ=>by
  obtain⟨o,ho,hok,hn⟩:=h;simp only[List.length_cons] at hk;have hb:base.getD k .skip=e:=by
   have:(base.drop k)[0]?=some e:=by rw[hd];rfl
   rw[List.getElem?_drop] at this;rw[List.getD_eq_getElem?_getD,show k=k+0 by omega,this];rfl
  have hd2:base.drop (k+1)=r:=by
   rw[←List.drop_drop,hd];rfl
  obtain⟨f1,f2⟩:=hf k Aa;obtain⟨h1,h2⟩:=E5.facts (τ:=τ) (base:=base) hf β r (k+1) _ _ hd2 Aa (by simp only[τS,ho,Option.bind_some];rw[DW β f1,f2,hb,←ht]) (hn (β k) (by have:=hβ k (Nat.le_refl _) Aa;rwa [hb] at this)) (fun j h1 h2=>hβ j Aa h2);refine⟨fun j hj hl=>?_,h2⟩;by_cases e2:j=k
  ·subst e2;exact⟨o,ho,by rw[hb,←ht];exact hok⟩
  exact h1 j Aa hl
def TV (P:Program) (ops:Array Oper):Nat→(Nat→AV)→List Ap→List AV→((Nat→AV)→List Ap→Prop)→Prop
 | _,τ,H,[],K=>K τ H
 | k,τ,H,v::r,K=>∃o H',ops[k]?=some o∧o.guard=none∧CG P o (ev τ) H v H'∧TV P ops (k+1) (put τ o.dst v) H' r K
theorem TV.facts {P:Program}{ops:Array Oper}{τ:Nat→AV}{fb:List Ez}(β:Nat→BV):∀(r:List AV) (k:Nat) (τk:Nat→AV) (H:List Ap) (K:(Nat→AV)→List Ap→Prop),(∀m,m<r.length→k+m<fb.length∧fb.getD (k+m) .skip= .val (r.getD m (.p .any)))→τk=τS ops (Eb β 0 fb) τ k→TV P ops k τk H r K →
  ∃Hm:Nat→List Ap,Hm k=H∧(∀j,k≤j→j<k+r.length→∃o,ops[j]?=some o∧o.guard=none∧CG P o (ev (τS ops (Eb β 0 fb) τ j)) (Hm j) ((fb.getD j .skip).v (β j)) (Hm (j+1)))∧K (τS ops (Eb β 0 fb) τ (k+r.length)) (Hm (k+r.length))
 | [],k,τk,H,K,hf,ht,h=>⟨fun _=>H,rfl,fun j h1 h2=>by simp at h2;omega,by simp only[List.length_nil,Nat.add_zero];rw[←ht];exact h⟩
 | v::r,k,τk,H,K,hf,ht,h=>by
  obtain⟨o,H',ho,hg,hop,hn⟩:=h;obtain⟨f1,f2⟩:=hf 0 Ab;simp only[Nat.add_zero,List.getD_cons_zero] at f1 f2;obtain⟨Hm,h1,h2,h3⟩:=TV.facts (τ:=τ) (fb:=fb) β r (k+1) _ H' K (fun m hm=>by have:=hf (m+1) (by simpa using hm);rw[show k+(m+1)=k+1+m by omega] at this;simpa using this) (by simp only[τS,ho,Option.bind_some];rw[DW β f1,f2,←ht];rfl) hn;refine⟨fun j=>if j=k then H else Hm j,by simp,fun j hj hl=>?_,?_⟩
  ·by_cases e:j=k
   ·subst e;refine⟨o,ho,hg,?_⟩;rw[f2,←ht];show CG P o (ev τk) (if j=j then H else Hm j) v (if j+1=j then H else Hm (j+1));rw[if_pos rfl,if_neg Aa,h1];exact hop
   show ∃o,ops[j]?=some o∧o.guard=none∧CG P o _ (if j=k then H else Hm j) _ (if j+1=k then H else Hm (j+1));rw[if_neg e,if_neg Aa];exact h2 j Aa (by simp only[List.length_cons] at hl;omega)
  show K _ (if k+(v::r).length=k then H else Hm (k+(v::r).length));simp only[List.length_cons];rw[if_neg Aa,show k+(r.length+1)=k+1+r.length by omega];exact h3
section
variable {P:Program}{ops:Array Oper}{H₀ H₁:List Ap}{i₀:Nat}{fl:List Nat}{k:Nat}{τ:Nat→AV}{r:List Ez}{K:(Nat→AV)→List Ap→Prop}{dst:Option Tmp}{op:Op}{ty:TypeId}{pos:String}{aft:Array Edge}{v:AV}
def Wz (P:Program) (T:TypeId):Bool:=match P.underlying T with
 | some (.interface _)=>false
 | some _=>true
 | none=>false
theorem RK {P:Program}{T:TypeId}(h:Wz P T=true):∃d,P.underlying T=some d∧(∀ms,d≠ .interface ms)∧(match d with | .interface _=>false | _=>true)=true:=by
 unfold Wz at h;cases hd:P.underlying T with
 | none=>rw[hd] at h;cases h
 | some d =>
  rw[hd] at h;refine⟨d,O,fun ms e=>?_,?_⟩
  ·subst e;cases h
  cases d<;>first | rfl | exact h
end
end Go.Abs
