/- Part of the proofs: an abstract program logic, plain models and contracts of functions. -/
import Derived.Test.YtboammbpdaoojaaGreatPa
import Derived.MapKept
set_option linter.unusedVariables false
set_option linter.unusedSimpArgs false
namespace Go.Abs
section
variable {P:Program}{ops:Array Oper}{n:Nat}{τ₀:Nat→AV}{D:List Dw}{Q:Cf→Bk→Prop}{opn:Nat→Bool}{k:Nat}{τ:Nat→AV}{H:List BD}{rd:V2}{ef:Uu}{effs:List Bool}{fx:List (Nat×Sp)}{dst:Option Tmp}{op:Op}{ty:TypeId}{pos:String}{aft:Array Edge}{v:AV}{H':List BD}
theorem J7 {cs:List AV}(fx':List (Nat×Sp)) (ho:ops[k]?=some ⟨dst,op,ty,pos,aft,none⟩) (hn:opn k=true) (h:C9 P ⟨dst,op,ty,pos,aft,none⟩ (ev τ) H (H6 cs H)) (haft:Ef ops k (fx'.map (·.1))=true)
  (next:∀b,Jj ops k H (.box b cs::H) rd∧Gu k (.eff (.ptr b 0) (.box b cs::H)) fx∧Dr P ops n τ₀ D Q opn (k+1) (put τ dst (.ptr b 0)) (.box b cs::H) rd ((k,H,.box b cs::H)::ef) (true::effs) (fx'++fx)):Dr P ops n τ₀ D Q opn k τ H rd ef effs fx :=
 Mu fx' ho hn h haft ⟨_,_,0,rfl,rfl⟩ (fun _ _ h=>h.elim) (fun v H' ⟨b,h1,h2⟩=>by subst h1;subst h2;exact next b)
theorem OO {i sz:Nat}{rows:List (List PV)}(fx':List (Nat×Sp)) (ho:ops[k]?=some ⟨dst,op,ty,pos,aft,none⟩) (hn:opn k=true) (h:C9 P ⟨dst,op,ty,pos,aft,none⟩ (ev τ) H (NO i sz rows H)) (haft:Ef ops k (fx'.map (·.1))=true)
  (next:∀o c,Jj ops k H (H.set i (.vec o sz rows c)) rd∧Gu k (.eff (.vs o rows.length c) (H.set i (.vec o sz rows c))) fx∧Dr P ops n τ₀ D Q opn (k+1) (put τ dst (.vs o rows.length c)) (H.set i (.vec o sz rows c)) rd ((k,H,H.set i (.vec o sz rows c))::ef) (true::effs) (fx'++fx)):Dr P ops n τ₀ D Q opn k τ H rd ef effs fx :=
 Mu fx' ho hn h haft ⟨_,_,none,0,rfl,rfl⟩ (fun _ _ h=>h.elim) (fun v H' ⟨o,c,h1,h2⟩=>by subst h1;subst h2;exact next o c)
def G5 (v:AV) (H':List BD):D6→List BD→Prop
 | .val v',H''=>v'=v∧H''=H'
 | .panic _,_=>False
theorem fA {c:Call}{g:Option (Nat×Bool)}{f:Operand}{fid:FuncId}{first caps:List AV}{ρ:Operand→AV}{Hs Hf Hs':List BD}{A:List AV}
  (hc:c.callee= .value f) (hf:(ρ f= .p (.fn fid)∧first=[]∧caps=[])∨ρ f= .fn (.func fid) first caps) (hp:H.Perm (Hs++Hf)) (h:Bl P fid A Hs (G5 v Hs')) (hA:first++c.args.toList.map ρ++caps=A∨(first++c.args.toList.map ρ++caps).map norm=A) :
  DU P ⟨dst,.call c,ty,pos,aft,g⟩ ρ H v (Hs'++Hf):=by
 refine(Fb (H:=H) hc hf hp h hA).mono ?_;rintro r H' ⟨Hs',h1,rfl⟩;cases r with
 | val v'=>obtain⟨rfl,rfl⟩:=h1;exact⟨rfl,rfl⟩
 | panic v'=>exact h1
end
def JN (k:Int):List (Int×AV)→Option AV
 | []=>none
 | (j,x)::r=>if j=k then some x else JN k r
def MJ (k:Int) (v:AV):List (Int×AV)→List (Int×AV)
 | []=>[(k,v)]
 | (j,x)::r=>if j=k then (j,v)::r else (j,x)::MJ k v r
def Du (l:List (Int×AV)):List (PV×AV):=l.map fun p=>(.int .i64 p.1,p.2)
def mapOf (P:Program) (T:TypeId):Option TypeId :=
 match P.underlying T with
 | some (.map k e)=>match P.underlying k with
  | some (.int .i64)=>some e
  | _=>none
 | _=>none
theorem Md {P:Program}{T e:TypeId}(h:mapOf P T=some e):∃k,P.underlying T=some (.map k e)∧P.underlying k=some (.int .i64):=by
 unfold mapOf at h;split at h
 ·rename_i k e' hu;split at h
  ·rename_i hk;injection h with h;subst h;exact⟨k,hu,hk⟩
  cases h
 cases h
section
variable {F:Nat→Prop}{w:World}
theorem M9 {k:Int}:∀{l:List (Int×AV)}{es:List MapEntry}(i:Nat),DM F w (Du l) es →
  (JN k l=none∧Instr.findNow (.int .i64) (.int .i64 k) es i=some none)∨∃j e x,JN k l=some x∧Instr.findNow (.int .i64) (.int .i64 k) es i=some (some (i+j,e.val))∧es[j]?=some e∧e.key= .int .i64 k∧B9 F w x e.val
 | [],es,i,h=>by simp only[Du,List.map_nil,DM] at h;subst h;exact .inl ⟨rfl,rfl⟩
 | (j,x)::l,es,i,h=>by
  simp only[Du,List.map_cons,DM] at h;obtain⟨e,es',rfl,hk,hx,hr⟩:=h;simp only[CE] at hk;by_cases hj:j=k
  ·subst hj;exact .inr ⟨0,e,x,by simp[JN],by simp[Instr.findNow,hk,Instr.sameNow],rfl,hk,hx⟩
  have hne:(k==j)=false:=by simp[Ne.symm hj]
  rcases M9 (k:=k) (i+1) hr with ⟨h1,h2⟩ | ⟨q,e',x',h1,h2,h3,h4,h5⟩
  ·exact .inl ⟨by simp[JN,hj,h1],by simp[Instr.findNow,hk,Instr.sameNow,hne,h2]⟩
  exact .inr ⟨q+1,e',x',by simp[JN,hj,h1],by simp[Instr.findNow,hk,Instr.sameNow,hne,h2];omega,by simpa using h3,h4,h5⟩
theorem U6 {k:Int}:∀{l:List (Int×AV)}{es:List MapEntry},DM F w (Du l) es→JN k l=none→∀x∈es,x.key≠ .int .i64 k
 | [],es,h,_=>by
  simp only[Du,List.map_nil,DM] at h;subst h;simp
 | (j,v)::l,es,h,hm=>by
  simp only[Du,List.map_cons,DM] at h;obtain⟨e,es',rfl,hk,hv,hr⟩:=h;simp only[JN] at hm;split at hm
  ·cases hm
  rename_i q;intro x hx;rcases List.mem_cons.1 hx with rfl | hx
  ·simp only[CE] at hk;rw[hk];intro e;injection e with _ e2;exact q e2
  exact U6 hr hm x hx
theorem Uw {k:Int}{v:AV}{u:Value}{c:Nat}:∀{l:List (Int×AV)}{es:List MapEntry},DM F w (Du l) es→JN k l=none→B9 F w v u→DM F w (Du (MJ k v l)) (es++[{ key:= .int .i64 k,val:=u,born:=c }])
 | [],es,h,_,hv=>by
  simp only[Du,List.map_nil,DM] at h;subst h;simp only[MJ,Du,List.map_cons,List.map_nil,List.nil_append,DM];exact⟨_,[],O,by simp[CE],hv,rfl⟩
 | (j,x)::l,es,h,hm,hv=>by
  simp only[Du,List.map_cons,DM] at h;obtain⟨e,es',rfl,hk,hx,hr⟩:=h;by_cases hj:j=k
  ·simp[JN,hj] at hm
  simp only[JN,if_neg hj] at hm;simp only[MJ,if_neg hj,Du,List.map_cons,List.cons_append,DM];exact⟨e,_,O,hk,hx,Uw hr hm hv⟩
theorem Xr {k:Int}{v:AV}{u:Value}:∀{l:List (Int×AV)}{es:List MapEntry}{j:Nat}(i:Nat) {y:Value},DM F w (Du l) es→Instr.findNow (.int .i64) (.int .i64 k) es i=some (some (i+j,y))→B9 F w v u→DM F w (Du (MJ k v l)) (es.modify j fun e=>{ e with key:= .int .i64 k,val:=u })
 | [],es,j,i,y,h,hf,_=>by simp only[Du,List.map_nil,DM] at h;subst h;simp[Instr.findNow] at hf
 | (q,x)::l,es,j,i,y,h,hf,hv=>by
  simp only[Du,List.map_cons,DM] at h;obtain⟨e,es',rfl,hk,hx,hr⟩:=h;simp only[CE] at hk;by_cases hj:q=k
  ·subst hj;simp[Instr.findNow,hk,Instr.sameNow] at hf;obtain⟨rfl,_⟩:j=0∧True:=⟨by omega,trivial⟩;simp only[MJ,if_true,Du,List.map_cons,DM];exact⟨_,es',O,by simp[CE],hv,hr⟩
  have hne:(k==q)=false:=by simp[Ne.symm hj]
  simp only[Instr.findNow,hk,Instr.sameNow,if_true,hne] at hf;cases j with
  | zero =>
   have:∀(es:List MapEntry) (m:Nat) (y:Value) (r:Nat),Instr.findNow (.int .i64) (.int .i64 k) es m=some (some (r,y))→m≤r:=by
    intro es
    induction es with
    | nil=>intro m y r h;simp[Instr.findNow] at h
    | cons e es ih =>
     intro m y r h;simp only[Instr.findNow] at h;split at h
     ·simp at h;omega
     ·have:=ih _ _ _ h;omega
     cases h
   have:=this _ _ _ _ hf;omega
  | succ j =>
   simp only[MJ,if_neg hj,Du,List.map_cons,List.modify_succ_cons,DM];exact⟨e,_,O,by simpa [CE] using hk,hx,Xr (i+1) hr (by rw[show i+1+j=i+(j+1) by omega];exact hf) hv⟩
end
section
variable {P:Program}{dst:Option Tmp}{ty:TypeId}{pos:String}{aft:Array Edge}{g:Option (Nat×Bool)}{ρ:Operand→AV}{H:List BD}{x y z:Operand}{v:AV}
def cN (H:List BD):D6→List BD→Prop
 | .val v,H'=>∃b,v= .map b∧H'= .map b (Du [])::H
 | .panic _,_=>False
theorem VB {T:TypeId}:C9 P ⟨dst,.makeMap T none,ty,pos,aft,g⟩ ρ H (cN H) :=
 GF fun F w E hH hE=>by
  refine⟨.map (some w.heap.size),World.push w (.map #[] 0),.map w.heap.size,.map w.heap.size (Du [])::H,_,?_,⟨_,O,O⟩,MU H _ _ (.inl O),OH hH _ _ O ?_,by simp[B9]⟩
  ·simp[execOp,Instr.makeMap,Sem.run_bind];rfl
  exact⟨#[],0,LO _,MapKept.stamped_empty _,O⟩
theorem Wg {T e : TypeId} {b i : Nat} {l : List (Int × AV)} {k : Int} {zv : Value} {za : AV} (hT : mapOf P T = some e) (hz : zeroOf P e = some zv) (hza : ∀ F w, B9 F w za zv) (hx : ρ x = .map b) (hy : ρ y = .p (.int .i64 k)) (hi : H[i]? = some (.map b (Du l))) :
  DU P ⟨dst, .lookup T x y false, ty, pos, aft, g⟩ ρ H ((JN k l).getD za) H :=
 CG fun F w E hH hE => by
  obtain ⟨kt, hu, hk⟩ := Md hT
  have h1 := hE x Aa
  have h2 := hE y Aa
  rw [hx] at h1
  rw [hy] at h2
  simp only [B9, CE] at h1 h2
  obtain ⟨es, clk, hb, hs0, hr⟩ := hH.obj _ (List.mem_of_getElem? hi)
  have hzv : (zeroValue e).run P w = .ok zv w := by
   unfold zeroOf at hz
   cases hi : P.info? e with
   | none => simp [hi] at hz
   | some i => have hz' : i.zero = some zv := by simpa [hi] using hz
               simp [zeroValue, typeInfo, hi, hz', Sem.run_bind]
  have hkey : MapKept.IsKey (.int .i64) (.int .i64 k) := rfl
  rcases M9 (k := k) 0 hr with ⟨h3, h4⟩ | ⟨j, e', x', h3, h4, h5, h6, h7⟩
  ·refine ⟨zv, ?_, by rw [h3]; exact hza F w⟩
   simp [execOp, Instr.lookup, Sem.run_bind, run_underlying hu, h1, h2, MapKept.run_getObj_map hb, MapKept.run_checkKey hk hkey, MapKept.run_findKey hk h4, hzv]
  refine ⟨e'.val, ?_, by rw [h3]; exact h7⟩
  simp [execOp, Instr.lookup, Sem.run_bind, run_underlying hu, h1, h2, MapKept.run_getObj_map hb, MapKept.run_checkKey hk hkey, MapKept.run_findKey hk h4]
theorem Tn {T e : TypeId} {b i : Nat} {l : List (Int × AV)} {k : Int} {zv : Value} {za : AV} (hT : mapOf P T = some e) (hz : zeroOf P e = some zv) (hza : ∀ F w, B9 F w za zv) (hx : ρ x = .map b) (hy : ρ y = .p (.int .i64 k)) (hi : H[i]? = some (.map b (Du l))) :
  DU P ⟨dst, .lookup T x y true, ty, pos, aft, g⟩ ρ H (.tup [(JN k l).getD za, .p (.bool (JN k l).isSome)]) H :=
 CG fun F w E hH hE => by
  obtain ⟨kt, hu, hk⟩ := Md hT
  have h1 := hE x Aa
  have h2 := hE y Aa
  rw [hx] at h1
  rw [hy] at h2
  simp only [B9, CE] at h1 h2
  obtain ⟨es, clk, hb, hs0, hr⟩ := hH.obj _ (List.mem_of_getElem? hi)
  have hzv : (zeroValue e).run P w = .ok zv w := by
   unfold zeroOf at hz
   cases hi : P.info? e with
   | none => simp [hi] at hz
   | some i => have hz' : i.zero = some zv := by simpa [hi] using hz
               simp [zeroValue, typeInfo, hi, hz', Sem.run_bind]
  have hkey : MapKept.IsKey (.int .i64) (.int .i64 k) := rfl
  rcases M9 (k := k) 0 hr with ⟨h3, h4⟩ | ⟨j, e', x', h3, h4, h5, h6, h7⟩
  ·refine ⟨.tuple #[zv, .bool false], ?_, ?_⟩
   ·simp [execOp, Instr.lookup, Sem.run_bind, run_underlying hu, h1, h2, MapKept.run_getObj_map hb, MapKept.run_checkKey hk hkey, MapKept.run_findKey hk h4, hzv]
   simp only [h3, B9, Bp, CE]
   exact ⟨[zv, .bool false], O, _, _, O, hza F w, _, _, O, O, O⟩
  refine ⟨.tuple #[e'.val, .bool true], ?_, ?_⟩
  ·simp [execOp, Instr.lookup, Sem.run_bind, run_underlying hu, h1, h2, MapKept.run_getObj_map hb, MapKept.run_checkKey hk hkey, MapKept.run_findKey hk h4]
  simp only [h3, B9, Bp, CE]
  exact ⟨[e'.val, .bool true], O, _, _, O, h7, _, _, O, O, O⟩
theorem Ri {T e:TypeId}{b i:Nat}{l:List (Int×AV)}{k:Int}{va:AV}(hT:mapOf P T=some e) (hx:ρ x= .map b) (hy:ρ y= .p (.int .i64 k)) (hz:ρ z=va) (hi:H[i]?=some (.map b (Du l))) :
  DU P ⟨dst,.mapUpdate T x y z,ty,pos,aft,g⟩ ρ H (.p .any) (H.set i (.map b (Du (MJ k va l)))) :=
 (HR (R:=oz (.p .any) (H.set i (.map b (Du (MJ k va l))))) fun F w E hH hE=>by
  obtain⟨kt,hu,hk⟩:=Md hT;have h1:=hE x Aa;have h2:=hE y Aa;have h0:=hE z Aa;rw[hx] at h1;rw[hy] at h2;rw[hz] at h0;simp only[B9,CE] at h1 h2;obtain⟨es,clk,hb,hs0,hr⟩:=hH.obj _ (List.mem_of_getElem? hi);have hFb:F b:=hH.sub _ (List.mem_of_getElem? hi) b rfl;have hlt:=hH.bd b hFb;have hkey:MapKept.IsKey (.int .i64) (.int .i64 k):=rfl;have fin:∀(es':Array MapEntry) (clk':Nat),MapKept.Stamped es' clk'→DM F w (Du (MJ k va l)) es'.toList→Trans F H w F (H.set i (.map b (Du (MJ k va l)))) { w with heap:=w.heap.setIfInBounds b (.map es' clk') }∧HRel F (H.set i (.map b (Du (MJ k va l)))) { w with heap:=w.heap.setIfInBounds b (.map es' clk') }:=by
   intro es' clk' hs' hr';have hw:G7 b (.map es' clk') w { w with heap:=w.heap.setIfInBounds b (.map es' clk') }:=⟨rfl,rfl,rfl,rfl⟩;have st:=hw.stable hFb;exact⟨hw.trans hi O O,hw.HRel hH hi O O ⟨es',clk',hw.self hlt,hs',DM.mono st _ _ hr'⟩⟩
  rcases M9 (k:=k) 0 hr with ⟨h3,h4⟩ | ⟨j,e',x',h3,h4,h5,h6,h7⟩
  ·have hr':=Uw (c:=clk) hr h3 h0;obtain⟨f1,f2⟩:=fin (es.push { key:= .int .i64 k,val:=E z,born:=clk }) (clk+1) (MapKept.stamped_push hs0 (U6 hr h3)) (by simpa using hr');refine⟨_,_,F,?_,⟨O,O⟩,f1,f2⟩;simp[execOp,Instr.mapUpdate,Sem.run_bind,run_underlying hu,h1,h2,MapKept.run_getObj_map hb,MapKept.run_checkKey hk hkey,MapKept.run_findKey hk h4,MapKept.run_setObj_map _ hb]
  have hr':=Xr (v:=va) (u:=E z) 0 hr h4 h0;obtain⟨f1,f2⟩:=fin (es.modify j fun e=>{ e with key:= .int .i64 k,val:=E z }) clk (MapKept.stamped_modify hs0 j _ (fun _ _=>rfl) (fun e _ he=>by rw[show es[j]?=some e' by simpa using h5] at he;cases he;exact h6.symm)) (by simpa using hr');refine⟨_,_,F,?_,⟨O,O⟩,f1,f2⟩;have h5':es[j]?=some e':=by simpa using h5
  simp[execOp,Instr.mapUpdate,Sem.run_bind,run_underlying hu,h1,h2,MapKept.run_getObj_map hb,MapKept.run_checkKey hk hkey,MapKept.run_findKey hk h4,MapKept.run_setObj_map _ hb,h5',h6,Instr.keyThatStays,Instr.sameBits])
theorem IQ {T:TypeId}{d:TypeDesc}{a b:Value}{c:Bool}{w:World}(hu:P.underlying T=some d) (h:(match d,a,b with
  | .bool,.bool x,.bool y=>some (x==y)
  | .interface _,.nilIface,.nilIface=>some true
  | .interface _,.iface _ _,.nilIface=>some false
  | .slice _,.slice none _ _,.slice none _ _=>some true
  | .slice _,.slice (some _) _ _,.slice none _ _=>some false
  | _,_,_=>none)=some c):(Op.equal T a b).run P w= .ok c w:=by
 unfold Op.equal;rw[show Op.maxDepth=9999+1 from rfl];unfold Op.equalIn;simp only[Sem.run_bind,run_underlying hu,Result.andThen_ok];split at h<;>simp_all
theorem Gd {T U:TypeId}{ms:Array (String×TypeId)}{X:PV}{b:Bool}(hu:P.underlying T=some (.interface ms)) (hx:ρ x= .p X) (hy:ρ (.const .nilIface)= .p .nilIface) (hX:(match X with | .nilIface=>some false | .iface _ _=>some true | _=>none)=some b):DU P ⟨dst,.binOp .neq T x (.const .nilIface) U,ty,pos,aft,g⟩ ρ H (.p (.bool b)) H :=
 CG fun F w E hH hE=>by
  have e2:=hE (.const .nilIface) Aa;rw[hy] at e2;simp only[B9,CE] at e2;have e1:=hE x Aa;rw[hx] at e1;have hg:∀a,(eqGuard .neq T x (.const .nilIface) a .nilIface).run P w= .ok () w:=by
   intro a;unfold eqGuard;cases a<;>simp<;>rfl
  refine⟨.bool b,?_,by simp[B9,CE]⟩;cases X with
  | nilIface =>
   simp at hX;subst hX;simp only[B9,CE] at e1;have hq:(Op.equal T .nilIface .nilIface).run P w= .ok true w:=IQ hu rfl;simp[execOp,Sem.run_bind,hg,e1,e2,binOp,hq]
  | iface t c =>
   simp at hX;subst hX;simp only[B9,CE] at e1;obtain⟨u,e1,_⟩:=e1;have hq:(Op.equal T (.iface t u) .nilIface).run P w= .ok false w:=IQ hu rfl;simp[execOp,Sem.run_bind,hg,e1,e2,binOp,hq]
  | _=>simp at hX
theorem Rb {T e:TypeId}{len sz b o:Nat}{k:IntKind}{i:Int}{inf:TypeInfo}(hu:P.underlying T=some (.array len e)) (hj:P.info? e=some inf) (hs:inf.size=sz) (hx:ρ x= .ptr b o) (hy:ρ y= .p (.int k i)) (h0:0≤i) (hn:i<len) :
  DU P ⟨dst,.indexAddr T x y,ty,pos,aft,g⟩ ρ H (.ptr b (o+i.toNat*sz)) H :=
 CG fun F w E hH hE=>by
  have h1:=hE x Aa;have h2:=hE y Aa;rw[hx] at h1;rw[hy] at h2;simp only[B9,CE] at h1 h2;refine⟨.pointer (some ⟨b,o+i.toNat*sz,none⟩),?_,by simp[B9]⟩;simp[execOp,Instr.indexAt,Sem.run_bind,run_underlying hu,h1,h2,asIntOf,h0,hn,sizeOf,typeInfo,hj,hs,Addr.add_mid,Instr.sureAddr,asAddr]
theorem Re {T e:TypeId}{len:Nat}{parts:Array (Nat×Operand)}{z:Value}{cs:List AV}{inf:TypeInfo}(hu:P.underlying T=some (.array len e)) (hj:P.info? e=some inf) (hz:zeroOf P T=some z)
  (hc:FB (fun i=>some (i*inf.size,inf.size)) (z.cells.toList.map GH) (parts.toList.map fun p=>(p.1,ρ p.2))=some cs):DU P ⟨dst,.build T parts,ty,pos,aft,g⟩ ρ H (.agg cs) H :=
 CG fun F w E hH hE=>by
  unfold zeroOf at hz;cases hi:P.info? T with
  | none=>simp[hi] at hz
  | some i =>
   have hz':i.zero=some z:=by simpa [hi] using hz
   have hzv:(zeroValue T).run P w= .ok z w:=by simp[zeroValue,typeInfo,hi,hz',Sem.run_bind]
   have hsz:(sizeOf e).run P w= .ok inf.size w:=by simp[sizeOf,typeInfo,hj]
   obtain⟨us,hf,hr⟩:=Il (F:=F) (w:=w) (place:=(fun i=>some (i*inf.size,inf.size))) _ (parts.toList.map fun p=>(p.1,E p.2)) _ z.cells.toList _ Ao (by
    intro j p q h1 h2;simp only[List.getElem?_map] at h1 h2;cases hj:parts.toList[j]? with
    | none=>simp[hj] at h1
    | some t =>
     simp[hj] at h1 h2;subst h1;subst h2;exact⟨O,hE _ (by
      have:=List.mem_of_getElem? hj;simp only[Op.operands];exact List.mem_map.2 ⟨t,this,O⟩)⟩) (GS _) hc
   refine⟨.agg ⟨us⟩,?_,by simp only[B9];exact⟨us,rfl,hr⟩⟩;simp only[execOp,Instr.build,Sem.run_bind,hzv,Result.andThen_ok,run_underlying hu,hsz];have hf':Instr.fill (fun i=>some (i*inf.size,inf.size)) z.cells (parts.toList.map fun p=>(p.1,E p.2))=some ⟨us⟩:=hf;simp[hf']
theorem Tc {T U:TypeId}{e:TypeId}{rows:List (List PV)}(hu:P.underlying T=some (.slice e)) (hx:ρ x= .p (.lst rows)) (hy:ρ y= .p .nils):C9 P ⟨dst,.binOp .eql T x y U,ty,pos,aft,g⟩ ρ H (fun r H'=>match r with | .val v=>(∃b,v= .p (.bool b)∧(b=true→rows=[]))∧H'=H | .panic _=>False) :=
 GF fun F w E hH hE=>by
  have e1:=hE x Aa;have e2:=hE y Aa;rw[hx] at e1;rw[hy] at e2;simp only[B9,CE] at e1 e2;have hg:∀o n c,(eqGuard .eql T x y (.slice o n c) (.slice none 0 0)).run P w= .ok () w:=by intro o n c;unfold eqGuard;rfl
  have key:∃b,(execOp E ⟨dst,.binOp .eql T x y U,ty,pos,aft,g⟩).run P w= .ok (.value (.bool b)) w∧(b=true→rows=[]):=by
   rcases e1 with ⟨rfl,o,c,h1⟩ | ⟨bb,o,c,sz,h1,_⟩
   ·cases o with
    | none =>
     have hq:(Op.equal T (.slice none 0 c) (.slice none 0 0)).run P w= .ok true w:=IQ hu rfl;exact⟨true,by simp[execOp,Sem.run_bind,hg,h1,e2,binOp,hq],fun _=>rfl⟩
    | some a =>
     have hq:(Op.equal T (.slice (some a) 0 c) (.slice none 0 0)).run P w= .ok false w:=IQ hu rfl;exact⟨false,by simp[execOp,Sem.run_bind,hg,h1,e2,binOp,hq],fun _=>rfl⟩
   have hq:(Op.equal T (.slice (some ⟨bb,o,none⟩) rows.length c) (.slice none 0 0)).run P w= .ok false w:=IQ hu rfl;exact⟨false,by simp[execOp,Sem.run_bind,hg,h1,e2,binOp,hq],fun h=>by cases h⟩
  obtain⟨b,hb,hr⟩:=key;exact⟨_,w,.p (.bool b),H,F,hb,⟨⟨b,O,hr⟩,O⟩,.refl,hH,by simp[B9,CE]⟩
end
def Nv (P:Program) (T:TypeId):Bool :=
 match P.underlying T with
 | some (.struct fs)=>match fs.toList with
  | [f,g]=>f.name != "_" &&g.name != "_" &&Nat.beq f.offset 0&&Nat.beq g.offset 1&&(match P.underlying f.type,P.underlying g.type with | some (.int .i64),some (.int .i64)=>true | _,_=>false)&& !P.stoodInHeld T&& !P.eqGuardType P.depth T
  | _=>false
 | _=>false
theorem Wk {P:Program}{T:TypeId}{a b c d:Int}{w:World}(h:Nv P T=true):(Op.equal T (.agg #[.int .i64 a,.int .i64 b]) (.agg #[.int .i64 c,.int .i64 d])).run P w= .ok (a==c&&b==d) w:=by
 unfold Nv at h;split at h
 ·rename_i fs hu;split at h
  ·rename_i f g hfs;obtain rfl:fs=#[f,g]:=by apply Array.ext';simpa using hfs
   simp only[Bool.and_eq_true,bne_iff_ne,ne_eq,Bool.not_eq_true'] at h;obtain⟨⟨⟨⟨⟨⟨h1,h2⟩,h3⟩,h4⟩,h5⟩,h6⟩,h7⟩:=h;split at h5
   ·rename_i hf hg;have e3:=Nat.eq_of_beq_eq_true h3;have e4:=Nat.eq_of_beq_eq_true h4;have hp:(program).run P w= .ok P w:=rfl;have af:(isAgg f.type).run P w= .ok false w:=LY hf false rfl w;have ag:(isAgg g.type).run P w= .ok false w:=LY hg false rfl w;have pf:∀x y,(part f.type #[.int .i64 x,.int .i64 y] f.offset).run P w= .ok (.int .i64 x) w:=by
     intro x y;unfold part;simp[Sem.run_bind,af,e3]
    have pg:∀x y,(part g.type #[.int .i64 x,.int .i64 y] g.offset).run P w= .ok (.int .i64 y) w:=by
     intro x y;unfold part;simp[Sem.run_bind,ag,e4]
    have qf:∀x y,(Op.equalIn 9999 f.type (.int .i64 x) (.int .i64 y)).run P w= .ok (x==y) w:=by
     intro x y;rw[show (9999:Nat)=9998+1 from rfl];unfold Op.equalIn;simp[Sem.run_bind,run_underlying hf]
    have qg:∀x y,(Op.equalIn 9999 g.type (.int .i64 x) (.int .i64 y)).run P w= .ok (x==y) w:=by
     intro x y;rw[show (9999:Nat)=9998+1 from rfl];unfold Op.equalIn;simp[Sem.run_bind,run_underlying hg]
    unfold Op.equal;rw[show Op.maxDepth=9999+1 from rfl];unfold Op.equalIn;simp only[Sem.run_bind,run_underlying hu,Result.andThen_ok,hp,h6];simp[Sem.run_bind,h1,h2,pf,pg,qf,qg];cases hac:(a==c)<;>cases hbd:(b==d)<;>simp_all [Sem.run_bind,h1,h2,pf,pg,qf,qg]
   cases h5
  cases h
 cases h
section
variable {P:Program}{dst:Option Tmp}{ty:TypeId}{pos:String}{aft:Array Edge}{g:Option (Nat×Bool)}{ρ:Operand→AV}{H:List BD}{x y z:Operand}{v:AV}
theorem Zm {T U:TypeId}{a b c d:Int}(h:Nv P T=true) (hx:ρ x= .agg [.p (.int .i64 a),.p (.int .i64 b)]) (hy:ρ y= .agg [.p (.int .i64 c),.p (.int .i64 d)]):DU P ⟨dst,.binOp .neq T x y U,ty,pos,aft,g⟩ ρ H (.p (.bool (!(a==c&&b==d)))) H :=
 CG fun F w E hH hE=>by
  have e1:=hE x Aa;have e2:=hE y Aa;rw[hx] at e1;rw[hy] at e2;simp only[B9,Bp,CE] at e1 e2;obtain⟨vs,e1,u1,us1,rfl,rfl,u2,us2,rfl,rfl,rfl⟩:=e1;obtain⟨vs',e2,v1,vs1,rfl,rfl,v2,vs2,rfl,rfl,rfl⟩:=e2;refine⟨.bool (!(a==c&&b==d)),?_,by simp[B9,CE]⟩;have hq:=Wk (P:=P) (T:=T) (a:=a) (b:=b) (c:=c) (d:=d) (w:=w) h;have h':=h;have hg:(eqGuard .neq T x y (.agg #[.int .i64 a,.int .i64 b]) (.agg #[.int .i64 c,.int .i64 d])).run P w= .ok () w:=by
   unfold Nv at h';split at h'
   ·split at h'
    ·simp only[Bool.and_eq_true,Bool.not_eq_true'] at h';have h7:=h'.2;have hp:(program).run P w= .ok P w:=rfl;unfold eqGuard;simp[Sem.run_bind,hp,h7]
    cases h'
   cases h'
  simp[execOp,Sem.run_bind,hg,e1,e2,binOp,hq]
end
theorem HZ {P:Program}{r:Option Nat}{c:Code}{S:Bk}{Q:Cf→Bk→Prop}(N:Nat) (C:Nat→Prop) (St:Nat→Bk) (i₀:Nat) (h₀:i₀≤N) (hC:C i₀) (l:Le S (St i₀))
  (round:∀i,i≤N→C i→IP P r c (St i) (S1 (fun S'=>i<N∧C (i+1)∧Le S' (St (i+1))) Q)):IP P r (.loop c) S Q:=by
 refine U7 (fun m S=>∃i,i≤N∧m=N - i∧C i∧S=St i) (m:=N - i₀) l ⟨i₀,h₀,O,hC,O⟩ ?_;rintro m S ⟨i,hi,rfl,hc,rfl⟩;refine(round i hi hc).mono ?_;intro e S' h;cases e with
 | normal =>
  obtain⟨h1,h2,h3⟩:=h;exact⟨N - (i+1),St (i+1),by omega,h3,i+1,by omega,rfl,h2,rfl⟩
 | exit id=>exact h
 | ret=>exact h
 | panic v=>exact h
theorem Be {α:Type}{P:Program}{r:Option Nat}{c:Code}{S:Bk}{Q:Cf→Bk→Prop}(St:α→Bk) (μ:α→Nat) (C:α→Prop) (a₀:α) (hC:C a₀) (l:Le S (St a₀))
  (round:∀a,C a→IP P r c (St a) (S1 (fun S'=>∃a',μ a' < μ a∧C a'∧Le S' (St a')) Q)):IP P r (.loop c) S Q:=by
 refine U7 (fun m S=>∃a,m=μ a∧C a∧S=St a) (m:=μ a₀) l ⟨a₀,O,hC,O⟩ ?_;rintro m S ⟨a,rfl,hc,rfl⟩;refine(round a hc).mono ?_;intro e S' h;cases e with
 | normal =>
  obtain⟨a',h1,h2,h3⟩:=h;exact⟨μ a',St a',h1,h3,a',O,h2,O⟩
 | exit id=>exact h
 | ret=>exact h
 | panic v=>exact h
abbrev wr (n:Int):Int:=IntKind.i64.wrap n
section
variable {P:Program}{dst:Option Tmp}{ty:TypeId}{pos:String}{aft:Array Edge}{g:Option (Nat×Bool)}{ρ:Operand→AV}{H:List BD}{x y z:Operand}{v:AV}
theorem EX {m n:Int}{T U:TypeId}(hx:ρ x= .p (.int .i64 m)) (hy:ρ y= .p (.int .i64 n)):DU P ⟨dst,.binOp .add T x y U,ty,pos,aft,g⟩ ρ H (.p (.int .i64 (wr (m+n)))) H :=
 CG fun F w E hH hE=>by
  have e1:=hE x Aa;have e2:=hE y Aa;rw[hx] at e1;rw[hy] at e2;simp only[B9,CE] at e1 e2;exact⟨.int .i64 (wr (m+n)),by simp[execOp,Sem.run_bind,Iu,e1,e2,binOp,Op.intArith],by simp[B9,CE]⟩
theorem IY {m n:Int}{T U:TypeId}(hx:ρ x= .p (.int .i64 m)) (hy:ρ y= .p (.int .i64 n)):DU P ⟨dst,.binOp .sub T x y U,ty,pos,aft,g⟩ ρ H (.p (.int .i64 (wr (m - n)))) H :=
 CG fun F w E hH hE=>by
  have e1:=hE x Aa;have e2:=hE y Aa;rw[hx] at e1;rw[hy] at e2;simp only[B9,CE] at e1 e2;exact⟨.int .i64 (wr (m - n)),by simp[execOp,Sem.run_bind,Iu,e1,e2,binOp,Op.intArith],by simp[B9,CE]⟩
end
def oc (R:AV→Prop):D6→List BD→Prop
 | .val v,H'=>R v∧H'=[]
 | .panic _,_=>False
abbrev FY (P:Program) (f:FuncId) (args:List AV) (R:AV→Prop):Prop:=Bl P f args [] (oc R)
theorem FY.of {P:Program}{f:FuncId}{args:List AV}{v:AV}{R:AV→Prop}(h:E4 P f args v) (hR:R v):FY P f args R :=
 Bl.mono h fun r H hr=>by
  cases r with
  | val v'=>obtain⟨rfl,rfl⟩:=hr;exact⟨hR,rfl⟩
  | panic v'=>exact hr
def Oj (R:AV→Prop) (H:List BD):D6→List BD→Prop
 | .val v,H'=>R v∧H'=H
 | .panic _,_=>False
section
variable {P:Program}{r:Option Nat}{ops:Array Oper}{Q:Cf→Bk→Prop}{k:Nat}{n:Nat}{τ:Nat→AV}{H H':List BD}{D:List Dw}{dst:Option Tmp}{op:Op}{ty:TypeId}{pos:String}{aft:Array Edge}{g:Option (Nat×Bool)}{v:AV}
theorem B2 {c:Call}{f:Operand}{fid:FuncId}{ρ:Operand→AV}{A:List AV}{R:AV→Prop}(hc:c.callee= .value f) (hf:ρ f= .p (.fn fid)) (h:FY P fid A R) (hA:c.args.toList.map ρ=A∨(c.args.toList.map ρ).map norm=A) :
  C9 P ⟨dst,.call c,ty,pos,aft,g⟩ ρ H (Oj R H):=by
 refine(Fb (H:=H) (Hs:=[]) (Hf:=H) (first:=[]) (caps:=[]) hc (.inl ⟨hf,O,O⟩) (A:=A) Ao h (by simpa using hA)).mono ?_;rintro r H' ⟨Hs',h1,rfl⟩;cases r with
 | val v'=>obtain⟨h1,rfl⟩:=h1;exact⟨h1,rfl⟩
 | panic v'=>exact h1
theorem DW {R:AV→Prop}(ho:ops[k]?=some ⟨dst,op,ty,pos,aft,none⟩) (hd:F6 dst n=true) (h:C9 P ⟨dst,op,ty,pos,aft,none⟩ (ev τ) H (Oj R H))
  (next:∀v,R v→AL P r ops (k+1) ⟨n,put τ dst v,H,D⟩ Q):AL P r ops k ⟨n,τ,H,D⟩ Q :=
 Fc (S:=⟨n,τ,H,D⟩) ho Ah (Hr hd) h (fun v H' ⟨h1,h2⟩=>by subst h2;exact next v h1) (fun _ _ h=>h.elim)
theorem HU {R:AV→Prop}{j d:Nat}{want:Bool}(ho:ops[k]?=some ⟨dst,op,ty,pos,aft,some (j,want)⟩) (hd:F6 dst n=true) (hj:(ops[j]?).bind (·.dst)=some d) (hb:τ d= .p (.bool want)) (h:C9 P ⟨dst,op,ty,pos,aft,some (j,want)⟩ (ev τ) H (Oj R H))
  (next:∀v,R v→AL P r ops (k+1) ⟨n,put τ dst v,H,D⟩ Q):AL P r ops k ⟨n,τ,H,D⟩ Q :=
 Fc (S:=⟨n,τ,H,D⟩) ho (by simp only[Cg];exact⟨d,hj,hb⟩) (Hr hd) h (fun v H' ⟨h1,h2⟩=>by subst h2;exact next v h1) (fun _ _ h=>h.elim)
end
section
variable {P:Program}{ops:Array Oper}{n:Nat}{τ₀:Nat→AV}{D:List Dw}{Q:Cf→Bk→Prop}{opn:Nat→Bool}{k:Nat}{τ:Nat→AV}{H:List BD}{rd:V2}{ef:Uu}{effs:List Bool}{fx:List (Nat×Sp)}{dst:Option Tmp}{op:Op}{ty:TypeId}{pos:String}{aft:Array Edge}
theorem JM {R:AV→Prop}(fx':List (Nat×Sp)) (ho:ops[k]?=some ⟨dst,op,ty,pos,aft,none⟩) (hn:opn k=true) (h:C9 P ⟨dst,op,ty,pos,aft,none⟩ (ev τ) H (Oj R H)) (haft:Ef ops k (fx'.map (·.1))=true) (hne:∃v,R v) (owe:Jj ops k H H rd)
  (next:∀v,R v→Gu k (.eff v H) fx∧Dr P ops n τ₀ D Q opn (k+1) (put τ dst v) H rd ((k,H,H)::ef) (true::effs) (fx'++fx)):Dr P ops n τ₀ D Q opn k τ H rd ef effs fx :=
 Mu fx' ho hn h haft (let ⟨v,hv⟩:=hne;⟨v,H,hv,rfl⟩) (fun _ _ h=>h.elim) (fun v H' ⟨h1,h2⟩=>by subst h2;exact⟨owe,next v h1⟩)
theorem Xm {R:AV→Prop}{j d:Nat}{want:Bool}(fx':List (Nat×Sp)) (ho:ops[k]?=some ⟨dst,op,ty,pos,aft,some (j,want)⟩) (hn:opn k=true) (hj:(ops[j]?).bind (·.dst)=some d) (hb:τ d= .p (.bool want)) (h:C9 P ⟨dst,op,ty,pos,aft,some (j,want)⟩ (ev τ) H (Oj R H)) (haft:Ef ops k (fx'.map (·.1))=true) (hne:∃v,R v) (owe:Jj ops k H H rd)
  (next:∀v,R v→Gu k (.eff v H) fx∧Dr P ops n τ₀ D Q opn (k+1) (put τ dst v) H rd ((k,H,H)::ef) (true::effs) (fx'++fx)):Dr P ops n τ₀ D Q opn k τ H rd ef effs fx :=
 .opn (Oj R H) fx' ho hn ⟨d,hj,hb⟩ h haft (let ⟨v,hv⟩:=hne;⟨v,H,hv,rfl⟩) (fun v H' ⟨_,h2⟩=>by subst h2;exact owe) (fun v H' ⟨h1,h2⟩=>by subst h2;exact(next v h1).1) (fun v H' ⟨h1,h2⟩=>by subst h2;exact(next v h1).2) (fun _ _ h=>h.elim)
end
theorem BU {P:Program}{r:Option Nat}{c:Code}{Q:Cf→Bk→Prop}{n:Nat}{τ:Nat→AV}{H:List BD}{D:List Dw}(live:List Nat) (d:Nat) (R:AV→Prop) (h:IP P r c ⟨n,τ,H,D⟩ (S1 (fun S'=>S'.n=n∧S'.D=D∧H.Sublist S'.H∧R (S'.τ d)∧jO S'.τ τ live) Q))
  (next:∀x,R x→Q .normal ⟨n,mk ((d,x)::live.map fun t=>(t,τ t)),H,D⟩):IP P r c ⟨n,τ,H,D⟩ Q:=by
 intro F a w hs;refine wpIn_mono (h F a w hs) ?_;rintro e a' w' ⟨e',S',F',hq,he,hs',ht⟩;cases e' with
 | normal =>
  obtain⟨n',τ',H',D'⟩:=S';obtain⟨h1,h3,h2,h4,h5⟩:=hq;simp only at h1 h2 h3 h4 h5;subst h1;subst h3;have l:Le ⟨n',τ',H',D'⟩ ⟨n',mk ((d,τ' d)::live.map fun t=>(t,τ t)),H,D'⟩:=Dp ⟨rfl,O7 h5⟩ h2;exact⟨.normal,_,F',next _ h4,he,hs'.le l,ht.sublist h2⟩
 | exit id=>exact⟨.exit id,S',F',hq,he,hs',ht⟩
 | ret=>exact⟨.ret,S',F',hq,he,hs',ht⟩
 | panic v=>exact⟨.panic v,S',F',hq,he,hs',ht⟩
def Fz (v:AV):Prop:=∃b:Bool,v= .p (.bool b)
def YK (v:AV):Prop:=∃e:Int,v= .p (.int .i64 e)
end Go.Abs
namespace Go.Eu
open Go.Abs
noncomputable def MP {α:Type}(a b:α):Bool:= @decide (a=b) (Classical.propDecidable _)
theorem Fe {α:Type}{a b:α}(h:a=b):MP a b=true:=by simp[MP,h]
theorem HK {α:Type}{a b:α}(h:a≠b):MP a b=false:=by simp[MP,h]
theorem HQ {α:Type}{a b:α}:MP a b=true↔a=b:=by simp[MP]
abbrev LV (l:CX):AV:= .agg ((B5 l).map .p)
abbrev kg (ts:List Tm):AV:= .p (.lst (BC ts))
abbrev oB (ls:List CX):AV:= .p (.lst (ls.map B5))
theorem EP {ts:List CK}{i:Nat}{t:CK}(h:ts[i]?=some t):(ts.map Ge)[i]?=some (Ge t):=by simp[h]
theorem G3 {ts:List CX}{i:Nat}{t:CX}(h:ts[i]?=some t):(ts.map B5)[i]?=some (B5 t):=by simp[h]
def agree {α:Type}(a b:List α) (i:Nat):Prop:=a.take i=b.take i
theorem MY {α:Type}(a b:List α):agree a b 0:=by simp[agree]
theorem MH {α:Type}{a b:List α}{i:Nat}{x:α}(h:agree a b i) (ha:a[i]?=some x) (hb:b[i]?=some x):agree a b (i+1):=by
 unfold agree at *;rw[List.take_add_one,List.take_add_one,ha,hb,h]
theorem OL {α:Type}{a b:List α}{n:Nat}(h:agree a b n) (ha:a.length=n) (hb:b.length=n):a=b:=by
 unfold agree at h
 rwa [List.take_of_length_le An,List.take_of_length_le An] at h
theorem A6 {α:Type}{l:List α}{i:Nat}(h:i<l.length):∃x,l[i]?=some x:=⟨_,List.getElem?_eq_getElem h⟩
abbrev De:Nat:=1099511627776
def Ir (n:Int):Prop:= -9223372036854775808≤n∧n≤9223372036854775807
structure RU (l:CX):Prop where
 vars:l.vars.length<De
 c:Ir l.const
 v:∀v∈l.vars,Ir v.index∧Ir v.plus
mutual
def Nd:Tm→Prop
 | .mk k i n ls ks=>n.size<De∧ls.length<De∧(∀l∈ls,RU l)∧ks.length<De∧Ld ks∧Ir k∧Ir i
def Ld:List Tm→Prop
 | []=>True
 | t::ts=>Nd t∧Ld ts
end
theorem DK:∀{ts:List Tm}{i:Nat}{t:Tm},Ld ts→ts[i]?=some t→Nd t
 | [],i,t,_,h=>by simp at h
 | a::ts,0,t,hn,h=>by simp at h;subst h;exact hn.1
 | a::ts,i+1,t,hn,h=>by simp at h;exact DK hn.2 h
mutual
def depth:Tm→Nat
 | .mk _ _ _ _ ks=>Z7 ks+1
def Z7:List Tm→Nat
 | []=>0
 | t::ts=>max (depth t) (Z7 ts)
end
end Go.Eu
namespace Go.Eu
theorem Mr (bs : ByteArray) : ∀ (d i : Nat) (r : List UInt8), bs.size - i = d → ByteArray.toList.loop bs i r = r.reverse ++ bs.data.toList.drop i := by
 intro d
 induction d with
 | zero =>
  intro i r h
  unfold ByteArray.toList.loop
  have : ¬ i < bs.size := by omega
  simp only [this, if_false]
  rw [List.drop_eq_nil_of_le (by have : bs.data.size = bs.size := rfl; simp; omega)]; simp
 | succ d ih =>
  intro i r h
  unfold ByteArray.toList.loop
  have hi : i < bs.size := by omega
  simp only [hi, if_true]
  rw [ih (i + 1) _ An]
  have hlt : i < bs.data.toList.length := by have : bs.data.size = bs.size := rfl; simp; omega
  rw [List.drop_eq_getElem_cons hlt]
  have : bs.get! i = bs.data.toList[i] := by
   have h2 : i < bs.data.size := by simpa using hlt
   show bs.data[i]! = _
   rw [getElem!_pos bs.data i h2]; simp
  simp [this]
theorem NR (bs:ByteArray):bs.toList=bs.data.toList:=by
 unfold ByteArray.toList;rw[Mr bs _ 0 [] rfl];simp
theorem G1 {a b:ByteArray}(h:a.toList=b.toList):a=b:=by
 rw[NR,NR] at h;cases a;cases b;simp at h;congr
end Go.Eu
namespace Go.Eu
open Go.Abs
mutual
def EG:Tm→Int→Int
 | .mk _ _ _ _ ks,most=>EA ks most 0
def EA:List Tm→Int→Int→Int
 | [],_,n=>n
 | t::ts,most,n=>if n > most then n else EA ts most (wr (n+wr (1+EG t (wr (most - n)))))
end
theorem Rs {l:List Tm}{i:Nat}{t:Tm}{most n:Int}(h:l[i]?=some t):EA (l.drop i) most n=if n > most then n else EA (l.drop (i+1)) most (wr (n+wr (1+EG t (wr (most - n))))):=by
 have hlt:i<l.length:=(List.getElem?_eq_some_iff.1 h).1;rw[List.drop_eq_getElem_cons hlt];have:l[i]=t:=by simpa [List.getElem?_eq_getElem hlt] using h
 rw[this,EA]
end Go.Eu
namespace Go.Eu
def arity (k:Int):Int:=if k=4∨k=5∨k=6∨k=7 then 2 else if k=8∨k=11 then 3 else if k=9∨k=10 then 1 else 0
def below (k i:Int):Int:=if ((i==1&&(k==5||k==6||k==7))||(i==2&&k==11))=true then 1 else 0
def Wh:Tm→Prop
 | .mk kd _ _ _ ks=>0≤kd∧kd<13∧(ks.length:Int)=arity kd
mutual
def wf (vars metas:Int):Int→Tm→Prop
 | d,.mk kd ix _ _ ks=>0≤kd∧kd<13∧(ks.length:Int)=arity kd∧(kd=0→0≤ix∧ix - d<vars)∧(kd=12→0≤ix∧ix<metas)∧fq vars metas kd d 0 ks
def fq (vars metas:Int):Int→Int→Nat→List Tm→Prop
 | _,_,_,[]=>True
 | kd,d,i,t::ts=>wf vars metas (d+below kd i) t∧fq vars metas kd d (i+1) ts
end
theorem Jw {vars metas kd d:Int}:∀{ks:List Tm}{i:Nat},(∀j t,ks[j]?=some t→wf vars metas (d+below kd ((i+j:Nat):Int)) t)→fq vars metas kd d i ks
 | [],i,_=>by simp[fq]
 | t::ts,i,h=>by
  simp only[fq];exact⟨by have:=h 0 t rfl;simpa using this,Jw fun j t' ht=>by have:=h (j+1) t' (by simpa using ht);rw[show i+1+j=i+(j+1) by omega];exact this⟩
theorem Cj (k i:Int):0≤below k i∧below k i≤1:=by unfold below;split<;>omega
theorem Cu {α:Type}{l:List α}{p:Nat→α→Prop}{i:Nat}{x:α}(h:∀j,j<i→∀t,l[j]?=some t→p j t) (hx:l[i]?=some x) (hp:p i x):∀j,j<i+1→∀t,l[j]?=some t→p j t:=by
 intro j hj t ht;rcases Nat.lt_or_ge j i with h' | h'
 ·exact h j h' t ht
 have e:j=i:=by omega
 subst e;rw[hx] at ht;injection ht with ht;subst ht;exact hp
end Go.Eu
namespace Go.Abs
section
variable {α:Type}
def O5 (is:List Nat):Nat→List α→List α
 | _,[]=>[]
 | k,a::l=>bif is.any (Nat.beq k ·) then a::O5 is (k+1) l else O5 is (k+1) l
theorem OG (is:List Nat):∀(k:Nat) (l:List α),(O5 is k l).Sublist l
 | _,[]=>List.Sublist.refl _
 | k,a::l=>by
  simp only[O5];cases is.any (Nat.beq k ·)
  ·exact(OG is (k+1) l).cons _
  exact(OG is (k+1) l).cons_cons _
theorem CH {is:List Nat}{l l':List α}(h:O5 is 0 l=l'):l'.Sublist l:=h▸OG is 0 l
def E0 (H:List α):List Nat→List α→Prop
 | [],xs=>xs=[]
 | i::is,xs=>∃x xs',xs=x::xs'∧H[i]?=some x∧E0 H is xs'
def Kc (H:List α):List Nat→List α→List α
 | i::is,x::xs=>Kc (H.set i x) is xs
 | _,_=>H
def Cp (is:List Nat):Nat→List α→List α
 | _,[]=>[]
 | k,a::l=>if k∈is then Cp is (k+1) l else a::Cp is (k+1) l
theorem O9:∀(k:Nat) (l:List α),Cp [] k l=l
 | _,[]=>rfl
 | k,a::l=>by simp[Cp,O9 (k+1) l]
theorem O4 {is:List Nat}{j:Nat}:∀(k:Nat) (l:List α),j<k→Cp (j::is) k l=Cp is k l
 | _,[],_=>rfl
 | k,a::l,h=>by
  have:k≠j:=by omega
  have ih:=O4 (is:=is) (j:=j) (k+1) l An;simp[Cp,this,ih]
theorem Mx {is:List Nat}{x:α}:∀(l:List α) (k i:Nat),l[i]?=some x→(k+i) ∉ is→(Cp is k l).Perm (x::Cp ((k+i)::is) k l)
 | [],k,i,h,_=>by simp at h
 | a::l,k,0,h,hn=>by
  simp at h hn;subst h;simp[Cp,hn,O4 (k+1) l (Nat.lt_succ_self k)]
 | a::l,k,i+1,h,hn=>by
  simp at h;have ih:=Mx l (k+1) i h (by rw[show k+1+i=k+(i+1) by omega];exact hn);rw[show k+1+i=k+(i+1) by omega] at ih;have hk:k≠k+(i+1):=by omega
  simp only[Cp,List.mem_cons,hk,false_or];split
  ·exact ih
  exact(ih.cons a).trans (.swap _ _ _)
theorem DA {H:List α}:∀{is:List Nat}{xs:List α},is.Nodup→E0 H is xs→H.Perm (xs++Cp is 0 H)
 | [],xs,_,h=>by simp only[E0] at h;subst h;simp[O9]
 | i::is,xs,hn,h=>by
  obtain⟨x,xs',rfl,hx,hr⟩:=h;have hn':=List.nodup_cons.1 hn;have ih:=DA hn'.2 hr;have:=Mx (is:=is) H 0 i hx (by simpa using hn'.1);simp only[Nat.zero_add] at this;exact ih.trans (((List.Perm.refl xs').append this).trans List.perm_middle)
theorem Oh {is:List Nat}{y:α}:∀(l:List α) (k i:Nat),(k+i)∈is→Cp is k (l.set i y)=Cp is k l
 | [],k,i,_=>by simp
 | a::l,k,0,h=>by simp at h;simp[Cp,h]
 | a::l,k,i+1,h=>by
  have:=Oh (y:=y) l (k+1) i (by rw[show k+1+i=k+(i+1) by omega];exact h);simp only[List.set_cons_succ,Cp,this]
theorem RS {i:Nat}{y:α}:∀{is:List Nat}{xs H:List α},i ∉ is→E0 H is xs→E0 (H.set i y) is xs
 | [],xs,H,_,h=>h
 | j::is,xs,H,hn,h=>by
  obtain⟨x,xs',rfl,hx,hr⟩:=h;simp at hn;exact⟨x,xs',O,by rw[List.getElem?_set_ne hn.1];exact hx,RS hn.2 hr⟩
theorem S8:∀{is:List Nat}{xs xs' H:List α},is.Nodup→E0 H is xs→xs'.length=xs.length→E0 (Kc H is xs') is xs'∧(∀ks k,(∀i∈is,k+i∈ks)→Cp ks k (Kc H is xs')=Cp ks k H)∧∀j,j ∉ is→(Kc H is xs')[j]?=H[j]?
 | [],xs,xs',H,_,h,hl=>by
  simp only[E0] at h;subst h;have:xs'=[]:=by simpa using hl
  subst this;exact⟨O,fun _ _ _=>O,fun _ _=>O⟩
 | i::is,xs,xs',H,hn,h,hl=>by
  obtain⟨x,xr,rfl,hx,hr⟩:=h;have hn':=List.nodup_cons.1 hn;cases xs' with
  | nil=>simp at hl
  | cons y ys =>
   have hlt:i<H.length:=(List.getElem?_eq_some_iff.1 hx).1;obtain⟨h1,h2,h3⟩:=S8 (H:=H.set i y) hn'.2 (RS hn'.1 hr) (by simpa using hl);refine⟨⟨y,ys,O,by rw[Kc,h3 i hn'.1];simp[hlt],h1⟩,fun ks k hk=>?_,fun j hj=>?_⟩
   ·rw[Kc,h2 ks k (fun q hq=>hk q (by simp[hq])),Oh _ _ _ (hk i Ao)]
   simp at hj;rw[Kc,h3 j hj.2,List.getElem?_set_ne (fun e=>hj.1 e.symm)]
theorem LR {is:List Nat}{xs xs' H:List α}(hn:is.Nodup) (h:E0 H is xs) (hl:xs'.length=xs.length):(Kc H is xs').Perm (xs'++Cp is 0 H):=by
 obtain⟨h1,h2,_⟩:=S8 hn h hl;have:=DA hn h1
 rwa [h2 is 0 (fun i hi=>by simpa using hi)] at this
end
def iK (τ:Nat→AV) (x:AV):List Nat→Prop
 | []=>True
 | t::r=>τ t=x∧iK τ x r
theorem Eh {τ:Nat→AV}{x:AV}:∀{ts:List Nat},iK τ x ts→∀t∈ts,τ t=x
 | [],_,t,h=>by simp at h
 | a::r,h,t,ht=>by
  rcases List.mem_cons.1 ht with rfl | ht
  ·exact h.1
  exact Eh h.2 t ht
section
variable {P:Program}{S:Bk}{a T n b i:Nat}{cs:List AV}{v:AV}
theorem BE (hT:Dl P T=some (true,n)) (ha:S.τ a= .ptr b 0) (hi:S.H[i]?=some (.box b cs)) (hn:cs.length=n):eO P S (.cell a T) (.agg cs):=by
 obtain⟨d,h1,h2,h3⟩:=EY hT;exact⟨b,cs,i,ha,hi,.inl ⟨d,h1,h2,by rw[h3,hn],rfl⟩⟩
theorem GD (hT:Dl P T=some (false,n)) (ha:S.τ a= .ptr b 0) (hi:S.H[i]?=some (.box b [v])):eO P S (.cell a T) v:=by
 obtain⟨d,h1,h2,h3⟩:=EY hT;exact⟨b,[v],i,ha,hi,.inr ⟨d,h1,h2,O⟩⟩
end
section
variable {P:Program}{dst:Option Tmp}{ty:TypeId}{pos:String}{aft:Array Edge}{g:Option (Nat×Bool)}{ρ:Operand→AV}{H Hs Hs':List BD}{x y z:Operand}{v:AV}{c:Call}{f:Operand}{fid:FuncId}{first caps A:List AV}
theorem C9.permD {o:Oper}{H H' H'':List BD}(h:DU P o ρ H v H') (hp:H'.Perm H''):DU P o ρ H v H'':=by
 intro r F S a w hs hH hρ hd;have:=h r F S a w hs hH hρ hd;refine LQ this ?_ ?_
 ·rintro a' w' ⟨v',H1,F',⟨rfl,rfl⟩,hs',ht⟩;exact⟨v',H'',F',⟨O,O⟩,⟨hs'.size,hs'.tmp,hs'.heap.perm hp,hs'.defs⟩,{ ht with keys:=fun o ho=>ht.keys o (hp.mem_iff.2 ho) }⟩
 rintro e a' w' ⟨v',H1,F',u,h,_⟩;exact h.elim
theorem CW (is:List Nat) (hc:c.callee= .value f) (hf:(ρ f= .p (.fn fid)∧first=[]∧caps=[])∨ρ f= .fn (.func fid) first caps) (h:Bl P fid A Hs (G5 v Hs')) (hg:E0 H is Hs) (hn:is.Nodup) (hl:Hs'.length=Hs.length) (hA:first++c.args.toList.map ρ++caps=A∨(first++c.args.toList.map ρ++caps).map norm=A) :
  DU P ⟨dst,.call c,ty,pos,aft,g⟩ ρ H v (Kc H is Hs') :=
 C9.permD (fA hc hf (DA hn hg) h hA) (LR hn hg hl).symm
theorem Nc (hc:c.callee= .value f) (hf:ρ f= .fn (.func fid) first caps) (h:E4 P fid A v) (hA:first++c.args.toList.map ρ++caps=A∨(first++c.args.toList.map ρ++caps).map norm=A) :
  DU P ⟨dst,.call c,ty,pos,aft,g⟩ ρ H v H:=by
 refine(Fb (H:=H) (Hs:=[]) (Hf:=H) hc (.inr hf) (A:=A) Ao h hA).mono ?_;rintro r H' ⟨Hs',h1,rfl⟩;cases r with
 | val v'=>obtain⟨rfl,rfl⟩:=h1;exact⟨rfl,rfl⟩
 | panic v'=>exact h1
theorem Cs {T T2 e e2:TypeId}{sz bytes n2 n3 c i n:Nat}{o:Option Nat}{rows rows' rows2:List (List PV)}{zv:Value}(hT:E6 P T=some (e,sz,bytes)) (hT2:E6 P T2=some (e2,n2,n3)) (hz:zeroOf P e=some zv) (hzs:zv.cells.size=sz) (hb0:(Nat.blt 0 sz&&Nat.blt 0 bytes)=true)
  (hx:ρ x= .vs o n c) (hn:n=rows.length) (hi:H[i]?=some (.vec o sz rows c)) (hy:norm (ρ y)= .p (.lst rows')) (hsol:∀r∈rows',D2 sz r) (hroom:2*(rows.length+rows'.length)*bytes≤281474976710656) (h2:rows++rows'=rows2) :
  C9 P ⟨dst,.call { callee:= .builtin .append,args:=#[x,y],argTypes:=#[T,T2] },ty,pos,aft,g⟩ ρ H (NO i sz rows2 H):=by
 subst h2;exact Qb hT hT2 hz hzs hb0 hx hn hi hy hsol hroom
theorem TL {F:Nat→Prop}{w:World}{u:Value}(h:B9 F w (.p .nils) u):B9 F w (.vs none 0 0) u:=by
 simp only[B9,CE] at *;exact⟨Ap,Ap,none,h⟩
theorem V4 {α : Type} : ∀ {us cs : List α}, us.length = cs.length → splice cs 0 us = us := by
 have key : ∀ (us : List α) (pre cs : List α), us.length = cs.length → splice (pre ++ cs) pre.length us = pre ++ us := by
  intro us
  induction us with
  | nil => intro pre cs h; have : cs = [] := by simpa using h.symm
           subst this; simp [splice]
  | cons u us ih =>
   intro pre cs h
   cases cs with
   | nil => simp at h
   | cons c cs =>
    simp only [splice]
    have := ih (pre ++ [u]) cs (by simpa using h)
    have e : (pre ++ c :: cs).set pre.length u = pre ++ [u] ++ cs := by simp
    rw [e]
    simpa using this
 intro us cs h
 exact key us [] cs h
theorem CZ {T:TypeId}{bl:Bool}{n b i:Nat}{cs us:List AV}(hT:Dl P T=some (bl,n+1)) (hx:ρ x= .ptr b 0) (hi:H[i]?=some (.box b cs)) (hy:EK (ρ y)=some us) (hn:us.length=n+1)
  (ho:cs.length=n+1) (h1:us.all one=true):DU P ⟨dst,.store T x y,ty,pos,aft,g⟩ ρ H (.p .any) (H.set i (.box b us)):=by
 have:=JH (P:=P) (dst:=dst) (ty:=ty) (pos:=pos) (aft:=aft) (g:=g) hT hx hi hy hn (by rw[ho];simp) h1
 rwa [V4 (by rw[hn,ho])] at this
theorem D5 {T:TypeId}{bl:Bool}{b i j sz c:Nat}{rows rows2:List (List PV)}{us:List AV}{r:List PV}(hT:Dl P T=some (bl,sz)) (hpos:Nat.blt 0 sz=true) (hx:ρ x= .ptr b (j*sz)) (hi:H[i]?=some (.vec (some b) sz rows c)) (hj:j<rows.length) (hy:EK (ρ y)=some us) (hp:Fy (us.map dn)=some r) (hrl:r.length=sz) (h1:us.all one=true) (h2:rows.set j r=rows2) :
  DU P ⟨dst,.store T x y,ty,pos,aft,g⟩ ρ H (.p .any) (H.set i (.vec (some b) sz rows2 c)):=by
 subst h2;exact RV hT hpos hx hi hj hy hp hrl h1
theorem LM {T e:TypeId}{sz bytes:Nat}{m:Int}{zs:List Value}{zv:Value}{zr:List PV}{rows2:List (List PV)}(hT:E6 P T=some (e,sz,bytes)) (hz:zeroOf P e=some zv) (hzs:zv.cells=⟨zs⟩) (hsz:zs.length=sz) (hpos:0<sz) (hp:Fy ((zs.map GH).map dn)=some zr)
  (hx:ρ x= .p (.int .i64 m)) (hy:ρ y= .p (.int .i64 m)) (h0:0≤m) (hm:bytes*m≤281474976710656) (hm2:m≤9223372036854775807) (h2:List.replicate m.toNat zr=rows2) :
  C9 P ⟨dst,.makeSlice T x y,ty,pos,aft,g⟩ ρ H (LL sz rows2 H):=by
 subst h2;exact Rc hT hz hzs hsz hpos hp hx hy h0 hm hm2
theorem Co {T e:TypeId}{sz bytes lo hi:Nat}{rows rows2:List (List PV)}{l h:Option Operand}(hT:E6 P T=some (e,sz,bytes)) (hx:ρ x= .p (.lst rows)) (hr:∀r∈rows,r.length=sz)
  (hl:match l with | none=>lo=0 | some y=>∃k,ρ y= .p (.int k lo)) (hh:match h with | none=>hi=rows.length | some y=>∃k,ρ y= .p (.int k hi)) (h1:lo≤hi) (h2:hi≤rows.length) (h3:(rows.take hi).drop lo=rows2) :
  DU P ⟨dst,.slice T x l h none,ty,pos,aft,g⟩ ρ H (.p (.lst rows2)) H:=by
 subst h3;exact Z0 hT hx hr hl hh h1 h2
end
section
variable {P:Program}{r:Option Nat}{ops:Array Oper}{Q:Cf→Bk→Prop}{k:Nat}{n:Nat}{τ:Nat→AV}{H H':List BD}{D:List Dw}{dst:Option Tmp}{op:Op}{ty:TypeId}{pos:String}{aft:Array Edge}{v:AV}
theorem jx (ho:ops[k]?=some ⟨dst,op,ty,pos,aft,none⟩) (hd:F6 dst n=true) (h:C9 P ⟨dst,op,ty,pos,aft,none⟩ (ev τ) H (cN H))
  (next:∀b,AL P r ops (k+1) ⟨n,put τ dst (.map b),.map b (Du [])::H,D⟩ Q):AL P r ops k ⟨n,τ,H,D⟩ Q :=
 Fc (S:=⟨n,τ,H,D⟩) ho Ah (Hr hd) h (fun v H' ⟨b,h1,h2⟩=>by subst h1;subst h2;exact next b) (fun _ _ h=>h.elim)
end
theorem leH {is:List Nat}{H H1 H':List BD}(h:O5 is 0 H=H1) (w:FM H1 H'):ib H H':=⟨H1,CH h,w⟩
theorem C7 {x y:AV}(h:norm x=y):RN x y:=fun _ _ _ hr=>h▸hr.norm
theorem DO:FM [] []:=rfl
theorem wl {o o':BD}{l l':List BD}(h:K5 o o') (r:FM l l'):FM (o::l) (o'::l'):=⟨o',l',rfl,h,r⟩
theorem on {b:Nat}{cs cs':List AV}(h:cs.map dn=cs'):K5 (.box b cs) (.box b cs'):=⟨rfl,fun F w hr=>by
 obtain⟨vs,T,h1,h2⟩:=hr;exact⟨vs,T,h1,h▸Ja h2⟩⟩
theorem Bc {n:Nat}{τ:Nat→AV}{H:List BD}{D:List Dw}{i b:Nat}{cs:List AV}(hi:H[i]?=some (.box b cs)):G6 ⟨n,τ,H,D⟩ ⟨n,τ,H.set i (.box b (cs.map dn)),D⟩:=by
 intro F a w hs;refine⟨F,⟨hs.size,hs.tmp,?_,hs.defs⟩,?_⟩
 ·have hk:=FX (x':= .box b (cs.map dn)) hi rfl;refine⟨fun o ho c hc=>?_,by show List.Nodup _;rw[hk];exact hs.heap.nodup,fun o ho=>?_,hs.heap.bd⟩
  ·rcases DQ ho with rfl | ⟨j,_,hj⟩
   ·exact hs.heap.sub _ (List.mem_of_getElem? hi) c hc
   exact hs.heap.sub _ (List.mem_of_getElem? hj) c hc
  rcases DQ ho with rfl | ⟨j,_,hj⟩
  ·exact(on O).2 F w (hs.heap.obj _ (List.mem_of_getElem? hi))
  exact hs.heap.obj _ (List.mem_of_getElem? hj)
 refine { Trans.refl (F:=F) (H:=H) (w:=w) with keys:=fun o ho c hc=>?_ };rcases DQ ho with rfl | ⟨j,_,hj⟩
 ·exact .inl ⟨_,List.mem_of_getElem? hi,hc⟩
 exact .inl ⟨_,List.mem_of_getElem? hj,hc⟩
theorem Fh {n:Nat}{τ:Nat→AV}{H:List BD}{D:List Dw}(t:Nat):G6 ⟨n,τ,H,D⟩ ⟨n,put τ (some t) (norm (τ t)),H,D⟩:=Qc fun _ _ _ h=>h.norm
theorem ob {b:Nat}{cs cs':List AV}(h:cs=cs'):K5 (.box b cs) (.box b cs'):=oe (by rw[h])
theorem om {b:Nat}{l l':List (PV×AV)}(h:l=l'):K5 (.map b l) (.map b l'):=oe (by rw[h])
def fo (mkv:AV→AV) (sz:Nat) (rows:List (List PV)):D6→List BD→Prop
 | .val v,H'=>∃o c,v=mkv (.vs o rows.length c)∧H'=[.vec o sz rows c]
 | .panic _,_=>False
section
variable {P:Program}{r:Option Nat}{ops:Array Oper}{Q:Cf→Bk→Prop}{k:Nat}{n:Nat}{τ:Nat→AV}{H H':List BD}{D:List Dw}{dst:Option Tmp}{op:Op}{ty:TypeId}{pos:String}{aft:Array Edge}{v:AV}
theorem OE {c:Call}{f:Operand}{fid:FuncId}{first caps:List AV}{A:List AV}{mkv:AV→AV}{sz:Nat}{rows:List (List PV)}
  (ho:ops[k]?=some ⟨dst,.call c,ty,pos,aft,none⟩) (hd:F6 dst n=true)
  (hc:c.callee= .value f) (hf:(ev τ f= .p (.fn fid)∧first=[]∧caps=[])∨ev τ f= .fn (.func fid) first caps) (h:Bl P fid A [] (fo mkv sz rows)) (hA:first++c.args.toList.map (ev τ)++caps=A∨(first++c.args.toList.map (ev τ)++caps).map norm=A)
  (next:∀o cp,AL P r ops (k+1) ⟨n,put τ dst (mkv (.vs o rows.length cp)),.vec o sz rows cp::H,D⟩ Q):AL P r ops k ⟨n,τ,H,D⟩ Q :=
 IG ho hd hc hf (Hs:=[]) (Hf:=H) Ao h hA (fun v H' ⟨o,cp,h1,h2⟩=>by subst h1;subst h2;exact next o cp) (fun _ _ h=>h.elim)
end
def Fj:List AV→List AV→Prop
 | [],ys=>ys=[]
 | x::xs,ys=>∃y ys',ys=y::ys'∧RN x y∧Fj xs ys'
theorem Eg:Fj [] []:=rfl
theorem aw {x y:AV}{xs ys:List AV}(h:RN x y) (r:Fj xs ys):Fj (x::xs) (y::ys):=⟨y,ys,rfl,h,r⟩
theorem N5 {F:Nat→Prop}{w:World}:∀{xs ys:List AV}{vs:List Value},Fj xs ys→Bp F w xs vs→Bp F w ys vs
 | [],ys,vs,h,hr=>by simp only[Fj] at h;subst h;exact hr
 | x::xs,ys,vs,h,hr=>by
  obtain⟨y,ys',rfl,h1,h2⟩:=h;simp only[Bp] at hr ⊢;obtain⟨u,us,rfl,r1,r2⟩:=hr;exact⟨u,us,O,h1 F w u r1,N5 h2 r2⟩
theorem OV:RN (.p .nils) (.vs none 0 0):=fun _ _ _ h=>TL h
theorem Bl.args {P:Program}{f:FuncId}{args A:List AV}{H:List BD}{R:D6→List BD→Prop}(h:Bl P f A H R) (hA:Fj args A):Bl P f args H R :=
 ⟨h.1,fun F w vs hH ha=>h.2 F w vs hH (N5 hA ha)⟩
section
variable {P:Program}{r:Option Nat}{ops:Array Oper}{Q:Cf→Bk→Prop}{k:Nat}{n:Nat}{τ:Nat→AV}{H Hs:List BD}{D:List Dw}{dst:Option Tmp}{op:Op}{ty:TypeId}{pos:String}{aft:Array Edge}{v:AV}{c:Call}{f:Operand}{fid:FuncId}{first caps A:List AV}{R:D6→List BD→Prop}
theorem Ry {S:Bk}{H':List BD}(hp:S.H.Perm H'):G6 S ⟨S.n,S.τ,H',S.D⟩:=fun F a w hs =>
 ⟨F,⟨hs.size,hs.tmp,hs.heap.perm hp,hs.defs⟩,{ Trans.refl (F:=F) (H:=S.H) (w:=w) with keys:=fun o ho b hb=> .inl ⟨o,hp.mem_iff.2 ho,hb⟩ }⟩
theorem dC (is:List Nat) (ho:ops[k]?=some ⟨dst,.call c,ty,pos,aft,none⟩) (hd:F6 dst n=true)
  (hc:c.callee= .value f) (hf:(ev τ f= .p (.fn fid)∧first=[]∧caps=[])∨ev τ f= .fn (.func fid) first caps) (h:Bl P fid A Hs R) (hg:E0 H is Hs) (hn:is.Nodup) (hA:Fj (first++c.args.toList.map (ev τ)++caps) A)
  (next:∀v Hs',R (.val v) Hs'→Hs'.length=Hs.length∧AL P r ops (k+1) ⟨n,put τ dst v,Kc H is Hs',D⟩ Q) (pan:∀v Hs',R (.panic v) Hs'→Q (.panic v) ⟨n,τ,Hs'++Cp is 0 H,D⟩):AL P r ops k ⟨n,τ,H,D⟩ Q :=
 IG ho hd hc hf (DA hn hg) (h.args hA) (.inl rfl) (fun v H' hR=>by
  obtain⟨hl,hn'⟩:=next v H' hR;exact CD (Ry (S:=⟨n,put τ dst v,H'++Cp is 0 H,D⟩) (LR hn hg hl).symm) hn') pan
theorem dv (is:List Nat) (ho:ops[k]?=some ⟨dst,.call c,ty,pos,aft,none⟩) (hd:F6 dst n=true)
  (hc:c.callee= .value f) (hf:(ev τ f= .p (.fn fid)∧first=[]∧caps=[])∨ev τ f= .fn (.func fid) first caps) (h:Bl P fid A Hs R) (hg:E0 H is Hs) (hn:is.Nodup) (hA:Fj (first++c.args.toList.map (ev τ)++caps) A)
  (next:∀v Hs',R (.val v) Hs'→AL P r ops (k+1) ⟨n,put τ dst v,Hs'++Cp is 0 H,D⟩ Q) (pan:∀v Hs',R (.panic v) Hs'→Q (.panic v) ⟨n,τ,Hs'++Cp is 0 H,D⟩):AL P r ops k ⟨n,τ,H,D⟩ Q :=
 IG ho hd hc hf (DA hn hg) (h.args hA) (.inl rfl) next pan
theorem MS {sz:Nat}:G6 ⟨n,τ,H,D⟩ ⟨n,τ,.vec none sz [] 0::H,D⟩:=by
 intro F a w hs;have hH:HRel F (.vec none sz [] 0::H) w:=⟨fun o ho b hb=>by
   rcases List.mem_cons.1 ho with rfl | ho
   ·cases hb
   ·exact hs.heap.sub o ho b hb,by simpa [List.filterMap_cons,BD.key] using hs.heap.nodup,fun o ho=>by
   rcases List.mem_cons.1 ho with rfl | ho
   ·exact⟨O,O⟩
   exact hs.heap.obj o ho,hs.heap.bd⟩
 exact⟨F,⟨hs.size,hs.tmp,hH,hs.defs⟩,⟨Nat.le_refl _,fun _ _ _=>O,fun _ h _=>h,fun _ h=> .inl h,fun o ho b hb=>by
   rcases List.mem_cons.1 ho with rfl | ho
   ·cases hb
   exact .inl ⟨o,ho,hb⟩,O,O,O⟩⟩
end
section
variable {P:Program}{r:Option Nat}{ops:Array Oper}{Q:Cf→Bk→Prop}{k:Nat}{n:Nat}{τ:Nat→AV}{H:List BD}{D:List Dw}{o:Option Nat}{sz cp i:Nat}{rows:List (List PV)}
theorem Ve {F:Nat→Prop}{w:World}{a:Act}(hs:DP F ⟨n,τ,H,D⟩ a w) (hi:H[i]?=some (.vec o sz rows cp)) (hne:0<rows.length):∃b,o=some b:=by
 have:=hs.heap.obj _ (List.mem_of_getElem? hi);cases o with
 | none=>obtain⟨h,_⟩:=this;simp[h] at hne
 | some b=>exact⟨b,rfl⟩
theorem M4 (hi:H[i]?=some (.vec o sz rows cp)) (hne:0<rows.length) (next:∀b,o=some b→AL P r ops k ⟨n,τ,H,D⟩ Q):AL P r ops k ⟨n,τ,H,D⟩ Q:=fun F a w hs=>by
 obtain⟨b,hb⟩:=Ve hs hi hne;exact next b hb F a w hs
theorem Ks {c:Code}(hi:H[i]?=some (.vec o sz rows cp)) (hne:0<rows.length) (next:∀b,o=some b→IP P r c ⟨n,τ,H,D⟩ Q):IP P r c ⟨n,τ,H,D⟩ Q:=fun F a w hs=>by
 obtain⟨b,hb⟩:=Ve hs hi hne;exact next b hb F a w hs
end
section
variable {P:Program}{dst:Option Tmp}{ty:TypeId}{pos:String}{aft:Array Edge}{g:Option (Nat×Bool)}{ρ:Operand→AV}{H:List BD}
theorem BM {a:Operand}{T e:TypeId}{n n1 n2:Nat}{rows:List (List PV)}(hT:E6 P T=some (e,n1,n2)) (hx:ρ a= .p (.lst rows)) (hn:rows.length=n) :
  DU P ⟨dst,.call { callee:= .builtin .len,args:=#[a],argTypes:=#[T] },ty,pos,aft,g⟩ ρ H (.p (.int .i64 n)) H:=MX hT (.inl ⟨rows,hx,hn⟩)
theorem Ns {a:Operand}{T e:TypeId}{m n n1 n2 c:Nat}{o:Option Nat}(hT:E6 P T=some (e,n1,n2)) (hx:ρ a= .vs o m c) (hn:m=n) :
  DU P ⟨dst,.call { callee:= .builtin .len,args:=#[a],argTypes:=#[T] },ty,pos,aft,g⟩ ρ H (.p (.int .i64 n)) H:=MX hT (.inr (.inl ⟨o,c,by rw[hx,hn]⟩))
end
section
variable {P:Program}{dst:Option Tmp}{ty:TypeId}{pos:String}{aft:Array Edge}{g:Option (Nat×Bool)}{ρ:Operand→AV}{H:List BD}{x y:Operand}
end
section
variable {P:Program}{ops:Array Oper}{n:Nat}{τ₀:Nat→AV}{D:List Dw}{Q:Cf→Bk→Prop}{opn:Nat→Bool}{k:Nat}{τ:Nat→AV}{H:List BD}{rd:V2}{ef:Uu}{effs:List Bool}{fx:List (Nat×Sp)}{dst:Option Tmp}{ty:TypeId}{pos:String}{aft:Array Edge}{c:Call}{f:Operand}{fid:FuncId}{first caps A:List AV}{mkv:AV→AV}{sz:Nat}{rows:List (List PV)}
theorem kK (fx':List (Nat×Sp)) (ho:ops[k]?=some ⟨dst,.call c,ty,pos,aft,none⟩) (hn:opn k=true)
  (hc:c.callee= .value f) (hf:(ev τ f= .p (.fn fid)∧first=[]∧caps=[])∨ev τ f= .fn (.func fid) first caps) (h:Bl P fid A [] (fo mkv sz rows)) (hA:first++c.args.toList.map (ev τ)++caps=A∨(first++c.args.toList.map (ev τ)++caps).map norm=A) (haft:Ef ops k (fx'.map (·.1))=true)
  (next:∀o cp,Jj ops k H (.vec o sz rows cp::H) rd∧Gu k (.eff (mkv (.vs o rows.length cp)) (.vec o sz rows cp::H)) fx∧Dr P ops n τ₀ D Q opn (k+1) (put τ dst (mkv (.vs o rows.length cp))) (.vec o sz rows cp::H) rd ((k,H,.vec o sz rows cp::H)::ef) (true::effs) (fx'++fx)):Dr P ops n τ₀ D Q opn k τ H rd ef effs fx :=
 Mu fx' ho hn (Fb (H:=H) (Hs:=[]) (Hf:=H) hc hf Ao h hA) haft ⟨_,_,_,⟨none,0,rfl,rfl⟩,rfl⟩ (fun v H' ⟨_,h,_⟩=>h.elim) (fun v H' ⟨Hs',⟨o,cp,h1,h2⟩,h3⟩=>by subst h1;subst h2;subst h3;exact next o cp)
end
section
variable {P:Program}{dst:Option Tmp}{ty:TypeId}{pos:String}{aft:Array Edge}{g:Option (Nat×Bool)}{ρ:Operand→AV}{H Hs Hs':List BD}{v:AV}{c:Call}{f:Operand}{fid:FuncId}{first caps A:List AV}
theorem Es (hc:c.callee= .value f) (hf:ρ f= .p (.fn fid)) (h:E4 P fid A v) (hA:Fj (c.args.toList.map ρ) A):DU P ⟨dst,.call c,ty,pos,aft,g⟩ ρ H v H:=BF hc hf (h.args hA) rfl
end
end Go.Abs
namespace Go.Eu
open Go.Abs
structure Mv where
 type:Tm
 known:Bool
 value:Tm
 cls:Bool
 deriving Inhabited
def F5 (n:Int):List PV:=[I n]
def F3 (s:ByteArray):List PV:=[.str s]
def qu (b:Bool):List PV:=[.bool b]
def mH (m:Mv):List PV:=BK m.type++(.bool m.known::(BK m.value++[.bool m.cls]))
theorem LH {ts:List Int}{i:Nat}{t:Int}(h:ts[i]?=some t):(ts.map F5)[i]?=some (F5 t):=by simp[h]
theorem Nf {ts:List ByteArray}{i:Nat}{t:ByteArray}(h:ts[i]?=some t):(ts.map F3)[i]?=some (F3 t):=by simp[h]
abbrev MV (m:Mv):AV:= .agg ((mH m).map .p)
abbrev rj (l:List Mv):AV:= .p (.lst (l.map mH))
abbrev rX (l:List Int):AV:= .p (.lst (l.map F5))
def oV (sz:Nat) {α:Type}(f:α→List PV):Prop:=∀a,D2 sz (f a)
theorem Gc {α:Type}{sz:Nat}{f:α→List PV}(h:∀a,D2 sz (f a)) (l:List α):∀r∈l.map f,D2 sz r:=by
 intro r hr;obtain⟨a,_,rfl⟩:=List.mem_map.1 hr;exact h a
theorem KD (t:Tm):D2 5 (BK t):=by
 obtain⟨k,i,n,l,s⟩:=t;refine⟨O,?_⟩;intro c hc;simp[BK] at hc;rcases hc with rfl | rfl | rfl | rfl | rfl<;>simp
theorem Bu (l:List Tm):∀r∈BC l,D2 5 r:=by rw[D9];exact Gc KD l
theorem OW (l:List Int):∀r∈l.map F5,D2 1 r:=Gc (f:=F5) (fun a=>⟨rfl,by simp[F5]⟩) l
theorem JO (l:List ByteArray):∀r∈l.map F3,D2 1 r:=Gc (f:=F3) (fun a=>⟨rfl,by simp[F3]⟩) l
theorem ME (l:List CK):∀r∈l.map Ge,D2 2 r:=Gc (f:=Ge) (fun a=>⟨rfl,by simp[Ge]⟩) l
theorem S6 (l:List CX):∀r∈l.map B5,D2 2 r:=Gc (f:=B5) (fun a=>⟨rfl,by simp[B5]⟩) l
theorem CB {sz:Nat}{rows:List (List PV)}(h:∀r∈rows,D2 sz r):∀r∈rows,r.length=sz:=fun r hr=>(h r hr).1
theorem Nl (a b:List Tm):BC a++BC b=BC (a++b):=by simp[D9]
theorem JL {α:Type}{f:α→List PV}(a b:List α):a.map f++b.map f=(a++b).map f:=by simp
theorem R2 (l:List Tm) (j:Nat) (x:Tm):(BC l).set j (BK x)=BC (l.set j x):=by simp[D9,List.map_set]
theorem bU {α:Type}{f:α→List PV}(l:List α) (j:Nat) (x:α):(l.map f).set j (f x)=(l.set j x).map f:=by simp[List.map_set]
theorem nk (n:Nat) (x:Tm):List.replicate n (BK x)=BC (List.replicate n x):=by simp[D9]
theorem jJ {α:Type}{f:α→List PV}(n:Nat) (x:α):List.replicate n (f x)=(List.replicate n x).map f:=by simp
theorem SA (l:List Tm) (hi:Nat):((BC l).take hi).drop 0=BC (l.take hi):=by simp[D9,List.map_take]
theorem WB {α:Type}{f:α→List PV}(l:List α) (hi:Nat):((l.map f).take hi).drop 0=(l.take hi).map f:=by simp[List.map_take]
theorem MA (l:List Tm) (lo:Nat):((BC l).take (BC l).length).drop lo=BC (l.drop lo):=by rw[List.take_length];simp[D9,List.map_drop]
theorem kC {α:Type}{f:α→List PV}(l:List α) (lo:Nat):((l.map f).take (l.map f).length).drop lo=(l.drop lo).map f:=by rw[List.take_length,List.map_drop]
theorem Gb {sz:Nat}{r:List PV}(h:D2 sz r):(r.map AV.p).all one=true:=by
 simp only[List.all_eq_true];intro x hx;obtain⟨c,hc,rfl⟩:=List.mem_map.1 hx;have:=h.2 c hc;cases c<;>simp_all [one]
theorem FT (t:Tm):((BK t).map AV.p).all one=true:=Gb (KD t)
theorem Z3 {r:List PV}(h:∀c∈r,c≠ .nils):(r.map AV.p).map dn=r.map .p:=by
 induction r with
 | nil=>rfl
 | cons c r ih =>
  simp only[List.map_cons];rw[ih fun d hd=>h d (by simp[hd])];have:=h c Ao;cases c<;>simp_all [dn]
theorem JW (t:Tm):Fy (((BK t).map AV.p).map dn)=some (BK t):=by obtain⟨k,i,n,l,s⟩:=t;rfl
end Go.Eu
namespace Go.Eu
def Lu (f a:Tm):Tm:= .mk 4 0 ⟨#[]⟩ [] [f,a]
def apply (f:Tm) (xs:List Tm):Tm:=xs.foldl Lu f
theorem Qz {f:Tm}{xs:List Tm}{i:Nat}{x:Tm}(h:xs[i]?=some x):apply f (xs.take (i+1))=Lu (apply f (xs.take i)) x:=by
 simp[apply,List.take_add_one,h]
def A9:Tm→Tm×List Tm
 | .mk k i n l [f,a]=>if k=4 then ((A9 f).1,(A9 f).2++[a]) else (.mk k i n l [f,a],[])
 | t=>(t,[])
theorem P9 {k i:Int}{n:ByteArray}{l:List CX}{ts:List Tm}(h:k≠4∨((ts.length:Nat):Int)≠2):A9 (.mk k i n l ts)=(.mk k i n l ts,[]):=by
 unfold A9;split
 ·rename_i k' i' n' l' f a e;injection e with e1 e2 e3 e4 e5;subst e1 e2 e3 e4 e5;simp at h;rw[if_neg h]
 rfl
theorem Y0 {k i:Int}{n:ByteArray}{l:List CX}{ts:List Tm}{x y:Tm}(h:k=4∧((ts.length:Nat):Int)=2) (hx:ts[0]?=some x) (hy:ts[1]?=some y):A9 (.mk k i n l ts)=((A9 x).1,(A9 x).2++[y]):=by
 obtain⟨rfl,h2⟩:=h
 match ts,h2,hx,hy with
 | [a,b],_,hx,hy =>
  simp at hx hy;subst hx hy;simp[A9]
theorem cQ {ts:List Tm}{x y:Tm}(h:((ts.length:Nat):Int)=2) (hx:ts[0]?=some x) (hy:ts[1]?=some y):ts=[x,y]:=by
 match ts,h,hx,hy with
 | [a,b],_,hx,hy =>
  simp at hx hy;subst hx hy;rfl
theorem Hz:∀(t:Tm),size (A9 t).1+BS (A9 t).2+(A9 t).2.length=size t
 | .mk k i n l [f,a]=>by
  unfold A9;split
  ·have:=Hz f;simp[size,BS] at this ⊢;have e:∀(xs:List Tm) (y:Tm),BS (xs++[y])=BS xs+size y:=by
    intro xs y
    induction xs with
    | nil=>simp[BS]
    | cons z zs ih=>simp[BS,ih];omega
   rw[e];omega
  ·simp[BS]
 | .mk k i n l []=>by simp[A9,BS]
 | .mk k i n l [_]=>by simp[A9,BS]
 | .mk k i n l (_::_::_::_)=>by simp[A9,BS]
theorem Yd (t:Tm):(A9 t).2.length<size t:=by
 have:=Hz t;have:=size_pos (A9 t).1;omega
def Wj (k:Int) (xs:List Tm) (t:Tm):Tm:=xs.foldr (fun a t=> .mk k 0 ⟨#[]⟩ [] [a,t]) t
theorem sd:(∀(p:Prop) [Decidable p],(decide p=true)=p)∧(∀{p:Prop} [Decidable p],decide p=false↔¬p)∧(∀{α:Type} [BEq α] [LawfulBEq α] {a b:α},(a==b)=true↔a=b)∧(∀{α:Type} [BEq α] [LawfulBEq α] {a b:α},(a !=b)=true↔a≠b)∧(∀{α:Type} [BEq α] [LawfulBEq α] {a b:α},(a==b)=false↔a≠b)∧(∀{α:Type} [BEq α] [LawfulBEq α] {a b:α},(a !=b)=false↔a=b)∧(∀{α:Type}(a b:α),(a≠b)=¬(a=b))∧(∀{α:Type} [LT α] {x y:α},x > y↔y<x)∧(∀{α:Type} [LE α] {x y:α},x≥y↔y≤x)∧(∀(b:Bool),(¬(b=true))=(b=false))∧(∀(b:Bool),(¬(b=false))=(b=true))∧(∀(b:Bool),((!b)=true)=(b=false))∧(∀(b:Bool),((!b)=false)=(b=true))∧(∀{a b:Int},¬a<b↔b≤a)∧(∀{a b:Int},¬a≤b↔b<a) :=
 ⟨fun _=>decide_eq_true_eq,decide_eq_false_iff_not,beq_iff_eq,bne_iff_ne,beq_eq_false_iff_ne,bne_eq_false_iff_eq,ne_eq,gt_iff_lt,ge_iff_le,Bool.not_eq_true,Bool.not_eq_false,fun b=>by cases b<;>simp,fun b=>by cases b<;>simp,Int.not_lt,Int.not_le⟩
theorem se:(∀(ts:List Tm),(BC ts).length=ts.length)∧(∀{α β:Type}{ays:List α}{f:α→β},(ays.map f).length=ays.length)∧(∀{α:Type}{n:Nat}{a:α},(List.replicate n a).length=n)∧(∀(a b:Bool),((a||b)=true)=(a=true∨b=true))∧(∀(a b:Bool),((a&&b)=true)=(a=true∧b=true))∧(∀{x y:Bool},(x||y)=false↔x=false∧y=false)∧(∀{x y:Bool},(x&&y)=false↔x=true→y=false) :=
 ⟨BR,List.length_map _,List.length_replicate,Bool.or_eq_true,Bool.and_eq_true,Bool.or_eq_false_iff,Bool.and_eq_false_imp⟩
end Go.Eu
namespace Go.Eu
open Go.Abs
def OS (i:Int):Tm:= .mk 0 i ⟨#[]⟩ [] []
def BZ:Tm:= .mk 0 0 ⟨#[]⟩ [] []
def GC (er e:Int):Int:=if er=0 then e else er
def MN (er i:Int):Int:=if i > 65535 then GC er 24 else er
mutual
def FL:Tm→Int
 | .mk _ _ _ _ ks=>KB 1 ks
def KB:Int→List Tm→Int
 | n,[]=>n
 | n,t::ts=>KB (wr (n+FL t)) ts
end
mutual
def En:Tm→Int
 | .mk _ _ _ _ ks=>wr (I3 0 ks+1)
def I3:Int→List Tm→Int
 | n,[]=>n
 | n,t::ts=>I3 (max n (En t)) ts
end
mutual
def CS (b fr:Int):Int→Int→Tm→Tm×Int
 | d,er,.mk k i n l ks =>
  if k=0 then
   (if i<wr (fr+d) then (.mk k i n l ks,er)
    else if wr (i+b)<wr (fr+d) then (.mk k i n l ks,GC er 24)
    else (OS (wr (i+b)),MN er (wr (i+b))))
  else ((.mk k i n l (C2 b fr k d 0 er ks).1),(C2 b fr k d 0 er ks).2)
def C2 (b fr k:Int):Int→Nat→Int→List Tm→List Tm×Int
 | d,j,er,[]=>([],er)
 | d,j,er,t::ts=>((CS b fr (d+below k j) er t).1::(C2 b fr k d (j+1) (CS b fr (d+below k j) er t).2 ts).1,(C2 b fr k d (j+1) (CS b fr (d+below k j) er t).2 ts).2)
end
mutual
def B3 (vs:List Tm):Int→Int→Int→Tm→Tm×Int×Int
 | d,er,nd,.mk k i n l ks =>
  if nd > 4096 then (.mk k i n l ks,er,nd)
  else if k=0∧i≥d∧i - d<(vs.length:Int) then
   ((CS d 0 0 er (vs.getD (i - d).toNat BZ)).1,(CS d 0 0 er (vs.getD (i - d).toNat BZ)).2,wr (nd+FL (vs.getD (i - d).toNat BZ)))
  else if k=0 then
   (if i≥d then (OS (wr (i - vs.length)),MN er (wr (i - vs.length)),wr (nd+1)) else (.mk k i n l ks,er,wr (nd+1)))
  else ((.mk k i n l (CO vs k d 0 er (wr (nd+1)) ks).1),(CO vs k d 0 er (wr (nd+1)) ks).2)
def CO (vs:List Tm) (k:Int):Int→Nat→Int→Int→List Tm→List Tm×Int×Int
 | d,j,er,nd,[]=>([],er,nd)
 | d,j,er,nd,t::ts=>((B3 vs (d+below k j) er nd t).1::(CO vs k d (j+1) (B3 vs (d+below k j) er nd t).2.1 (B3 vs (d+below k j) er nd t).2.2 ts).1,
   (CO vs k d (j+1) (B3 vs (d+below k j) er nd t).2.1 (B3 vs (d+below k j) er nd t).2.2 ts).2)
end
def CI (t:Tm) (vs:List Tm) (d:Int):Tm×Int :=
 if (B3 vs (min d 65536) 0 0 t).2.2 > 4096 then (BZ,5)
 else if (B3 vs (min d 65536) 0 0 t).2.1≠0 then (BZ,(B3 vs (min d 65536) 0 0 t).2.1)
 else if En (B3 vs (min d 65536) 0 0 t).1 > 200 then (BZ,7)
 else ((B3 vs (min d 65536) 0 0 t).1,0)
structure IV where
 steps:Int
 nodes:Int
 forms:Int
 limit:Int
 over:Bool
 deriving Inhabited
def Ys (c:IV):List PV:=[I c.steps,I c.nodes,I c.forms,I c.limit,.bool c.over]
def IV.form (c:IV) (t:Tm) (e:Int):IV :=
 { c with forms:=wr (c.forms+FL t),over:=c.over||(e !=0||decide (c.steps > c.limit)||decide (c.nodes > wr (2*c.limit))||decide (wr (c.forms+FL t) > wr (40*c.limit))||decide (FL t > 2000)||decide (En t > 95)) }
def IV.sized (c:IV) (t:Tm):IV:={ c with over:=c.over||(decide (FL t > 2000)||decide (En t > 95)) }
def qj:IV:=⟨0,0,0,1000,false⟩
end Go.Eu
namespace Go.Eu
theorem Cm {α:Type}{l:List α}{i:Nat}{x:α}(h:l[i]?=some x):l.drop i=x::l.drop (i+1):=by
 have hlt:=(List.getElem?_eq_some_iff.1 h).1;have e:l[i]=x:=(List.getElem?_eq_some_iff.1 h).2;rw[List.drop_eq_getElem_cons hlt,e]
theorem NC {α:Type}{l:List α}{i:Nat}{x d:α}(h:l[i]?=some x):l.getD i d=x:=by simp[List.getD,h]
end Go.Eu
namespace Go.Eu
open Go.Abs
theorem WK (n:Int):Ir (wr n):=by
 unfold Ir wr IntKind.wrap;have:IntKind.i64.min= -9223372036854775808:=rfl;have:IntKind.i64.max=9223372036854775807:=rfl;simp[IntKind.signed,IntKind.bits];omega
theorem dT (i:Int):Nd (OS (wr i)):=by
 have:=WK i;exact⟨by decide,by decide,by simp,by decide,trivial,⟨by decide,by decide⟩,this⟩
theorem Pb:Nd BZ:=⟨by decide,by decide,by simp,by decide,trivial,⟨by decide,by decide⟩,⟨by decide,by decide⟩⟩
mutual
theorem S9 (b fr:Int):∀(t:Tm) (d er:Int),Nd t→Nd (CS b fr d er t).1
 | .mk k i n l ks,d,er,h=>by
  unfold CS;split
  ·split
   ·exact h
   split
   ·exact h
   exact dT _
  simp only[Nd] at h ⊢;obtain⟨h1,h2,h3,h4,h5,h6⟩:=h;obtain⟨e1,e2⟩:=QZ b fr k ks d 0 er h5;exact⟨h1,h2,h3,by rw[e1];exact h4,e2,h6⟩
theorem QZ (b fr k:Int):∀(ts:List Tm) (d:Int) (j:Nat) (er:Int),Ld ts→(C2 b fr k d j er ts).1.length=ts.length∧Ld (C2 b fr k d j er ts).1
 | [],d,j,er,h=>by simp[C2,Ld]
 | t::ts,d,j,er,h=>by
  simp only[C2,Ld,List.length_cons] at *;have:=S9 b fr t (d+below k j) er h.1;obtain⟨e1,e2⟩:=QZ b fr k ts d (j+1) (CS b fr (d+below k j) er t).2 h.2;exact⟨by rw[e1],this,e2⟩
end
theorem bD {vs:List Tm}(h:Ld vs) (i:Nat):Nd (vs.getD i BZ):=by
 cases e:vs[i]? with
 | none=>simp[List.getD,e];exact Pb
 | some x=>rw[NC e];exact DK h e
mutual
theorem Ob:∀(t:Tm) (vs:List Tm) (d er nd:Int),Nd t→Ld vs→Nd (B3 vs d er nd t).1
 | .mk k i n l ks,vs,d,er,nd,h,hv=>by
  unfold B3;split
  ·exact h
  split
  ·exact S9 _ _ _ _ _ (bD hv _)
  split
  ·split
   ·exact dT _
   exact h
  simp only[Nd] at h ⊢;obtain⟨h1,h2,h3,h4,h5,h6⟩:=h;obtain⟨e1,e2⟩:=Q3 ks vs k d 0 er (wr (nd+1)) h5 hv;exact⟨h1,h2,h3,by rw[e1];exact h4,e2,h6⟩
theorem Q3:∀(ts:List Tm) (vs:List Tm) (k d:Int) (j:Nat) (er nd:Int),Ld ts→Ld vs→(CO vs k d j er nd ts).1.length=ts.length∧Ld (CO vs k d j er nd ts).1
 | [],vs,k,d,j,er,nd,h,hv=>by simp[CO,Ld]
 | t::ts,vs,k,d,j,er,nd,h,hv=>by
  simp only[CO,Ld,List.length_cons] at *;have:=Ob t vs (d+below k j) er nd h.1 hv;obtain⟨e1,e2⟩:=Q3 ts vs k d (j+1) (B3 vs (d+below k j) er nd t).2.1 (B3 vs (d+below k j) er nd t).2.2 h.2 hv;exact⟨by rw[e1],this,e2⟩
end
theorem Zl (t:Tm) (vs:List Tm) (d:Int) (h:Nd t) (hv:Ld vs):Nd (CI t vs d).1:=by
 unfold CI;split
 ·exact Pb
 split
 ·exact Pb
 split
 ·exact Pb
 exact Ob t vs _ _ _ h hv
theorem QX {o:Option Nat}{c:Nat}(l:List Tm) {l':List Tm}(h:l=l'):AV.vs o (BC l).length c= .vs o (BC l').length c:=by rw[h]
theorem G2 {α:Type}{f:α→List PV}{o:Option Nat}{c:Nat}(l:List α) {l':List α}(h:l=l'):AV.vs o (l.map f).length c= .vs o (l'.map f).length c:=by rw[h]
theorem Mm {o:Option Nat}{sz c:Nat}(l:List Tm) {l':List Tm}(h:l=l'):K5 (.vec o sz (BC l) c) (.vec o sz (BC l') c):=oe (by rw[h])
theorem Fl {α:Type}{f:α→List PV}{o:Option Nat}{sz c:Nat}(l:List α) {l':List α}(h:l=l'):K5 (.vec o sz (l.map f) c) (.vec o sz (l'.map f) c):=oe (by rw[h])
theorem C5 {o:Option Nat}{c:Nat}(l:List Tm) {l':List Tm}(h:l.length=l'.length):AV.vs o (BC l).length c= .vs o (BC l').length c:=by rw[BR,BR,h]
theorem Sm {α:Type}{f:α→List PV}{o:Option Nat}{c:Nat}(l:List α) {l':List α}(h:l.length=l'.length):AV.vs o (l.map f).length c= .vs o (l'.map f).length c:=by rw[List.length_map,List.length_map,h]
mutual
def Wa:List Int→Tm→List Int
 | l,.mk k i _ _ ks=>if k=12 then (if i∈l then l else Te (l++[i]) ks) else Te l ks
def Te:List Int→List Tm→List Int
 | l,[]=>l
 | l,t::ts=>Te (Wa l t) ts
end
def rh (l:List Int) (n:Int):Bool:=decide (n∈l)
def cr (fr:Int):Nat→Nat→List Tm
 | _,0=>[]
 | m,k+1=>OS (fr+(m+k:Nat))::cr fr m k
def lQ (n fr:Int):List Tm:=if n<1∨n > 4096∨fr<0 then [] else cr fr 0 n.toNat
def kl:List Int→List Tm→Option (List Int)
 | l,[]=>some l
 | l,.mk k i _ _ _::ts=>if k≠0∨i∈l then none else kl (l++[i]) ts
def rU (t:Tm):Int×List Int×Bool :=
 if (A9 t).1.kind≠12 then (0,[],false)
 else match kl [] (A9 t).2 with
  | none=>(0,[],false)
  | some l=>((A9 t).1.index,l,true)
def qt (ms:List Mv) (ctx:List Tm) (t:Tm) (cls:Bool):List Mv×Tm×Int :=
 if ms.length≥2000 then ([],BZ,6)
 else if FL (Wj 6 ctx t) > 4096 then ([],BZ,5)
 else if En (Wj 6 ctx t) > 200 then ([],BZ,7)
 else (ms++[⟨Wj 6 ctx t,false,BZ,cls⟩],apply (.mk 12 ms.length ⟨#[]⟩ [] []) (lQ ctx.length 0),0)
end Go.Eu
namespace Go.Eu
end Go.Eu
namespace Go.Eu
open Go.Abs
theorem Ee {n:Int}(h:Ir n):wr n=n:=TX (k:= .i64) h.1 h.2
mutual
theorem R0 (B:Int) (hB:B≤4611686018427387904):∀(t:Tm),(size t:Int)<B→FL t=size t
 | .mk k i n l ks,h=>by
  have h':(1:Int)+BS ks<B:=by rw[size] at h;omega
  show KB 1 ks=_;rw[Q1 B hB ks 1 An h',size];omega
theorem Q1 (B:Int) (hB:B≤4611686018427387904):∀(ts:List Tm) (n:Int),0≤n→n+BS ts<B→KB n ts=n+BS ts
 | [],n,_,_=>by simp[KB,BS]
 | t::ts,n,h0,h=>by
  simp only[BS,KB] at *;rw[R0 B hB t (by have:=size_pos t;omega),Ee ⟨by omega,by omega⟩,Q1 B hB ts (n+size t) An An];omega
end
theorem Q9 {t:Tm}(h:(size t:Int)<4611686018427387904):FL t=size t:=R0 _ (Int.le_refl _) t h
mutual
def Wt:Tm→Prop
 | .mk k i _ _ ks=>(ks.length:Int)=arity k∧(k=12→0≤i)∧Mo ks
def Mo:List Tm→Prop
 | []=>True
 | t::ts=>Wt t∧Mo ts
end
theorem Pd:∀{ts:List Tm}{i:Nat}{t:Tm},Mo ts→ts[i]?=some t→Wt t
 | [],i,t,_,h=>by simp at h
 | a::ts,0,t,hn,h=>by simp at h;subst h;exact hn.1
 | a::ts,i+1,t,hn,h=>by simp at h;exact Pd hn.2 h
theorem IC (a b:List Tm):BS (a++b)=BS a+BS b:=by
 induction a with
 | nil=>simp[BS]
 | cons x a ih=>simp[BS,ih];omega
mutual
theorem iL {vars metas:Int}:∀(t:Tm) (d:Int),wf vars metas d t→Wt t
 | .mk k i n l ks,d,h=>by
  simp only[wf,Wt] at *;exact⟨h.2.2.1,fun e=>(h.2.2.2.2.1 e).1,ct ks k d 0 h.2.2.2.2.2⟩
theorem ct {vars metas:Int}:∀(ts:List Tm) (k d:Int) (j:Nat),fq vars metas k d j ts→Mo ts
 | [],k,d,j,h=>trivial
 | t::ts,k,d,j,h=>by
  simp only[fq,Mo] at *;exact⟨iL t _ h.1,ct ts k d (j+1) h.2⟩
end
theorem de (i:Int):Wt (OS i):=⟨by simp[arity],by simp,trivial⟩
theorem Pg:Wt BZ:=⟨by simp[arity],by simp,trivial⟩
mutual
theorem Sh (b fr:Int):∀(t:Tm) (d er:Int),Wt t→Wt (CS b fr d er t).1
 | .mk k i n l ks,d,er,h=>by
  unfold CS;split
  ·split
   ·exact h
   split
   ·exact h
   exact de _
  simp only[Wt] at h ⊢;obtain⟨e1,e2⟩:=P0 b fr k ks d 0 er h.2.2;exact⟨by rw[e1];exact h.1,h.2.1,e2⟩
theorem P0 (b fr k:Int):∀(ts:List Tm) (d:Int) (j:Nat) (er:Int),Mo ts→(C2 b fr k d j er ts).1.length=ts.length∧Mo (C2 b fr k d j er ts).1
 | [],d,j,er,h=>by simp[C2,Mo]
 | t::ts,d,j,er,h=>by
  simp only[C2,Mo,List.length_cons] at *;have:=Sh b fr t (d+below k j) er h.1;obtain⟨e1,e2⟩:=P0 b fr k ts d (j+1) (CS b fr (d+below k j) er t).2 h.2;exact⟨by rw[e1],this,e2⟩
end
theorem aH {vs:List Tm}(h:Mo vs) (i:Nat):Wt (vs.getD i BZ):=by
 cases e:vs[i]? with
 | none=>simp[List.getD,e];exact Pg
 | some x=>rw[NC e];exact Pd h e
mutual
theorem SL:∀(t:Tm) (vs:List Tm) (d er nd:Int),Wt t→Mo vs→Wt (B3 vs d er nd t).1
 | .mk k i n l ks,vs,d,er,nd,h,hv=>by
  unfold B3;split
  ·exact h
  split
  ·exact Sh _ _ _ _ _ (aH hv _)
  split
  ·split
   ·exact de _
   exact h
  simp only[Wt] at h ⊢;obtain⟨e1,e2⟩:=QE ks vs k d 0 er (wr (nd+1)) h.2.2 hv;exact⟨by rw[e1];exact h.1,h.2.1,e2⟩
theorem QE:∀(ts:List Tm) (vs:List Tm) (k d:Int) (j:Nat) (er nd:Int),Mo ts→Mo vs→(CO vs k d j er nd ts).1.length=ts.length∧Mo (CO vs k d j er nd ts).1
 | [],vs,k,d,j,er,nd,h,hv=>by simp[CO,Mo]
 | t::ts,vs,k,d,j,er,nd,h,hv=>by
  simp only[CO,Mo,List.length_cons] at *;have:=SL t vs (d+below k j) er nd h.1 hv;obtain⟨e1,e2⟩:=QE ts vs k d (j+1) (B3 vs (d+below k j) er nd t).2.1 (B3 vs (d+below k j) er nd t).2.2 h.2 hv;exact⟨by rw[e1],this,e2⟩
end
theorem Zj (t:Tm) (vs:List Tm) (d:Int) (h:Wt t) (hv:Mo vs):Wt (CI t vs d).1:=by
 unfold CI;split
 ·exact Pg
 split
 ·exact Pg
 split
 ·exact Pg
 exact SL t vs _ _ _ h hv
mutual
theorem O2 (b fr:Int):∀(t:Tm) (d er:Int),t.kind=0∧t.kids=[]∨Wt t→size (CS b fr d er t).1=size t
 | .mk k i n l ks,d,er,h=>by
  unfold CS;split
  ·rename_i hk;split
   ·rfl
   split
   ·rfl
   have:ks=[]:=by
    rcases h with h | h
    ·exact h.2
    have:=h.1;subst hk;simp[arity] at this;exact this
   subst this;simp[OS,size,BS]
  rename_i hk;have hw:Mo ks:=by
   rcases h with h | h
   ·exact absurd h.1 hk
   exact h.2.2
  simp only[size];rw[M7 b fr k ks d 0 er hw]
theorem M7 (b fr k:Int):∀(ts:List Tm) (d:Int) (j:Nat) (er:Int),Mo ts→BS (C2 b fr k d j er ts).1=BS ts
 | [],d,j,er,h=>by simp[C2]
 | t::ts,d,j,er,h=>by
  simp only[C2,BS];rw[O2 b fr t _ _ (.inr h.1),M7 b fr k ts _ _ _ h.2]
end
mutual
theorem I7 (V:Int) (hV:1≤V) (hV2:V≤2305843009213693952):∀(t:Tm) (vs:List Tm) (d er nd:Int),Wt t→Mo vs→(∀x∈vs,(size x:Int)≤V)→0≤nd→nd≤4096+V →
  nd≤(B3 vs d er nd t).2.2∧(B3 vs d er nd t).2.2≤4096+V∧((B3 vs d er nd t).2.2≤4096→(size (B3 vs d er nd t).1:Int)=(B3 vs d er nd t).2.2 - nd)
 | .mk k i n l ks,vs,d,er,nd,h,hv,hs,h0,h1=>by
  have hk0:k=0→ks=[]:=by
   intro e;have:=h.1;subst e;simp[arity] at this;exact this
  unfold B3;split
  ·exact⟨by simp,h1,by simp;omega⟩
  split
  ·rename_i hc;have hlt:(i - d).toNat<vs.length:=by omega
   obtain⟨x,hx⟩:=A6 hlt;have hxs:=hs x (List.mem_of_getElem? hx);rw[NC hx,O2 _ _ _ _ _ (.inr (Pd hv hx)),Q9 An,Ee ⟨by omega,by omega⟩];simp only;exact⟨by omega,by omega,by omega⟩
  split
  ·rename_i hk;have hk:=hk0 hk;subst hk;split
   ·simp only[OS,size,BS];rw[Ee ⟨by omega,by omega⟩];exact⟨by omega,by omega,by omega⟩
   simp only[size,BS];rw[Ee ⟨by omega,by omega⟩];exact⟨by omega,by omega,by omega⟩
  rw[Ee (n:=nd+1) ⟨by omega,by omega⟩];obtain⟨e1,e2,e3⟩:=KN V hV hV2 ks vs k d 0 er (nd+1) h.2.2 hv hs An An;simp only[size];exact⟨by omega,e2,fun q=>by have:=e3 q;omega⟩
theorem KN (V:Int) (hV:1≤V) (hV2:V≤2305843009213693952):∀(ts:List Tm) (vs:List Tm) (k d:Int) (j:Nat) (er nd:Int),Mo ts→Mo vs→(∀x∈vs,(size x:Int)≤V)→0≤nd→nd≤4096+V →
  nd≤(CO vs k d j er nd ts).2.2∧(CO vs k d j er nd ts).2.2≤4096+V∧((CO vs k d j er nd ts).2.2≤4096→(BS (CO vs k d j er nd ts).1:Int)=(CO vs k d j er nd ts).2.2 - nd)
 | [],vs,k,d,j,er,nd,h,hv,hs,h0,h1=>by simp only[CO,BS];exact⟨by omega,h1,by omega⟩
 | t::ts,vs,k,d,j,er,nd,h,hv,hs,h0,h1=>by
  obtain⟨e1,e2,e3⟩:=I7 V hV hV2 t vs (d+below k j) er nd h.1 hv hs h0 h1;obtain⟨f1,f2,f3⟩:=KN V hV hV2 ts vs k d (j+1) (B3 vs (d+below k j) er nd t).2.1 (B3 vs (d+below k j) er nd t).2.2 h.2 hv hs An e2;simp only[CO,BS];exact⟨by omega,f2,fun q=>by have:=f3 q;have:=e3 An;omega⟩
end
theorem VJ (t:Tm) (vs:List Tm) (d:Int) (h:Wt t) (hv:Mo vs) (hs:∀x∈vs,(size x:Int)≤2305843009213693952):size (CI t vs d).1≤4096:=by
 have hz:size BZ≤4096:=by simp[BZ,size,BS]
 obtain⟨e1,e2,e3⟩:=I7 2305843009213693952 An An t vs (min d 65536) 0 0 h hv hs An An;unfold CI;split
 ·exact hz
 rename_i hn;have:=e3 An;split
 ·exact hz
 split
 ·exact hz
 simp only;omega
def known (ms:List Mv) (t:Tm):Bool :=
 match t with
 | .mk k i _ _ _=>k==12&&(decide (i<ms.length)&&(match ms[i.toNat]? with | some m=>m.known | none=>false))
def valueOf (ms:List Mv) (i:Int):Tm:=match ms[i.toNat]? with | some m=>m.value | none=>BZ
def O1 (F:IV→Tm→Tm×Int×IV):IV→List Tm→List Tm×Int×IV
 | c,[]=>([],0,c)
 | c,t::ts=>if (F c t).2.1≠0 then ([],(F c t).2.1,(F c t).2.2)
  else if (O1 F (F c t).2.2 ts).2.1≠0 then ([],(O1 F (F c t).2.2 ts).2.1,(O1 F (F c t).2.2 ts).2.2)
  else ((F c t).1::(O1 F (F c t).2.2 ts).1,0,(O1 F (F c t).2.2 ts).2.2)
def qX (l:List Tm) (q:List Tm×Int×IV):List Tm×Int×IV:=if q.2.1≠0 then ([],q.2.1,q.2.2) else (l++q.1,0,q.2.2)
def iN:IV→Tm→List Tm→IV×Tm×List Tm
 | c,v,[]=>(c,v,[])
 | c,v,a::l=>if v.kind=5∧c.over=false then iN (c.form (CI (v.kids.getD 1 BZ) [a] 0).1 (CI (v.kids.getD 1 BZ) [a] 0).2) (CI (v.kids.getD 1 BZ) [a] 0).1 l else (c,v,a::l)
def LC:Tm→List Tm→Tm
 | .mk k i n l _,ks=> .mk k i n l ks
def LJ (ms:List Mv):Nat→List Int→IV→Tm→Tm×Int×IV
 | 0,ab,c,t=>(BZ,11,c)
 | n+1,ab,c,t =>
  if c.over=true then (BZ,11,c)
  else if known ms (A9 t).1=false then
   (let q:=O1 (LJ ms n ab) c (A9 t).1.kids
    if q.2.1≠0 then (BZ,q.2.1,q.2.2)
    else
     (let r:=O1 (LJ ms n ab) q.2.2 (A9 t).2
      if r.2.1≠0 then (BZ,r.2.1,r.2.2)
      else (apply (LC (A9 t).1 q.1) r.1,0,r.2.2.sized (apply (LC (A9 t).1 q.1) r.1))))
  else if (A9 t).1.index∈ab then (BZ,22,c)
  else
   (let v:=LJ ms n (ab++[(A9 t).1.index]) c (valueOf ms (A9 t).1.index)
    if v.2.1≠0 then (BZ,v.2.1,v.2.2)
    else
     (let r:=O1 (LJ ms n ab) (v.2.2.form v.1 0) (A9 t).2
      if r.2.1≠0 then (BZ,r.2.1,r.2.2)
      else
       (let b:=iN r.2.2 v.1 r.1
        (apply b.2.1 b.2.2,0,b.1.form (apply b.2.1 b.2.2) 0))))
def free (ms:List Mv) (ab:List Int):Nat:=((List.range ms.length).filter fun i:Nat=> !decide ((i:Int)∈ab)).length
def Mb (S:Nat):Nat→Nat
 | 0=>0
 | k+1=>S*(Mb S k+2)+4096+Mb S k
def rC (S:Nat) (ms:List Mv):Prop:=∀m∈ms,Nd m.value∧Wt m.value∧size m.value≤S
structure qi (M:Nat) (s:Nat) (r:Tm):Prop where
 nd:Nd r
 wt:Wt r
 size:size r≤s*M
theorem KI {α:Type}{l:List α}{x:α}(h:x∈l):∃i:Nat,l[i]?=some x:=by
 obtain⟨i,hi,he⟩:=List.mem_iff_getElem.1 h;exact⟨i,by rw[List.getElem?_eq_getElem hi,he]⟩
section
variable {ms:List Mv}{n:Nat}{ab:List Int}{c:IV}{t:Tm}{zk zi:Int}{zn:ByteArray}{zl:List CX}{zs:List Tm}
end
end Go.Eu
namespace Go.Eu
theorem HH {l:List Tm}{x:Tm}(h:x∈l):size x≤BS l:=by
 obtain⟨i,hi⟩:=KI h;exact Cb hi
def aS (ms:List Mv) (n:Nat) (c:IV) (t:Tm):Tm×Int×IV :=
 ((LJ ms n [] c t).1,(LJ ms n [] c t).2.1,if (LJ ms n [] c t).2.1=0 then (LJ ms n [] c t).2.2.form (LJ ms n [] c t).1 0 else (LJ ms n [] c t).2.2)
def rK (ms:List Mv) (n:Nat) (c:IV) (t:Tm):List Int×Int :=
 if (aS ms n c t).2.1=0 then (Wa [] (aS ms n c t).1,0) else ([],(aS ms n c t).2.1)
end Go.Eu
namespace Go.Abs
section
variable {P:Program}{r:Option Nat}{ops:Array Oper}{Q:Cf→Bk→Prop}{k:Nat}{n:Nat}{τ:Nat→AV}{T:List BD}{D:List Dw}{dst:Option Tmp}{op:Op}{ty:TypeId}{pos:String}{aft:Array Edge}{v:AV}{c:Call}{f:Operand}{fid:FuncId}{first caps A:List AV}{R:D6→List BD→Prop}
theorem K7 {H H':List BD}(hp:H.Perm H') (h:AL P r ops k ⟨n,τ,H',D⟩ Q):AL P r ops k ⟨n,τ,H,D⟩ Q:=CD (Ry (S:=⟨n,τ,H,D⟩) hp) h
theorem IL (fr:List BD) {l:Nat}(ho:ops[k]?=some ⟨dst,.call c,ty,pos,aft,none⟩) (hd:F6 dst n=true)
  (hc:c.callee= .value f) (hf:ev τ f= .fn (.yield l) [] []) (h:Kz P l A T R) (hA:c.args.toList.map (ev τ)=A)
  (next:∀v T',R (.val v) T'→AL P r ops (k+1) ⟨n,put τ dst v,fr++T',D⟩ Q) (pan:∀v T',R (.panic v) T'→Q (.panic v) ⟨n,τ,T'++fr,D⟩):AL P r ops k ⟨n,τ,fr++T,D⟩ Q :=
 Fc (S:=⟨n,τ,fr++T,D⟩) ho Ah (Hr hd) (ZU hc hf List.perm_append_comm h hA) (fun v H' ⟨Hs',h1,h2⟩=>by subst h2;exact K7 List.perm_append_comm (next v Hs' h1)) (fun v H' ⟨Hs',h1,h2⟩=>by subst h2;exact pan v Hs' h1)
theorem Hd (fr:List BD) (ho:ops[k]?=some ⟨dst,.call c,ty,pos,aft,none⟩) (hd:F6 dst n=true)
  (hc:c.callee= .value f) (hf:(ev τ f= .p (.fn fid)∧first=[]∧caps=[])∨ev τ f= .fn (.func fid) first caps) (h:Bl P fid A T R) (hA:Fj (first++c.args.toList.map (ev τ)++caps) A)
  (next:∀v T',R (.val v) T'→AL P r ops (k+1) ⟨n,put τ dst v,fr++T',D⟩ Q) (pan:∀v T',R (.panic v) T'→Q (.panic v) ⟨n,τ,T'++fr,D⟩):AL P r ops k ⟨n,τ,fr++T,D⟩ Q :=
 IG ho hd hc hf List.perm_append_comm (h.args hA) (.inl rfl) (fun v H' h1=>K7 List.perm_append_comm (next v H' h1)) pan
end
theorem FM.append:∀{l l':List BD}{T:List BD},FM l l'→FM (l++T) (l'++T)
 | [],l',T,h=>by simp only[FM] at h;subst h;exact FM.refl T
 | o::l,l',T,h=>by
  obtain⟨o',r',rfl,h1,h2⟩:=h;exact⟨o',r'++T,O,h1,FM.append h2⟩
theorem YE (is:List Nat) (l:List BD) {l1 l' T:List BD}(h:O5 is 0 l=l1) (w:FM l1 l'):ib (l++T) (l'++T):=⟨l1++T,(CH h).append_right T,w.append⟩
theorem GG (is:List Nat) (l:List BD) {l1 T:List BD}(h:O5 is 0 l=l1):(l1++T).Sublist (l++T):=(CH h).append_right T
def rI (b:Bool) (H':List BD):D6→List BD→Prop
 | .val v,H''=>v= .p (.bool b)∧H''=H'
 | .panic _,_=>False
theorem Ct {n:Nat}{τ:Nat→AV}{H:List BD}{D:List Dw}{t:Nat}{x:AV}(h:τ t=x):G6 ⟨n,τ,H,D⟩ ⟨n,put τ (some t) x,H,D⟩:=Qc fun _ _ _ hr=>h▸hr
section
variable {P:Program}{dst:Option Tmp}{ty:TypeId}{pos:String}{aft:Array Edge}{g:Option (Nat×Bool)}{ρ:Operand→AV}{H:List BD}{x y:Operand}
theorem Pe {e:TypeId}{bl:Bool}{sz:Nat}(ht:Dl P e=some (bl,sz)):∃inf,P.info? e=some inf∧inf.size=sz:=by
 obtain⟨d,_,_,h⟩:=EY ht;cases hi:P.info? e with
 | none=>simp[hi] at h
 | some inf=>simp[hi] at h;exact⟨inf,rfl,h⟩
theorem CV {T e:TypeId}{bl:Bool}{len sz b o:Nat}{k:IntKind}{i:Int}(hu:P.underlying T=some (.array len e)) (ht:Dl P e=some (bl,sz)) (hx:ρ x= .ptr b o) (hy:ρ y= .p (.int k i)) (h0:0≤i) (hn:i<len) :
  DU P ⟨dst,.indexAddr T x y,ty,pos,aft,g⟩ ρ H (.ptr b (o+i.toNat*sz)) H:=by
 obtain⟨inf,h1,h2⟩:=Pe ht;exact Rb hu h1 h2 hx hy h0 hn
theorem D1 {T e:TypeId}{bl:Bool}{len sz:Nat}{parts:Array (Nat×Operand)}{z:Value}{cs:List AV}(hu:P.underlying T=some (.array len e)) (ht:Dl P e=some (bl,sz)) (hz:zeroOf P T=some z)
  (hc:FB (fun i=>some (i*sz,sz)) (z.cells.toList.map GH) (parts.toList.map fun p=>(p.1,ρ p.2))=some cs):DU P ⟨dst,.build T parts,ty,pos,aft,g⟩ ρ H (.agg cs) H:=by
 obtain⟨inf,h1,h2⟩:=Pe ht;subst h2;exact Re hu h1 hz hc
end
theorem QK {P:Program}{g:Operand}{ps:Array Tmp}{assign body:Code}{S:Bk}{Q:Cf→Bk→Prop}{fid:FuncId}{first caps:List AV}
  (hg:(ev S.τ g= .p (.fn fid)∧first=[]∧caps=[])∨ev S.τ g= .fn (.func fid) first caps)
  (h:∀d l (L:NV),L=⟨.ready,none,S.n,S.τ,ps,assign,body⟩→∃Hs Hf,(BD.loop l L:: .dfr d::S.H).Perm (Hs++Hf) ∧
   Bl P fid (first++[.fn (.yield l) [] []]++caps) Hs (fun r H'=>T8 P l d S Q r (H'++Hf))) :
  IP P none (.rangeFunc g ps assign body) S Q:=ZX hg fun d l=>h d l _ rfl
def qz (H':List BD):D6→List BD→Prop
 | .val v,H''=>v= .tup []∧H''=H'
 | .panic _,_=>False
def Vr (v:AV) (C:List BD→Prop):D6→List BD→Prop
 | .val v',H'=>v'=v∧C H'
 | .panic _,_=>False
section
variable {P:Program}{n:Nat}{τ:Nat→AV}{H:List BD}{D:List Dw}
theorem eG {b:Nat}{cs cs':List AV}(h:Fj cs cs'):K5 (.box b cs) (.box b cs'):=⟨rfl,fun F w hr=>by
 obtain⟨vs,T,h1,h2⟩:=hr;exact⟨vs,T,h1,N5 h h2⟩⟩
theorem Ll {i:Nat}{o o':BD}(hi:H[i]?=some o) (hw:K5 o o'):G6 ⟨n,τ,H,D⟩ ⟨n,τ,H.set i o',D⟩:=by
 intro F a w hs;refine⟨F,⟨hs.size,hs.tmp,?_,hs.defs⟩,?_⟩
 ·have hk:=FX (x':=o') hi hw.1;refine⟨fun x hx c hc=>?_,by show List.Nodup _;rw[hk];exact hs.heap.nodup,fun x hx=>?_,hs.heap.bd⟩
  ·rcases DQ hx with rfl | ⟨j,_,hj⟩
   ·exact hs.heap.sub _ (List.mem_of_getElem? hi) c (by rw[←hw.1];exact hc)
   exact hs.heap.sub _ (List.mem_of_getElem? hj) c hc
  rcases DQ hx with rfl | ⟨j,_,hj⟩
  ·exact hw.2 F w (hs.heap.obj _ (List.mem_of_getElem? hi))
  exact hs.heap.obj _ (List.mem_of_getElem? hj)
 refine { Trans.refl (F:=F) (H:=H) (w:=w) with keys:=fun x hx c hc=>?_ };rcases DQ hx with rfl | ⟨j,_,hj⟩
 ·exact .inl ⟨_,List.mem_of_getElem? hi,by rw[←hw.1];exact hc⟩
 exact .inl ⟨_,List.mem_of_getElem? hj,hc⟩
end
section
variable {P:Program}{dst:Option Tmp}{ty:TypeId}{pos:String}{aft:Array Edge}{g:Option (Nat×Bool)}{ρ:Operand→AV}{H:List BD}{x y:Operand}
theorem U9 {T e:TypeId}{b i:Nat}{l:List (Int×AV)}{k:Int}{zv:Value}{za v:AV}(hT:mapOf P T=some e) (hz:zeroOf P e=some zv) (hza:∀F w,B9 F w za zv) (hx:ρ x= .map b) (hy:ρ y= .p (.int .i64 k)) (hi:H[i]?=some (.map b (Du l))) (hv:(JN k l).getD za=v) :
  DU P ⟨dst,.lookup T x y false,ty,pos,aft,g⟩ ρ H v H:=by subst hv;exact Wg hT hz hza hx hy hi
theorem RZ {T e:TypeId}{b i:Nat}{l:List (Int×AV)}{k:Int}{zv:Value}{za v:AV}{ok:Bool}(hT:mapOf P T=some e) (hz:zeroOf P e=some zv) (hza:∀F w,B9 F w za zv) (hx:ρ x= .map b) (hy:ρ y= .p (.int .i64 k)) (hi:H[i]?=some (.map b (Du l))) (hv:(JN k l).getD za=v) (hok:(JN k l).isSome=ok) :
  DU P ⟨dst,.lookup T x y true,ty,pos,aft,g⟩ ρ H (.tup [v,.p (.bool ok)]) H:=by subst hv;subst hok;exact Tn hT hz hza hx hy hi
end
section
variable {P:Program}{dst:Option Tmp}{ty:TypeId}{pos:String}{aft:Array Edge}{g:Option (Nat×Bool)}{ρ:Operand→AV}{H:List BD}{x y:Operand}
theorem Ka {T e:TypeId}{sz bytes:Nat}(hT:E6 P T=some (e,sz,bytes)) :
  C9 P ⟨dst,.buildSlice T 0 #[],ty,pos,aft,g⟩ ρ H (LL sz [] H) :=
 GF fun F w E hH hE=>by
  obtain⟨hu,i,hi,hs,hby⟩:=EN hT;obtain⟨v,H',F',h1,h2,h3,h4⟩:=Nr (F:=F) (w:=w) (sz:=sz) (c:=0) (rows:=[]) (vs:=[]) (T:=e) (H:=H) hH Ao (by simp[Bp]) Ao Ao;refine⟨_,_,v,H',F',?_,h1,h2,h3,h4⟩;have hszr:(sizeOf e).run P w= .ok sz w:=by simp[sizeOf,typeInfo,hi,hs]
  simp only[execOp,Instr.buildSlice,Sem.run_bind,run_underlying hu,Result.andThen_ok,hszr];rw[if_neg An];simp only[Sem.run_pure,Result.andThen_ok,Sem.run_bind,pure_bind,Nat.zero_mul,if_true];have e0:(Array.map (fun x=>(#[]:Array Value)[x % (#[]:Array Value).size]!) (Array.range 0))=(⟨[]⟩:Array Value):=by simp
  rw[e0];simp only[Array.map_empty,Instr.fill,newRow,newObj,Sem.run_bind,Sem.run,Result.andThen,Sem.run_pure];rfl
end
section
variable {P:Program}{dst:Option Tmp}{ty:TypeId}{pos:String}{aft:Array Edge}{g:Option (Nat×Bool)}{ρ:Operand→AV}{H:List BD}{x y:Operand}
theorem L6 {T U e:TypeId}{n1 n2:Nat}{rows:List (List PV)}(hT:E6 P T=some (e,n1,n2)) (hx:ρ x= .p (.lst rows)) (hy:ρ y= .p .nils):C9 P ⟨dst,.binOp .eql T x y U,ty,pos,aft,g⟩ ρ H (Oj (fun v=>∃b:Bool,v= .p (.bool b)∧(b=true→rows=[])) H) :=
 (Tc (EN hT).1 hx hy).mono fun r H' h=>by cases r<;>exact h
end
section
variable {P:Program}{r:Option Nat}{ops:Array Oper}{Q:Cf→Bk→Prop}{k:Nat}{n:Nat}{τ:Nat→AV}{H:List BD}{D:List Dw}{dst:Option Tmp}{ty:TypeId}{pos:String}{aft:Array Edge}{v:AV}{c:Call}{f:Operand}{fid:FuncId}{first caps A:List AV}
theorem NM (ho:ops[k]?=some ⟨dst,.call c,ty,pos,aft,none⟩) (hd:F6 dst n=true) (hc:c.callee= .value f) (hf:(ev τ f= .p (.fn fid)∧first=[]∧caps=[])∨ev τ f= .fn (.func fid) first caps) (h:Bl P fid A [] (Tu v [])) (hA:Fj (first++c.args.toList.map (ev τ)++caps) A) (pan:Q (.panic v) ⟨n,τ,H,D⟩):AL P r ops k ⟨n,τ,H,D⟩ Q :=
 IG ho hd hc hf (Hs:=[]) (Hf:=H) Ao (h.args hA) (.inl rfl) (fun _ _ h=>h.elim) (fun v' H' ⟨h1,h2⟩=>by subst h1;subst h2;exact pan)
end
end Go.Abs
namespace Go.Eu
open Go.Abs
def I4 (k:Int):Int:=if k=5∨k=6∨k=7 then 1 else if k=11 then 2 else -1
theorem VR {k:Int}{i:Int}(h:i=I4 k) (hi:0≤i):below k i=1:=by
 unfold I4 at h;unfold below;split at h
 ·rename_i hk;subst h;rcases hk with rfl | rfl | rfl<;>simp
 split at h
 ·rename_i hk;subst h;subst hk;simp
 omega
theorem R7 {k:Int}{i:Int}(h:i≠I4 k):below k i=0:=by
 unfold I4 at h;unfold below;rw[if_neg];simp only[Bool.or_eq_true,Bool.and_eq_true,beq_iff_eq];intro hc;apply h;rcases hc with ⟨h1,h2⟩ | ⟨h1,h2⟩
 ·rw[if_pos (by rcases h2 with (h | h) | h<;>simp[h]),h1]
 rw[if_neg An,if_pos h2,h1]
theorem Vh {k:Int}(h:¬(0≤k∧k<13)):I4 k= -1:=by
 unfold I4;rw[if_neg An,if_neg An]
section
variable {σ:Type}
mutual
def EE (st:σ→Int→Tm→σ×Bool):Tm→Int→σ→σ×Bool
 | .mk k i n l ks,d,s=>if (st s d (.mk k i n l ks)).2=false then ((st s d (.mk k i n l ks)).1,false) else EF st k d 0 (st s d (.mk k i n l ks)).1 ks
def EF (st:σ→Int→Tm→σ×Bool) (k d:Int):Nat→σ→List Tm→σ×Bool
 | _,s,[]=>(s,true)
 | j,s,t::ts=>if (EE st t (d+below k j) s).2=false then ((EE st t (d+below k j) s).1,false) else EF st k d (j+1) (EE st t (d+below k j) s).1 ts
end
end
def OM (ix nm:Bool) (lv ks bl:Int):List AV:=[.p (.bool ix),.p (.bool nm),.p (I lv),.p (I ks),.p (I bl)]
def Nx:List AV:=[OM true false 0 0 (-1),OM false false 0 0 (-1),OM false false 1 0 (-1),OM false true (-1) 0 (-1),OM false false 0 2 (-1),OM false false 0 2 1,OM false false 0 2 1,OM false false 0 2 1,OM false false 0 3 (-1),OM false false 0 1 (-1),OM false false 0 1 (-1),OM false false 0 3 2,OM true false 0 0 (-1)].flatten
theorem Z6 {k:Int}(h:0≤k∧k<13):Nx[0+k.toNat*5+4]?=some (.p (I (I4 k))):=by
 have:k=0∨k=1∨k=2∨k=3∨k=4∨k=5∨k=6∨k=7∨k=8∨k=9∨k=10∨k=11∨k=12:=by omega
 rcases this with rfl | rfl | rfl | rfl | rfl | rfl | rfl | rfl | rfl | rfl | rfl | rfl | rfl<;>rfl
section
variable {σ:Type}{st:σ→Int→Tm→σ×Bool}{Inv:Nat→σ→Prop}
theorem UQ {t:Tm}{d:Int}{s:σ}(h:(st s d t).2=false):EE st t d s=((st s d t).1,false):=by
 obtain⟨k,i,n,l,ks⟩:=t;rw[EE,if_pos h]
theorem HC {k i:Int}{n:ByteArray}{l:List CX}{ks:List Tm}{d:Int}{s:σ}(h:(st s d (.mk k i n l ks)).2=true):EE st (.mk k i n l ks) d s=EF st k d 0 (st s d (.mk k i n l ks)).1 ks:=by
 rw[EE,if_neg (by simp[h])]
theorem IF {k d:Int}{ts:List Tm}{i:Nat}{x:Tm}{s:σ}(hx:ts[i]?=some x) (h:(EE st x (d+below k i) s).2=false):EF st k d i s (ts.drop i)=((EE st x (d+below k i) s).1,false):=by
 rw[Cm hx,EF,if_pos h]
theorem KE {k d:Int}{ts:List Tm}{i:Nat}{x:Tm}{s:σ}(hx:ts[i]?=some x) (h:(EE st x (d+below k i) s).2=true):EF st k d i s (ts.drop i)=EF st k d (i+1) (EE st x (d+below k i) s).1 (ts.drop (i+1)):=by
 rw[Cm hx,EF,if_neg (by simp[h])]
mutual
theorem Ia (hI:∀m s d t,Inv (m+1) s→Inv m (st s d t).1):∀(t:Tm) (d:Int) (s:σ) (m:Nat),Inv (m+size t) s→(EE st t d s).2=true→Inv m (EE st t d s).1
 | .mk k i n l ks,d,s,m,h,hv=>by
  rw[size,show m+(1+BS ks)=(m+BS ks)+1 by omega] at h;have h1:=hI _ _ d (.mk k i n l ks) h;rw[EE] at hv ⊢;split at hv
  ·cases hv
  rename_i hc;rw[if_neg hc];exact Oi hI ks k d 0 _ m h1 hv
theorem Oi (hI:∀m s d t,Inv (m+1) s→Inv m (st s d t).1):∀(ts:List Tm) (k d:Int) (j:Nat) (s:σ) (m:Nat),Inv (m+BS ts) s→(EF st k d j s ts).2=true→Inv m (EF st k d j s ts).1
 | [],k,d,j,s,m,h,hv=>by simpa [EF,BS] using h
 | t::ts,k,d,j,s,m,h,hv=>by
  rw[BS,show m+(size t+BS ts)=(m+BS ts)+size t by omega] at h;rw[EF] at hv ⊢;split at hv
  ·cases hv
  rename_i hc;rw[if_neg hc];have:=Ia hI t (d+below k j) s _ h (by simpa using hc);exact Oi hI ts k d (j+1) _ m this hv
end
end
def Wn (s:Int) (d:Int) (t:Tm):Int×Bool:=(wr (s+1),true)
mutual
theorem Uk (B:Int) (hB:B≤4611686018427387904):∀(t:Tm) (d s:Int),0≤s→s+size t<B→EE Wn t d s=(s+size t,true)
 | .mk k i n l ks,d,s,h0,h=>by
  rw[size] at h ⊢;rw[HC rfl];simp only[Wn];rw[Ee ⟨by omega,by omega⟩,Sb B hB ks k d 0 (s+1) An An];congr 1;omega
theorem Sb (B:Int) (hB:B≤4611686018427387904):∀(ts:List Tm) (k d:Int) (j:Nat) (s:Int),0≤s→s+BS ts<B→EF Wn k d j s ts=(s+BS ts,true)
 | [],k,d,j,s,h0,h=>by simp[EF,BS]
 | t::ts,k,d,j,s,h0,h=>by
  rw[BS] at h ⊢;rw[EF,Uk B hB t _ s h0 An];simp only;rw[if_neg Ao,Sb B hB ts k d (j+1) (s+size t) An An];congr 1;omega
end
def qo (s:List Int) (d:Int):Tm→List Int×Bool
 | .mk k i _ _ _=>(if k=12∧i ∉ s then s++[i] else s,true)
def rZ (s:List Int):List (Int×AV):=s.map fun i=>(i,.p (.bool true))
def VN (xs ys:List Tm) (i:Nat):Prop:=ys.length=xs.length∧∀k,k<xs.length→ys[k]?=if k<i∨xs.length - 1 - k<i then xs[xs.length - 1 - k]? else xs[k]?
theorem WA (xs:List Tm):VN xs xs 0:=⟨rfl,fun k hk=>by rw[if_neg An]⟩
theorem Wo {xs ys:List Tm}{i:Nat}{a b:Tm}(h:VN xs ys i) (hi:i<xs.length - 1 - i) (ha:ys[i]?=some a) (hb:ys[xs.length - 1 - i]?=some b):VN xs ((ys.set i b).set (xs.length - 1 - i) a) (i+1):=by
 obtain⟨hl,h⟩:=h;refine⟨by simp[hl],fun k hk=>?_⟩;have e1:=h i An;rw[if_neg An,ha] at e1;have e2:=h (xs.length - 1 - i) An;rw[if_neg An,hb] at e2;by_cases k1:k=xs.length - 1 - i
 ·subst k1;rw[if_pos An,List.getElem?_set_self Ai,e1];congr 1;omega
 rw[List.getElem?_set_ne (fun e=>k1 e.symm)];by_cases k2:k=i
 ·subst k2;rw[if_pos An,List.getElem?_set_self An,e2]
 rw[List.getElem?_set_ne (fun e=>k2 e.symm),h k hk];by_cases k3:k<i∨xs.length - 1 - k<i
 ·rw[if_pos k3,if_pos An]
 rw[if_neg k3,if_neg An]
theorem Wi {xs ys:List Tm}{i:Nat}(h:VN xs ys i) (hi:xs.length - 1 - i≤i):ys=xs.reverse:=by
 obtain⟨hl,h⟩:=h;apply List.ext_getElem?;intro k;by_cases hk:k<xs.length
 ·rw[h k hk,List.getElem?_reverse hk];by_cases k3:k<i∨xs.length - 1 - k<i
  ·rw[if_pos k3]
  rw[if_neg k3];congr 1;omega
 rw[List.getElem?_eq_none An,List.getElem?_eq_none Ai]
def qe (f:Int) (n i:Nat):List Tm:=(cr f 0 n).take i++List.replicate (n - i) BZ
def kQ (t:Tm):Bool:=decide ((size t:Int) > 4096)||decide (En t > 200)
def qy {σ:Type}(st:σ→Int→Tm→σ) (xs:List Tm):Nat→σ→σ
 | 0,s=>s
 | m+1,s=>qy st xs m (st s m (xs.getD m BZ))
def pY (k:Int) (t:Tm) (i:Int) (a:Tm):Tm:= .mk k 0 ⟨#[]⟩ [] [a,t]
end Go.Eu
namespace Go.Abs
def hY (mkv:Nat→AV) (cs:List AV):D6→List BD→Prop
 | .val v,H'=>∃b,v=mkv b∧H'=[.box b cs]
 | .panic _,_=>False
section
variable {P:Program}{ops:Array Oper}{n:Nat}{τ₀ τ:Nat→AV}{D:List Dw}{Q:Cf→Bk→Prop}{opn:Nat→Bool}{k:Nat}{H:List BD}{dst:Option Tmp}{ty:TypeId}{pos:String}{aft:Array Edge}{c:Call}{f:Operand}{fid:FuncId}{first caps A:List AV}{mkv:Nat→AV}{cs:List AV}
theorem X0 {rd ef effs fx}(fx':List (Nat×Sp)) (ho:ops[k]?=some ⟨dst,.call c,ty,pos,aft,none⟩) (hn:opn k=true)
  (hc:c.callee= .value f) (hf:(ev τ f= .p (.fn fid)∧first=[]∧caps=[])∨ev τ f= .fn (.func fid) first caps) (h:Bl P fid A [] (hY mkv cs)) (hA:first++c.args.toList.map (ev τ)++caps=A∨(first++c.args.toList.map (ev τ)++caps).map norm=A) (haft:Ef ops k (fx'.map (·.1))=true)
  (next:∀b,Jj ops k H (.box b cs::H) rd∧Gu k (.eff (mkv b) (.box b cs::H)) fx∧Dr P ops n τ₀ D Q opn (k+1) (put τ dst (mkv b)) (.box b cs::H) rd ((k,H,.box b cs::H)::ef) (true::effs) (fx'++fx)):Dr P ops n τ₀ D Q opn k τ H rd ef effs fx :=
 Mu fx' ho hn (Fb (H:=H) (Hs:=[]) (Hf:=H) hc hf Ao h hA) haft ⟨_,_,_,⟨0,rfl,rfl⟩,rfl⟩ (fun v H' ⟨_,h,_⟩=>h.elim) (fun v H' ⟨Hs',⟨b,h1,h2⟩,h3⟩=>by subst h1;subst h2;subst h3;exact next b)
theorem fE {r:Option Nat}(ho:ops[k]?=some ⟨dst,.call c,ty,pos,aft,none⟩) (hd:F6 dst n=true)
  (hc:c.callee= .value f) (hf:(ev τ f= .p (.fn fid)∧first=[]∧caps=[])∨ev τ f= .fn (.func fid) first caps) (h:Bl P fid A [] (hY mkv cs)) (hA:Fj (first++c.args.toList.map (ev τ)++caps) A)
  (next:∀b,AL P r ops (k+1) ⟨n,put τ dst (mkv b),.box b cs::H,D⟩ Q):AL P r ops k ⟨n,τ,H,D⟩ Q :=
 IG ho hd hc hf (Hs:=[]) (Hf:=H) Ao (h.args hA) (.inl rfl) (fun v Hs' ⟨b,h1,h2⟩=>by subst h1;subst h2;exact next b) (fun _ _ h=>h.elim)
end
def J5 {α:Type}(mkv:α→AV) (mkp:Int→AV) (C:α→List BD→Prop) (x:Except Int α):D6→List BD→Prop
 | .val v,H'=>∃a,x= .ok a∧v=mkv a∧C a H'
 | .panic v,_=>∃e,x= .error e∧v=mkp e
theorem C9.permR {P:Program}{ρ:Operand→AV}{o:Oper}{H:List BD}{R R':D6→List BD→Prop}(h:C9 P o ρ H R) (hp:∀r H1,R r H1→∃H2,H1.Perm H2∧R' r H2):C9 P o ρ H R':=by
 intro r F S a w hs hH hρ hd;have:=h r F S a w hs hH hρ hd;refine LQ this ?_ ?_
 ·rintro a' w' ⟨v',H1,F',hR,hs',ht⟩;obtain⟨H2,hp,hR'⟩:=hp _ _ hR;exact⟨v',H2,F',hR',⟨hs'.size,hs'.tmp,hs'.heap.perm hp,hs'.defs⟩,{ ht with keys:=fun o ho=>ht.keys o (hp.mem_iff.2 ho) }⟩
 rintro e a' w' ⟨v',H1,F',u,hR,h1,h2,hs',ht⟩;obtain⟨H2,hp,hR'⟩:=hp _ _ hR;exact⟨v',H2,F',u,hR',h1,h2,⟨hs'.size,hs'.tmp,hs'.heap.perm hp,hs'.defs⟩,{ ht with keys:=fun o ho=>ht.keys o (hp.mem_iff.2 ho) }⟩
section
variable {P:Program}{ops:Array Oper}{n:Nat}{τ₀ τ:Nat→AV}{D:List Dw}{Q:Cf→Bk→Prop}{opn:Nat→Bool}{k:Nat}{T:List BD}{dst:Option Tmp}{ty:TypeId}{pos:String}{aft:Array Edge}{c:Call}{f:Operand}{fid:FuncId}{first caps A:List AV}
 {α:Type} {mkv:α→AV} {mkp:Int→AV} {C:α→List BD→Prop} {x:Except Int α}
theorem ig {r:Option Nat}(fr:List BD) (ho:ops[k]?=some ⟨dst,.call c,ty,pos,aft,none⟩) (hd:F6 dst n=true)
  (hc:c.callee= .value f) (hf:(ev τ f= .p (.fn fid)∧first=[]∧caps=[])∨ev τ f= .fn (.func fid) first caps) (h:Bl P fid A T (J5 mkv mkp C x)) (hA:Fj (first++c.args.toList.map (ev τ)++caps) A)
  (next:∀a T',x= .ok a→C a T'→AL P r ops (k+1) ⟨n,put τ dst (mkv a),fr++T',D⟩ Q) (pan:∀e T',x= .error e→Q (.panic (mkp e)) ⟨n,τ,T'++fr,D⟩):AL P r ops k ⟨n,τ,fr++T,D⟩ Q :=
 Hd fr ho hd hc hf h hA (fun v T' ⟨a,h1,h2,h3⟩=>by subst h2;exact next a T' h1 h3) (fun v T' ⟨e,h1,h2⟩=>by subst h2;exact pan e T' h1)
theorem kx {rd ef effs fx}(fr:List BD) (ho:ops[k]?=some ⟨dst,.call c,ty,pos,aft,none⟩) (hn:opn k=true)
  (hc:c.callee= .value f) (hf:(ev τ f= .p (.fn fid)∧first=[]∧caps=[])∨ev τ f= .fn (.func fid) first caps) (h:Bl P fid A T (J5 mkv mkp C x)) (hA:Fj (first++c.args.toList.map (ev τ)++caps) A) (haft:Ef ops k []=true) (chk:ML ops n (true::effs).reverse=true) (hfx:MD k fx=true) (owe:Jj ops k (fr++T) (fr++T) rd)
  (next:∀a T',x= .ok a→C a T'→Jj ops k (fr++T) (fr++T') rd∧Gu k (.eff (mkv a) (fr++T')) fx∧Dr P ops n τ₀ D Q opn (k+1) (put τ dst (mkv a)) (fr++T') rd ((k,fr++T,fr++T')::ef) (true::effs) fx)
  (pan:∀e,x= .error e→∀τ' T',(∀t,(∀(k:Nat) o,ops[k]?=some o→o.dst≠some t)→τ' t=τ₀ t)→Q (.panic (mkp e)) ⟨n,τ',T'++fr,D⟩):Dr P ops n τ₀ D Q opn k τ (fr++T) rd ef effs fx:=by
 have hop:C9 P ⟨dst,.call c,ty,pos,aft,none⟩ (ev τ) (fr++T) (fun r H'=>∃T',J5 mkv mkp C x r T'∧(match r with | .val _=>H'=fr++T' | .panic _=>H'=T'++fr)):=by
  refine C9.permR (Fb (H:=fr++T) (Hs:=T) (Hf:=fr) hc hf List.perm_append_comm (h.args hA) (.inl O)) ?_;rintro r H1 ⟨T',hR,rfl⟩;cases r with
  | val v=>exact⟨fr++T',List.perm_append_comm,T',hR,rfl⟩
  | panic v=>exact⟨T'++fr,List.Perm.refl _,T',hR,rfl⟩
 by_cases hx:∃a T',x= .ok a∧C a T'
 ·obtain⟨a,T',hx,hC⟩:=hx;refine Dr.opn _ [] ho hn Ap hop haft ⟨mkv a,_,T',⟨a,hx,O,hC⟩,O⟩ ?_ ?_ ?_ ?_
  ·rintro v H' ⟨T',⟨a',h1,h2,h3⟩,rfl⟩;exact(next a' T' h1 h3).1
  ·rintro v H' ⟨T',⟨a',h1,h2,h3⟩,rfl⟩;subst h2;exact(next a' T' h1 h3).2.1
  ·rintro v H' ⟨T',⟨a',h1,h2,h3⟩,rfl⟩;subst h2;exact(next a' T' h1 h3).2.2
  rintro v H' ⟨T',⟨e,h1,h2⟩,rfl⟩ τ' hτ;subst h2;exact pan e h1 τ' T' hτ
 refine Dr.pan _ ho hn Ap hop haft chk hfx ?_ owe ?_
 ·rintro v H' ⟨T',⟨a',h1,h2,h3⟩,rfl⟩;exact hx ⟨a',T',h1,h3⟩
 rintro v H' ⟨T',⟨e,h1,h2⟩,rfl⟩ τ' hτ;subst h2;exact pan e h1 τ' T' hτ
end
section
variable {P:Program}{ops:Array Oper}{n:Nat}{τ₀ τ:Nat→AV}{D:List Dw}{Q:Cf→Bk→Prop}{opn:Nat→Bool}{k:Nat}{H Hs:List BD}{dst:Option Tmp}{ty:TypeId}{pos:String}{aft:Array Edge}{c:Call}{f:Operand}{fid:FuncId}{first caps A:List AV}
 {α:Type} {mkv:α→AV} {mkp:Int→AV} {C:α→List BD→Prop} {x:Except Int α}
theorem DX {r:Option Nat}(is:List Nat) (ho:ops[k]?=some ⟨dst,.call c,ty,pos,aft,none⟩) (hd:F6 dst n=true)
  (hc:c.callee= .value f) (hf:(ev τ f= .p (.fn fid)∧first=[]∧caps=[])∨ev τ f= .fn (.func fid) first caps) (h:Bl P fid A Hs (J5 mkv mkp C x)) (hg:E0 H is Hs) (hn:is.Nodup) (hA:Fj (first++c.args.toList.map (ev τ)++caps) A)
  (hl:∀a T',C a T'→T'.length=Hs.length)
  (next:∀a T',x= .ok a→C a T'→AL P r ops (k+1) ⟨n,put τ dst (mkv a),Kc H is T',D⟩ Q) (pan:∀e H',x= .error e→Q (.panic (mkp e)) ⟨n,τ,H'++Cp is 0 H,D⟩):AL P r ops k ⟨n,τ,H,D⟩ Q :=
 dC is ho hd hc hf h hg hn hA (fun v T' ⟨a,h1,h2,h3⟩=>by subst h2;exact⟨hl a T' h3,next a T' h1 h3⟩) (fun v T' ⟨e,h1,h2⟩=>by subst h2;exact pan e T' h1)
theorem N8 {rd ef effs fx}(is:List Nat) (ho:ops[k]?=some ⟨dst,.call c,ty,pos,aft,none⟩) (hn:opn k=true)
  (hc:c.callee= .value f) (hf:(ev τ f= .p (.fn fid)∧first=[]∧caps=[])∨ev τ f= .fn (.func fid) first caps) (h:Bl P fid A Hs (J5 mkv mkp C x)) (hg:E0 H is Hs) (hnd:is.Nodup) (hA:Fj (first++c.args.toList.map (ev τ)++caps) A)
  (hl:∀a T',C a T'→T'.length=Hs.length) (haft:Ef ops k []=true) (chk:ML ops n (true::effs).reverse=true) (hfx:MD k fx=true) (owe:Jj ops k H H rd)
  (next:∀a T',x= .ok a→C a T'→Jj ops k H (Kc H is T') rd∧Gu k (.eff (mkv a) (Kc H is T')) fx∧Dr P ops n τ₀ D Q opn (k+1) (put τ dst (mkv a)) (Kc H is T') rd ((k,H,Kc H is T')::ef) (true::effs) fx)
  (pan:∀e,x= .error e→∀τ' H',(∀t,(∀(k:Nat) o,ops[k]?=some o→o.dst≠some t)→τ' t=τ₀ t)→Q (.panic (mkp e)) ⟨n,τ',H'++Cp is 0 H,D⟩):Dr P ops n τ₀ D Q opn k τ H rd ef effs fx:=by
 have hop:C9 P ⟨dst,.call c,ty,pos,aft,none⟩ (ev τ) H (fun r H'=>∃T',J5 mkv mkp C x r T'∧(match r with | .val _=>H'=Kc H is T' | .panic _=>H'=T'++Cp is 0 H)):=by
  refine C9.permR (Fb hc hf (DA hnd hg) (h.args hA) (.inl O)) ?_;rintro r H1 ⟨T',hR,rfl⟩;cases r with
  | val v=>obtain⟨a,h1,h2,h3⟩:=hR;exact⟨_,(LR hnd hg (hl a T' h3)).symm,T',⟨a,h1,h2,h3⟩,rfl⟩
  | panic v=>exact⟨_,List.Perm.refl _,T',hR,rfl⟩
 by_cases hx:∃a T',x= .ok a∧C a T'
 ·obtain⟨a,T',hx,hC⟩:=hx;refine Dr.opn _ [] ho hn Ap hop haft ⟨mkv a,_,T',⟨a,hx,O,hC⟩,O⟩ ?_ ?_ ?_ ?_
  ·rintro v H' ⟨T',⟨a',h1,h2,h3⟩,rfl⟩;exact(next a' T' h1 h3).1
  ·rintro v H' ⟨T',⟨a',h1,h2,h3⟩,rfl⟩;subst h2;exact(next a' T' h1 h3).2.1
  ·rintro v H' ⟨T',⟨a',h1,h2,h3⟩,rfl⟩;subst h2;exact(next a' T' h1 h3).2.2
  rintro v H' ⟨T',⟨e,h1,h2⟩,rfl⟩ τ' hτ;subst h2;exact pan e h1 τ' T' hτ
 refine Dr.pan _ ho hn Ap hop haft chk hfx ?_ owe ?_
 ·rintro v H' ⟨T',⟨a',h1,h2,h3⟩,rfl⟩;exact hx ⟨a',T',h1,h3⟩
 rintro v H' ⟨T',⟨e,h1,h2⟩,rfl⟩ τ' hτ;subst h2;exact pan e h1 τ' T' hτ
end
theorem DD:∀xs:List AV,Fj xs xs
 | []=>Eg
 | x::xs=>aw (we rfl) (DD xs)
def mL (ops:Array Oper) (t:Nat):Bool:=ops.toList.all fun o=>match o.dst with | some u=> !(Nat.beq u t) | none=>true
theorem P4 {ops:Array Oper}{t:Nat}(h:mL ops t=true) (k:Nat) (o:Oper) (ho:ops[k]?=some o):o.dst≠some t:=by
 intro e;have hm:o∈ops.toList:=by
  rw[←Array.getElem?_toList] at ho;exact List.mem_of_getElem? ho
 have:=List.all_eq_true.1 h o hm;simp[e] at this
theorem Lo {L Hs:List BD}{is:List Nat}(X:List BD) (hn:is.Nodup) (hg:E0 L is Hs):(X++L).Perm (Hs++(X++Cp is 0 L)):=by
 have h:=(DA hn hg).append_left X;refine h.trans ?_;rw[←List.append_assoc,←List.append_assoc];exact List.perm_append_comm.append_right _
theorem EM.eq {P:Program}{f:FuncId}{caps:List AV}{m:L7}{H X:List BD}{R:List BD→Prop}(h:EM P f caps m H (fun H'=>H'=X)) (hq:R X):EM P f caps m H R:=by
 refine⟨h.1,fun F w vs u hH hr hm=>?_⟩;refine(h.2 F w vs u hH hr hm).mono ?_;rintro e u' w' ⟨v,H',F',h1,h2,rfl,h3,h4⟩;exact⟨v,_,F',h1,h2,hq,h3,h4⟩
end Go.Abs
namespace Go.Eu
open Go.Abs
mutual
def Vp:Tm→Prop
 | .mk k i _ _ ks=>(k=0→0≤i∧i<1099511627776)∧R1 ks
def R1:List Tm→Prop
 | []=>True
 | t::ts=>Vp t∧R1 ts
end
theorem LP:∀{ts:List Tm}{i:Nat}{t:Tm},R1 ts→ts[i]?=some t→Vp t
 | [],i,t,_,h=>by simp at h
 | a::ts,0,t,hn,h=>by simp at h;subst h;exact hn.1
 | a::ts,i+1,t,hn,h=>by simp at h;exact LP hn.2 h
def OT:Tm→Tm
 | .mk k i n l _=> .mk k i n l []
def H7 (i:Int):Except Int Tm:=if i > 65535 then .error 24 else .ok (OS i)
def Ua (n m:Int):Except Int Int:=if wr (n+m) > 4096 then .error 5 else .ok (wr (n+m))
def Xd (b fr:Int) (t:Tm) (d:Int):Except Int Tm :=
 if t.index - d<fr then .ok (OT t) else if b<0∧t.index - d<fr - b then .error 24 else H7 (t.index+b)
def L1 {α β:Type}(f:α→β):Except Int α→Except Int β
 | .error e=> .error e
 | .ok x=> .ok (f x)
def DS {α β:Type}(x:Except Int α) (f:α→Except Int β):Except Int β :=
 match x with
 | .error e=> .error e
 | .ok x=>f x
def JQ (rep:Tm→Int→Except Int Tm) (s:Unit) (t:Tm) (d:Int):Except Int ((Tm×Bool)×Unit) :=
 if t.kind=0 then L1 (fun x=>((x,true),())) (rep t d) else .ok ((OT t,false),())
mutual
def Di {σ:Type}(vis:σ→Tm→Int→Except Int ((Tm×Bool)×σ)):Tm→Int→σ→Except Int (Tm×σ)
 | .mk k i n l ks,d,s=>DS (vis s (.mk k i n l ks) d) fun r =>
   if r.1.2=true then .ok (r.1.1,r.2) else DS (Dd vis k 0 ks d r.2) fun q=> .ok (LC r.1.1 q.1,q.2)
def Dd {σ:Type}(vis:σ→Tm→Int→Except Int ((Tm×Bool)×σ)) (k:Int):Nat→List Tm→Int→σ→Except Int (List Tm×σ)
 | _,[],_,s=> .ok ([],s)
 | j,t::ts,d,s=>DS (Di vis t (d+below k j) s) fun r=>DS (Dd vis k (j+1) ts d r.2) fun q=> .ok (r.1::q.1,q.2)
end
section
variable {σ:Type}{vis:σ→Tm→Int→Except Int ((Tm×Bool)×σ)}
theorem Fa {t:Tm}{d:Int}{s q:σ}{o:Tm}(h:vis s t d= .ok ((o,true),q)):Di vis t d s= .ok (o,q):=by
 obtain⟨k,i,n,l,ks⟩:=t;simp[Di,h,DS]
theorem HM {t:Tm}{d e:Int}{s:σ}(h:vis s t d= .error e):Di vis t d s= .error e:=by
 obtain⟨k,i,n,l,ks⟩:=t;simp[Di,h,DS]
theorem HY {k i d:Int}{n:ByteArray}{l:List CX}{ks:List Tm}{s q q':σ}{o:Tm}{ys:List Tm}(h:vis s (.mk k i n l ks) d= .ok ((o,false),q)) (hk:Dd vis k 0 ks d q= .ok (ys,q')):Di vis (.mk k i n l ks) d s= .ok (LC o ys,q'):=by
 simp[Di,h,DS,hk]
theorem JC {k i d e:Int}{n:ByteArray}{l:List CX}{ks:List Tm}{s q:σ}{o:Tm}(h:vis s (.mk k i n l ks) d= .ok ((o,false),q)) (hk:Dd vis k 0 ks d q= .error e):Di vis (.mk k i n l ks) d s= .error e:=by
 simp[Di,h,DS,hk]
def QD (vis:σ→Tm→Int→Except Int ((Tm×Bool)×σ)) (k:Int) (ts:List Tm) (d:Int) (q0:σ) (i:Nat) (ys:List Tm) (q:σ):Prop :=
 ys.length=i∧Dd vis k 0 ts d q0=DS (Dd vis k i (ts.drop i) d q) fun r=> .ok (ys++r.1,r.2)
theorem QD.zero (k:Int) (ts:List Tm) (d:Int) (q0:σ):QD vis k ts d q0 0 [] q0:=by
 refine⟨O,?_⟩;simp only[List.drop_zero,List.nil_append];cases Dd vis k 0 ts d q0<;>rfl
theorem QD.err {k d e:Int}{ts ys:List Tm}{q0 q:σ}{i:Nat}{x:Tm}(h:QD vis k ts d q0 i ys q) (hx:ts[i]?=some x) (hb:Di vis x (d+below k i) q= .error e):Dd vis k 0 ts d q0= .error e:=by
 rw[h.2,Cm hx,Dd,hb];rfl
theorem QD.succ {k d:Int}{ts ys:List Tm}{q0 q q':σ}{i:Nat}{x y:Tm}(h:QD vis k ts d q0 i ys q) (hx:ts[i]?=some x) (hb:Di vis x (d+below k i) q= .ok (y,q')):QD vis k ts d q0 (i+1) (ys++[y]) q':=by
 refine⟨by simp[h.1],?_⟩;rw[h.2,Cm hx,Dd,hb];simp only[DS];cases Dd vis k (i+1) (ts.drop (i+1)) d q'<;>simp
theorem QD.fin {k d:Int}{ts ys:List Tm}{q0 q:σ}{i:Nat}(h:QD vis k ts d q0 i ys q) (hi:ts.length≤i):Dd vis k 0 ts d q0= .ok (ys,q):=by
 rw[h.2,List.drop_eq_nil_of_le hi,Dd];simp[DS]
end
theorem dM {ys:List Tm}{i m:Nat}{x:Tm}(h:ys.length=i) (hm:0<m):(ys++List.replicate m BZ).set i x=(ys++[x])++List.replicate (m - 1) BZ:=by
 subst h;cases m with
 | zero=>omega
 | succ m=>simp[List.replicate_succ]
section
variable {b fr d k i:Int}{n:ByteArray}{l:List CX}{ks:List Tm}
theorem Xk (h:i - d<fr):Xd b fr (.mk k i n l ks) d= .ok (.mk k i n l []):=by simp[Xd,Tm.index,OT,h]
theorem gM (h:¬i - d<fr) (h2:b<0) (h3:i - d<fr - b):Xd b fr (.mk k i n l ks) d= .error 24:=by unfold Xd;exact(if_neg h).trans (if_pos ⟨h2,h3⟩)
theorem Ws (h:¬i - d<fr) (h2:¬(b<0∧i - d<fr - b)):Xd b fr (.mk k i n l ks) d=H7 (i+b):=by unfold Xd;exact(if_neg h).trans (if_neg h2)
variable {rep:Tm→Int→Except Int Tm}{s:Unit}
theorem Nb {e:Int}(h:k=0) (hr:rep (.mk k i n l ks) d= .error e):JQ rep s (.mk k i n l ks) d= .error e:=by unfold JQ;exact(if_pos h).trans (by rw[hr];rfl)
theorem Lm {x:Tm}(h:k=0) (hr:rep (.mk k i n l ks) d= .ok x):JQ rep s (.mk k i n l ks) d= .ok ((x,true),()):=by unfold JQ;exact(if_pos h).trans (by rw[hr];rfl)
theorem No (h:k≠0):JQ rep s (.mk k i n l ks) d= .ok ((.mk k i n l [],false),()):=by unfold JQ;exact(if_neg h).trans rfl
end
def KG (b fr:Int) (t:Tm):Except Int Tm:=L1 Prod.fst (Di (JQ (Xd b fr)) t 0 ())
theorem Qi {α β:Type}{f:α→β}{x:Except Int α}{a:α}(h:x= .ok a):L1 f x= .ok (f a):=by rw[h];rfl
theorem OJ {α β:Type}{f:α→β}{x:Except Int α}{e:Int}(h:x= .error e):L1 f x= .error e:=by rw[h];rfl
def Ig (vs:List Tm) (dp ti d:Int):Int:=if 0≤wr (wr (ti - d) - dp)∧wr (wr (ti - d) - dp)<(vs.length:Int) then wr (wr (ti - d) - dp) else -1
theorem dS {vs:List Tm}{dp ti d:Int}(h1:0≤wr (wr (ti - d) - dp)) (h2:wr (wr (ti - d) - dp)<(vs.length:Int)):Ig vs dp ti d=wr (wr (ti - d) - dp):=if_pos ⟨h1,h2⟩
theorem gw {vs:List Tm}{dp ti d:Int}(h:¬(0≤wr (wr (ti - d) - dp)∧wr (wr (ti - d) - dp)<(vs.length:Int))):Ig vs dp ti d= -1:=if_neg h
theorem UF {vs:List Tm}{dp ti d:Int}(h:0≤Ig vs dp ti d):Ig vs dp ti d<(vs.length:Int):=by
 unfold Ig at *;split<;>omega
def Ti (vs:List Tm) (sz:List Int) (dp:Int) (t:Tm) (d:Int):Int :=
 if t.kind=0∧0≤Ig vs dp t.index d then sz.getD (Ig vs dp t.index d).toNat 0 else 1
def Pq (vs:List Tm) (sz:List Int) (dp:Int) (n:Int) (t:Tm) (d:Int):Except Int ((Tm×Bool)×Int) :=
 L1 (fun m=>((BZ,decide (t.kind=0)),m)) (Ua n (Ti vs sz dp t d))
def KA (vs:List Tm) (dp:Int) (t:Tm) (d:Int):Except Int Tm :=
 if 0≤Ig vs dp t.index d then KG (wr (dp+d)) 0 (vs.getD (Ig vs dp t.index d).toNat BZ)
 else if wr (t.index - d)<dp then .ok (OT t) else H7 (wr (t.index - vs.length))
def JE (vs:List Tm) (dp:Int) (t:Tm):Except Int Tm :=
 DS (Di (Pq vs (vs.map fun v=>(size v:Int)) dp) t 0 0) fun _=>L1 Prod.fst (Di (JQ (KA vs dp)) t 0 ())
def FU (t:Tm) (vs:List Tm) (dp:Int):Tm×Int :=
 match JE vs dp t with
 | .error e=>(BZ,e)
 | .ok x=>if En x > 200 then (BZ,7) else (x,0)
section
variable {vs:List Tm}{sz:List Int}{dp n d k i r m e:Int}{nm:ByteArray}{l:List CX}{ks:List Tm}
theorem PN (hm:Ti vs sz dp (.mk k i nm l ks) d=m) (hz:Ua n m= .ok r):Pq vs sz dp n (.mk k i nm l ks) d= .ok ((BZ,decide (k=0)),r):=by
 subst hm;exact Qi hz
theorem Ni (hm:Ti vs sz dp (.mk k i nm l ks) d=m) (hz:Ua n m= .error e):Pq vs sz dp n (.mk k i nm l ks) d= .error e:=by
 subst hm;exact OJ hz
theorem Pz (h:k=0∧0≤Ig vs dp i d) (hx:sz[(Ig vs dp i d).toNat]?=some m):Ti vs sz dp (.mk k i nm l ks) d=m:=by
 unfold Ti;refine(if_pos h).trans ?_;rw[List.getD_eq_getElem?_getD];exact(congrArg (fun o=>Option.getD o 0) hx)
theorem Pl (h:¬(k=0∧0≤Ig vs dp i d)):Ti vs sz dp (.mk k i nm l ks) d=1:=by
 unfold Ti;exact if_neg h
theorem Pv {v:Tm}(h:0≤Ig vs dp i d) (hx:vs[(Ig vs dp i d).toNat]?=some v):KA vs dp (.mk k i nm l ks) d=KG (wr (dp+d)) 0 v:=by
 unfold KA;refine(if_pos h).trans ?_;rw[List.getD_eq_getElem?_getD];exact(congrArg (fun o=>KG (wr (dp+d)) 0 (Option.getD o BZ)) hx)
theorem Vi (h:¬0≤Ig vs dp i d) (h2:wr (i - d)<dp):KA vs dp (.mk k i nm l ks) d= .ok (.mk k i nm l []):=by
 unfold KA;exact(if_neg h).trans ((if_pos h2).trans rfl)
theorem Tl (h:¬0≤Ig vs dp i d) (h2:¬wr (i - d)<dp):KA vs dp (.mk k i nm l ks) d=H7 (wr (i - vs.length)):=by
 unfold KA;exact(if_neg h).trans (if_neg h2)
end
theorem IB {t:Tm}{vs:List Tm}{dp e:Int}(h:JE vs dp t= .error e):FU t vs dp=(BZ,e):=by unfold FU;rw[h]
theorem On {t x:Tm}{vs:List Tm}{dp:Int}(h:JE vs dp t= .ok x) (hd:En x > 200):FU t vs dp=(BZ,7):=by unfold FU;rw[h];exact if_pos hd
theorem SP {t x:Tm}{vs:List Tm}{dp:Int}(h:JE vs dp t= .ok x) (hd:¬En x > 200):FU t vs dp=(x,0):=by unfold FU;rw[h];exact if_neg hd
theorem La {t x:Tm}{vs:List Tm}{dp:Int}{a:Tm×Int}{b:Unit}(h1:Di (Pq vs (vs.map fun v=>(size v:Int)) dp) t 0 0= .ok a) (h2:Di (JQ (KA vs dp)) t 0 ()= .ok (x,b)):JE vs dp t= .ok x:=by
 unfold JE;rw[h1];exact Qi h2
theorem Ow {t:Tm}{vs:List Tm}{dp e:Int}(h1:Di (Pq vs (vs.map fun v=>(size v:Int)) dp) t 0 0= .error e):JE vs dp t= .error e:=by
 unfold JE;rw[h1];rfl
theorem Ox {t:Tm}{vs:List Tm}{dp e:Int}{a:Tm×Int}(h1:Di (Pq vs (vs.map fun v=>(size v:Int)) dp) t 0 0= .ok a) (h2:Di (JQ (KA vs dp)) t 0 ()= .error e):JE vs dp t= .error e:=by
 unfold JE;rw[h1];exact OJ h2
theorem Wf:∀{ts:List Tm},(∀t∈ts,Nd t)→Ld ts
 | [],_=>trivial
 | t::ts,h=>⟨h t Ao,Wf fun x hx=>h x (by simp[hx])⟩
section
variable {σ:Type}{vis:σ→Tm→Int→Except Int ((Tm×Bool)×σ)}
mutual
theorem ON (hv:∀s t d r,Nd t→Vp t→vis s t d= .ok r→Nd r.1.1):∀(t:Tm) (d:Int) (s:σ) (r:Tm×σ),Nd t→Vp t→Di vis t d s= .ok r→Nd r.1
 | .mk k i n l ks,d,s,r,h1,h2,h=>by
  unfold Di DS at h;split at h
  ·cases h
  rename_i r1 hr;have hn:=hv _ _ _ _ h1 h2 hr;simp only at h;split at h
  ·injection h with h;subst h;exact hn
  split at h
  ·cases h
  rename_i q hq;injection h with h;subst h;obtain⟨g1,g2⟩:=RH hv ks k 0 d r1.2 q h1.2.2.2.2.1 h2.2 hq;obtain⟨⟨o,dn⟩,q1⟩:=r1;obtain⟨ok,oi,on,ol,os⟩:=o;exact⟨hn.1,hn.2.1,hn.2.2.1,by rw[g2];exact h1.2.2.2.1,g1,hn.2.2.2.2.2⟩
theorem RH (hv:∀s t d r,Nd t→Vp t→vis s t d= .ok r→Nd r.1.1):∀(ts:List Tm) (k:Int) (j:Nat) (d:Int) (s:σ) (r:List Tm×σ),Ld ts→R1 ts→Dd vis k j ts d s= .ok r→Ld r.1∧r.1.length=ts.length
 | [],k,j,d,s,r,h1,h2,h=>by
  unfold Dd at h;injection h with h;subst h;exact⟨trivial,rfl⟩
 | t::ts,k,j,d,s,r,h1,h2,h=>by
  unfold Dd DS at h;split at h
  ·cases h
  rename_i r1 hr;simp only at h;split at h
  ·cases h
  rename_i q hq;injection h with h;subst h;obtain⟨g1,g2⟩:=RH hv ts k (j+1) d r1.2 q h1.2 h2.2 hq;exact⟨⟨ON hv t _ _ _ h1.1 h2.1 hr,g1⟩,by simp[g2]⟩
end
end
theorem RA {t:Tm}(h:Nd t):Nd (OT t):=by
 obtain⟨k,i,n,l,ks⟩:=t;exact⟨h.1,h.2.1,h.2.2.1,by decide,trivial,h.2.2.2.2.2⟩
theorem UW {i:Int}{x:Tm}(hi: -9223372036854775808≤i) (h:H7 i= .ok x):Nd x:=by
 unfold H7 at h;split at h
 ·cases h
 injection h with h;subst h;exact⟨by decide,by decide,by simp,by decide,trivial,⟨by decide,by decide⟩,⟨hi,by omega⟩⟩
theorem Xb {rep:Tm→Int→Except Int Tm}(hr:∀t d x,Nd t→Vp t→t.kind=0→rep t d= .ok x→Nd x):∀(s:Unit) (t:Tm) (d:Int) (r:(Tm×Bool)×Unit),Nd t→Vp t→JQ rep s t d= .ok r→Nd r.1.1:=by
 intro s t d r h1 h2 h;unfold JQ at h;split at h
 ·rename_i hk;unfold L1 at h;split at h
  ·cases h
  rename_i x hx;injection h with h;subst h;exact hr t d x h1 h2 hk hx
 injection h with h;subst h;exact RA h1
theorem Yr {b fr:Int}{t x:Tm}(hb:Ir b) (h1:Nd t) (h2:Vp t) (h:KG b fr t= .ok x):Nd x:=by
 unfold KG L1 at h;split at h
 ·cases h
 rename_i r hr;injection h with h;subst h;refine ON (Xb ?_) t 0 () r h1 h2 hr;intro t d x g1 g2 g3 g;obtain⟨k,i,n,l,ks⟩:=t;have hi:=g2.1 g3;unfold Xd at g;split at g
 ·injection g with g;subst g;exact RA g1
 split at g
 ·cases g
 exact UW (by have:=hb.1;simp only[Tm.index];omega) g
theorem gf {vs:List Tm}{dp:Int}{t x:Tm}{u:Unit}(hv:Ld vs) (hp:R1 vs) (h1:Nd t) (h2:Vp t) (h:Di (JQ (KA vs dp)) t 0 ()= .ok (x,u)):Nd x:=by
 refine ON (Xb ?_) t 0 () (x,u) h1 h2 h;intro t d x g1 g2 g3 g;unfold KA at g;split at g
 ·rename_i h0;have hl:=UF h0;obtain⟨v,hx⟩:=A6 (l:=vs) (i:=(Ig vs dp t.index d).toNat) An;rw[List.getD_eq_getElem?_getD,hx] at g;exact Yr (WK _) (DK hv hx) (LP hp hx) g
 split at g
 ·injection g with g;subst g;exact RA g1
 exact UW (WK _).1 g
theorem jA {vs:List Tm}{i:Nat}{x:Tm}(hx:vs[i]?=some x):(((vs.take i).map fun v=>(size v:Int))++List.replicate (vs.length - i) 0).set i (size x:Int)=((vs.take (i+1)).map fun v=>(size v:Int))++List.replicate (vs.length - (i+1)) 0:=by
 have hi:i<vs.length:=by
  rcases Nat.lt_or_ge i vs.length with h | h
  ·exact h
  rw[List.getElem?_eq_none h] at hx;cases hx
 obtain⟨m,hm⟩:∃m,vs.length - i=m+1:=⟨vs.length - i - 1,by omega⟩;have hl:((vs.take i).map fun v=>(size v:Int)).length=i:=by simp;omega
 rw[List.take_add_one,hx,hm,show vs.length - (i+1)=m by omega,List.replicate_succ,List.set_append_right _ _ An,hl];simp
theorem lk {vs:List Tm}{i:Nat}(h:vs.length≤i):((vs.take i).map fun v=>(size v:Int))++List.replicate (vs.length - i) 0=vs.map fun v=>(size v:Int):=by
 rw[List.take_of_length_le h,show vs.length - i=0 by omega];simp
theorem Xj {k i:Int}{n:ByteArray}{l:List CX}{ks:List Tm}(h:Wt (.mk k i n l ks)) (hk:k=0):ks=[]:=by
 have:=h.1;subst hk;cases ks with
 | nil=>rfl
 | cons a b=>simp[arity] at this;omega
def Er (x:Tm×Int):Except Int (Tm×Unit):=if x.2=0 then .ok (x.1,()) else .error x.2
def GP (x:List Tm×Int):Except Int (List Tm×Unit):=if x.2=0 then .ok (x.1,()) else .error x.2
theorem Um {er e:Int}(h:er≠0):GC er e=er:=by unfold GC;rw[if_neg h]
theorem XW {er i:Int}(h:er≠0):MN er i=er:=by unfold MN;split<;>simp[Um h]
mutual
theorem SH (b fr:Int):∀(t:Tm) (d er:Int),er≠0→(CS b fr d er t).2=er
 | .mk k i n l ks,d,er,h=>by
  unfold CS;split
  ·split
   ·rfl
   split
   ·exact Um h
   exact XW h
  exact Js b fr k ks d 0 er h
theorem Js (b fr k:Int):∀(ts:List Tm) (d:Int) (j:Nat) (er:Int),er≠0→(C2 b fr k d j er ts).2=er
 | [],d,j,er,h=>rfl
 | t::ts,d,j,er,h=>by
  unfold C2;simp only;rw[SH b fr t _ er h];exact Js b fr k ts d (j+1) er h
end
mutual
theorem Sa (b:Int) (hb:0≤b) (hb2:b<4398046511104):∀(t:Tm) (d:Int),Wt t→Vp t→0≤d→d+size t<2199023255552→Di (JQ (Xd b 0)) t d ()=Er (CS b 0 d 0 t)
 | .mk k i n l ks,d,h1,h2,h3,h4=>by
  by_cases hk:k=0
  ·have hks:=Xj h1 hk;have hi:=h2.1 hk;have e1:wr (0+d)=d:=by rw[Int.zero_add];exact Ee (by unfold Ir;omega)
   have e2:wr (i+b)=i+b:=Ee (by unfold Ir;omega);by_cases hlo:i - d<0
   ·rw[Fa (Lm hk (Xk hlo))];unfold CS;rw[if_pos hk,e1,if_pos An];subst hks;rfl
   have hsh:Xd b 0 (.mk k i n l ks) d=H7 (i+b):=Ws hlo An;unfold CS;rw[if_pos hk,e1,if_neg An,e2,if_neg An];by_cases hbig:i+b > 65535
   ·rw[HM (Nb hk (hsh.trans (if_pos hbig)))];unfold Er MN GC;simp[hbig]
   rw[Fa (Lm hk (hsh.trans (if_neg hbig)))];unfold Er MN;simp[hbig]
  have hs:d+BS ks<2199023255551:=by simp only[size] at h4;omega
  have hL:=RF b hb hb2 k ks d 0 h1.2.2 h2.2 h3 hs;unfold CS;rw[if_neg hk];unfold GP at hL;unfold Er;by_cases he:(C2 b 0 k d 0 0 ks).2=0
  ·rw[if_pos he] at hL;rw[if_pos he];exact HY (No hk) hL
  rw[if_neg he] at hL;rw[if_neg he];exact JC (No hk) hL
theorem RF (b:Int) (hb:0≤b) (hb2:b<4398046511104) (k:Int):∀(ts:List Tm) (d:Int) (j:Nat),Mo ts→R1 ts→0≤d→d+BS ts<2199023255551→Dd (JQ (Xd b 0)) k j ts d ()=GP (C2 b 0 k d j 0 ts)
 | [],d,j,h1,h2,h3,h4=>rfl
 | t::ts,d,j,h1,h2,h3,h4=>by
  have hbl:=Cj k j;simp only[BS] at h4;have hT:=Sa b hb hb2 t (d+below k j) h1.1 h2.1 An An;have hL:=RF b hb hb2 k ts d (j+1) h1.2 h2.2 h3 An;unfold Dd C2;rw[hT];unfold Er GP DS;by_cases he:(CS b 0 (d+below k j) 0 t).2=0
  ·rw[if_pos he];simp only;rw[hL,he];unfold GP;by_cases hq:(C2 b 0 k d (j+1) 0 ts).2=0
   ·rw[if_pos hq,if_pos hq]
   rw[if_neg hq,if_neg hq]
  rw[if_neg he];simp only;rw[Js b 0 k ts d (j+1) _ he,if_neg he]
end
theorem Yp {b:Int}{v:Tm}(hb:0≤b) (hb2:b<4398046511104) (h1:Wt v) (h2:Vp v) (h3:size v<1099511627776):KG b 0 v=if (CS b 0 0 0 v).2=0 then .ok (CS b 0 0 0 v).1 else .error (CS b 0 0 0 v).2:=by
 unfold KG;rw[Sa b hb hb2 v 0 h1 h2 An An];unfold Er;split<;>rfl
section
variable {vs:List Tm}{d er nd k i:Int}{n:ByteArray}{l:List CX}{ks:List Tm}
theorem MQ {t:Tm}(h:nd > 4096):B3 vs d er nd t=(t,er,nd):=by
 obtain⟨k,i,n,l,ks⟩:=t;unfold B3;rw[if_pos h]
theorem Is (h:nd > 4096):∀(ts:List Tm) (d:Int) (j:Nat),CO vs k d j er nd ts=(ts,er,nd)
 | [],d,j=>rfl
 | t::ts,d,j=>by unfold CO;rw[MQ h];simp only;rw[Is h ts d (j+1)]
theorem Mj {v:Tm}(h:nd≤4096) (hk:k=0) (h1:i≥d) (h2:i - d<(vs.length:Int)) (hv:vs[(i - d).toNat]?=some v):B3 vs d er nd (.mk k i n l ks)=((CS d 0 0 er v).1,(CS d 0 0 er v).2,wr (nd+FL v)):=by
 unfold B3;rw[if_neg An,if_pos ⟨hk,h1,h2⟩,List.getD_eq_getElem?_getD,hv];rfl
theorem Ny (h:nd≤4096) (hk:k=0) (h1:i≥d) (h2:¬i - d<(vs.length:Int)):B3 vs d er nd (.mk k i n l ks)=(OS (wr (i - vs.length)),MN er (wr (i - vs.length)),wr (nd+1)):=by
 unfold B3;rw[if_neg An,if_neg An,if_pos hk,if_pos h1]
theorem MW (h:nd≤4096) (hk:k=0) (h1:¬i≥d):B3 vs d er nd (.mk k i n l ks)=(.mk k i n l ks,er,wr (nd+1)):=by
 unfold B3;rw[if_neg An,if_neg An,if_pos hk,if_neg h1]
theorem Kv (h:nd≤4096) (hk:k≠0):B3 vs d er nd (.mk k i n l ks)=((.mk k i n l (CO vs k d 0 er (wr (nd+1)) ks).1),(CO vs k d 0 er (wr (nd+1)) ks).2):=by
 unfold B3;rw[if_neg An,if_neg An,if_neg hk]
end
mutual
theorem Zq (vs:List Tm):∀(t:Tm) (d er nd:Int),er≠0→(B3 vs d er nd t).2.1=er
 | .mk k i n l ks,d,er,nd,h=>by
  unfold B3;split
  ·rfl
  split
  ·exact SH _ _ _ _ _ h
  split
  ·split
   ·exact XW h
   rfl
  exact KJ vs k ks d 0 er _ h
theorem KJ (vs:List Tm) (k:Int):∀(ts:List Tm) (d:Int) (j:Nat) (er nd:Int),er≠0→(CO vs k d j er nd ts).2.1=er
 | [],d,j,er,nd,h=>rfl
 | t::ts,d,j,er,nd,h=>by
  unfold CO;simp only;rw[Zq vs t _ er nd h];exact KJ vs k ts d (j+1) er _ h
end
structure PF (vs:List Tm) (dp:Int):Prop where
 wt:Mo vs
 vp:R1 vs
 sz:∀x∈vs,size x<1099511627776
 len:vs.length<1099511627776
 lo:0≤dp
 hi:dp≤65536
theorem PF.size {vs:List Tm}{dp:Int}(V:PF vs dp):∀x∈vs,(size x:Int)≤1099511627776:=fun x hx=>by have:=V.sz x hx;omega
theorem YW {vs:List Tm}{dp i d:Int}(V:PF vs dp) (h1:0≤i) (h2:i<1099511627776) (h3:0≤d) (h4:d<2199023255552):Ig vs dp i d=if dp+d≤i∧i - (dp+d)<(vs.length:Int) then i - (dp+d) else -1:=by
 have:=V.lo;have:=V.hi;have e1:wr (i - d)=i - d:=Ee (by unfold Ir;omega);have e2:wr (i - d - dp)=i - (dp+d):=by rw[Ee (by unfold Ir;omega)];omega
 unfold Ig;rw[e1,e2];by_cases h:dp+d≤i∧i - (dp+d)<(vs.length:Int)
 ·rw[if_pos h,if_pos An]
 rw[if_neg h,if_neg An]
theorem YS {n m:Int}(h1:0≤n) (h2:n≤4096) (h3:0≤m) (h4:m≤1099511627776):Ua n m=if n+m > 4096 then .error 5 else .ok (n+m):=by
 unfold Ua;rw[show wr (n+m)=n+m from Ee (by unfold Ir;omega)]
def jR {α:Type}(x:Except Int (α×Int)) (m:Int):Prop:=(m > 4096→x= .error 5)∧(m≤4096→∃z,x= .ok (z,m))
def ja (vs:List Tm):List Int:=vs.map fun v=>(size v:Int)
theorem fh {vs:List Tm}{i:Nat}{v:Tm}(h:vs[i]?=some v):(ja vs)[i]?=some (size v:Int):=by simp[ja,h]
mutual
theorem Xg {vs:List Tm}{dp:Int}(V:PF vs dp):∀(t:Tm) (d er nd:Int),Wt t→Vp t→0≤d→d+size t<2199023255552→0≤nd→nd≤4096→jR (Di (Pq vs (ja vs) dp) t d nd) (B3 vs (dp+d) er nd t).2.2
 | .mk k i n l ks,d,er,nd,h1,h2,h3,h4,h5,h6=>by
  have hone:∀m:Int,0≤m→m≤1099511627776→Ti vs (ja vs) dp (.mk k i n l ks) d=m→k=0→jR (Di (Pq vs (ja vs) dp) (.mk k i n l ks) d nd) (wr (nd+m)):=by
   intro m g1 g2 g3 hk;have ha:=YS h5 h6 g1 g2;rw[show wr (nd+m)=nd+m from Ee (by unfold Ir;omega)];refine⟨fun h=>?_,fun h=>?_⟩
   ·rw[if_pos h] at ha;exact HM (Ni g3 ha)
   rw[if_neg An] at ha;refine⟨BZ,Fa ?_⟩;rw[PN g3 ha,hk];rfl
  by_cases hk:k=0
  ·have hi:=h2.1 hk;have hd:d<2199023255552:=by have:=size_pos (Tm.mk k i n l ks);omega
   have hv:=YW V hi.1 hi.2 h3 hd;by_cases hin:dp+d≤i∧i - (dp+d)<(vs.length:Int)
   ·rw[if_pos hin] at hv;obtain⟨v,hx⟩:=A6 (l:=vs) (i:=(i - (dp+d)).toNat) An;have hsv:=V.sz v (List.mem_of_getElem? hx);rw[Mj h6 hk hin.1 hin.2 hx,Q9 An];exact hone _ An An (Pz ⟨hk,by omega⟩ (by rw[hv];exact fh hx)) hk
   rw[if_neg hin] at hv;have hc:=hone 1 An An (Pl An) hk;by_cases hge:i≥dp+d
   ·rw[Ny h6 hk hge An];exact hc
   rw[MW h6 hk hge];exact hc
  rw[Kv h6 hk];have hs:d+BS ks<2199023255551:=by simp only[size] at h4;omega
  have e1:wr (nd+1)=nd+1:=Ee (by unfold Ir;omega);have ha:=YS (m:=1) h5 h6 An An;have hn:Ti vs (ja vs) dp (.mk k i n l ks) d=1:=Pl An;have hdec:decide (k=0)=false:=by simp[hk]
  simp only;rw[e1];by_cases hbig:nd+1 > 4096
  ·rw[Is hbig];rw[if_pos hbig] at ha;exact⟨fun _=>HM (Ni hn ha),fun h=>by simp only at h;omega⟩
  rw[if_neg hbig] at ha;have hc:=PN (l:=l) hn ha;rw[hdec] at hc;obtain⟨g1,g2⟩:=Vq V k ks d 0 er (nd+1) h1.2.2 h2.2 h3 hs An An;refine⟨fun h=>JC hc (g1 h),fun h=>?_⟩;obtain⟨z,hz⟩:=g2 h;exact⟨_,HY hc hz⟩
theorem Vq {vs:List Tm}{dp:Int}(V:PF vs dp) (k:Int):∀(ts:List Tm) (d:Int) (j:Nat) (er nd:Int),Mo ts→R1 ts→0≤d→d+BS ts<2199023255551→0≤nd→nd≤4096→jR (Dd (Pq vs (ja vs) dp) k j ts d nd) (CO vs k (dp+d) j er nd ts).2.2
 | [],d,j,er,nd,h1,h2,h3,h4,h5,h6=>⟨fun h=>by simp only[CO] at h;omega,fun _=>⟨_,rfl⟩⟩
 | t::ts,d,j,er,nd,h1,h2,h3,h4,h5,h6=>by
  have hbl:=Cj k j;simp only[BS] at h4;obtain⟨g1,g2⟩:=Xg V t (d+below k j) er nd h1.1 h2.1 An An h5 h6;have hm:=(I7 1099511627776 An An t vs (dp+d+below k j) er nd h1.1 V.wt V.size h5 An).1;rw[show dp+(d+below k j)=dp+d+below k j by omega] at g1 g2;unfold Dd CO;simp only;by_cases hbig:(B3 vs (dp+d+below k j) er nd t).2.2 > 4096
  ·rw[g1 hbig,Is hbig];exact⟨fun _=>O,fun h=>by simp only at h;omega⟩
  obtain⟨z,hz⟩:=g2 An;rw[hz];obtain⟨f1,f2⟩:=Vq V k ts d (j+1) (B3 vs (dp+d+below k j) er nd t).2.1 (B3 vs (dp+d+below k j) er nd t).2.2 h1.2 h2.2 h3 An An An;refine⟨fun h=>?_,fun h=>?_⟩
  ·simp only[DS];rw[f1 h]
  obtain⟨y,hy⟩:=f2 h;exact⟨z::y,by simp only[DS];rw[hy]⟩
end
mutual
theorem YY {vs:List Tm}{dp:Int}(V:PF vs dp):∀(t:Tm) (d nd:Int),Wt t→Vp t→0≤d→d+size t<2199023255552→0≤nd→(B3 vs (dp+d) 0 nd t).2.2≤4096→Di (JQ (KA vs dp)) t d ()=Er ((B3 vs (dp+d) 0 nd t).1,(B3 vs (dp+d) 0 nd t).2.1)
 | .mk k i n l ks,d,nd,h1,h2,h3,h4,h5,h6=>by
  have h7:nd≤4096:=by
   rcases Int.lt_or_le 4096 nd with h | h
   ·rw[MQ h] at h6;simp only at h6;omega
   exact h
  have:=V.lo;have:=V.hi;have:=V.len;by_cases hk:k=0
  ·have hi:=h2.1 hk;have hks:=Xj h1 hk;have hd:d<2199023255552:=by have:=size_pos (Tm.mk k i n l ks);omega
   have hv:=YW V hi.1 hi.2 h3 hd;by_cases hin:dp+d≤i∧i - (dp+d)<(vs.length:Int)
   ·rw[if_pos hin] at hv;obtain⟨v,hx⟩:=A6 (l:=vs) (i:=(i - (dp+d)).toNat) An;have hsv:=V.sz v (List.mem_of_getElem? hx);rw[Mj h7 hk hin.1 hin.2 hx];have hr:KA vs dp (.mk k i n l ks) d=KG (wr (dp+d)) 0 v:=Pv An (by rw[hv];exact hx);rw[show wr (dp+d)=dp+d from Ee (by unfold Ir;omega),Yp An An (Pd V.wt hx) (LP V.vp hx) hsv] at hr;unfold Er;by_cases he:(CS (dp+d) 0 0 0 v).2=0
    ·rw[if_pos he] at hr;rw[if_pos he];exact Fa (Lm hk hr)
    rw[if_neg he] at hr;rw[if_neg he];exact HM (Nb hk hr)
   rw[if_neg hin] at hv;have e1:wr (i - d)=i - d:=Ee (by unfold Ir;omega);by_cases hge:i≥dp+d
   ·rw[Ny h7 hk hge An];have hr:KA vs dp (.mk k i n l ks) d=H7 (wr (i - vs.length)):=Tl An (by rw[e1];omega);unfold H7 at hr;unfold Er MN GC;by_cases hbig:wr (i - vs.length) > 65535
    ·rw[if_pos hbig] at hr;simp only[hbig,if_true];exact HM (Nb hk hr)
    rw[if_neg hbig] at hr;simp only[hbig,if_false,if_true];exact Fa (Lm hk hr)
   rw[MW h7 hk hge];have hr:KA vs dp (.mk k i n l ks) d= .ok (.mk k i n l []):=Vi An (by rw[e1];omega);subst hks;exact Fa (Lm hk hr)
  rw[Kv h7 hk] at h6 ⊢;have hs:d+BS ks<2199023255551:=by simp only[size] at h4;omega
  have e1:wr (nd+1)=nd+1:=Ee (by unfold Ir;omega);simp only at h6 ⊢;rw[e1] at h6 ⊢;have hL:=Vj V k ks d 0 (nd+1) h1.2.2 h2.2 h3 hs An h6;unfold GP at hL;unfold Er;by_cases he:(CO vs k (dp+d) 0 0 (nd+1) ks).2.1=0
  ·rw[if_pos he] at hL;rw[if_pos he];exact HY (No hk) hL
  rw[if_neg he] at hL;rw[if_neg he];exact JC (No hk) hL
theorem Vj {vs:List Tm}{dp:Int}(V:PF vs dp) (k:Int):∀(ts:List Tm) (d:Int) (j:Nat) (nd:Int),Mo ts→R1 ts→0≤d→d+BS ts<2199023255551→0≤nd→(CO vs k (dp+d) j 0 nd ts).2.2≤4096→Dd (JQ (KA vs dp)) k j ts d ()=GP ((CO vs k (dp+d) j 0 nd ts).1,(CO vs k (dp+d) j 0 nd ts).2.1)
 | [],d,j,nd,h1,h2,h3,h4,h5,h6=>rfl
 | t::ts,d,j,nd,h1,h2,h3,h4,h5,h6=>by
  have hbl:=Cj k j;simp only[BS] at h4;have h7:nd≤4096:=by
   rcases Int.lt_or_le 4096 nd with h | h
   ·rw[Is h] at h6;simp only at h6;omega
   exact h
  have hm:=(I7 1099511627776 An An t vs (dp+d+below k j) 0 nd h1.1 V.wt V.size h5 An);unfold CO at h6;simp only at h6;have hm2:=(KN 1099511627776 An An ts vs k (dp+d) (j+1) (B3 vs (dp+d+below k j) 0 nd t).2.1 (B3 vs (dp+d+below k j) 0 nd t).2.2 h1.2 V.wt V.size An hm.2.1).1;have hT:=YY V t (d+below k j) nd h1.1 h2.1 An An h5 (by rw[show dp+(d+below k j)=dp+d+below k j by omega];omega);rw[show dp+(d+below k j)=dp+d+below k j by omega] at hT;unfold Dd CO;rw[hT];simp only;unfold Er GP DS;by_cases he:(B3 vs (dp+d+below k j) 0 nd t).2.1=0
  ·have hL:=Vj V k ts d (j+1) (B3 vs (dp+d+below k j) 0 nd t).2.2 h1.2 h2.2 h3 An An (by rw[he] at h6;exact h6);simp only;rw[if_pos he];simp only;rw[hL,he];unfold GP;by_cases hq:(CO vs k (dp+d) (j+1) 0 (B3 vs (dp+d+below k j) 0 nd t).2.2 ts).2.1=0
   ·simp only[hq,if_true]
   simp only[hq,if_false]
  simp only;rw[if_neg he];simp only;rw[KJ vs k ts (dp+d) (j+1) _ _ he,if_neg he]
end
theorem Zo {t:Tm}{vs:List Tm}{dp:Int}(V:PF vs dp) (h1:Wt t) (h2:Vp t) (h3:size t<1099511627776):FU t vs dp=CI t vs dp:=by
 have:=V.lo;have:=V.hi;have hmin:min dp 65536=dp:=by omega
 obtain⟨g1,g2⟩:=Xg V t 0 0 0 h1 h2 An An An An;rw[Int.add_zero] at g1 g2;unfold CI;rw[hmin];by_cases hbig:(B3 vs dp 0 0 t).2.2 > 4096
 ·rw[if_pos hbig];exact IB (Ow (g1 hbig))
 rw[if_neg hbig];obtain⟨z,hz⟩:=g2 An;have hr:=YY V t 0 0 h1 h2 An An An (by rw[Int.add_zero];omega);rw[Int.add_zero] at hr;unfold Er at hr;simp only at hr;by_cases he:(B3 vs dp 0 0 t).2.1=0
 ·rw[if_pos he] at hr;rw[if_neg An];by_cases hd:En (B3 vs dp 0 0 t).1 > 200
  ·rw[if_pos hd];exact On (La hz hr) hd
  rw[if_neg hd];exact SP (La hz hr) hd
 rw[if_neg he] at hr;rw[if_pos he];exact IB (Ox hz hr)
theorem cW {i:Int}(h0:0≤i) (h1:i≤65535):Vp (OS i):=⟨fun _=>⟨h0,by omega⟩,trivial⟩
theorem TI:Vp BZ:=⟨fun _=>⟨by omega,by omega⟩,trivial⟩
mutual
theorem SB (b:Int) (hb:0≤b) (hb2:b<4398046511104):∀(t:Tm) (d:Int),Vp t→0≤d→d+size t<4398046511104→(CS b 0 d 0 t).2=0→Vp (CS b 0 d 0 t).1
 | .mk k i n l ks,d,h,hd,hd2,he=>by
  by_cases hk:k=0
  ·have hi:=h.1 hk;have e1:wr (0+d)=d:=by rw[Int.zero_add];exact Ee (by unfold Ir;omega)
   have e2:wr (i+b)=i+b:=Ee (by unfold Ir;omega);unfold CS at he ⊢;rw[if_pos hk,e1,e2] at he ⊢;by_cases hlo:i<d
   ·rw[if_pos hlo];exact h
   rw[if_neg hlo,if_neg An] at he ⊢;unfold MN GC at he;by_cases hbig:i+b > 65535
   ·simp[hbig] at he
   exact cW An An
  unfold CS at he ⊢;rw[if_neg hk] at he ⊢;simp only[size] at hd2;exact⟨fun h=>absurd h hk,RC b hb hb2 k ks d 0 h.2 hd An he⟩
theorem RC (b:Int) (hb:0≤b) (hb2:b<4398046511104) (k:Int):∀(ts:List Tm) (d:Int) (j:Nat),R1 ts→0≤d→d+BS ts<4398046511103→(C2 b 0 k d j 0 ts).2=0→R1 (C2 b 0 k d j 0 ts).1
 | [],d,j,h,hd,hd2,he=>trivial
 | t::ts,d,j,h,hd,hd2,he=>by
  have hbl:=Cj k j;simp only[BS] at hd2;unfold C2 at he ⊢;simp only at he ⊢;have h0:(CS b 0 (d+below k j) 0 t).2=0:=by
   rcases Decidable.em ((CS b 0 (d+below k j) 0 t).2=0) with h | h
   ·exact h
   rw[Js b 0 k ts d (j+1) _ h] at he;exact he
  rw[h0] at he ⊢;exact⟨SB b hb hb2 t _ h.1 An An h0,RC b hb hb2 k ts d (j+1) h.2 hd An he⟩
end
mutual
theorem Sw {vs:List Tm}{dp:Int}(V:PF vs dp):∀(t:Tm) (d nd:Int),Vp t→0≤d→d+size t<2199023255552→(B3 vs (dp+d) 0 nd t).2.1=0→Vp (B3 vs (dp+d) 0 nd t).1
 | .mk k i n l ks,d,nd,h,h3,h4,he=>by
  have:=V.lo;have:=V.hi;have:=V.len;rcases Int.lt_or_le 4096 nd with h7 | h7
  ·rw[MQ h7];exact h
  by_cases hk:k=0
  ·have hi:=h.1 hk;by_cases hin:dp+d≤i∧i - (dp+d)<(vs.length:Int)
   ·obtain⟨v,hx⟩:=A6 (l:=vs) (i:=(i - (dp+d)).toNat) An;have hsv:=V.sz v (List.mem_of_getElem? hx);rw[Mj h7 hk hin.1 hin.2 hx] at he ⊢;exact SB _ An An v 0 (LP V.vp hx) An An he
   by_cases hge:i≥dp+d
   ·rw[Ny h7 hk hge An] at he ⊢;have e:wr (i - vs.length)=i - vs.length:=Ee (by unfold Ir;omega);simp only[e] at he ⊢;unfold MN GC at he;by_cases hbig:i - (vs.length:Int) > 65535
    ·simp[hbig] at he
    exact cW An An
   rw[MW h7 hk hge];exact h
  rw[Kv h7 hk] at he ⊢;simp only[size] at h4;exact⟨fun h=>absurd h hk,Q0 V k ks d 0 _ h.2 h3 An he⟩
theorem Q0 {vs:List Tm}{dp:Int}(V:PF vs dp) (k:Int):∀(ts:List Tm) (d:Int) (j:Nat) (nd:Int),R1 ts→0≤d→d+BS ts<2199023255551→(CO vs k (dp+d) j 0 nd ts).2.1=0→R1 (CO vs k (dp+d) j 0 nd ts).1
 | [],d,j,nd,h,h3,h4,he=>trivial
 | t::ts,d,j,nd,h,h3,h4,he=>by
  have hbl:=Cj k j;simp only[BS] at h4;unfold CO at he ⊢;simp only at he ⊢;have h0:(B3 vs (dp+d+below k j) 0 nd t).2.1=0:=by
   rcases Decidable.em ((B3 vs (dp+d+below k j) 0 nd t).2.1=0) with h | h
   ·exact h
   rw[KJ vs k ts _ (j+1) _ _ h] at he;exact he
  rw[h0] at he ⊢;rw[show dp+d+below k j=dp+(d+below k j) by omega] at he h0 ⊢;exact⟨Sw V t _ nd h.1 An An h0,Q0 V k ts d (j+1) _ h.2 h3 An he⟩
end
theorem ZA {vs:List Tm}{dp:Int}(V:PF vs dp) {t:Tm}(h:Vp t) (hs:size t<1099511627776):Vp (CI t vs dp).1:=by
 have:=V.lo;have:=V.hi;have hmin:min dp 65536=dp:=by omega
 unfold CI;rw[hmin];split
 ·exact TI
 split
 ·exact TI
 rename_i hne;split
 ·exact TI
 have:=Sw V t 0 0 h An An (by rw[Int.add_zero];exact Decidable.not_not.1 hne);rw[Int.add_zero] at this;exact this
structure IK where
 dn:List (Int×Tm)
 op:List Int
 wk:Int
def ni (i:Int):List (Int×Tm)→Option Tm
 | []=>none
 | (j,x)::r=>if j=i then some x else ni i r
def lP (i:Int) (v:Tm):List (Int×Tm)→List (Int×Tm)
 | []=>[(i,v)]
 | (j,x)::r=>if j=i then (j,v)::r else (j,x)::lP i v r
def rY (l:List (Int×Tm)):List (Int×AV):=l.map fun p=>(p.1,TV p.2)
def nP (x:Tm) (e:Int):Except Int Tm:=if e≠0∨kQ x=true then .error 11 else .ok x
def il:Tm→List Tm→Except Int (Tm×List Tm)
 | v,[]=> .ok (v,[])
 | v,a::l=>if v.kind=5 then DS (nP (FU (v.kids.getD 1 BZ) [a] 0).1 (FU (v.kids.getD 1 BZ) [a] 0).2) fun x=>il x l else .ok (v,a::l)
def Hv (F:IK→Tm→Except Int (Tm×IK)):IK→List Tm→Except Int (List Tm×IK)
 | st,[]=> .ok ([],st)
 | st,t::ts=>DS (F st t) fun r=>DS (Hv F r.2 ts) fun q=> .ok (r.1::q.1,q.2)
def jW (F:IK→Tm→Except Int (Tm×IK)) (ms:List Mv) (st:IK) (i:Int):Except Int (Tm×IK) :=
 match ni i st.dn with
 | some v=> .ok (v,st)
 | none=>if i∈st.op then .error 22 else DS (F { st with op:=st.op++[i] } (valueOf ms i)) fun r=> .ok (r.1,{ r.2 with dn:=lP i r.1 r.2.dn })
def lE (F:IK→Tm→Except Int (Tm×IK)) (ms:List Mv) (st:IK) (h:Tm):Except Int (Tm×IK) :=
 if known ms h=true then jW F ms st h.index else L1 (fun q=>(LC h q.1,q.2)) (Hv F st h.kids)
def aD (ms:List Mv):Nat→IK→Tm→Except Int (Tm×IK)
 | 0,st,t=> .error 11
 | n+1,st,t =>
  if st.wk+1 > 8192000 then .error 11
  else DS (lE (aD ms n) ms { st with wk:=st.wk+1 } (A9 t).1) fun r =>
   DS (Hv (aD ms n) r.2 (A9 t).2) fun q =>
   DS (if known ms (A9 t).1=true then il r.1 q.1 else .ok (r.1,q.1)) fun y =>
   L1 (fun z=>(z,q.2)) (nP (apply y.1 y.2) 0)
structure Ok (S:Nat) (t:Tm):Prop where
 nd:Nd t
 vp:Vp t
 wt:Wt t
 sz:size t≤S
structure qD (ms:List Mv) (st:IK):Prop where
 dn:∀p∈st.dn,Ok 4096 p.2
 w0:0≤st.wk
 w1:st.wk≤8192000
abbrev ri (l:List Tm):Prop:=∀x∈l,Ok 4096 x
def pL (st st':IK):Prop:=∀i,i∈st.op→i∈st'.op
def qh (ms:List Mv) (B:Nat) (F:IK→Tm→Except Int (Tm×IK)):Prop:=∀st t r,Ok B t→qD ms st→F st t= .ok r→Ok 4096 r.1∧qD ms r.2∧pL st r.2
section
variable {F:IK→Tm→Except Int (Tm×IK)}{ms:List Mv}{st st':IK}{i e:Int}{z:Tm}
end
def T6 (F:IK→Tm→Except Int (Tm×IK)) (ts:List Tm) (q0:IK) (i:Nat) (ys:List Tm) (q:IK):Prop :=
 ys.length=i∧Hv F q0 ts=DS (Hv F q (ts.drop i)) fun r=> .ok (ys++r.1,r.2)
section
variable {F:IK→Tm→Except Int (Tm×IK)}{ts ys:List Tm}{q0 q q':IK}{i:Nat}{x y:Tm}{e:Int}
theorem T6.zero (F:IK→Tm→Except Int (Tm×IK)) (ts:List Tm) (q0:IK):T6 F ts q0 0 [] q0:=by
 refine⟨O,?_⟩;simp only[List.drop_zero,DS];cases Hv F q0 ts<;>simp
theorem T6.err (h:T6 F ts q0 i ys q) (hx:ts[i]?=some x) (hb:F q x= .error e):Hv F q0 ts= .error e:=by
 rw[h.2,Cm hx,Hv,hb];rfl
theorem T6.succ (h:T6 F ts q0 i ys q) (hx:ts[i]?=some x) (hb:F q x= .ok (y,q')):T6 F ts q0 (i+1) (ys++[y]) q':=by
 refine⟨by simp[h.1],?_⟩;rw[h.2,Cm hx,Hv,hb];simp only[DS];cases Hv F q' (ts.drop (i+1))<;>simp
theorem T6.fin (h:T6 F ts q0 i ys q) (hi:ts.length≤i):Hv F q0 ts= .ok (ys,q):=by
 rw[h.2,List.drop_eq_nil_of_le hi,Hv];simp[DS]
end
section
variable {ms:List Mv}{n:Nat}{dn:List (Int×Tm)}{op:List Int}{wk e:Int}{t v vv z h:Tm}{us ls ks:List Tm}{st1 st2:IK}
end
end Go.Eu
namespace Go.Abs
def gQ {β:Type}(mkv:β→AV) (mkH:β→List BD):D6→List BD→Prop
 | .val v,H'=>∃b,v=mkv b∧H'=mkH b
 | .panic _,_=>False
section
variable {P:Program}{ops:Array Oper}{n:Nat}{τ₀ τ:Nat→AV}{D:List Dw}{Q:Cf→Bk→Prop}{opn:Nat→Bool}{k:Nat}{H:List BD}{dst:Option Tmp}{ty:TypeId}{pos:String}{aft:Array Edge}{c:Call}{f:Operand}{fid:FuncId}{first caps A:List AV}{β:Type}{mkv:β→AV}{mkH:β→List BD}
theorem XQ {r:Option Nat}(ho:ops[k]?=some ⟨dst,.call c,ty,pos,aft,none⟩) (hd:F6 dst n=true)
  (hc:c.callee= .value f) (hf:(ev τ f= .p (.fn fid)∧first=[]∧caps=[])∨ev τ f= .fn (.func fid) first caps) (h:Bl P fid A [] (gQ mkv mkH)) (hA:Fj (first++c.args.toList.map (ev τ)++caps) A)
  (next:∀b,AL P r ops (k+1) ⟨n,put τ dst (mkv b),mkH b++H,D⟩ Q):AL P r ops k ⟨n,τ,H,D⟩ Q :=
 IG ho hd hc hf (Hs:=[]) (Hf:=H) Ao (h.args hA) (.inl rfl) (fun v Hs' ⟨b,h1,h2⟩=>by subst h1;subst h2;exact next b) (fun _ _ h=>h.elim)
end
end Go.Abs
namespace Go.Eu
open Go.Abs
def WD (ms:List Mv) (n:Nat) (t:Tm):Tm×Int :=
 match aD ms n ⟨[],[],0⟩ t with
 | .ok r=>(r.1,0)
 | .error e=>(BZ,e)
def qV (ms:List Mv) (n:Nat) (t:Tm):List Int×Int:=if (WD ms n t).2≠0 then ([],(WD ms n t).2) else (Wa [] (WD ms n t).1,0)
mutual
def TP (p:Int→Int→ByteArray→List CX→Prop):Tm→Prop
 | .mk k i n l ks=>p k i n l∧gj p ks
def gj (p:Int→Int→ByteArray→List CX→Prop):List Tm→Prop
 | []=>True
 | t::ts=>TP p t∧gj p ts
end
section
variable {p q:Int→Int→ByteArray→List CX→Prop}
mutual
theorem TP.imp (h:∀k i n l,p k i n l→q k i n l):∀(t:Tm),TP p t→TP q t
 | .mk k i n l ks,ht=>⟨h _ _ _ _ ht.1,gj.imp h ks ht.2⟩
theorem gj.imp (h:∀k i n l,p k i n l→q k i n l):∀(ts:List Tm),gj p ts→gj q ts
 | [],_=>trivial
 | t::ts,ht=>⟨TP.imp h t ht.1,gj.imp h ts ht.2⟩
end
end
def qc (ms:List Mv) (D:List Int) (k i:Int) (n:ByteArray) (l:List CX):Prop:=known ms (.mk k i n l [])=true→i∈D
abbrev KM (ms:List Mv) (D:List Int):Tm→Prop:=TP (qc ms D)
abbrev kq (ms:List Mv) (D:List Int):List Tm→Prop:=gj (qc ms D)
theorem KM.mono {ms:List Mv}{D D':List Int}(h:∀i∈D,i∈D') {t:Tm}(ht:KM ms D t):KM ms D' t:=TP.imp (fun k i n l g e=>h _ (g e)) t ht
theorem kq.mono {ms:List Mv}{D D':List Int}(h:∀i∈D,i∈D') {t:List Tm}(ht:kq ms D t):kq ms D' t:=gj.imp (fun k i n l g e=>h _ (g e)) t ht
theorem KM.head {ms:List Mv}{D:List Int}{h:Tm}(hk:known ms h=true) (ht:KM ms D h):h.index∈D:=by
 obtain⟨k,i,n,l,ks⟩:=h;exact ht.1 hk
theorem KM.kids {ms:List Mv}{D:List Int}{h:Tm}(ht:KM ms D h):kq ms D h.kids:=by
 obtain⟨k,i,n,l,ks⟩:=h;exact ht.2
inductive Ord (ms:List Mv):List Int→Prop
 | nil:Ord ms []
 | snoc {D:List Int} {i:Int}:Ord ms D→i ∉ D→KM ms D (valueOf ms i)→Ord ms (D++[i])
theorem Ord.pre {ms:List Mv}{D:List Int}(h:Ord ms D):∀i∈D,∃D',Ord ms D'∧(∀j∈D',j∈D)∧i ∉ D'∧KM ms D' (valueOf ms i):=by
 induction h with
 | nil=>intro i hi;simp at hi
 | @snoc D j h1 h2 h3 ih =>
  intro i hi;rcases List.mem_append.1 hi with hi | hi
  ·obtain⟨D',a,b,c,d⟩:=ih i hi;exact⟨D',a,fun j hj=>List.mem_append_left _ (b j hj),c,d⟩
  simp at hi;subst hi;exact⟨D,h1,fun j hj=>List.mem_append_left _ hj,h2,h3⟩
def lS:Tm→List Tm→Tm×List Tm
 | v,[]=>(v,[])
 | v,a::l=>if v.kind=5 then lS (CI (v.kids.getD 1 BZ) [a] 0).1 l else (v,a::l)
section
variable {F F':IV→Tm→Tm×Int×IV}
end
def jS (st:IK):List Int:=st.dn.map Prod.fst
def qL (ms:List Mv) (t v:Tm):Prop:=∃n ab c d,LJ ms n ab c t=(v,0,d)∧d.over=false
structure pD (ms:List Mv) (ab:List Int) (st:IK):Prop where
 op:∀i,i∈st.op↔i∈jS st∨i∈ab
 ord:Ord ms (jS st)
 dis:∀i∈jS st,i ∉ ab
 val:∀p∈st.dn,qL ms (valueOf ms p.1) p.2
 ok:∀p∈st.dn,Ok 4096 p.2
 w0:0≤st.wk
def pot (ms:List Mv) (B:Nat) (st:IK):Int:=st.wk+(B*free ms st.op:Nat)
structure Step (ms:List Mv) (B:Nat) (ab:List Int) (st st':IK) (s:Nat):Prop where
 inv:pD ms ab st'
 mono:∀i∈jS st,i∈jS st'
 pot:pot ms B st'≤pot ms B st+s
theorem Step.trans {ms:List Mv}{B:Nat}{ab:List Int}{a b c:IK}{s s':Nat}(h:Step ms B ab a b s) (h':Step ms B ab b c s'):Step ms B ab a c (s+s') :=
 ⟨h'.inv,fun i hi=>h'.mono i (h.mono i hi),by have:=h.pot;have:=h'.pot;omega⟩
theorem Step.le {ms:List Mv}{B:Nat}{ab:List Int}{a b:IK}{s s':Nat}(h:Step ms B ab a b s) (hs:s≤s'):Step ms B ab a b s':=⟨h.inv,h.mono,by have:=h.pot;omega⟩
def qw (ms:List Mv) (B:Nat) (ab:List Int) (t:Tm) (s:Nat) (st:IK) (F:Tm×Int×IV) (G:Except Int (Tm×IK)):Prop :=
 (F.2.1=0∧∃st',G= .ok (F.1,st')∧Step ms B ab st st' s∧KM ms (jS st') t)∨(F.2.1=22∧F.1=BZ∧G= .error 22)
def qq (ms:List Mv) (B:Nat) (ab:List Int) (ts:List Tm) (st:IK) (F:List Tm×Int×IV) (G:Except Int (List Tm×IK)):Prop :=
 (F.2.1=0∧∃st',G= .ok (F.1,st')∧Step ms B ab st st' (BS ts)∧kq ms (jS st') ts)∨(F.2.1=22∧G= .error 22)
def rR (m:Nat) (k i:Int) (n:ByteArray) (l:List CX):Prop:=k=12→0≤i∧i<(m:Int)
def oD (ms:List Mv) (k i:Int) (n:ByteArray) (l:List CX):Prop:=(k=12→0≤i∧i<(ms.length:Int)∧known ms (.mk k i n l [])=false)∧(k=4→i=0∧n=⟨#[]⟩∧l=[])
def q8 (ms:List Mv) (B:Nat) (F:IK→Tm→Except Int (Tm×IK)):Prop:=∀st t r,Ok B t→qD ms st→TP (rR ms.length) t→(∀p∈st.dn,TP (oD ms) p.2)→F st t= .ok r→TP (oD ms) r.1∧∀p∈r.2.dn,TP (oD ms) p.2
def qR (ms:List Mv) (F:IK→Tm→Except Int (Tm×IK)):Prop:=∀st t,TP (oD ms) t→F st t= .error 11∨∃st',F st t= .ok (t,st')
def qp (F:IK→Tm→Except Int (Tm×IK)):Prop:=∀st t e,F st t= .error e→e=11∨e=22
abbrev wide:Nat:=9223372036854775808
structure kZ (l:CX):Prop where
 vars:l.vars.length<wide
 c:Ir l.const
 v:∀v∈l.vars,Ir v.index∧Ir v.plus
mutual
def Wd:Tm→Prop
 | .mk k i n ls ks=>n.size<wide∧ls.length<wide∧(∀l∈ls,kZ l)∧ks.length<wide∧Vm ks∧Ir k∧Ir i
def Vm:List Tm→Prop
 | []=>True
 | t::ts=>Wd t∧Vm ts
end
theorem Pf:∀{ts:List Tm}{i:Nat}{t:Tm},Vm ts→ts[i]?=some t→Wd t
 | [],i,t,_,h=>by simp at h
 | a::ts,0,t,hn,h=>by simp at h;subst h;exact hn.1
 | a::ts,i+1,t,hn,h=>by simp at h;exact Pf hn.2 h
mutual
def Fw:Tm→Prop
 | .mk k i n ls ks=>n.size≤200∧ls.length≤20∧(∀l∈ls,l.vars.length≤20)∧m0 ks
def m0:List Tm→Prop
 | []=>True
 | t::ts=>Fw t∧m0 ts
end
theorem bZ:∀{ts:List Tm},(∀t∈ts,Fw t)→m0 ts
 | [],_=>trivial
 | t::ts,h=>⟨h t Ao,bZ fun x hx=>h x (by simp[hx])⟩
def ZT:Tm→Prop
 | .mk k i n ls ks=>n.size≤200∧ls.length≤20∧(∀l∈ls,l.vars.length≤20)∧BS ks≤200∧Ld ks∧m0 ks
theorem jP {t:Tm}(h:Wd t) (hf:ZT t):Nd t:=by
 obtain⟨k,i,n,ls,ks⟩:=t;obtain⟨h1,h2,h3,h4,h5⟩:=hf;have:=FF ks;exact⟨by simp only[De];omega,by simp only[De];omega,fun l hl=>⟨by have:=h3 l hl;simp only[De];omega,(h.2.2.1 l hl).c,(h.2.2.1 l hl).v⟩,by simp only[De];omega,h5.1,h.2.2.2.2.2⟩
mutual
theorem N6:∀(t:Tm) (most:Int),-1152921504606846976≤most→most≤1152921504606846976→(size t:Int)≤1152921504606846976→0≤EG t most∧EG t most<size t∧(EG t most≤most→EG t most+1=size t)
 | .mk k i n l ks,most,h1,h2,h3=>by
  simp only[size] at h3 ⊢;unfold EG;have:=OP ks most 0 h1 h2 An An;exact⟨this.1,by omega,fun h=>by have:=this.2.2 h;omega⟩
theorem OP:∀(ts:List Tm) (most n:Int),-1152921504606846976≤most→most≤1152921504606846976→0≤n→n+BS ts≤1152921504606846976→n≤EA ts most n∧EA ts most n≤n+BS ts∧(EA ts most n≤most→EA ts most n=n+BS ts)
 | [],most,n,h1,h2,h3,h4=>by simp[EA,BS]
 | t::ts,most,n,h1,h2,h3,h4=>by
  simp only[BS] at h4 ⊢;have hp:=size_pos t;unfold EA;by_cases hm:n > most
  ·rw[if_pos hm];exact⟨by omega,by omega,by omega⟩
  rw[if_neg hm];have e1:wr (most - n)=most - n:=Ee ⟨by omega,by omega⟩;have hT:=N6 t (most - n) An An An;rw[e1];have e2:wr (1+EG t (most - n))=1+EG t (most - n):=Ee ⟨by omega,by omega⟩;rw[e2];have e3:wr (n+(1+EG t (most - n)))=n+(1+EG t (most - n)):=Ee ⟨by omega,by omega⟩;rw[e3];have hL:=OP ts most (n+(1+EG t (most - n))) h1 h2 An An;refine⟨by omega,by omega,fun h=>?_⟩;have:=hL.2.2 h;have:=hT.2.2 An;omega
end
theorem bY {t:Tm}(h:ZT t):size t≤201:=by
 obtain⟨k,i,n,ls,ks⟩:=t;have:=h.2.2.2.1;simp only[size];omega
theorem S3:∀(ts:List Tm) (most n:Int),0≤most→most≤1000→0≤n→n≤3000→(∀t∈ts,size t≤201)→n≤EA ts most n
 | [],most,n,h1,h2,h3,h4,hs=>by simp[EA]
 | t::ts,most,n,h1,h2,h3,h4,hs=>by
  have ht:=hs t Ao;unfold EA;by_cases hm:n > most
  ·rw[if_pos hm];omega
  rw[if_neg hm];have e1:wr (most - n)=most - n:=Ee ⟨by omega,by omega⟩;have hT:=N6 t (most - n) An An An;rw[e1];have e2:wr (1+EG t (most - n))=1+EG t (most - n):=Ee ⟨by omega,by omega⟩;rw[e2];have e3:wr (n+(1+EG t (most - n)))=n+(1+EG t (most - n)):=Ee ⟨by omega,by omega⟩;rw[e3];have hge:=S3 ts most (n+(1+EG t (most - n))) h1 h2 An An (fun x hx=>hs x (by simp[hx]));omega
theorem Sc:∀(ts:List Tm) (most n:Int),0≤most→most≤1000→0≤n→n≤3000→(∀t∈ts,size t≤201)→EA ts most n≤most→EA ts most n=n+BS ts
 | [],most,n,h1,h2,h3,h4,hs,h=>by simp[EA,BS]
 | t::ts,most,n,h1,h2,h3,h4,hs,h=>by
  have ht:=hs t Ao;simp only[BS];unfold EA at h ⊢;by_cases hm:n > most
  ·rw[if_pos hm] at h;omega
  rw[if_neg hm] at h ⊢;have e1:wr (most - n)=most - n:=Ee ⟨by omega,by omega⟩;have hT:=N6 t (most - n) An An An;rw[e1] at h ⊢;have e2:wr (1+EG t (most - n))=1+EG t (most - n):=Ee ⟨by omega,by omega⟩;rw[e2] at h ⊢;have e3:wr (n+(1+EG t (most - n)))=n+(1+EG t (most - n)):=Ee ⟨by omega,by omega⟩;rw[e3] at h ⊢;have hL:=Sc ts most (n+(1+EG t (most - n))) h1 h2 An An (fun x hx=>hs x (by simp[hx])) h;have hge:=S3 ts most (n+(1+EG t (most - n))) h1 h2 An An (fun x hx=>hs x (by simp[hx]));have:=hT.2.2 An;omega
structure XL (l:List Tm):Prop where
 sz:BS l≤200
 nd:Ld l
 fw:m0 l
theorem fJ {l:List Tm}{m:Nat}(hm:l.length≤m) (hw:Vm l) (hl:l.length<wide) (h:EA l 200 0≤200) (hc:∀j,j<m→∀t,l[j]?=some t→ZT t):XL l:=by
 have hf:∀t∈l,ZT t:=fun t ht=>by
  obtain⟨i,hi⟩:=KI ht;exact hc i (by have:=(List.getElem?_eq_some_iff.1 hi).1;omega) t hi
 have:=Sc l 200 0 An An An An (fun t ht=>bY (hf t ht)) h;exact⟨by omega,Wf fun t ht=>by
  obtain⟨i,hi⟩:=KI ht;exact jP (Pf hw hi) (hf t ht),bZ fun t ht=>by
  obtain⟨k,i,n,ls,ks⟩:=t;have h5:=hf _ ht;exact⟨h5.1,h5.2.1,h5.2.2.1,h5.2.2.2.2.2⟩⟩
theorem UZ {l:List Tm}{m:Int}(hf:XL l) (hm:0≤m∧m≤1000) (h:EA l m 0≤m):(BS l:Int)≤m:=by
 have:=hf.sz;have:=(OP l m 0 An An An An).2.2 h;omega
structure mJ (m:Nat) (x:Mv):Prop where
 n1:Nd x.type
 n2:Nd x.value
 sz:size x.type+size x.value≤40
 w1:wf 0 m 0 x.type
 w2:x.known=true→wf 0 m 0 x.value
 w3:x.known=false→x.value=BZ
structure qZ (l:List Mv):Prop where
 len:l.length≤8
 all:∀m∈l,mJ l.length m
structure p8 (m:Nat) (ctx terms:List Tm):Prop where
 len:ctx.length≤6
 s1:BS ctx≤60
 s2:BS terms≤60
 n1:Ld ctx
 n2:Ld terms
 w2:∀t∈terms,wf ctx.length m 0 t
 w1:∀(i:Nat) (t:Tm),ctx[i]?=some t→wf i m 0 t
structure rk (x:Mv):Prop where
 w1:Wd x.type
 w2:Wd x.value
theorem Ok.mono {B B':Nat}{t:Tm}(h:Ok B t) (hb:B≤B'):Ok B' t:=⟨h.nd,h.vp,h.wt,Nat.le_trans h.sz hb⟩
end Go.Eu
