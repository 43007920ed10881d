/- Part of the proofs: an abstract program logic, plain models and contracts of functions. -/
import Derived.Test.YtboammbpdaoojaaGreatPa
import Derived.MapKept
set_option linter.unusedVariables false
set_option linter.unusedSimpArgs false
namespace Go.Abs
section
variable {P:Program}{ops:Array Oper}{n:Nat}{τ₀:Nat→AV}{D:List ES}{Q:C2→Br→Prop}{opn:Nat→Bool}{k:Nat}{τ:Nat→AV}{H:List BJ}{rd:W2}{ef:WR}{effs:List Bool}{fx:List (Nat×Sp)}{dst:Option Tmp}{op:Op}{ty:TypeId}{pos:String}{aft:Array Edge}{v:AV}{H':List BJ}
theorem G9 {cs:List AV}(fx':List (Nat×Sp)) (ho:ops[k]?=some ⟨dst,op,ty,pos,aft,none⟩) (hn:opn k=true) (h:DU P ⟨dst,op,ty,pos,aft,none⟩ (ev τ) H (Ie cs H)) (haft:FB ops k (fx'.map (·.1))=true)
  (next:∀b,KF ops k H (.box b cs::H) rd∧HX k (.eff (.ptr b 0) (.box b cs::H)) fx∧Dr P ops n τ₀ D Q opn (k+1) (put τ dst (.ptr b 0)) (.box b cs::H) rd ((k,H,.box b cs::H)::ef) (true::effs) (fx'++fx)):Dr P ops n τ₀ D Q opn k τ H rd ef effs fx :=
 Od fx' ho hn h haft ⟨_,_,0,rfl,rfl⟩ (fun _ _ h=>h.elim) (fun v H' ⟨b,h1,h2⟩=>by subst h1;subst h2;exact next b)
theorem LC {i sz:Nat}{rows:List (List PV)}(fx':List (Nat×Sp)) (ho:ops[k]?=some ⟨dst,op,ty,pos,aft,none⟩) (hn:opn k=true) (h:DU P ⟨dst,op,ty,pos,aft,none⟩ (ev τ) H (Oa i sz rows H)) (haft:FB ops k (fx'.map (·.1))=true)
  (next:∀o c,KF ops k H (H.set i (.vec o sz rows c)) rd∧HX k (.eff (.vs o rows.length c) (H.set i (.vec o sz rows c))) fx∧Dr P ops n τ₀ D Q opn (k+1) (put τ dst (.vs o rows.length c)) (H.set i (.vec o sz rows c)) rd ((k,H,H.set i (.vec o sz rows c))::ef) (true::effs) (fx'++fx)):Dr P ops n τ₀ D Q opn k τ H rd ef effs fx :=
 Od fx' ho hn h haft ⟨_,_,none,0,rfl,rfl⟩ (fun _ _ h=>h.elim) (fun v H' ⟨o,c,h1,h2⟩=>by subst h1;subst h2;exact next o c)
def GW (v:AV) (H':List BJ):ET→List BJ→Prop
 | .val v',H''=>v'=v∧H''=H'
 | .panic _,_=>False
theorem jP {c:Call}{g:Option (Nat×Bool)}{f:Operand}{fid:FuncId}{first caps:List AV}{ρ:Operand→AV}{Hs Hf Hs':List BJ}{A:List AV}
  (hc:c.callee= .value f) (hf:(ρ f= .p (.fn fid)∧first=[]∧caps=[])∨ρ f= .fn (.func fid) first caps) (hp:H.Perm (Hs++Hf)) (h:Bq P fid A Hs (GW v Hs')) (hA:first++c.args.toList.map ρ++caps=A∨(first++c.args.toList.map ρ++caps).map norm=A) :
  Dp P ⟨dst,.call c,ty,pos,aft,g⟩ ρ H v (Hs'++Hf):=by
 refine(GO (H:=H) hc hf hp h hA).mono ?_;rintro r H' ⟨Hs',h1,rfl⟩;cases r with
 | val v'=>obtain⟨rfl,rfl⟩:=h1;exact⟨rfl,rfl⟩
 | panic v'=>exact h1
end
def J1 (k:Int):List (Int×AV)→Option AV
 | []=>none
 | (j,x)::r=>if j=k then some x else J1 k r
def NO (k:Int) (v:AV):List (Int×AV)→List (Int×AV)
 | []=>[(k,v)]
 | (j,x)::r=>if j=k then (j,v)::r else (j,x)::NO k v r
def EJ (l:List (Int×AV)):List (PV×AV):=l.map fun p=>(.int .i64 p.1,p.2)
def mapOf (P:Program) (T:TypeId):Option TypeId :=
 match P.underlying T with
 | some (.map k e)=>match P.underlying k with
  | some (.int .i64)=>some e
  | _=>none
 | _=>none
theorem Na {P:Program}{T e:TypeId}(h:mapOf P T=some e):∃k,P.underlying T=some (.map k e)∧P.underlying k=some (.int .i64):=by
 unfold mapOf at h;split at h
 ·rename_i k e' hu;split at h
  ·rename_i hk;injection h with h;subst h;exact⟨k,hu,hk⟩
  cases h
 cases h
section
variable {F:Nat→Prop}{w:World}
theorem Ny {k:Int}:∀{l:List (Int×AV)}{es:List MapEntry}(i:Nat),Dj F w (EJ l) es →
  (J1 k l=none∧Instr.findNow (.int .i64) (.int .i64 k) es i=some none)∨∃j e x,J1 k l=some x∧Instr.findNow (.int .i64) (.int .i64 k) es i=some (some (i+j,e.val))∧es[j]?=some e∧e.key= .int .i64 k∧CH F w x e.val
 | [],es,i,h=>by simp only[EJ,List.map_nil,Dj] at h;subst h;exact .inl ⟨rfl,rfl⟩
 | (j,x)::l,es,i,h=>by
  simp only[EJ,List.map_cons,Dj] at h;obtain⟨e,es',rfl,hk,hx,hr⟩:=h;simp only[CN] at hk;by_cases hj:j=k
  ·subst hj;exact .inr ⟨0,e,x,by simp[J1],by simp[Instr.findNow,hk,Instr.sameNow],rfl,hk,hx⟩
  have hne:(k==j)=false:=by simp[Ne.symm hj]
  rcases Ny (k:=k) (i+1) hr with ⟨h1,h2⟩ | ⟨q,e',x',h1,h2,h3,h4,h5⟩
  ·exact .inl ⟨by simp[J1,hj,h1],by simp[Instr.findNow,hk,Instr.sameNow,hne,h2]⟩
  exact .inr ⟨q+1,e',x',by simp[J1,hj,h1],by simp[Instr.findNow,hk,Instr.sameNow,hne,h2];omega,by simpa using h3,h4,h5⟩
theorem VH {k:Int}:∀{l:List (Int×AV)}{es:List MapEntry},Dj F w (EJ l) es→J1 k l=none→∀x∈es,x.key≠ .int .i64 k
 | [],es,h,_=>by
  simp only[EJ,List.map_nil,Dj] at h;subst h;simp
 | (j,v)::l,es,h,hm=>by
  simp only[EJ,List.map_cons,Dj] at h;obtain⟨e,es',rfl,hk,hv,hr⟩:=h;simp only[J1] at hm;split at hm
  ·cases hm
  rename_i q;intro x hx;rcases List.mem_cons.1 hx with rfl | hx
  ·simp only[CN] at hk;rw[hk];intro e;injection e with _ e2;exact q e2
  exact VH hr hm x hx
theorem Vu {k:Int}{v:AV}{u:Value}{c:Nat}:∀{l:List (Int×AV)}{es:List MapEntry},Dj F w (EJ l) es→J1 k l=none→CH F w v u→Dj F w (EJ (NO k v l)) (es++[{ key:= .int .i64 k,val:=u,born:=c }])
 | [],es,h,_,hv=>by
  simp only[EJ,List.map_nil,Dj] at h;subst h;simp only[NO,EJ,List.map_cons,List.map_nil,List.nil_append,Dj];exact⟨_,[],O,by simp[CN],hv,rfl⟩
 | (j,x)::l,es,h,hm,hv=>by
  simp only[EJ,List.map_cons,Dj] at h;obtain⟨e,es',rfl,hk,hx,hr⟩:=h;by_cases hj:j=k
  ·simp[J1,hj] at hm
  simp only[J1,if_neg hj] at hm;simp only[NO,if_neg hj,EJ,List.map_cons,List.cons_append,Dj];exact⟨e,_,O,hk,hx,Vu hr hm hv⟩
theorem ZS {k:Int}{v:AV}{u:Value}:∀{l:List (Int×AV)}{es:List MapEntry}{j:Nat}(i:Nat) {y:Value},Dj F w (EJ l) es→Instr.findNow (.int .i64) (.int .i64 k) es i=some (some (i+j,y))→CH F w v u→Dj F w (EJ (NO k v l)) (es.modify j fun e=>{ e with key:= .int .i64 k,val:=u })
 | [],es,j,i,y,h,hf,_=>by simp only[EJ,List.map_nil,Dj] at h;subst h;simp[Instr.findNow] at hf
 | (q,x)::l,es,j,i,y,h,hf,hv=>by
  simp only[EJ,List.map_cons,Dj] at h;obtain⟨e,es',rfl,hk,hx,hr⟩:=h;simp only[CN] at hk;by_cases hj:q=k
  ·subst hj;simp[Instr.findNow,hk,Instr.sameNow] at hf;obtain⟨rfl,_⟩:j=0∧True:=⟨by omega,trivial⟩;simp only[NO,if_true,EJ,List.map_cons,Dj];exact⟨_,es',O,by simp[CN],hv,hr⟩
  have hne:(k==q)=false:=by simp[Ne.symm hj]
  simp only[Instr.findNow,hk,Instr.sameNow,if_true,hne] at hf;cases j with
  | zero =>
   have:∀(es:List MapEntry) (m:Nat) (y:Value) (r:Nat),Instr.findNow (.int .i64) (.int .i64 k) es m=some (some (r,y))→m≤r:=by
    intro es
    induction es with
    | nil=>intro m y r h;simp[Instr.findNow] at h
    | cons e es ih =>
     intro m y r h;simp only[Instr.findNow] at h;split at h
     ·simp at h;omega
     ·have:=ih _ _ _ h;omega
     cases h
   have:=this _ _ _ _ hf;omega
  | succ j =>
   simp only[NO,if_neg hj,EJ,List.map_cons,List.modify_succ_cons,Dj];exact⟨e,_,O,by simpa [CN] using hk,hx,ZS (i+1) hr (by rw[show i+1+j=i+(j+1) by omega];exact hf) hv⟩
end
section
variable {P:Program}{dst:Option Tmp}{ty:TypeId}{pos:String}{aft:Array Edge}{g:Option (Nat×Bool)}{ρ:Operand→AV}{H:List BJ}{x y z:Operand}{v:AV}
def ep (H:List BJ):ET→List BJ→Prop
 | .val v,H'=>∃b,v= .map b∧H'= .map b (EJ [])::H
 | .panic _,_=>False
theorem WJ {T:TypeId}:DU P ⟨dst,.makeMap T none,ty,pos,aft,g⟩ ρ H (ep H) :=
 Hg fun F w E hH hE=>by
  refine⟨.map (some w.heap.size),World.push w (.map #[] 0),.map w.heap.size,.map w.heap.size (EJ [])::H,_,?_,⟨_,O,O⟩,Nh H _ _ (.inl O),PO hH _ _ O ?_,by simp[CH]⟩
  ·simp[execOp,Instr.makeMap,Sem.run_bind];rfl
  exact⟨#[],0,Lz _,MapKept.stamped_empty _,O⟩
theorem X6 {T e : TypeId} {b i : Nat} {l : List (Int × AV)} {k : Int} {zv : Value} {za : AV} (hT : mapOf P T = some e) (hz : zeroOf P e = some zv) (hza : ∀ F w, CH F w za zv) (hx : ρ x = .map b) (hy : ρ y = .p (.int .i64 k)) (hi : H[i]? = some (.map b (EJ l))) :
  Dp P ⟨dst, .lookup T x y false, ty, pos, aft, g⟩ ρ H ((J1 k l).getD za) H :=
 CV fun F w E hH hE => by
  obtain ⟨kt, hu, hk⟩ := Na hT
  have h1 := hE x Ab
  have h2 := hE y Ab
  rw [hx] at h1
  rw [hy] at h2
  simp only [CH, CN] at h1 h2
  obtain ⟨es, clk, hb, hs0, hr⟩ := hH.obj _ (List.mem_of_getElem? hi)
  have hzv : (zeroValue e).run P w = .ok zv w := by
   unfold zeroOf at hz
   cases hi : P.info? e with
   | none => simp [hi] at hz
   | some i => have hz' : i.zero = some zv := by simpa [hi] using hz
               simp [zeroValue, typeInfo, hi, hz', Sem.run_bind]
  have hkey : MapKept.IsKey (.int .i64) (.int .i64 k) := rfl
  rcases Ny (k := k) 0 hr with ⟨h3, h4⟩ | ⟨j, e', x', h3, h4, h5, h6, h7⟩
  ·refine ⟨zv, ?_, by rw [h3]; exact hza F w⟩
   simp [execOp, Instr.lookup, Sem.run_bind, run_underlying hu, h1, h2, MapKept.run_getObj_map hb, MapKept.run_checkKey hk hkey, MapKept.run_findKey hk h4, hzv]
  refine ⟨e'.val, ?_, by rw [h3]; exact h7⟩
  simp [execOp, Instr.lookup, Sem.run_bind, run_underlying hu, h1, h2, MapKept.run_getObj_map hb, MapKept.run_checkKey hk hkey, MapKept.run_findKey hk h4]
theorem VE {T e : TypeId} {b i : Nat} {l : List (Int × AV)} {k : Int} {zv : Value} {za : AV} (hT : mapOf P T = some e) (hz : zeroOf P e = some zv) (hza : ∀ F w, CH F w za zv) (hx : ρ x = .map b) (hy : ρ y = .p (.int .i64 k)) (hi : H[i]? = some (.map b (EJ l))) :
  Dp P ⟨dst, .lookup T x y true, ty, pos, aft, g⟩ ρ H (.tup [(J1 k l).getD za, .p (.bool (J1 k l).isSome)]) H :=
 CV fun F w E hH hE => by
  obtain ⟨kt, hu, hk⟩ := Na hT
  have h1 := hE x Ab
  have h2 := hE y Ab
  rw [hx] at h1
  rw [hy] at h2
  simp only [CH, CN] at h1 h2
  obtain ⟨es, clk, hb, hs0, hr⟩ := hH.obj _ (List.mem_of_getElem? hi)
  have hzv : (zeroValue e).run P w = .ok zv w := by
   unfold zeroOf at hz
   cases hi : P.info? e with
   | none => simp [hi] at hz
   | some i => have hz' : i.zero = some zv := by simpa [hi] using hz
               simp [zeroValue, typeInfo, hi, hz', Sem.run_bind]
  have hkey : MapKept.IsKey (.int .i64) (.int .i64 k) := rfl
  rcases Ny (k := k) 0 hr with ⟨h3, h4⟩ | ⟨j, e', x', h3, h4, h5, h6, h7⟩
  ·refine ⟨.tuple #[zv, .bool false], ?_, ?_⟩
   ·simp [execOp, Instr.lookup, Sem.run_bind, run_underlying hu, h1, h2, MapKept.run_getObj_map hb, MapKept.run_checkKey hk hkey, MapKept.run_findKey hk h4, hzv]
   simp only [h3, CH, B1, CN]
   exact ⟨[zv, .bool false], O, _, _, O, hza F w, _, _, O, O, O⟩
  refine ⟨.tuple #[e'.val, .bool true], ?_, ?_⟩
  ·simp [execOp, Instr.lookup, Sem.run_bind, run_underlying hu, h1, h2, MapKept.run_getObj_map hb, MapKept.run_checkKey hk hkey, MapKept.run_findKey hk h4]
  simp only [h3, CH, B1, CN]
  exact ⟨[e'.val, .bool true], O, _, _, O, h7, _, _, O, O, O⟩
theorem SU {T e:TypeId}{b i:Nat}{l:List (Int×AV)}{k:Int}{va:AV}(hT:mapOf P T=some e) (hx:ρ x= .map b) (hy:ρ y= .p (.int .i64 k)) (hz:ρ z=va) (hi:H[i]?=some (.map b (EJ l))) :
  Dp P ⟨dst,.mapUpdate T x y z,ty,pos,aft,g⟩ ρ H (.p .any) (H.set i (.map b (EJ (NO k va l)))) :=
 (IG (R:=qL (.p .any) (H.set i (.map b (EJ (NO k va l))))) fun F w E hH hE=>by
  obtain⟨kt,hu,hk⟩:=Na hT;have h1:=hE x Ab;have h2:=hE y Ab;have h0:=hE z Ab;rw[hx] at h1;rw[hy] at h2;rw[hz] at h0;simp only[CH,CN] at h1 h2;obtain⟨es,clk,hb,hs0,hr⟩:=hH.obj _ (List.mem_of_getElem? hi);have hFb:F b:=hH.sub _ (List.mem_of_getElem? hi) b rfl;have hlt:=hH.bd b hFb;have hkey:MapKept.IsKey (.int .i64) (.int .i64 k):=rfl;have fin:∀(es':Array MapEntry) (clk':Nat),MapKept.Stamped es' clk'→Dj F w (EJ (NO k va l)) es'.toList→Trans F H w F (H.set i (.map b (EJ (NO k va l)))) { w with heap:=w.heap.setIfInBounds b (.map es' clk') }∧HRel F (H.set i (.map b (EJ (NO k va l)))) { w with heap:=w.heap.setIfInBounds b (.map es' clk') }:=by
   intro es' clk' hs' hr';have hw:Ho b (.map es' clk') w { w with heap:=w.heap.setIfInBounds b (.map es' clk') }:=⟨rfl,rfl,rfl,rfl⟩;have st:=hw.stable hFb;exact⟨hw.trans hi O O,hw.HRel hH hi O O ⟨es',clk',hw.self hlt,hs',Dj.mono st _ _ hr'⟩⟩
  rcases Ny (k:=k) 0 hr with ⟨h3,h4⟩ | ⟨j,e',x',h3,h4,h5,h6,h7⟩
  ·have hr':=Vu (c:=clk) hr h3 h0;obtain⟨f1,f2⟩:=fin (es.push { key:= .int .i64 k,val:=E z,born:=clk }) (clk+1) (MapKept.stamped_push hs0 (VH hr h3)) (by simpa using hr');refine⟨_,_,F,?_,⟨O,O⟩,f1,f2⟩;simp[execOp,Instr.mapUpdate,Sem.run_bind,run_underlying hu,h1,h2,MapKept.run_getObj_map hb,MapKept.run_checkKey hk hkey,MapKept.run_findKey hk h4,MapKept.run_setObj_map _ hb]
  have hr':=ZS (v:=va) (u:=E z) 0 hr h4 h0;obtain⟨f1,f2⟩:=fin (es.modify j fun e=>{ e with key:= .int .i64 k,val:=E z }) clk (MapKept.stamped_modify hs0 j _ (fun _ _=>rfl) (fun e _ he=>by rw[show es[j]?=some e' by simpa using h5] at he;cases he;exact h6.symm)) (by simpa using hr');refine⟨_,_,F,?_,⟨O,O⟩,f1,f2⟩;have h5':es[j]?=some e':=by simpa using h5
  simp[execOp,Instr.mapUpdate,Sem.run_bind,run_underlying hu,h1,h2,MapKept.run_getObj_map hb,MapKept.run_checkKey hk hkey,MapKept.run_findKey hk h4,MapKept.run_setObj_map _ hb,h5',h6,Instr.keyThatStays,Instr.sameBits])
theorem IB {T:TypeId}{d:TypeDesc}{a b:Value}{c:Bool}{w:World}(hu:P.underlying T=some d) (h:(match d,a,b with
  | .bool,.bool x,.bool y=>some (x==y)
  | .interface _,.nilIface,.nilIface=>some true
  | .interface _,.iface _ _,.nilIface=>some false
  | .slice _,.slice none _ _,.slice none _ _=>some true
  | .slice _,.slice (some _) _ _,.slice none _ _=>some false
  | _,_,_=>none)=some c):(Op.equal T a b).run P w= .ok c w:=by
 unfold Op.equal;rw[show Op.maxDepth=9999+1 from rfl];unfold Op.equalIn;simp only[Sem.run_bind,run_underlying hu,Result.andThen_ok];split at h<;>simp_all
theorem R8 {a b:Bool}{T U:TypeId}(hu:P.underlying T=some .bool) (hx:ρ x= .p (.bool a)) (hy:ρ y= .p (.bool b)):Dp P ⟨dst,.binOp .eql T x y U,ty,pos,aft,g⟩ ρ H (.p (.bool (a==b))) H :=
 CV fun F w E hH hE=>by
  have e1:=hE x Ab;have e2:=hE y Ab;rw[hx] at e1;rw[hy] at e2;simp only[CH,CN] at e1 e2;refine⟨.bool (a==b),?_,by simp[CH,CN]⟩;have hg:(eqGuard .eql T x y (.bool a) (.bool b)).run P w= .ok () w:=by unfold eqGuard;rfl
  have hq:(Op.equal T (.bool a) (.bool b)).run P w= .ok (a==b) w:=IB hu rfl;simp[execOp,Sem.run_bind,hg,e1,e2,binOp,hq]
theorem HI {T U:TypeId}{ms:Array (String×TypeId)}{X:PV}{b:Bool}(hu:P.underlying T=some (.interface ms)) (hx:ρ x= .p X) (hy:ρ (.const .nilIface)= .p .nilIface) (hX:(match X with | .nilIface=>some false | .iface _ _=>some true | _=>none)=some b):Dp P ⟨dst,.binOp .neq T x (.const .nilIface) U,ty,pos,aft,g⟩ ρ H (.p (.bool b)) H :=
 CV fun F w E hH hE=>by
  have e2:=hE (.const .nilIface) Ab;rw[hy] at e2;simp only[CH,CN] at e2;have e1:=hE x Ab;rw[hx] at e1;have hg:∀a,(eqGuard .neq T x (.const .nilIface) a .nilIface).run P w= .ok () w:=by
   intro a;unfold eqGuard;cases a<;>simp<;>rfl
  refine⟨.bool b,?_,by simp[CH,CN]⟩;cases X with
  | nilIface =>
   simp at hX;subst hX;simp only[CH,CN] at e1;have hq:(Op.equal T .nilIface .nilIface).run P w= .ok true w:=IB hu rfl;simp[execOp,Sem.run_bind,hg,e1,e2,binOp,hq]
  | iface t c =>
   simp at hX;subst hX;simp only[CH,CN] at e1;obtain⟨u,e1,_⟩:=e1;have hq:(Op.equal T (.iface t u) .nilIface).run P w= .ok false w:=IB hu rfl;simp[execOp,Sem.run_bind,hg,e1,e2,binOp,hq]
  | _=>simp at hX
theorem Sc {T e:TypeId}{len sz b o:Nat}{k:IntKind}{i:Int}{inf:TypeInfo}(hu:P.underlying T=some (.array len e)) (hj:P.info? e=some inf) (hs:inf.size=sz) (hx:ρ x= .ptr b o) (hy:ρ y= .p (.int k i)) (h0:0≤i) (hn:i<len) :
  Dp P ⟨dst,.indexAddr T x y,ty,pos,aft,g⟩ ρ H (.ptr b (o+i.toNat*sz)) H :=
 CV fun F w E hH hE=>by
  have h1:=hE x Ab;have h2:=hE y Ab;rw[hx] at h1;rw[hy] at h2;simp only[CH,CN] at h1 h2;refine⟨.pointer (some ⟨b,o+i.toNat*sz,none⟩),?_,by simp[CH]⟩;simp[execOp,Instr.indexAt,Sem.run_bind,run_underlying hu,h1,h2,asIntOf,h0,hn,sizeOf,typeInfo,hj,hs,Addr.add_mid,Instr.sureAddr,asAddr]
theorem Sa {T e:TypeId}{len:Nat}{parts:Array (Nat×Operand)}{z:Value}{cs:List AV}{inf:TypeInfo}(hu:P.underlying T=some (.array len e)) (hj:P.info? e=some inf) (hz:zeroOf P T=some z)
  (hc:Fh (fun i=>some (i*inf.size,inf.size)) (z.cells.toList.map Gv) (parts.toList.map fun p=>(p.1,ρ p.2))=some cs):Dp P ⟨dst,.build T parts,ty,pos,aft,g⟩ ρ H (.agg cs) H :=
 CV fun F w E hH hE=>by
  unfold zeroOf at hz;cases hi:P.info? T with
  | none=>simp[hi] at hz
  | some i =>
   have hz':i.zero=some z:=by simpa [hi] using hz
   have hzv:(zeroValue T).run P w= .ok z w:=by simp[zeroValue,typeInfo,hi,hz',Sem.run_bind]
   have hsz:(sizeOf e).run P w= .ok inf.size w:=by simp[sizeOf,typeInfo,hj]
   obtain⟨us,hf,hr⟩:=JH (F:=F) (w:=w) (place:=(fun i=>some (i*inf.size,inf.size))) _ (parts.toList.map fun p=>(p.1,E p.2)) _ z.cells.toList _ Ap (by
    intro j p q h1 h2;simp only[List.getElem?_map] at h1 h2;cases hj:parts.toList[j]? with
    | none=>simp[hj] at h1
    | some t =>
     simp[hj] at h1 h2;subst h1;subst h2;exact⟨O,hE _ (by
      have:=List.mem_of_getElem? hj;simp only[Op.operands];exact List.mem_map.2 ⟨t,this,O⟩)⟩) (HD _) hc
   refine⟨.agg ⟨us⟩,?_,by simp only[CH];exact⟨us,rfl,hr⟩⟩;simp only[execOp,Instr.build,Sem.run_bind,hzv,Result.andThen_ok,run_underlying hu,hsz];have hf':Instr.fill (fun i=>some (i*inf.size,inf.size)) z.cells (parts.toList.map fun p=>(p.1,E p.2))=some ⟨us⟩:=hf;simp[hf']
theorem U9 {T U:TypeId}{e:TypeId}{rows:List (List PV)}(hu:P.underlying T=some (.slice e)) (hx:ρ x= .p (.lst rows)) (hy:ρ y= .p .nils):DU P ⟨dst,.binOp .eql T x y U,ty,pos,aft,g⟩ ρ H (fun r H'=>match r with | .val v=>(∃b,v= .p (.bool b)∧(b=true→rows=[]))∧H'=H | .panic _=>False) :=
 Hg fun F w E hH hE=>by
  have e1:=hE x Ab;have e2:=hE y Ab;rw[hx] at e1;rw[hy] at e2;simp only[CH,CN] at e1 e2;have hg:∀o n c,(eqGuard .eql T x y (.slice o n c) (.slice none 0 0)).run P w= .ok () w:=by intro o n c;unfold eqGuard;rfl
  have key:∃b,(execOp E ⟨dst,.binOp .eql T x y U,ty,pos,aft,g⟩).run P w= .ok (.value (.bool b)) w∧(b=true→rows=[]):=by
   rcases e1 with ⟨rfl,o,c,h1⟩ | ⟨bb,o,c,sz,h1,_⟩
   ·cases o with
    | none =>
     have hq:(Op.equal T (.slice none 0 c) (.slice none 0 0)).run P w= .ok true w:=IB hu rfl;exact⟨true,by simp[execOp,Sem.run_bind,hg,h1,e2,binOp,hq],fun _=>rfl⟩
    | some a =>
     have hq:(Op.equal T (.slice (some a) 0 c) (.slice none 0 0)).run P w= .ok false w:=IB hu rfl;exact⟨false,by simp[execOp,Sem.run_bind,hg,h1,e2,binOp,hq],fun _=>rfl⟩
   have hq:(Op.equal T (.slice (some ⟨bb,o,none⟩) rows.length c) (.slice none 0 0)).run P w= .ok false w:=IB hu rfl;exact⟨false,by simp[execOp,Sem.run_bind,hg,h1,e2,binOp,hq],fun h=>by cases h⟩
  obtain⟨b,hb,hr⟩:=key;exact⟨_,w,.p (.bool b),H,F,hb,⟨⟨b,O,hr⟩,O⟩,.refl,hH,by simp[CH,CN]⟩
end
def OG (P:Program) (T:TypeId):Bool :=
 match P.underlying T with
 | some (.struct fs)=>match fs.toList with
  | [f,g]=>f.name != "_" &&g.name != "_" &&Nat.beq f.offset 0&&Nat.beq g.offset 1&&(match P.underlying f.type,P.underlying g.type with | some (.int .i64),some (.int .i64)=>true | _,_=>false)&& !P.stoodInHeld T&& !P.eqGuardType P.depth T
  | _=>false
 | _=>false
theorem W8 {P:Program}{T:TypeId}{a b c d:Int}{w:World}(h:OG P T=true):(Op.equal T (.agg #[.int .i64 a,.int .i64 b]) (.agg #[.int .i64 c,.int .i64 d])).run P w= .ok (a==c&&b==d) w:=by
 unfold OG at h;split at h
 ·rename_i fs hu;split at h
  ·rename_i f g hfs;obtain rfl:fs=#[f,g]:=by apply Array.ext';simpa using hfs
   simp only[Bool.and_eq_true,bne_iff_ne,ne_eq,Bool.not_eq_true'] at h;obtain⟨⟨⟨⟨⟨⟨h1,h2⟩,h3⟩,h4⟩,h5⟩,h6⟩,h7⟩:=h;split at h5
   ·rename_i hf hg;have e3:=Nat.eq_of_beq_eq_true h3;have e4:=Nat.eq_of_beq_eq_true h4;have hp:(program).run P w= .ok P w:=rfl;have af:(isAgg f.type).run P w= .ok false w:=Ma hf false rfl w;have ag:(isAgg g.type).run P w= .ok false w:=Ma hg false rfl w;have pf:∀x y,(part f.type #[.int .i64 x,.int .i64 y] f.offset).run P w= .ok (.int .i64 x) w:=by
     intro x y;unfold part;simp[Sem.run_bind,af,e3]
    have pg:∀x y,(part g.type #[.int .i64 x,.int .i64 y] g.offset).run P w= .ok (.int .i64 y) w:=by
     intro x y;unfold part;simp[Sem.run_bind,ag,e4]
    have qf:∀x y,(Op.equalIn 9999 f.type (.int .i64 x) (.int .i64 y)).run P w= .ok (x==y) w:=by
     intro x y;rw[show (9999:Nat)=9998+1 from rfl];unfold Op.equalIn;simp[Sem.run_bind,run_underlying hf]
    have qg:∀x y,(Op.equalIn 9999 g.type (.int .i64 x) (.int .i64 y)).run P w= .ok (x==y) w:=by
     intro x y;rw[show (9999:Nat)=9998+1 from rfl];unfold Op.equalIn;simp[Sem.run_bind,run_underlying hg]
    unfold Op.equal;rw[show Op.maxDepth=9999+1 from rfl];unfold Op.equalIn;simp only[Sem.run_bind,run_underlying hu,Result.andThen_ok,hp,h6];simp[Sem.run_bind,h1,h2,pf,pg,qf,qg];cases hac:(a==c)<;>cases hbd:(b==d)<;>simp_all [Sem.run_bind,h1,h2,pf,pg,qf,qg]
   cases h5
  cases h
 cases h
section
variable {P:Program}{dst:Option Tmp}{ty:TypeId}{pos:String}{aft:Array Edge}{g:Option (Nat×Bool)}{ρ:Operand→AV}{H:List BJ}{x y z:Operand}{v:AV}
theorem aP {T U:TypeId}{a b c d:Int}(h:OG P T=true) (hx:ρ x= .agg [.p (.int .i64 a),.p (.int .i64 b)]) (hy:ρ y= .agg [.p (.int .i64 c),.p (.int .i64 d)]):Dp P ⟨dst,.binOp .neq T x y U,ty,pos,aft,g⟩ ρ H (.p (.bool (!(a==c&&b==d)))) H :=
 CV fun F w E hH hE=>by
  have e1:=hE x Ab;have e2:=hE y Ab;rw[hx] at e1;rw[hy] at e2;simp only[CH,B1,CN] at e1 e2;obtain⟨vs,e1,u1,us1,rfl,rfl,u2,us2,rfl,rfl,rfl⟩:=e1;obtain⟨vs',e2,v1,vs1,rfl,rfl,v2,vs2,rfl,rfl,rfl⟩:=e2;refine⟨.bool (!(a==c&&b==d)),?_,by simp[CH,CN]⟩;have hq:=W8 (P:=P) (T:=T) (a:=a) (b:=b) (c:=c) (d:=d) (w:=w) h;have h':=h;have hg:(eqGuard .neq T x y (.agg #[.int .i64 a,.int .i64 b]) (.agg #[.int .i64 c,.int .i64 d])).run P w= .ok () w:=by
   unfold OG at h';split at h'
   ·split at h'
    ·simp only[Bool.and_eq_true,Bool.not_eq_true'] at h';have h7:=h'.2;have hp:(program).run P w= .ok P w:=rfl;unfold eqGuard;simp[Sem.run_bind,hp,h7]
    cases h'
   cases h'
  simp[execOp,Sem.run_bind,hg,e1,e2,binOp,hq]
end
theorem IV {P:Program}{r:Option Nat}{c:Code}{S:Br}{Q:C2→Br→Prop}(N:Nat) (C:Nat→Prop) (St:Nat→Br) (i₀:Nat) (h₀:i₀≤N) (hC:C i₀) (l:Le S (St i₀))
  (round:∀i,i≤N→C i→JD P r c (St i) (Tk (fun S'=>i<N∧C (i+1)∧Le S' (St (i+1))) Q)):JD P r (.loop c) S Q:=by
 refine Wm (fun m S=>∃i,i≤N∧m=N - i∧C i∧S=St i) (m:=N - i₀) l ⟨i₀,h₀,O,hC,O⟩ ?_;rintro m S ⟨i,hi,rfl,hc,rfl⟩;refine(round i hi hc).mono ?_;intro e S' h;cases e with
 | normal =>
  obtain⟨h1,h2,h3⟩:=h;exact⟨N - (i+1),St (i+1),by omega,h3,i+1,by omega,rfl,h2,rfl⟩
 | exit id=>exact h
 | ret=>exact h
 | panic v=>exact h
theorem Be {α:Type}{P:Program}{r:Option Nat}{c:Code}{S:Br}{Q:C2→Br→Prop}(St:α→Br) (μ:α→Nat) (C:α→Prop) (a₀:α) (hC:C a₀) (l:Le S (St a₀))
  (round:∀a,C a→JD P r c (St a) (Tk (fun S'=>∃a',μ a' < μ a∧C a'∧Le S' (St a')) Q)):JD P r (.loop c) S Q:=by
 refine Wm (fun m S=>∃a,m=μ a∧C a∧S=St a) (m:=μ a₀) l ⟨a₀,O,hC,O⟩ ?_;rintro m S ⟨a,rfl,hc,rfl⟩;refine(round a hc).mono ?_;intro e S' h;cases e with
 | normal =>
  obtain⟨a',h1,h2,h3⟩:=h;exact⟨μ a',St a',h1,h3,a',O,h2,O⟩
 | exit id=>exact h
 | ret=>exact h
 | panic v=>exact h
abbrev wr (n:Int):Int:=IntKind.i64.wrap n
section
variable {P:Program}{dst:Option Tmp}{ty:TypeId}{pos:String}{aft:Array Edge}{g:Option (Nat×Bool)}{ρ:Operand→AV}{H:List BJ}{x y z:Operand}{v:AV}
theorem ED {m n:Int}{T U:TypeId}(hx:ρ x= .p (.int .i64 m)) (hy:ρ y= .p (.int .i64 n)):Dp P ⟨dst,.binOp .add T x y U,ty,pos,aft,g⟩ ρ H (.p (.int .i64 (wr (m+n)))) H :=
 CV fun F w E hH hE=>by
  have e1:=hE x Ab;have e2:=hE y Ab;rw[hx] at e1;rw[hy] at e2;simp only[CH,CN] at e1 e2;exact⟨.int .i64 (wr (m+n)),by simp[execOp,Sem.run_bind,IY,e1,e2,binOp,Op.intArith],by simp[CH,CN]⟩
theorem JR {m n:Int}{T U:TypeId}(hx:ρ x= .p (.int .i64 m)) (hy:ρ y= .p (.int .i64 n)):Dp P ⟨dst,.binOp .sub T x y U,ty,pos,aft,g⟩ ρ H (.p (.int .i64 (wr (m - n)))) H :=
 CV fun F w E hH hE=>by
  have e1:=hE x Ab;have e2:=hE y Ab;rw[hx] at e1;rw[hy] at e2;simp only[CH,CN] at e1 e2;exact⟨.int .i64 (wr (m - n)),by simp[execOp,Sem.run_bind,IY,e1,e2,binOp,Op.intArith],by simp[CH,CN]⟩
end
def rN (R:AV→Prop):ET→List BJ→Prop
 | .val v,H'=>R v∧H'=[]
 | .panic _,_=>False
abbrev GC (P:Program) (f:FuncId) (args:List AV) (R:AV→Prop):Prop:=Bq P f args [] (rN R)
theorem GC.of {P:Program}{f:FuncId}{args:List AV}{v:AV}{R:AV→Prop}(h:Ec P f args v) (hR:R v):GC P f args R :=
 Bq.mono h fun r H hr=>by
  cases r with
  | val v'=>obtain⟨rfl,rfl⟩:=hr;exact⟨hR,rfl⟩
  | panic v'=>exact hr
def P6 (R:AV→Prop) (H:List BJ):ET→List BJ→Prop
 | .val v,H'=>R v∧H'=H
 | .panic _,_=>False
section
variable {P:Program}{r:Option Nat}{ops:Array Oper}{Q:C2→Br→Prop}{k:Nat}{n:Nat}{τ:Nat→AV}{H H':List BJ}{D:List ES}{dst:Option Tmp}{op:Op}{ty:TypeId}{pos:String}{aft:Array Edge}{g:Option (Nat×Bool)}{v:AV}
theorem CC {c:Call}{f:Operand}{fid:FuncId}{ρ:Operand→AV}{A:List AV}{R:AV→Prop}(hc:c.callee= .value f) (hf:ρ f= .p (.fn fid)) (h:GC P fid A R) (hA:c.args.toList.map ρ=A∨(c.args.toList.map ρ).map norm=A) :
  DU P ⟨dst,.call c,ty,pos,aft,g⟩ ρ H (P6 R H):=by
 refine(GO (H:=H) (Hs:=[]) (Hf:=H) (first:=[]) (caps:=[]) hc (.inl ⟨hf,O,O⟩) (A:=A) Ap h (by simpa using hA)).mono ?_;rintro r H' ⟨Hs',h1,rfl⟩;cases r with
 | val v'=>obtain⟨h1,rfl⟩:=h1;exact⟨h1,rfl⟩
 | panic v'=>exact h1
theorem Dk {R:AV→Prop}(ho:ops[k]?=some ⟨dst,op,ty,pos,aft,none⟩) (hd:Gm dst n=true) (h:DU P ⟨dst,op,ty,pos,aft,none⟩ (ev τ) H (P6 R H))
  (next:∀v,R v→AL P r ops (k+1) ⟨n,put τ dst v,H,D⟩ Q):AL P r ops k ⟨n,τ,H,D⟩ Q :=
 GI (S:=⟨n,τ,H,D⟩) ho Ai (Ii hd) h (fun v H' ⟨h1,h2⟩=>by subst h2;exact next v h1) (fun _ _ h=>h.elim)
theorem IF {R:AV→Prop}{j d:Nat}{want:Bool}(ho:ops[k]?=some ⟨dst,op,ty,pos,aft,some (j,want)⟩) (hd:Gm dst n=true) (hj:(ops[j]?).bind (·.dst)=some d) (hb:τ d= .p (.bool want)) (h:DU P ⟨dst,op,ty,pos,aft,some (j,want)⟩ (ev τ) H (P6 R H))
  (next:∀v,R v→AL P r ops (k+1) ⟨n,put τ dst v,H,D⟩ Q):AL P r ops k ⟨n,τ,H,D⟩ Q :=
 GI (S:=⟨n,τ,H,D⟩) ho (by simp only[C3];exact⟨d,hj,hb⟩) (Ii hd) h (fun v H' ⟨h1,h2⟩=>by subst h2;exact next v h1) (fun _ _ h=>h.elim)
end
section
variable {P:Program}{ops:Array Oper}{n:Nat}{τ₀:Nat→AV}{D:List ES}{Q:C2→Br→Prop}{opn:Nat→Bool}{k:Nat}{τ:Nat→AV}{H:List BJ}{rd:W2}{ef:WR}{effs:List Bool}{fx:List (Nat×Sp)}{dst:Option Tmp}{op:Op}{ty:TypeId}{pos:String}{aft:Array Edge}
theorem J3 {R:AV→Prop}(fx':List (Nat×Sp)) (ho:ops[k]?=some ⟨dst,op,ty,pos,aft,none⟩) (hn:opn k=true) (h:DU P ⟨dst,op,ty,pos,aft,none⟩ (ev τ) H (P6 R H)) (haft:FB ops k (fx'.map (·.1))=true) (hne:∃v,R v) (owe:KF ops k H H rd)
  (next:∀v,R v→HX k (.eff v H) fx∧Dr P ops n τ₀ D Q opn (k+1) (put τ dst v) H rd ((k,H,H)::ef) (true::effs) (fx'++fx)):Dr P ops n τ₀ D Q opn k τ H rd ef effs fx :=
 Od fx' ho hn h haft (let ⟨v,hv⟩:=hne;⟨v,H,hv,rfl⟩) (fun _ _ h=>h.elim) (fun v H' ⟨h1,h2⟩=>by subst h2;exact⟨owe,next v h1⟩)
theorem gq {R:AV→Prop}{j d:Nat}{want:Bool}(fx':List (Nat×Sp)) (ho:ops[k]?=some ⟨dst,op,ty,pos,aft,some (j,want)⟩) (hn:opn k=true) (hj:(ops[j]?).bind (·.dst)=some d) (hb:τ d= .p (.bool want)) (h:DU P ⟨dst,op,ty,pos,aft,some (j,want)⟩ (ev τ) H (P6 R H)) (haft:FB ops k (fx'.map (·.1))=true) (hne:∃v,R v) (owe:KF ops k H H rd)
  (next:∀v,R v→HX k (.eff v H) fx∧Dr P ops n τ₀ D Q opn (k+1) (put τ dst v) H rd ((k,H,H)::ef) (true::effs) (fx'++fx)):Dr P ops n τ₀ D Q opn k τ H rd ef effs fx :=
 .opn (P6 R H) fx' ho hn ⟨d,hj,hb⟩ h haft (let ⟨v,hv⟩:=hne;⟨v,H,hv,rfl⟩) (fun v H' ⟨_,h2⟩=>by subst h2;exact owe) (fun v H' ⟨h1,h2⟩=>by subst h2;exact(next v h1).1) (fun v H' ⟨h1,h2⟩=>by subst h2;exact(next v h1).2) (fun _ _ h=>h.elim)
end
theorem BR {P:Program}{r:Option Nat}{c:Code}{Q:C2→Br→Prop}{n:Nat}{τ:Nat→AV}{H:List BJ}{D:List ES}(live:List Nat) (d:Nat) (R:AV→Prop) (h:JD P r c ⟨n,τ,H,D⟩ (Tk (fun S'=>S'.n=n∧S'.D=D∧H.Sublist S'.H∧R (S'.τ d)∧kv S'.τ τ live) Q))
  (next:∀x,R x→Q .normal ⟨n,mk ((d,x)::live.map fun t=>(t,τ t)),H,D⟩):JD P r c ⟨n,τ,H,D⟩ Q:=by
 intro F a w hs;refine wpIn_mono (h F a w hs) ?_;rintro e a' w' ⟨e',S',F',hq,he,hs',ht⟩;cases e' with
 | normal =>
  obtain⟨n',τ',H',D'⟩:=S';obtain⟨h1,h3,h2,h4,h5⟩:=hq;simp only at h1 h2 h3 h4 h5;subst h1;subst h3;have l:Le ⟨n',τ',H',D'⟩ ⟨n',mk ((d,τ' d)::live.map fun t=>(t,τ t)),H,D'⟩:=D9 ⟨rfl,P3 h5⟩ h2;exact⟨.normal,_,F',next _ h4,he,hs'.le l,ht.sublist h2⟩
 | exit id=>exact⟨.exit id,S',F',hq,he,hs',ht⟩
 | ret=>exact⟨.ret,S',F',hq,he,hs',ht⟩
 | panic v=>exact⟨.panic v,S',F',hq,he,hs',ht⟩
def Gd (v:AV):Prop:=∃b:Bool,v= .p (.bool b)
def Yw (v:AV):Prop:=∃e:Int,v= .p (.int .i64 e)
end Go.Abs
namespace Go.Eu
open Go.Abs
noncomputable def Nj {α:Type}(a b:α):Bool:= @decide (a=b) (Classical.propDecidable _)
theorem Gt {α:Type}{a b:α}(h:a=b):Nj a b=true:=by simp[Nj,h]
theorem ID {α:Type}{a b:α}(h:a≠b):Nj a b=false:=by simp[Nj,h]
theorem IK {α:Type}{a b:α}:Nj a b=true↔a=b:=by simp[Nj]
abbrev LV (l:CZ):AV:= .agg ((B0 l).map .p)
abbrev pX (ts:List Tm):AV:= .p (.lst (BE ts))
abbrev p4 (ls:List CZ):AV:= .p (.lst (ls.map B0))
theorem Ci {ts:List CE}{i:Nat}{t:CE}(h:ts[i]?=some t):(ts.map D1)[i]?=some (D1 t):=by simp[h]
theorem Fz {ts:List CZ}{i:Nat}{t:CZ}(h:ts[i]?=some t):(ts.map B0)[i]?=some (B0 t):=by simp[h]
def agree {α:Type}(a b:List α) (i:Nat):Prop:=a.take i=b.take i
theorem NU {α:Type}(a b:List α):agree a b 0:=by simp[agree]
theorem NG {α:Type}{a b:List α}{i:Nat}{x:α}(h:agree a b i) (ha:a[i]?=some x) (hb:b[i]?=some x):agree a b (i+1):=by
 unfold agree at *;rw[List.take_add_one,List.take_add_one,ha,hb,h]
theorem Ow {α:Type}{a b:List α}{n:Nat}(h:agree a b n) (ha:a.length=n) (hb:b.length=n):a=b:=by
 unfold agree at h
 rwa [List.take_of_length_le Ao,List.take_of_length_le Ao] at h
theorem A7 {α:Type}{l:List α}{i:Nat}(h:i<l.length):∃x,l[i]?=some x:=⟨_,List.getElem?_eq_getElem h⟩
abbrev Dd:Nat:=1099511627776
def I2 (n:Int):Prop:= -9223372036854775808≤n∧n≤9223372036854775807
structure M4 (l:CZ):Prop where
 vars:l.vars.length<Dd
 c:I2 l.const
 v:∀v∈l.vars,I2 v.index∧I2 v.plus
mutual
def Nd:Tm→Prop
 | .mk k i n ls ks=>n.size<Dd∧ls.length<Dd∧(∀l∈ls,M4 l)∧ks.length<Dd∧Ld ks∧I2 k∧I2 i
def Ld:List Tm→Prop
 | []=>True
 | t::ts=>Nd t∧Ld ts
end
theorem DW:∀{ts:List Tm}{i:Nat}{t:Tm},Ld ts→ts[i]?=some t→Nd t
 | [],i,t,_,h=>by simp at h
 | a::ts,0,t,hn,h=>by simp at h;subst h;exact hn.1
 | a::ts,i+1,t,hn,h=>by simp at h;exact DW hn.2 h
mutual
def depth:Tm→Nat
 | .mk _ _ _ _ ks=>de ks+1
def de:List Tm→Nat
 | []=>0
 | t::ts=>max (depth t) (de ts)
end
end Go.Eu
namespace Go.Eu
theorem OM (bs : ByteArray) : ∀ (d i : Nat) (r : List UInt8), bs.size - i = d → ByteArray.toList.loop bs i r = r.reverse ++ bs.data.toList.drop i := by
 intro d
 induction d with
 | zero =>
  intro i r h
  unfold ByteArray.toList.loop
  have : ¬ i < bs.size := by omega
  simp only [this, if_false]
  rw [List.drop_eq_nil_of_le (by have : bs.data.size = bs.size := rfl; simp; omega)]; simp
 | succ d ih =>
  intro i r h
  unfold ByteArray.toList.loop
  have hi : i < bs.size := by omega
  simp only [hi, if_true]
  rw [ih (i + 1) _ Ao]
  have hlt : i < bs.data.toList.length := by have : bs.data.size = bs.size := rfl; simp; omega
  rw [List.drop_eq_getElem_cons hlt]
  have : bs.get! i = bs.data.toList[i] := by
   have h2 : i < bs.data.size := by simpa using hlt
   show bs.data[i]! = _
   rw [getElem!_pos bs.data i h2]; simp
  simp [this]
theorem OU (bs:ByteArray):bs.toList=bs.data.toList:=by
 unfold ByteArray.toList;rw[OM bs _ 0 [] rfl];simp
theorem Gq {a b:ByteArray}(h:a.toList=b.toList):a=b:=by
 rw[OU,OU] at h;cases a;cases b;simp at h;congr
end Go.Eu
namespace Go.Eu
open Go.Abs
mutual
def Ek:Tm→Int→Int
 | .mk _ _ _ _ ks,most=>Ea ks most 0
def Ea:List Tm→Int→Int→Int
 | [],_,n=>n
 | t::ts,most,n=>if n > most then n else Ea ts most (wr (n+wr (1+Ek t (wr (most - n)))))
end
theorem TJ {l:List Tm}{i:Nat}{t:Tm}{most n:Int}(h:l[i]?=some t):Ea (l.drop i) most n=if n > most then n else Ea (l.drop (i+1)) most (wr (n+wr (1+Ek t (wr (most - n))))):=by
 have hlt:i<l.length:=(List.getElem?_eq_some_iff.1 h).1;rw[List.drop_eq_getElem_cons hlt];have:l[i]=t:=by simpa [List.getElem?_eq_getElem hlt] using h
 rw[this,Ea]
end Go.Eu
namespace Go.Eu
def arity (k:Int):Int:=if k=4∨k=5∨k=6∨k=7 then 2 else if k=8∨k=11 then 3 else if k=9∨k=10 then 1 else 0
def below (k i:Int):Int:=if ((i==1&&(k==5||k==6||k==7))||(i==2&&k==11))=true then 1 else 0
def Xc:Tm→Prop
 | .mk kd _ _ _ ks=>0≤kd∧kd<13∧(ks.length:Int)=arity kd
mutual
def wf (vars metas:Int):Int→Tm→Prop
 | d,.mk kd ix _ _ ks=>0≤kd∧kd<13∧(ks.length:Int)=arity kd∧(kd=0→0≤ix∧ix - d<vars)∧(kd=12→0≤ix∧ix<metas)∧iu vars metas kd d 0 ks
def iu (vars metas:Int):Int→Int→Nat→List Tm→Prop
 | _,_,_,[]=>True
 | kd,d,i,t::ts=>wf vars metas (d+below kd i) t∧iu vars metas kd d (i+1) ts
end
theorem Kr {vars metas kd d:Int}:∀{ks:List Tm}{i:Nat},(∀j t,ks[j]?=some t→wf vars metas (d+below kd ((i+j:Nat):Int)) t)→iu vars metas kd d i ks
 | [],i,_=>by simp[iu]
 | t::ts,i,h=>by
  simp only[iu];exact⟨by have:=h 0 t rfl;simpa using this,Kr fun j t' ht=>by have:=h (j+1) t' (by simpa using ht);rw[show i+1+j=i+(j+1) by omega];exact this⟩
theorem C5 (k i:Int):0≤below k i∧below k i≤1:=by unfold below;split<;>omega
theorem Cw {α:Type}{l:List α}{p:Nat→α→Prop}{i:Nat}{x:α}(h:∀j,j<i→∀t,l[j]?=some t→p j t) (hx:l[i]?=some x) (hp:p i x):∀j,j<i+1→∀t,l[j]?=some t→p j t:=by
 intro j hj t ht;rcases Nat.lt_or_ge j i with h' | h'
 ·exact h j h' t ht
 have e:j=i:=by omega
 subst e;rw[hx] at ht;injection ht with ht;subst ht;exact hp
end Go.Eu
namespace Go.Abs
section
variable {α:Type}
def Pu (is:List Nat):Nat→List α→List α
 | _,[]=>[]
 | k,a::l=>bif is.any (Nat.beq k ·) then a::Pu is (k+1) l else Pu is (k+1) l
theorem O1 (is:List Nat):∀(k:Nat) (l:List α),(Pu is k l).Sublist l
 | _,[]=>List.Sublist.refl _
 | k,a::l=>by
  simp only[Pu];cases is.any (Nat.beq k ·)
  ·exact(O1 is (k+1) l).cons _
  exact(O1 is (k+1) l).cons_cons _
theorem B4 {is:List Nat}{l l':List α}(h:Pu is 0 l=l'):l'.Sublist l:=h▸O1 is 0 l
def FY (H:List α):List Nat→List α→Prop
 | [],xs=>xs=[]
 | i::is,xs=>∃x xs',xs=x::xs'∧H[i]?=some x∧FY H is xs'
def LQ (H:List α):List Nat→List α→List α
 | i::is,x::xs=>LQ (H.set i x) is xs
 | _,_=>H
def C8 (is:List Nat):Nat→List α→List α
 | _,[]=>[]
 | k,a::l=>if k∈is then C8 is (k+1) l else a::C8 is (k+1) l
theorem Pw:∀(k:Nat) (l:List α),C8 [] k l=l
 | _,[]=>rfl
 | k,a::l=>by simp[C8,Pw (k+1) l]
theorem P4 {is:List Nat}{j:Nat}:∀(k:Nat) (l:List α),j<k→C8 (j::is) k l=C8 is k l
 | _,[],_=>rfl
 | k,a::l,h=>by
  have:k≠j:=by omega
  have ih:=P4 (is:=is) (j:=j) (k+1) l Ao;simp[C8,this,ih]
theorem On {is:List Nat}{x:α}:∀(l:List α) (k i:Nat),l[i]?=some x→(k+i) ∉ is→(C8 is k l).Perm (x::C8 ((k+i)::is) k l)
 | [],k,i,h,_=>by simp at h
 | a::l,k,0,h,hn=>by
  simp at h hn;subst h;simp[C8,hn,P4 (k+1) l (Nat.lt_succ_self k)]
 | a::l,k,i+1,h,hn=>by
  simp at h;have ih:=On l (k+1) i h (by rw[show k+1+i=k+(i+1) by omega];exact hn);rw[show k+1+i=k+(i+1) by omega] at ih;have hk:k≠k+(i+1):=by omega
  simp only[C8,List.mem_cons,hk,false_or];split
  ·exact ih
  exact(ih.cons a).trans (.swap _ _ _)
theorem Da {H:List α}:∀{is:List Nat}{xs:List α},is.Nodup→FY H is xs→H.Perm (xs++C8 is 0 H)
 | [],xs,_,h=>by simp only[FY] at h;subst h;simp[Pw]
 | i::is,xs,hn,h=>by
  obtain⟨x,xs',rfl,hx,hr⟩:=h;have hn':=List.nodup_cons.1 hn;have ih:=Da hn'.2 hr;have:=On (is:=is) H 0 i hx (by simpa using hn'.1);simp only[Nat.zero_add] at this;exact ih.trans (((List.Perm.refl xs').append this).trans List.perm_middle)
theorem Ph {is:List Nat}{y:α}:∀(l:List α) (k i:Nat),(k+i)∈is→C8 is k (l.set i y)=C8 is k l
 | [],k,i,_=>by simp
 | a::l,k,0,h=>by simp at h;simp[C8,h]
 | a::l,k,i+1,h=>by
  have:=Ph (y:=y) l (k+1) i (by rw[show k+1+i=k+(i+1) by omega];exact h);simp only[List.set_cons_succ,C8,this]
theorem Rw {i:Nat}{y:α}:∀{is:List Nat}{xs H:List α},i ∉ is→FY H is xs→FY (H.set i y) is xs
 | [],xs,H,_,h=>h
 | j::is,xs,H,hn,h=>by
  obtain⟨x,xs',rfl,hx,hr⟩:=h;simp at hn;exact⟨x,xs',O,by rw[List.getElem?_set_ne hn.1];exact hx,Rw hn.2 hr⟩
theorem Sg:∀{is:List Nat}{xs xs' H:List α},is.Nodup→FY H is xs→xs'.length=xs.length→FY (LQ H is xs') is xs'∧(∀ks k,(∀i∈is,k+i∈ks)→C8 ks k (LQ H is xs')=C8 ks k H)∧∀j,j ∉ is→(LQ H is xs')[j]?=H[j]?
 | [],xs,xs',H,_,h,hl=>by
  simp only[FY] at h;subst h;have:xs'=[]:=by simpa using hl
  subst this;exact⟨O,fun _ _ _=>O,fun _ _=>O⟩
 | i::is,xs,xs',H,hn,h,hl=>by
  obtain⟨x,xr,rfl,hx,hr⟩:=h;have hn':=List.nodup_cons.1 hn;cases xs' with
  | nil=>simp at hl
  | cons y ys =>
   have hlt:i<H.length:=(List.getElem?_eq_some_iff.1 hx).1;obtain⟨h1,h2,h3⟩:=Sg (H:=H.set i y) hn'.2 (Rw hn'.1 hr) (by simpa using hl);refine⟨⟨y,ys,O,by rw[LQ,h3 i hn'.1];simp[hlt],h1⟩,fun ks k hk=>?_,fun j hj=>?_⟩
   ·rw[LQ,h2 ks k (fun q hq=>hk q (by simp[hq])),Ph _ _ _ (hk i Ap)]
   simp at hj;rw[LQ,h3 j hj.2,List.getElem?_set_ne (fun e=>hj.1 e.symm)]
theorem Mk {is:List Nat}{xs xs' H:List α}(hn:is.Nodup) (h:FY H is xs) (hl:xs'.length=xs.length):(LQ H is xs').Perm (xs'++C8 is 0 H):=by
 obtain⟨h1,h2,_⟩:=Sg hn h hl;have:=Da hn h1
 rwa [h2 is 0 (fun i hi=>by simpa using hi)] at this
end
def jk (τ:Nat→AV) (x:AV):List Nat→Prop
 | []=>True
 | t::r=>τ t=x∧jk τ x r
theorem D6 {τ:Nat→AV}{x:AV}:∀{ts:List Nat},jk τ x ts→∀t∈ts,τ t=x
 | [],_,t,h=>by simp at h
 | a::r,h,t,ht=>by
  rcases List.mem_cons.1 ht with rfl | ht
  ·exact h.1
  exact D6 h.2 t ht
section
variable {P:Program}{S:Br}{a T n b i:Nat}{cs:List AV}{v:AV}
theorem BB (hT:EE P T=some (true,n)) (ha:S.τ a= .ptr b 0) (hi:S.H[i]?=some (.box b cs)) (hn:cs.length=n):gT P S (.cell a T) (.agg cs):=by
 obtain⟨d,h1,h2,h3⟩:=Fb hT;exact⟨b,cs,i,ha,hi,.inl ⟨d,h1,h2,by rw[h3,hn],rfl⟩⟩
theorem Gp (hT:EE P T=some (false,n)) (ha:S.τ a= .ptr b 0) (hi:S.H[i]?=some (.box b [v])):gT P S (.cell a T) v:=by
 obtain⟨d,h1,h2,h3⟩:=Fb hT;exact⟨b,[v],i,ha,hi,.inr ⟨d,h1,h2,O⟩⟩
end
section
variable {P:Program}{dst:Option Tmp}{ty:TypeId}{pos:String}{aft:Array Edge}{g:Option (Nat×Bool)}{ρ:Operand→AV}{H Hs Hs':List BJ}{x y z:Operand}{v:AV}{c:Call}{f:Operand}{fid:FuncId}{first caps A:List AV}
theorem DU.permD {o:Oper}{H H' H'':List BJ}(h:Dp P o ρ H v H') (hp:H'.Perm H''):Dp P o ρ H v H'':=by
 intro r F S a w hs hH hρ hd;have:=h r F S a w hs hH hρ hd;refine MJ this ?_ ?_
 ·rintro a' w' ⟨v',H1,F',⟨rfl,rfl⟩,hs',ht⟩;exact⟨v',H'',F',⟨O,O⟩,⟨hs'.size,hs'.tmp,hs'.heap.perm hp,hs'.defs⟩,{ ht with keys:=fun o ho=>ht.keys o (hp.mem_iff.2 ho) }⟩
 rintro e a' w' ⟨v',H1,F',u,h,_⟩;exact h.elim
theorem B8 (is:List Nat) (hc:c.callee= .value f) (hf:(ρ f= .p (.fn fid)∧first=[]∧caps=[])∨ρ f= .fn (.func fid) first caps) (h:Bq P fid A Hs (GW v Hs')) (hg:FY H is Hs) (hn:is.Nodup) (hl:Hs'.length=Hs.length) (hA:first++c.args.toList.map ρ++caps=A∨(first++c.args.toList.map ρ++caps).map norm=A) :
  Dp P ⟨dst,.call c,ty,pos,aft,g⟩ ρ H v (LQ H is Hs') :=
 DU.permD (jP hc hf (Da hn hg) h hA) (Mk hn hg hl).symm
theorem gW (hc:c.callee= .value f) (hf:ρ f= .fn (.func fid) first caps) (h:Ec P fid A v) (hA:first++c.args.toList.map ρ++caps=A∨(first++c.args.toList.map ρ++caps).map norm=A) :
  Dp P ⟨dst,.call c,ty,pos,aft,g⟩ ρ H v H:=by
 refine(GO (H:=H) (Hs:=[]) (Hf:=H) hc (.inr hf) (A:=A) Ap h hA).mono ?_;rintro r H' ⟨Hs',h1,rfl⟩;cases r with
 | val v'=>obtain⟨rfl,rfl⟩:=h1;exact⟨rfl,rfl⟩
 | panic v'=>exact h1
theorem CQ {T T2 e e2:TypeId}{sz bytes n2 n3 c i n:Nat}{o:Option Nat}{rows rows' rows2:List (List PV)}{zv:Value}(hT:F3 P T=some (e,sz,bytes)) (hT2:F3 P T2=some (e2,n2,n3)) (hz:zeroOf P e=some zv) (hzs:zv.cells.size=sz) (hb0:(Nat.blt 0 sz&&Nat.blt 0 bytes)=true)
  (hx:ρ x= .vs o n c) (hn:n=rows.length) (hi:H[i]?=some (.vec o sz rows c)) (hy:norm (ρ y)= .p (.lst rows')) (hsol:∀r∈rows',EM sz r) (hroom:2*(rows.length+rows'.length)*bytes≤281474976710656) (h2:rows++rows'=rows2) :
  DU P ⟨dst,.call { callee:= .builtin .append,args:=#[x,y],argTypes:=#[T,T2] },ty,pos,aft,g⟩ ρ H (Oa i sz rows2 H):=by
 subst h2;exact Rk hT hT2 hz hzs hb0 hx hn hi hy hsol hroom
theorem T9 {F:Nat→Prop}{w:World}{u:Value}(h:CH F w (.p .nils) u):CH F w (.vs none 0 0) u:=by
 simp only[CH,CN] at *;exact⟨Aq,Aq,none,h⟩
theorem XA {α : Type} : ∀ {us cs : List α}, us.length = cs.length → splice cs 0 us = us := by
 have key : ∀ (us : List α) (pre cs : List α), us.length = cs.length → splice (pre ++ cs) pre.length us = pre ++ us := by
  intro us
  induction us with
  | nil => intro pre cs h; have : cs = [] := by simpa using h.symm
           subst this; simp [splice]
  | cons u us ih =>
   intro pre cs h
   cases cs with
   | nil => simp at h
   | cons c cs =>
    simp only [splice]
    have := ih (pre ++ [u]) cs (by simpa using h)
    have e : (pre ++ c :: cs).set pre.length u = pre ++ [u] ++ cs := by simp
    rw [e]
    simpa using this
 intro us cs h
 exact key us [] cs h
theorem CY {T:TypeId}{bl:Bool}{n b i:Nat}{cs us:List AV}(hT:EE P T=some (bl,n+1)) (hx:ρ x= .ptr b 0) (hi:H[i]?=some (.box b cs)) (hy:Ej (ρ y)=some us) (hn:us.length=n+1)
  (ho:cs.length=n+1) (h1:us.all one=true):Dp P ⟨dst,.store T x y,ty,pos,aft,g⟩ ρ H (.p .any) (H.set i (.box b us)):=by
 have:=J2 (P:=P) (dst:=dst) (ty:=ty) (pos:=pos) (aft:=aft) (g:=g) hT hx hi hy hn (by rw[ho];simp) h1
 rwa [XA (by rw[hn,ho])] at this
theorem EN {T:TypeId}{bl:Bool}{b i j sz c:Nat}{rows rows2:List (List PV)}{us:List AV}{r:List PV}(hT:EE P T=some (bl,sz)) (hpos:Nat.blt 0 sz=true) (hx:ρ x= .ptr b (j*sz)) (hi:H[i]?=some (.vec (some b) sz rows c)) (hj:j<rows.length) (hy:Ej (ρ y)=some us) (hp:Gf (us.map dn)=some r) (hrl:r.length=sz) (h1:us.all one=true) (h2:rows.set j r=rows2) :
  Dp P ⟨dst,.store T x y,ty,pos,aft,g⟩ ρ H (.p .any) (H.set i (.vec (some b) sz rows2 c)):=by
 subst h2;exact SP hT hpos hx hi hj hy hp hrl h1
theorem Lp {T e:TypeId}{sz bytes:Nat}{m:Int}{zs:List Value}{zv:Value}{zr:List PV}{rows2:List (List PV)}(hT:F3 P T=some (e,sz,bytes)) (hz:zeroOf P e=some zv) (hzs:zv.cells=⟨zs⟩) (hsz:zs.length=sz) (hpos:0<sz) (hp:Gf ((zs.map Gv).map dn)=some zr)
  (hx:ρ x= .p (.int .i64 m)) (hy:ρ y= .p (.int .i64 m)) (h0:0≤m) (hm:bytes*m≤281474976710656) (hm2:m≤9223372036854775807) (h2:List.replicate m.toNat zr=rows2) :
  DU P ⟨dst,.makeSlice T x y,ty,pos,aft,g⟩ ρ H (MG sz rows2 H):=by
 subst h2;exact SS hT hz hzs hsz hpos hp hx hy h0 hm hm2
theorem Ca {T e:TypeId}{sz bytes lo hi:Nat}{rows rows2:List (List PV)}{l h:Option Operand}(hT:F3 P T=some (e,sz,bytes)) (hx:ρ x= .p (.lst rows)) (hr:∀r∈rows,r.length=sz)
  (hl:match l with | none=>lo=0 | some y=>∃k,ρ y= .p (.int k lo)) (hh:match h with | none=>hi=rows.length | some y=>∃k,ρ y= .p (.int k hi)) (h1:lo≤hi) (h2:hi≤rows.length) (h3:(rows.take hi).drop lo=rows2) :
  Dp P ⟨dst,.slice T x l h none,ty,pos,aft,g⟩ ρ H (.p (.lst rows2)) H:=by
 subst h3;exact Zg hT hx hr hl hh h1 h2
end
section
variable {P:Program}{r:Option Nat}{ops:Array Oper}{Q:C2→Br→Prop}{k:Nat}{n:Nat}{τ:Nat→AV}{H H':List BJ}{D:List ES}{dst:Option Tmp}{op:Op}{ty:TypeId}{pos:String}{aft:Array Edge}{v:AV}
theorem ko (ho:ops[k]?=some ⟨dst,op,ty,pos,aft,none⟩) (hd:Gm dst n=true) (h:DU P ⟨dst,op,ty,pos,aft,none⟩ (ev τ) H (ep H))
  (next:∀b,AL P r ops (k+1) ⟨n,put τ dst (.map b),.map b (EJ [])::H,D⟩ Q):AL P r ops k ⟨n,τ,H,D⟩ Q :=
 GI (S:=⟨n,τ,H,D⟩) ho Ai (Ii hd) h (fun v H' ⟨b,h1,h2⟩=>by subst h1;subst h2;exact next b) (fun _ _ h=>h.elim)
end
theorem leH {is:List Nat}{H H1 H':List BJ}(h:Pu is 0 H=H1) (w:F4 H1 H'):kC H H':=⟨H1,B4 h,w⟩
theorem Df {x y:AV}(h:norm x=y):Rh x y:=fun _ _ _ hr=>h▸hr.norm
theorem C7:F4 [] []:=rfl
theorem wl {o o':BJ}{l l':List BJ}(h:ME o o') (r:F4 l l'):F4 (o::l) (o'::l'):=⟨o',l',rfl,h,r⟩
theorem on {b:Nat}{cs cs':List AV}(h:cs.map dn=cs'):ME (.box b cs) (.box b cs'):=⟨rfl,fun F w hr=>by
 obtain⟨vs,T,h1,h2⟩:=hr;exact⟨vs,T,h1,h▸KY h2⟩⟩
theorem BT {n:Nat}{τ:Nat→AV}{H:List BJ}{D:List ES}{i b:Nat}{cs:List AV}(hi:H[i]?=some (.box b cs)):Ia ⟨n,τ,H,D⟩ ⟨n,τ,H.set i (.box b (cs.map dn)),D⟩:=by
 intro F a w hs;refine⟨F,⟨hs.size,hs.tmp,?_,hs.defs⟩,?_⟩
 ·have hk:=GB (x':= .box b (cs.map dn)) hi rfl;refine⟨fun o ho c hc=>?_,by show List.Nodup _;rw[hk];exact hs.heap.nodup,fun o ho=>?_,hs.heap.bd⟩
  ·rcases Dh ho with rfl | ⟨j,_,hj⟩
   ·exact hs.heap.sub _ (List.mem_of_getElem? hi) c hc
   exact hs.heap.sub _ (List.mem_of_getElem? hj) c hc
  rcases Dh ho with rfl | ⟨j,_,hj⟩
  ·exact(on O).2 F w (hs.heap.obj _ (List.mem_of_getElem? hi))
  exact hs.heap.obj _ (List.mem_of_getElem? hj)
 refine { Trans.refl (F:=F) (H:=H) (w:=w) with keys:=fun o ho c hc=>?_ };rcases Dh ho with rfl | ⟨j,_,hj⟩
 ·exact .inl ⟨_,List.mem_of_getElem? hi,hc⟩
 exact .inl ⟨_,List.mem_of_getElem? hj,hc⟩
theorem EB {n:Nat}{τ:Nat→AV}{H:List BJ}{D:List ES}(t:Nat):Ia ⟨n,τ,H,D⟩ ⟨n,put τ (some t) (norm (τ t)),H,D⟩:=SH fun _ _ _ h=>h.norm
theorem ob {b:Nat}{cs cs':List AV}(h:cs=cs'):ME (.box b cs) (.box b cs'):=oe (by rw[h])
theorem om {b:Nat}{l l':List (PV×AV)}(h:l=l'):ME (.map b l) (.map b l'):=oe (by rw[h])
def ZY (mkv:AV→AV) (sz:Nat) (rows:List (List PV)):ET→List BJ→Prop
 | .val v,H'=>∃o c,v=mkv (.vs o rows.length c)∧H'=[.vec o sz rows c]
 | .panic _,_=>False
section
variable {P:Program}{r:Option Nat}{ops:Array Oper}{Q:C2→Br→Prop}{k:Nat}{n:Nat}{τ:Nat→AV}{H H':List BJ}{D:List ES}{dst:Option Tmp}{op:Op}{ty:TypeId}{pos:String}{aft:Array Edge}{v:AV}
theorem NB {c:Call}{f:Operand}{fid:FuncId}{first caps:List AV}{A:List AV}{mkv:AV→AV}{sz:Nat}{rows:List (List PV)}
  (ho:ops[k]?=some ⟨dst,.call c,ty,pos,aft,none⟩) (hd:Gm dst n=true)
  (hc:c.callee= .value f) (hf:(ev τ f= .p (.fn fid)∧first=[]∧caps=[])∨ev τ f= .fn (.func fid) first caps) (h:Bq P fid A [] (ZY mkv sz rows)) (hA:first++c.args.toList.map (ev τ)++caps=A∨(first++c.args.toList.map (ev τ)++caps).map norm=A)
  (next:∀o cp,AL P r ops (k+1) ⟨n,put τ dst (mkv (.vs o rows.length cp)),.vec o sz rows cp::H,D⟩ Q):AL P r ops k ⟨n,τ,H,D⟩ Q :=
 Iz ho hd hc hf (Hs:=[]) (Hf:=H) Ap h hA (fun v H' ⟨o,cp,h1,h2⟩=>by subst h1;subst h2;exact next o cp) (fun _ _ h=>h.elim)
end
theorem Xb {P:Program}{f:FuncId}{args:List AV}{pre post:List AV}{sz:Nat}{rows:List (List PV)}(h:Bq P f args [] (ZY (fun v=> .tup (pre++v::post)) sz rows)) (hb:∀x∈pre++post,∀F F' w v,DY F w F' w→CH F w x v→CH F' w x v) :
  Ec P f args (.tup (pre++ .p (.lst rows)::post)):=by
 refine⟨h.1,fun F w vs hH ha=>(h.2 F w vs hH ha).mono ?_⟩;rintro e w' ⟨r,H',F',hR,he,hH',ht⟩;cases r with
 | panic v=>exact hR.elim
 | val v =>
  obtain⟨o,c,rfl,rfl⟩:=hR;obtain⟨u,rfl,hu⟩:=he;have hbd:∀b,o=some b→b<w'.heap.size:=fun b hb=>hH'.bd b (hH'.sub _ (List.mem_cons_self ..) b (by rw[←hb];rfl));have st:DY F' w' (fun b=>F' b∧o≠some b) w':=⟨Nat.le_refl _,fun _ _ _=>rfl,fun _ h _ h'=>h h'.1⟩;have hob:=hH'.obj _ (List.mem_cons_self ..);refine⟨.val (.tup (pre++ .p (.lst rows)::post)),[],fun b=>F' b∧o≠some b,⟨O,O⟩,⟨u,O,?_⟩,?_,?_⟩
  ·simp only[CH] at hu ⊢;obtain⟨us,hus,hr⟩:=hu;refine⟨us,hus,?_⟩;have key:∀(pre:List AV) (us:List Value),(∀x∈pre++post,∀F F' w v,DY F w F' w→CH F w x v→CH F' w x v)→B1 F' w' (pre++ .vs o rows.length c::post) us→B1 (fun b=>F' b∧o≠some b) w' (pre++ .p (.lst rows)::post) us:=by
    intro pre
    induction pre with
    | nil =>
     intro us hb hr;simp only[List.nil_append,B1] at hr ⊢;obtain⟨u,us',rfl,h1,h2⟩:=hr;refine⟨u,us',O,K2 hbd hob h1 _ st (fun b hb h=>h.2 hb),?_⟩;exact B1.mono st _ _ h2
    | cons x pre ih =>
     intro us hb hr;simp only[List.cons_append,B1] at hr ⊢;obtain⟨u,us',rfl,h1,h2⟩:=hr;exact⟨u,us',rfl,hb x Ap _ _ _ _ st h1,ih us' (fun y hy=>hb y (by simp at hy ⊢;rcases hy with h | h<;>simp[h])) h2⟩
   exact key pre us hb hr
  ·exact⟨fun _ h=>by simp at h,by simp,fun _ h=>by simp at h,fun b hb=>hH'.bd b hb.1⟩
  refine⟨ht.size,fun b hb hn=>ht.same b hb hn,fun b hb hn=>⟨ht.keep b hb hn,?_⟩,fun b hb=>ht.fresh b hb.1,fun _ h=>by simp at h,ht.os,ht.out,ht.tape⟩;intro ho;subst ho;have:=hH.bd b hb;rcases ht.keys _ (List.mem_cons_self ..) b rfl with ⟨o',ho',_⟩ | h
  ·simp at ho'
  omega
theorem VX (c:AV) (F F':Nat→Prop) (w:World) (v:Value) (st:DY F w F' w) (h:CH F w c v):CH F' w c v:=CH.mono st _ _ h
def GS:List AV→List AV→Prop
 | [],ys=>ys=[]
 | x::xs,ys=>∃y ys',ys=y::ys'∧Rh x y∧GS xs ys'
theorem Et:GS [] []:=rfl
theorem aw {x y:AV}{xs ys:List AV}(h:Rh x y) (r:GS xs ys):GS (x::xs) (y::ys):=⟨y,ys,rfl,h,r⟩
theorem Ou {F:Nat→Prop}{w:World}:∀{xs ys:List AV}{vs:List Value},GS xs ys→B1 F w xs vs→B1 F w ys vs
 | [],ys,vs,h,hr=>by simp only[GS] at h;subst h;exact hr
 | x::xs,ys,vs,h,hr=>by
  obtain⟨y,ys',rfl,h1,h2⟩:=h;simp only[B1] at hr ⊢;obtain⟨u,us,rfl,r1,r2⟩:=hr;exact⟨u,us,O,h1 F w u r1,Ou h2 r2⟩
theorem I4:Rh (.p .nils) (.vs none 0 0):=fun _ _ _ h=>T9 h
theorem Bq.args {P:Program}{f:FuncId}{args A:List AV}{H:List BJ}{R:ET→List BJ→Prop}(h:Bq P f A H R) (hA:GS args A):Bq P f args H R :=
 ⟨h.1,fun F w vs hH ha=>h.2 F w vs hH (Ou hA ha)⟩
section
variable {P:Program}{r:Option Nat}{ops:Array Oper}{Q:C2→Br→Prop}{k:Nat}{n:Nat}{τ:Nat→AV}{H Hs:List BJ}{D:List ES}{dst:Option Tmp}{op:Op}{ty:TypeId}{pos:String}{aft:Array Edge}{v:AV}{c:Call}{f:Operand}{fid:FuncId}{first caps A:List AV}{R:ET→List BJ→Prop}
theorem Ty {S:Br}{H':List BJ}(hp:S.H.Perm H'):Ia S ⟨S.n,S.τ,H',S.D⟩:=fun F a w hs =>
 ⟨F,⟨hs.size,hs.tmp,hs.heap.perm hp,hs.defs⟩,{ Trans.refl (F:=F) (H:=S.H) (w:=w) with keys:=fun o ho b hb=> .inl ⟨o,hp.mem_iff.2 ho,hb⟩ }⟩
theorem eh (is:List Nat) (ho:ops[k]?=some ⟨dst,.call c,ty,pos,aft,none⟩) (hd:Gm dst n=true)
  (hc:c.callee= .value f) (hf:(ev τ f= .p (.fn fid)∧first=[]∧caps=[])∨ev τ f= .fn (.func fid) first caps) (h:Bq P fid A Hs R) (hg:FY H is Hs) (hn:is.Nodup) (hA:GS (first++c.args.toList.map (ev τ)++caps) A)
  (next:∀v Hs',R (.val v) Hs'→Hs'.length=Hs.length∧AL P r ops (k+1) ⟨n,put τ dst v,LQ H is Hs',D⟩ Q) (pan:∀v Hs',R (.panic v) Hs'→Q (.panic v) ⟨n,τ,Hs'++C8 is 0 H,D⟩):AL P r ops k ⟨n,τ,H,D⟩ Q :=
 Iz ho hd hc hf (Da hn hg) (h.args hA) (.inl rfl) (fun v H' hR=>by
  obtain⟨hl,hn'⟩:=next v H' hR;exact B3 (Ty (S:=⟨n,put τ dst v,H'++C8 is 0 H,D⟩) (Mk hn hg hl).symm) hn') pan
theorem eS (is:List Nat) (ho:ops[k]?=some ⟨dst,.call c,ty,pos,aft,none⟩) (hd:Gm dst n=true)
  (hc:c.callee= .value f) (hf:(ev τ f= .p (.fn fid)∧first=[]∧caps=[])∨ev τ f= .fn (.func fid) first caps) (h:Bq P fid A Hs R) (hg:FY H is Hs) (hn:is.Nodup) (hA:GS (first++c.args.toList.map (ev τ)++caps) A)
  (next:∀v Hs',R (.val v) Hs'→AL P r ops (k+1) ⟨n,put τ dst v,Hs'++C8 is 0 H,D⟩ Q) (pan:∀v Hs',R (.panic v) Hs'→Q (.panic v) ⟨n,τ,Hs'++C8 is 0 H,D⟩):AL P r ops k ⟨n,τ,H,D⟩ Q :=
 Iz ho hd hc hf (Da hn hg) (h.args hA) (.inl rfl) next pan
theorem Hu {sz:Nat}:Ia ⟨n,τ,H,D⟩ ⟨n,τ,.vec none sz [] 0::H,D⟩:=by
 intro F a w hs;have hH:HRel F (.vec none sz [] 0::H) w:=⟨fun o ho b hb=>by
   rcases List.mem_cons.1 ho with rfl | ho
   ·cases hb
   ·exact hs.heap.sub o ho b hb,by simpa [List.filterMap_cons,BJ.key] using hs.heap.nodup,fun o ho=>by
   rcases List.mem_cons.1 ho with rfl | ho
   ·exact⟨O,O⟩
   exact hs.heap.obj o ho,hs.heap.bd⟩
 exact⟨F,⟨hs.size,hs.tmp,hH,hs.defs⟩,⟨Nat.le_refl _,fun _ _ _=>O,fun _ h _=>h,fun _ h=> .inl h,fun o ho b hb=>by
   rcases List.mem_cons.1 ho with rfl | ho
   ·cases hb
   exact .inl ⟨o,ho,hb⟩,O,O,O⟩⟩
end
section
variable {P:Program}{r:Option Nat}{ops:Array Oper}{Q:C2→Br→Prop}{k:Nat}{n:Nat}{τ:Nat→AV}{H:List BJ}{D:List ES}{o:Option Nat}{sz cp i:Nat}{rows:List (List PV)}
theorem WW {F:Nat→Prop}{w:World}{a:Act}(hs:Dl F ⟨n,τ,H,D⟩ a w) (hi:H[i]?=some (.vec o sz rows cp)) (hne:0<rows.length):∃b,o=some b:=by
 have:=hs.heap.obj _ (List.mem_of_getElem? hi);cases o with
 | none=>obtain⟨h,_⟩:=this;simp[h] at hne
 | some b=>exact⟨b,rfl⟩
theorem MX (hi:H[i]?=some (.vec o sz rows cp)) (hne:0<rows.length) (next:∀b,o=some b→AL P r ops k ⟨n,τ,H,D⟩ Q):AL P r ops k ⟨n,τ,H,D⟩ Q:=fun F a w hs=>by
 obtain⟨b,hb⟩:=WW hs hi hne;exact next b hb F a w hs
theorem L2 {c:Code}(hi:H[i]?=some (.vec o sz rows cp)) (hne:0<rows.length) (next:∀b,o=some b→JD P r c ⟨n,τ,H,D⟩ Q):JD P r c ⟨n,τ,H,D⟩ Q:=fun F a w hs=>by
 obtain⟨b,hb⟩:=WW hs hi hne;exact next b hb F a w hs
end
section
variable {P:Program}{dst:Option Tmp}{ty:TypeId}{pos:String}{aft:Array Edge}{g:Option (Nat×Bool)}{ρ:Operand→AV}{H:List BJ}
theorem BM {a:Operand}{T e:TypeId}{n n1 n2:Nat}{rows:List (List PV)}(hT:F3 P T=some (e,n1,n2)) (hx:ρ a= .p (.lst rows)) (hn:rows.length=n) :
  Dp P ⟨dst,.call { callee:= .builtin .len,args:=#[a],argTypes:=#[T] },ty,pos,aft,g⟩ ρ H (.p (.int .i64 n)) H:=NM hT (.inl ⟨rows,hx,hn⟩)
theorem KA {a:Operand}{T e:TypeId}{m n n1 n2 c:Nat}{o:Option Nat}(hT:F3 P T=some (e,n1,n2)) (hx:ρ a= .vs o m c) (hn:m=n) :
  Dp P ⟨dst,.call { callee:= .builtin .len,args:=#[a],argTypes:=#[T] },ty,pos,aft,g⟩ ρ H (.p (.int .i64 n)) H:=NM hT (.inr (.inl ⟨o,c,by rw[hx,hn]⟩))
end
section
variable {P:Program}{dst:Option Tmp}{ty:TypeId}{pos:String}{aft:Array Edge}{g:Option (Nat×Bool)}{ρ:Operand→AV}{H:List BJ}{x y:Operand}
theorem VJ {m n:Int}{T U:TypeId}(hx:ρ x= .p (.int .i64 m)) (hy:ρ y= .p (.int .i64 n)):Dp P ⟨dst,.binOp .mul T x y U,ty,pos,aft,g⟩ ρ H (.p (.int .i64 (wr (m*n)))) H :=
 CV fun F w E hH hE=>by
  have e1:=hE x Ab;have e2:=hE y Ab;rw[hx] at e1;rw[hy] at e2;simp only[CH,CN] at e1 e2;exact⟨.int .i64 (wr (m*n)),by simp[execOp,Sem.run_bind,IY,e1,e2,binOp,Op.intArith],by simp[CH,CN]⟩
end
section
variable {P:Program}{ops:Array Oper}{n:Nat}{τ₀:Nat→AV}{D:List ES}{Q:C2→Br→Prop}{opn:Nat→Bool}{k:Nat}{τ:Nat→AV}{H:List BJ}{rd:W2}{ef:WR}{effs:List Bool}{fx:List (Nat×Sp)}{dst:Option Tmp}{ty:TypeId}{pos:String}{aft:Array Edge}{c:Call}{f:Operand}{fid:FuncId}{first caps A:List AV}{mkv:AV→AV}{sz:Nat}{rows:List (List PV)}
theorem kX (fx':List (Nat×Sp)) (ho:ops[k]?=some ⟨dst,.call c,ty,pos,aft,none⟩) (hn:opn k=true)
  (hc:c.callee= .value f) (hf:(ev τ f= .p (.fn fid)∧first=[]∧caps=[])∨ev τ f= .fn (.func fid) first caps) (h:Bq P fid A [] (ZY mkv sz rows)) (hA:first++c.args.toList.map (ev τ)++caps=A∨(first++c.args.toList.map (ev τ)++caps).map norm=A) (haft:FB ops k (fx'.map (·.1))=true)
  (next:∀o cp,KF ops k H (.vec o sz rows cp::H) rd∧HX k (.eff (mkv (.vs o rows.length cp)) (.vec o sz rows cp::H)) fx∧Dr P ops n τ₀ D Q opn (k+1) (put τ dst (mkv (.vs o rows.length cp))) (.vec o sz rows cp::H) rd ((k,H,.vec o sz rows cp::H)::ef) (true::effs) (fx'++fx)):Dr P ops n τ₀ D Q opn k τ H rd ef effs fx :=
 Od fx' ho hn (GO (H:=H) (Hs:=[]) (Hf:=H) hc hf Ap h hA) haft ⟨_,_,_,⟨none,0,rfl,rfl⟩,rfl⟩ (fun v H' ⟨_,h,_⟩=>h.elim) (fun v H' ⟨Hs',⟨o,cp,h1,h2⟩,h3⟩=>by subst h1;subst h2;subst h3;exact next o cp)
end
section
variable {P:Program}{dst:Option Tmp}{ty:TypeId}{pos:String}{aft:Array Edge}{g:Option (Nat×Bool)}{ρ:Operand→AV}{H Hs Hs':List BJ}{v:AV}{c:Call}{f:Operand}{fid:FuncId}{first caps A:List AV}
theorem GU (hc:c.callee= .value f) (hf:ρ f= .p (.fn fid)) (h:Ec P fid A v) (hA:GS (c.args.toList.map ρ) A):Dp P ⟨dst,.call c,ty,pos,aft,g⟩ ρ H v H:=BF hc hf (h.args hA) rfl
end
end Go.Abs
namespace Go.Eu
open Go.Abs
structure Mv where
 type:Tm
 known:Bool
 value:Tm
 cls:Bool
 deriving Inhabited
def Gl (n:Int):List PV:=[I n]
def Gi (s:ByteArray):List PV:=[.str s]
def tf (b:Bool):List PV:=[.bool b]
def nv (m:Mv):List PV:=BO m.type++(.bool m.known::(BO m.value++[.bool m.cls]))
theorem L9 {ts:List Int}{i:Nat}{t:Int}(h:ts[i]?=some t):(ts.map Gl)[i]?=some (Gl t):=by simp[h]
theorem N2 {ts:List ByteArray}{i:Nat}{t:ByteArray}(h:ts[i]?=some t):(ts.map Gi)[i]?=some (Gi t):=by simp[h]
abbrev MV (m:Mv):AV:= .agg ((nv m).map .p)
abbrev tw (l:List Mv):AV:= .p (.lst (l.map nv))
abbrev tz (l:List Int):AV:= .p (.lst (l.map Gl))
def sM (sz:Nat) {α:Type}(f:α→List PV):Prop:=∀a,EM sz (f a)
theorem HH {α:Type}{sz:Nat}{f:α→List PV}(h:∀a,EM sz (f a)) (l:List α):∀r∈l.map f,EM sz r:=by
 intro r hr;obtain⟨a,_,rfl⟩:=List.mem_map.1 hr;exact h a
theorem Km (t:Tm):EM 5 (BO t):=by
 obtain⟨k,i,n,l,s⟩:=t;refine⟨O,?_⟩;intro c hc;simp[BO] at hc;rcases hc with rfl | rfl | rfl | rfl | rfl<;>simp
theorem Bw (l:List Tm):∀r∈BE l,EM 5 r:=by rw[EU];exact HH Km l
theorem O5 (l:List Int):∀r∈l.map Gl,EM 1 r:=HH (f:=Gl) (fun a=>⟨rfl,by simp[Gl]⟩) l
theorem J9 (l:List ByteArray):∀r∈l.map Gi,EM 1 r:=HH (f:=Gi) (fun a=>⟨rfl,by simp[Gi]⟩) l
theorem GK (l:List CE):∀r∈l.map D1,EM 2 r:=HH (f:=D1) (fun a=>⟨rfl,by simp[D1]⟩) l
theorem MQ (l:List CZ):∀r∈l.map B0,EM 2 r:=HH (f:=B0) (fun a=>⟨rfl,by simp[B0]⟩) l
theorem CF {sz:Nat}{rows:List (List PV)}(h:∀r∈rows,EM sz r):∀r∈rows,r.length=sz:=fun r hr=>(h r hr).1
theorem Jl (a b:List Tm):BE a++BE b=BE (a++b):=by simp[EU]
theorem GJ {α:Type}{f:α→List PV}(a b:List α):a.map f++b.map f=(a++b).map f:=by simp
theorem Sv (l:List Tm) (j:Nat) (x:Tm):(BE l).set j (BO x)=BE (l.set j x):=by simp[EU,List.map_set]
theorem df {α:Type}{f:α→List PV}(l:List α) (j:Nat) (x:α):(l.map f).set j (f x)=(l.set j x).map f:=by simp[List.map_set]
theorem oO (n:Nat) (x:Tm):List.replicate n (BO x)=BE (List.replicate n x):=by simp[EU]
theorem ke {α:Type}{f:α→List PV}(n:Nat) (x:α):List.replicate n (f x)=(List.replicate n x).map f:=by simp
theorem My (l:List Tm) (hi:Nat):((BE l).take hi).drop 0=BE (l.take hi):=by simp[EU,List.map_take]
theorem YA {α:Type}{f:α→List PV}(l:List α) (hi:Nat):((l.map f).take hi).drop 0=(l.take hi).map f:=by simp[List.map_take]
theorem Ju (l:List Tm) (lo:Nat):((BE l).take (BE l).length).drop lo=BE (l.drop lo):=by rw[List.take_length];simp[EU,List.map_drop]
theorem lu {α:Type}{f:α→List PV}(l:List α) (lo:Nat):((l.map f).take (l.map f).length).drop lo=(l.drop lo).map f:=by rw[List.take_length,List.map_drop]
theorem lU (l:List Tm) (lo hi:Nat):((BE l).take hi).drop lo=BE ((l.take hi).drop lo):=by simp[EU,List.map_take,List.map_drop]
theorem HJ {sz:Nat}{r:List PV}(h:EM sz r):(r.map AV.p).all one=true:=by
 simp only[List.all_eq_true];intro x hx;obtain⟨c,hc,rfl⟩:=List.mem_map.1 hx;have:=h.2 c hc;cases c<;>simp_all [one]
theorem E0 (t:Tm):((BO t).map AV.p).all one=true:=HJ (Km t)
theorem eE {r:List PV}(h:∀c∈r,c≠ .nils):(r.map AV.p).map dn=r.map .p:=by
 induction r with
 | nil=>rfl
 | cons c r ih =>
  simp only[List.map_cons];rw[ih fun d hd=>h d (by simp[hd])];have:=h c Ap;cases c<;>simp_all [dn]
theorem KG (t:Tm):Gf (((BO t).map AV.p).map dn)=some (BO t):=by obtain⟨k,i,n,l,s⟩:=t;rfl
end Go.Eu
namespace Go.Eu
def aM (f a:Tm):Tm:= .mk 4 0 ⟨#[]⟩ [] [f,a]
def apply (f:Tm) (xs:List Tm):Tm:=xs.foldl aM f
theorem Rg {f:Tm}{xs:List Tm}{i:Nat}{x:Tm}(h:xs[i]?=some x):apply f (xs.take (i+1))=aM (apply f (xs.take i)) x:=by
 simp[apply,List.take_add_one,h]
def A9:Tm→Tm×List Tm
 | .mk k i n l [f,a]=>if k=4 then ((A9 f).1,(A9 f).2++[a]) else (.mk k i n l [f,a],[])
 | t=>(t,[])
theorem RH {k i:Int}{n:ByteArray}{l:List CZ}{ts:List Tm}(h:k≠4∨((ts.length:Nat):Int)≠2):A9 (.mk k i n l ts)=(.mk k i n l ts,[]):=by
 unfold A9;split
 ·rename_i k' i' n' l' f a e;injection e with e1 e2 e3 e4 e5;subst e1 e2 e3 e4 e5;simp at h;rw[if_neg h]
 rfl
theorem TF {k i:Int}{n:ByteArray}{l:List CZ}{ts:List Tm}{x y:Tm}(h:k=4∧((ts.length:Nat):Int)=2) (hx:ts[0]?=some x) (hy:ts[1]?=some y):A9 (.mk k i n l ts)=((A9 x).1,(A9 x).2++[y]):=by
 obtain⟨rfl,h2⟩:=h
 match ts,h2,hx,hy with
 | [a,b],_,hx,hy =>
  simp at hx hy;subst hx hy;simp[A9]
theorem eQ {ts:List Tm}{x y:Tm}(h:((ts.length:Nat):Int)=2) (hx:ts[0]?=some x) (hy:ts[1]?=some y):ts=[x,y]:=by
 match ts,h,hx,hy with
 | [a,b],_,hx,hy =>
  simp at hx hy;subst hx hy;rfl
theorem Ic:∀(t:Tm),size (A9 t).1+Bb (A9 t).2+(A9 t).2.length=size t
 | .mk k i n l [f,a]=>by
  unfold A9;split
  ·have:=Ic f;simp[size,Bb] at this ⊢;have e:∀(xs:List Tm) (y:Tm),Bb (xs++[y])=Bb xs+size y:=by
    intro xs y
    induction xs with
    | nil=>simp[Bb]
    | cons z zs ih=>simp[Bb,ih];omega
   rw[e];omega
  ·simp[Bb]
 | .mk k i n l []=>by simp[A9,Bb]
 | .mk k i n l [_]=>by simp[A9,Bb]
 | .mk k i n l (_::_::_::_)=>by simp[A9,Bb]
theorem PM (t:Tm):(A9 t).2.length<size t:=by
 have:=Ic t;have:=size_pos (A9 t).1;omega
def Xu (k:Int) (xs:List Tm) (t:Tm):Tm:=xs.foldr (fun a t=> .mk k 0 ⟨#[]⟩ [] [a,t]) t
theorem sd:(∀(p:Prop) [Decidable p],(decide p=true)=p)∧(∀{p:Prop} [Decidable p],decide p=false↔¬p)∧(∀{α:Type} [BEq α] [LawfulBEq α] {a b:α},(a==b)=true↔a=b)∧(∀{α:Type} [BEq α] [LawfulBEq α] {a b:α},(a !=b)=true↔a≠b)∧(∀{α:Type} [BEq α] [LawfulBEq α] {a b:α},(a==b)=false↔a≠b)∧(∀{α:Type} [BEq α] [LawfulBEq α] {a b:α},(a !=b)=false↔a=b)∧(∀{α:Type}(a b:α),(a≠b)=¬(a=b))∧(∀{α:Type} [LT α] {x y:α},x > y↔y<x)∧(∀{α:Type} [LE α] {x y:α},x≥y↔y≤x)∧(∀(b:Bool),(¬(b=true))=(b=false))∧(∀(b:Bool),(¬(b=false))=(b=true))∧(∀(b:Bool),((!b)=true)=(b=false))∧(∀(b:Bool),((!b)=false)=(b=true))∧(∀{a b:Int},¬a<b↔b≤a)∧(∀{a b:Int},¬a≤b↔b<a) :=
 ⟨fun _=>decide_eq_true_eq,decide_eq_false_iff_not,beq_iff_eq,bne_iff_ne,beq_eq_false_iff_ne,bne_eq_false_iff_eq,ne_eq,gt_iff_lt,ge_iff_le,Bool.not_eq_true,Bool.not_eq_false,fun b=>by cases b<;>simp,fun b=>by cases b<;>simp,Int.not_lt,Int.not_le⟩
theorem se:(∀(ts:List Tm),(BE ts).length=ts.length)∧(∀{α β:Type}{ays:List α}{f:α→β},(ays.map f).length=ays.length)∧(∀{α:Type}{n:Nat}{a:α},(List.replicate n a).length=n)∧(∀(a b:Bool),((a||b)=true)=(a=true∨b=true))∧(∀(a b:Bool),((a&&b)=true)=(a=true∧b=true))∧(∀{x y:Bool},(x||y)=false↔x=false∧y=false)∧(∀{x y:Bool},(x&&y)=false↔x=true→y=false) :=
 ⟨BS,List.length_map _,List.length_replicate,Bool.or_eq_true,Bool.and_eq_true,Bool.or_eq_false_iff,Bool.and_eq_false_imp⟩
end Go.Eu
namespace Go.Eu
open Go.Abs
def Oz (i:Int):Tm:= .mk 0 i ⟨#[]⟩ [] []
def Bi:Tm:= .mk 0 0 ⟨#[]⟩ [] []
def Gg (er e:Int):Int:=if er=0 then e else er
def NX (er i:Int):Int:=if i > 65535 then Gg er 24 else er
mutual
def Eo:Tm→Int
 | .mk _ _ _ _ ks=>K9 1 ks
def K9:Int→List Tm→Int
 | n,[]=>n
 | n,t::ts=>K9 (wr (n+Eo t)) ts
end
mutual
def Ev:Tm→Int
 | .mk _ _ _ _ ks=>wr (Jp 0 ks+1)
def Jp:Int→List Tm→Int
 | n,[]=>n
 | n,t::ts=>Jp (max n (Ev t)) ts
end
mutual
def Cf (b fr:Int):Int→Int→Tm→Tm×Int
 | d,er,.mk k i n l ks =>
  if k=0 then
   (if i<wr (fr+d) then (.mk k i n l ks,er)
    else if wr (i+b)<wr (fr+d) then (.mk k i n l ks,Gg er 24)
    else (Oz (wr (i+b)),NX er (wr (i+b))))
  else ((.mk k i n l (DJ b fr k d 0 er ks).1),(DJ b fr k d 0 er ks).2)
def DJ (b fr k:Int):Int→Nat→Int→List Tm→List Tm×Int
 | d,j,er,[]=>([],er)
 | d,j,er,t::ts=>((Cf b fr (d+below k j) er t).1::(DJ b fr k d (j+1) (Cf b fr (d+below k j) er t).2 ts).1,(DJ b fr k d (j+1) (Cf b fr (d+below k j) er t).2 ts).2)
end
mutual
def CD (vs:List Tm):Int→Int→Int→Tm→Tm×Int×Int
 | d,er,nd,.mk k i n l ks =>
  if nd > 4096 then (.mk k i n l ks,er,nd)
  else if k=0∧i≥d∧i - d<(vs.length:Int) then
   ((Cf d 0 0 er (vs.getD (i - d).toNat Bi)).1,(Cf d 0 0 er (vs.getD (i - d).toNat Bi)).2,wr (nd+Eo (vs.getD (i - d).toNat Bi)))
  else if k=0 then
   (if i≥d then (Oz (wr (i - vs.length)),NX er (wr (i - vs.length)),wr (nd+1)) else (.mk k i n l ks,er,wr (nd+1)))
  else ((.mk k i n l (Cd vs k d 0 er (wr (nd+1)) ks).1),(Cd vs k d 0 er (wr (nd+1)) ks).2)
def Cd (vs:List Tm) (k:Int):Int→Nat→Int→Int→List Tm→List Tm×Int×Int
 | d,j,er,nd,[]=>([],er,nd)
 | d,j,er,nd,t::ts=>((CD vs (d+below k j) er nd t).1::(Cd vs k d (j+1) (CD vs (d+below k j) er nd t).2.1 (CD vs (d+below k j) er nd t).2.2 ts).1,
   (Cd vs k d (j+1) (CD vs (d+below k j) er nd t).2.1 (CD vs (d+below k j) er nd t).2.2 ts).2)
end
def CT (t:Tm) (vs:List Tm) (d:Int):Tm×Int :=
 if (CD vs (min d 65536) 0 0 t).2.2 > 4096 then (Bi,5)
 else if (CD vs (min d 65536) 0 0 t).2.1≠0 then (Bi,(CD vs (min d 65536) 0 0 t).2.1)
 else if Ev (CD vs (min d 65536) 0 0 t).1 > 200 then (Bi,7)
 else ((CD vs (min d 65536) 0 0 t).1,0)
structure EL where
 steps:Int
 nodes:Int
 forms:Int
 limit:Int
 over:Bool
 deriving Inhabited
def G6 (c:EL):List PV:=[I c.steps,I c.nodes,I c.forms,I c.limit,.bool c.over]
def EL.form (c:EL) (t:Tm) (e:Int):EL :=
 { c with forms:=wr (c.forms+Eo t),over:=c.over||(e !=0||decide (c.steps > c.limit)||decide (c.nodes > wr (2*c.limit))||decide (wr (c.forms+Eo t) > wr (40*c.limit))||decide (Eo t > 2000)||decide (Ev t > 95)) }
def EL.sized (c:EL) (t:Tm):EL:={ c with over:=c.over||(decide (Eo t > 2000)||decide (Ev t > 95)) }
def Je:EL:=⟨0,0,0,1000,false⟩
end Go.Eu
namespace Go.Eu
theorem Ch {α:Type}{l:List α}{i:Nat}{x:α}(h:l[i]?=some x):l.drop i=x::l.drop (i+1):=by
 have hlt:=(List.getElem?_eq_some_iff.1 h).1;have e:l[i]=x:=(List.getElem?_eq_some_iff.1 h).2;rw[List.drop_eq_getElem_cons hlt,e]
theorem Oo {α:Type}{l:List α}{i:Nat}{x d:α}(h:l[i]?=some x):l.getD i d=x:=by simp[List.getD,h]
end Go.Eu
namespace Go.Eu
open Go.Abs
theorem Xf (n:Int):I2 (wr n):=by
 unfold I2 wr IntKind.wrap;have:IntKind.i64.min= -9223372036854775808:=rfl;have:IntKind.i64.max=9223372036854775807:=rfl;simp[IntKind.signed,IntKind.bits];omega
theorem fg (i:Int):Nd (Oz (wr i)):=by
 have:=Xf i;exact⟨by decide,by decide,by simp,by decide,trivial,⟨by decide,by decide⟩,this⟩
theorem Qj:Nd Bi:=⟨by decide,by decide,by simp,by decide,trivial,⟨by decide,by decide⟩,⟨by decide,by decide⟩⟩
mutual
theorem Tq (b fr:Int):∀(t:Tm) (d er:Int),Nd t→Nd (Cf b fr d er t).1
 | .mk k i n l ks,d,er,h=>by
  unfold Cf;split
  ·split
   ·exact h
   split
   ·exact h
   exact fg _
  simp only[Nd] at h ⊢;obtain⟨h1,h2,h3,h4,h5,h6⟩:=h;obtain⟨e1,e2⟩:=SF b fr k ks d 0 er h5;exact⟨h1,h2,h3,by rw[e1];exact h4,e2,h6⟩
theorem SF (b fr k:Int):∀(ts:List Tm) (d:Int) (j:Nat) (er:Int),Ld ts→(DJ b fr k d j er ts).1.length=ts.length∧Ld (DJ b fr k d j er ts).1
 | [],d,j,er,h=>by simp[DJ,Ld]
 | t::ts,d,j,er,h=>by
  simp only[DJ,Ld,List.length_cons] at *;have:=Tq b fr t (d+below k j) er h.1;obtain⟨e1,e2⟩:=SF b fr k ts d (j+1) (Cf b fr (d+below k j) er t).2 h.2;exact⟨by rw[e1],this,e2⟩
end
theorem cO {vs:List Tm}(h:Ld vs) (i:Nat):Nd (vs.getD i Bi):=by
 cases e:vs[i]? with
 | none=>simp[List.getD,e];exact Qj
 | some x=>rw[Oo e];exact DW h e
mutual
theorem PU:∀(t:Tm) (vs:List Tm) (d er nd:Int),Nd t→Ld vs→Nd (CD vs d er nd t).1
 | .mk k i n l ks,vs,d,er,nd,h,hv=>by
  unfold CD;split
  ·exact h
  split
  ·exact Tq _ _ _ _ _ (cO hv _)
  split
  ·split
   ·exact fg _
   exact h
  simp only[Nd] at h ⊢;obtain⟨h1,h2,h3,h4,h5,h6⟩:=h;obtain⟨e1,e2⟩:=Qk ks vs k d 0 er (wr (nd+1)) h5 hv;exact⟨h1,h2,h3,by rw[e1];exact h4,e2,h6⟩
theorem Qk:∀(ts:List Tm) (vs:List Tm) (k d:Int) (j:Nat) (er nd:Int),Ld ts→Ld vs→(Cd vs k d j er nd ts).1.length=ts.length∧Ld (Cd vs k d j er nd ts).1
 | [],vs,k,d,j,er,nd,h,hv=>by simp[Cd,Ld]
 | t::ts,vs,k,d,j,er,nd,h,hv=>by
  simp only[Cd,Ld,List.length_cons] at *;have:=PU t vs (d+below k j) er nd h.1 hv;obtain⟨e1,e2⟩:=Qk ts vs k d (j+1) (CD vs (d+below k j) er nd t).2.1 (CD vs (d+below k j) er nd t).2.2 h.2 hv;exact⟨by rw[e1],this,e2⟩
end
theorem aH (t:Tm) (vs:List Tm) (d:Int) (h:Nd t) (hv:Ld vs):Nd (CT t vs d).1:=by
 unfold CT;split
 ·exact Qj
 split
 ·exact Qj
 split
 ·exact Qj
 exact PU t vs _ _ _ h hv
theorem Lk {o:Option Nat}{c:Nat}(l:List Tm) {l':List Tm}(h:l=l'):AV.vs o (BE l).length c= .vs o (BE l').length c:=by rw[h]
theorem Gb {α:Type}{f:α→List PV}{o:Option Nat}{c:Nat}(l:List α) {l':List α}(h:l=l'):AV.vs o (l.map f).length c= .vs o (l'.map f).length c:=by rw[h]
theorem J5 {o:Option Nat}{sz c:Nat}(l:List Tm) {l':List Tm}(h:l=l'):ME (.vec o sz (BE l) c) (.vec o sz (BE l') c):=oe (by rw[h])
theorem Fk {α:Type}{f:α→List PV}{o:Option Nat}{sz c:Nat}(l:List α) {l':List α}(h:l=l'):ME (.vec o sz (l.map f) c) (.vec o sz (l'.map f) c):=oe (by rw[h])
theorem DO {o:Option Nat}{c:Nat}(l:List Tm) {l':List Tm}(h:l.length=l'.length):AV.vs o (BE l).length c= .vs o (BE l').length c:=by rw[BS,BS,h]
theorem Tw {α:Type}{f:α→List PV}{o:Option Nat}{c:Nat}(l:List α) {l':List α}(h:l.length=l'.length):AV.vs o (l.map f).length c= .vs o (l'.map f).length c:=by rw[List.length_map,List.length_map,h]
mutual
def XN:List Int→Tm→List Int
 | l,.mk k i _ _ ks=>if k=12 then (if i∈l then l else Uu (l++[i]) ks) else Uu l ks
def Uu:List Int→List Tm→List Int
 | l,[]=>l
 | l,t::ts=>Uu (XN l t) ts
end
def uC (l:List Int) (n:Int):Bool:=decide (n∈l)
def dk (fr:Int):Nat→Nat→List Tm
 | _,0=>[]
 | m,k+1=>Oz (fr+(m+k:Nat))::dk fr m k
def my (n fr:Int):List Tm:=if n<1∨n > 4096∨fr<0 then [] else dk fr 0 n.toNat
def nK:List Int→List Tm→Option (List Int)
 | l,[]=>some l
 | l,.mk k i _ _ _::ts=>if k≠0∨i∈l then none else nK (l++[i]) ts
def sr (t:Tm):Int×List Int×Bool :=
 if (A9 t).1.kind≠12 then (0,[],false)
 else match nK [] (A9 t).2 with
  | none=>(0,[],false)
  | some l=>((A9 t).1.index,l,true)
def tX (ms:List Mv) (ctx:List Tm) (t:Tm) (cls:Bool):List Mv×Tm×Int :=
 if ms.length≥2000 then ([],Bi,6)
 else if Eo (Xu 6 ctx t) > 4096 then ([],Bi,5)
 else if Ev (Xu 6 ctx t) > 200 then ([],Bi,7)
 else (ms++[⟨Xu 6 ctx t,false,Bi,cls⟩],apply (.mk 12 ms.length ⟨#[]⟩ [] []) (my ctx.length 0),0)
end Go.Eu
namespace Go.Eu
end Go.Eu
namespace Go.Eu
open Go.Abs
theorem Eb {n:Int}(h:I2 n):wr n=n:=T4 (k:= .i64) h.1 h.2
mutual
theorem TM (B:Int) (hB:B≤4611686018427387904):∀(t:Tm),(size t:Int)<B→Eo t=size t
 | .mk k i n l ks,h=>by
  have h':(1:Int)+Bb ks<B:=by rw[size] at h;omega
  show K9 1 ks=_;rw[SA B hB ks 1 Ao h',size];omega
theorem SA (B:Int) (hB:B≤4611686018427387904):∀(ts:List Tm) (n:Int),0≤n→n+Bb ts<B→K9 n ts=n+Bb ts
 | [],n,_,_=>by simp[K9,Bb]
 | t::ts,n,h0,h=>by
  simp only[Bb,K9] at *;rw[TM B hB t (by have:=size_pos t;omega),Eb ⟨by omega,by omega⟩,SA B hB ts (n+size t) Ao Ao];omega
end
theorem No {t:Tm}(h:(size t:Int)<4611686018427387904):Eo t=size t:=TM _ (Int.le_refl _) t h
mutual
def Wt:Tm→Prop
 | .mk k i _ _ ks=>(ks.length:Int)=arity k∧(k=12→0≤i)∧Nl ks
def Nl:List Tm→Prop
 | []=>True
 | t::ts=>Wt t∧Nl ts
end
theorem QR:∀{ts:List Tm}{i:Nat}{t:Tm},Nl ts→ts[i]?=some t→Wt t
 | [],i,t,_,h=>by simp at h
 | a::ts,0,t,hn,h=>by simp at h;subst h;exact hn.1
 | a::ts,i+1,t,hn,h=>by simp at h;exact QR hn.2 h
theorem I3 (a b:List Tm):Bb (a++b)=Bb a+Bb b:=by
 induction a with
 | nil=>simp[Bb]
 | cons x a ih=>simp[Bb,ih];omega
mutual
theorem jy {vars metas:Int}:∀(t:Tm) (d:Int),wf vars metas d t→Wt t
 | .mk k i n l ks,d,h=>by
  simp only[wf,Wt] at *;exact⟨h.2.2.1,fun e=>(h.2.2.2.2.1 e).1,bw ks k d 0 h.2.2.2.2.2⟩
theorem bw {vars metas:Int}:∀(ts:List Tm) (k d:Int) (j:Nat),iu vars metas k d j ts→Nl ts
 | [],k,d,j,h=>trivial
 | t::ts,k,d,j,h=>by
  simp only[iu,Nl] at *;exact⟨jy t _ h.1,bw ts k d (j+1) h.2⟩
end
theorem cZ (i:Int):Wt (Oz i):=⟨by simp[arity],by simp,trivial⟩
theorem QI:Wt Bi:=⟨by simp[arity],by simp,trivial⟩
mutual
theorem Sn (b fr:Int):∀(t:Tm) (d er:Int),Wt t→Wt (Cf b fr d er t).1
 | .mk k i n l ks,d,er,h=>by
  unfold Cf;split
  ·split
   ·exact h
   split
   ·exact h
   exact cZ _
  simp only[Wt] at h ⊢;obtain⟨e1,e2⟩:=R2 b fr k ks d 0 er h.2.2;exact⟨by rw[e1];exact h.1,h.2.1,e2⟩
theorem R2 (b fr k:Int):∀(ts:List Tm) (d:Int) (j:Nat) (er:Int),Nl ts→(DJ b fr k d j er ts).1.length=ts.length∧Nl (DJ b fr k d j er ts).1
 | [],d,j,er,h=>by simp[DJ,Nl]
 | t::ts,d,j,er,h=>by
  simp only[DJ,Nl,List.length_cons] at *;have:=Sn b fr t (d+below k j) er h.1;obtain⟨e1,e2⟩:=R2 b fr k ts d (j+1) (Cf b fr (d+below k j) er t).2 h.2;exact⟨by rw[e1],this,e2⟩
end
theorem ea {vs:List Tm}(h:Nl vs) (i:Nat):Wt (vs.getD i Bi):=by
 cases e:vs[i]? with
 | none=>simp[List.getD,e];exact QI
 | some x=>rw[Oo e];exact QR h e
mutual
theorem Sk:∀(t:Tm) (vs:List Tm) (d er nd:Int),Wt t→Nl vs→Wt (CD vs d er nd t).1
 | .mk k i n l ks,vs,d,er,nd,h,hv=>by
  unfold CD;split
  ·exact h
  split
  ·exact Sn _ _ _ _ _ (ea hv _)
  split
  ·split
   ·exact cZ _
   exact h
  simp only[Wt] at h ⊢;obtain⟨e1,e2⟩:=Rv ks vs k d 0 er (wr (nd+1)) h.2.2 hv;exact⟨by rw[e1];exact h.1,h.2.1,e2⟩
theorem Rv:∀(ts:List Tm) (vs:List Tm) (k d:Int) (j:Nat) (er nd:Int),Nl ts→Nl vs→(Cd vs k d j er nd ts).1.length=ts.length∧Nl (Cd vs k d j er nd ts).1
 | [],vs,k,d,j,er,nd,h,hv=>by simp[Cd,Nl]
 | t::ts,vs,k,d,j,er,nd,h,hv=>by
  simp only[Cd,Nl,List.length_cons] at *;have:=Sk t vs (d+below k j) er nd h.1 hv;obtain⟨e1,e2⟩:=Rv ts vs k d (j+1) (CD vs (d+below k j) er nd t).2.1 (CD vs (d+below k j) er nd t).2.2 h.2 hv;exact⟨by rw[e1],this,e2⟩
end
theorem aE (t:Tm) (vs:List Tm) (d:Int) (h:Wt t) (hv:Nl vs):Wt (CT t vs d).1:=by
 unfold CT;split
 ·exact QI
 split
 ·exact QI
 split
 ·exact QI
 exact Sk t vs _ _ _ h hv
mutual
theorem Pn (b fr:Int):∀(t:Tm) (d er:Int),t.kind=0∧t.kids=[]∨Wt t→size (Cf b fr d er t).1=size t
 | .mk k i n l ks,d,er,h=>by
  unfold Cf;split
  ·rename_i hk;split
   ·rfl
   split
   ·rfl
   have:ks=[]:=by
    rcases h with h | h
    ·exact h.2
    have:=h.1;subst hk;simp[arity] at this;exact this
   subst this;simp[Oz,size,Bb]
  rename_i hk;have hw:Nl ks:=by
   rcases h with h | h
   ·exact absurd h.1 hk
   exact h.2.2
  simp only[size];rw[OX b fr k ks d 0 er hw]
theorem OX (b fr k:Int):∀(ts:List Tm) (d:Int) (j:Nat) (er:Int),Nl ts→Bb (DJ b fr k d j er ts).1=Bb ts
 | [],d,j,er,h=>by simp[DJ]
 | t::ts,d,j,er,h=>by
  simp only[DJ,Bb];rw[Pn b fr t _ _ (.inr h.1),OX b fr k ts _ _ _ h.2]
end
mutual
theorem Jh (V:Int) (hV:1≤V) (hV2:V≤2305843009213693952):∀(t:Tm) (vs:List Tm) (d er nd:Int),Wt t→Nl vs→(∀x∈vs,(size x:Int)≤V)→0≤nd→nd≤4096+V →
  nd≤(CD vs d er nd t).2.2∧(CD vs d er nd t).2.2≤4096+V∧((CD vs d er nd t).2.2≤4096→(size (CD vs d er nd t).1:Int)=(CD vs d er nd t).2.2 - nd)
 | .mk k i n l ks,vs,d,er,nd,h,hv,hs,h0,h1=>by
  have hk0:k=0→ks=[]:=by
   intro e;have:=h.1;subst e;simp[arity] at this;exact this
  unfold CD;split
  ·exact⟨by simp,h1,by simp;omega⟩
  split
  ·rename_i hc;have hlt:(i - d).toNat<vs.length:=by omega
   obtain⟨x,hx⟩:=A7 hlt;have hxs:=hs x (List.mem_of_getElem? hx);rw[Oo hx,Pn _ _ _ _ _ (.inr (QR hv hx)),No Ao,Eb ⟨by omega,by omega⟩];simp only;exact⟨by omega,by omega,by omega⟩
  split
  ·rename_i hk;have hk:=hk0 hk;subst hk;split
   ·simp only[Oz,size,Bb];rw[Eb ⟨by omega,by omega⟩];exact⟨by omega,by omega,by omega⟩
   simp only[size,Bb];rw[Eb ⟨by omega,by omega⟩];exact⟨by omega,by omega,by omega⟩
  rw[Eb (n:=nd+1) ⟨by omega,by omega⟩];obtain⟨e1,e2,e3⟩:=Kk V hV hV2 ks vs k d 0 er (nd+1) h.2.2 hv hs Ao Ao;simp only[size];exact⟨by omega,e2,fun q=>by have:=e3 q;omega⟩
theorem Kk (V:Int) (hV:1≤V) (hV2:V≤2305843009213693952):∀(ts:List Tm) (vs:List Tm) (k d:Int) (j:Nat) (er nd:Int),Nl ts→Nl vs→(∀x∈vs,(size x:Int)≤V)→0≤nd→nd≤4096+V →
  nd≤(Cd vs k d j er nd ts).2.2∧(Cd vs k d j er nd ts).2.2≤4096+V∧((Cd vs k d j er nd ts).2.2≤4096→(Bb (Cd vs k d j er nd ts).1:Int)=(Cd vs k d j er nd ts).2.2 - nd)
 | [],vs,k,d,j,er,nd,h,hv,hs,h0,h1=>by simp only[Cd,Bb];exact⟨by omega,h1,by omega⟩
 | t::ts,vs,k,d,j,er,nd,h,hv,hs,h0,h1=>by
  obtain⟨e1,e2,e3⟩:=Jh V hV hV2 t vs (d+below k j) er nd h.1 hv hs h0 h1;obtain⟨f1,f2,f3⟩:=Kk V hV hV2 ts vs k d (j+1) (CD vs (d+below k j) er nd t).2.1 (CD vs (d+below k j) er nd t).2.2 h.2 hv hs Ao e2;simp only[Cd,Bb];exact⟨by omega,f2,fun q=>by have:=f3 q;have:=e3 Ao;omega⟩
end
theorem WE (t:Tm) (vs:List Tm) (d:Int) (h:Wt t) (hv:Nl vs) (hs:∀x∈vs,(size x:Int)≤2305843009213693952):size (CT t vs d).1≤4096:=by
 have hz:size Bi≤4096:=by simp[Bi,size,Bb]
 obtain⟨e1,e2,e3⟩:=Jh 2305843009213693952 Ao Ao t vs (min d 65536) 0 0 h hv hs Ao Ao;unfold CT;split
 ·exact hz
 rename_i hn;have:=e3 Ao;split
 ·exact hz
 split
 ·exact hz
 simp only;omega
def known (ms:List Mv) (t:Tm):Bool :=
 match t with
 | .mk k i _ _ _=>k==12&&(decide (i<ms.length)&&(match ms[i.toNat]? with | some m=>m.known | none=>false))
def valueOf (ms:List Mv) (i:Int):Tm:=match ms[i.toNat]? with | some m=>m.value | none=>Bi
def Pr (F:EL→Tm→Tm×Int×EL):EL→List Tm→List Tm×Int×EL
 | c,[]=>([],0,c)
 | c,t::ts=>if (F c t).2.1≠0 then ([],(F c t).2.1,(F c t).2.2)
  else if (Pr F (F c t).2.2 ts).2.1≠0 then ([],(Pr F (F c t).2.2 ts).2.1,(Pr F (F c t).2.2 ts).2.2)
  else ((F c t).1::(Pr F (F c t).2.2 ts).1,0,(Pr F (F c t).2.2 ts).2.2)
def sj (l:List Tm) (q:List Tm×Int×EL):List Tm×Int×EL:=if q.2.1≠0 then ([],q.2.1,q.2.2) else (l++q.1,0,q.2.2)
def jv:EL→Tm→List Tm→EL×Tm×List Tm
 | c,v,[]=>(c,v,[])
 | c,v,a::l=>if v.kind=5∧c.over=false then jv (c.form (CT (v.kids.getD 1 Bi) [a] 0).1 (CT (v.kids.getD 1 Bi) [a] 0).2) (CT (v.kids.getD 1 Bi) [a] 0).1 l else (c,v,a::l)
def Li:Tm→List Tm→Tm
 | .mk k i n l _,ks=> .mk k i n l ks
def Lh (ms:List Mv):Nat→List Int→EL→Tm→Tm×Int×EL
 | 0,ab,c,t=>(Bi,11,c)
 | n+1,ab,c,t =>
  if c.over=true then (Bi,11,c)
  else if known ms (A9 t).1=false then
   (let q:=Pr (Lh ms n ab) c (A9 t).1.kids
    if q.2.1≠0 then (Bi,q.2.1,q.2.2)
    else
     (let r:=Pr (Lh ms n ab) q.2.2 (A9 t).2
      if r.2.1≠0 then (Bi,r.2.1,r.2.2)
      else (apply (Li (A9 t).1 q.1) r.1,0,r.2.2.sized (apply (Li (A9 t).1 q.1) r.1))))
  else if (A9 t).1.index∈ab then (Bi,22,c)
  else
   (let v:=Lh ms n (ab++[(A9 t).1.index]) c (valueOf ms (A9 t).1.index)
    if v.2.1≠0 then (Bi,v.2.1,v.2.2)
    else
     (let r:=Pr (Lh ms n ab) (v.2.2.form v.1 0) (A9 t).2
      if r.2.1≠0 then (Bi,r.2.1,r.2.2)
      else
       (let b:=jv r.2.2 v.1 r.1
        (apply b.2.1 b.2.2,0,b.1.form (apply b.2.1 b.2.2) 0))))
def free (ms:List Mv) (ab:List Int):Nat:=((List.range ms.length).filter fun i:Nat=> !decide ((i:Int)∈ab)).length
def Mb (S:Nat):Nat→Nat
 | 0=>0
 | k+1=>S*(Mb S k+2)+4096+Mb S k
def tJ (S:Nat) (ms:List Mv):Prop:=∀m∈ms,Nd m.value∧Wt m.value∧size m.value≤S
structure sU (M:Nat) (s:Nat) (r:Tm):Prop where
 nd:Nd r
 wt:Wt r
 size:size r≤s*M
theorem Kl {α:Type}{l:List α}{x:α}(h:x∈l):∃i:Nat,l[i]?=some x:=by
 obtain⟨i,hi,he⟩:=List.mem_iff_getElem.1 h;exact⟨i,by rw[List.getElem?_eq_getElem hi,he]⟩
section
variable {ms:List Mv}{n:Nat}{ab:List Int}{c:EL}{t:Tm}{zk zi:Int}{zn:ByteArray}{zl:List CZ}{zs:List Tm}
end
end Go.Eu
namespace Go.Eu
theorem En {l:List Tm}{x:Tm}(h:x∈l):size x≤Bb l:=by
 obtain⟨i,hi⟩:=Kl h;exact Ce hi
def ed (ms:List Mv) (n:Nat) (c:EL) (t:Tm):Tm×Int×EL :=
 ((Lh ms n [] c t).1,(Lh ms n [] c t).2.1,if (Lh ms n [] c t).2.1=0 then (Lh ms n [] c t).2.2.form (Lh ms n [] c t).1 0 else (Lh ms n [] c t).2.2)
def s7 (ms:List Mv) (n:Nat) (c:EL) (t:Tm):List Int×Int :=
 if (ed ms n c t).2.1=0 then (XN [] (ed ms n c t).1,0) else ([],(ed ms n c t).2.1)
end Go.Eu
namespace Go.Abs
section
variable {P:Program}{r:Option Nat}{ops:Array Oper}{Q:C2→Br→Prop}{k:Nat}{n:Nat}{τ:Nat→AV}{T:List BJ}{D:List ES}{dst:Option Tmp}{op:Op}{ty:TypeId}{pos:String}{aft:Array Edge}{v:AV}{c:Call}{f:Operand}{fid:FuncId}{first caps A:List AV}{R:ET→List BJ→Prop}
theorem Lw {H H':List BJ}(hp:H.Perm H') (h:AL P r ops k ⟨n,τ,H',D⟩ Q):AL P r ops k ⟨n,τ,H,D⟩ Q:=B3 (Ty (S:=⟨n,τ,H,D⟩) hp) h
theorem JA (fr:List BJ) {l:Nat}(ho:ops[k]?=some ⟨dst,.call c,ty,pos,aft,none⟩) (hd:Gm dst n=true)
  (hc:c.callee= .value f) (hf:ev τ f= .fn (.yield l) [] []) (h:MD P l A T R) (hA:c.args.toList.map (ev τ)=A)
  (next:∀v T',R (.val v) T'→AL P r ops (k+1) ⟨n,put τ dst v,fr++T',D⟩ Q) (pan:∀v T',R (.panic v) T'→Q (.panic v) ⟨n,τ,T'++fr,D⟩):AL P r ops k ⟨n,τ,fr++T,D⟩ Q :=
 GI (S:=⟨n,τ,fr++T,D⟩) ho Ai (Ii hd) (Zz hc hf List.perm_append_comm h hA) (fun v H' ⟨Hs',h1,h2⟩=>by subst h2;exact Lw List.perm_append_comm (next v Hs' h1)) (fun v H' ⟨Hs',h1,h2⟩=>by subst h2;exact pan v Hs' h1)
theorem IW (fr:List BJ) (ho:ops[k]?=some ⟨dst,.call c,ty,pos,aft,none⟩) (hd:Gm dst n=true)
  (hc:c.callee= .value f) (hf:(ev τ f= .p (.fn fid)∧first=[]∧caps=[])∨ev τ f= .fn (.func fid) first caps) (h:Bq P fid A T R) (hA:GS (first++c.args.toList.map (ev τ)++caps) A)
  (next:∀v T',R (.val v) T'→AL P r ops (k+1) ⟨n,put τ dst v,fr++T',D⟩ Q) (pan:∀v T',R (.panic v) T'→Q (.panic v) ⟨n,τ,T'++fr,D⟩):AL P r ops k ⟨n,τ,fr++T,D⟩ Q :=
 Iz ho hd hc hf List.perm_append_comm (h.args hA) (.inl rfl) (fun v H' h1=>Lw List.perm_append_comm (next v H' h1)) pan
end
theorem F4.append:∀{l l':List BJ}{T:List BJ},F4 l l'→F4 (l++T) (l'++T)
 | [],l',T,h=>by simp only[F4] at h;subst h;exact F4.refl T
 | o::l,l',T,h=>by
  obtain⟨o',r',rfl,h1,h2⟩:=h;exact⟨o',r'++T,O,h1,F4.append h2⟩
theorem YS (is:List Nat) (l:List BJ) {l1 l' T:List BJ}(h:Pu is 0 l=l1) (w:F4 l1 l'):kC (l++T) (l'++T):=⟨l1++T,(B4 h).append_right T,w.append⟩
theorem Gx (is:List Nat) (l:List BJ) {l1 T:List BJ}(h:Pu is 0 l=l1):(l1++T).Sublist (l++T):=(B4 h).append_right T
def tU (b:Bool) (H':List BJ):ET→List BJ→Prop
 | .val v,H''=>v= .p (.bool b)∧H''=H'
 | .panic _,_=>False
theorem C9 {n:Nat}{τ:Nat→AV}{H:List BJ}{D:List ES}{t:Nat}{x:AV}(h:τ t=x):Ia ⟨n,τ,H,D⟩ ⟨n,put τ (some t) x,H,D⟩:=SH fun _ _ _ hr=>h▸hr
section
variable {P:Program}{dst:Option Tmp}{ty:TypeId}{pos:String}{aft:Array Edge}{g:Option (Nat×Bool)}{ρ:Operand→AV}{H:List BJ}{x y:Operand}
theorem Uz {e:TypeId}{bl:Bool}{sz:Nat}(ht:EE P e=some (bl,sz)):∃inf,P.info? e=some inf∧inf.size=sz:=by
 obtain⟨d,_,_,h⟩:=Fb ht;cases hi:P.info? e with
 | none=>simp[hi] at h
 | some inf=>simp[hi] at h;exact⟨inf,rfl,h⟩
theorem SG {T e:TypeId}{bl:Bool}{len sz b o:Nat}{k:IntKind}{i:Int}(hu:P.underlying T=some (.array len e)) (ht:EE P e=some (bl,sz)) (hx:ρ x= .ptr b o) (hy:ρ y= .p (.int k i)) (h0:0≤i) (hn:i<len) :
  Dp P ⟨dst,.indexAddr T x y,ty,pos,aft,g⟩ ρ H (.ptr b (o+i.toNat*sz)) H:=by
 obtain⟨inf,h1,h2⟩:=Uz ht;exact Sc hu h1 h2 hx hy h0 hn
theorem EO {T e:TypeId}{bl:Bool}{len sz:Nat}{parts:Array (Nat×Operand)}{z:Value}{cs:List AV}(hu:P.underlying T=some (.array len e)) (ht:EE P e=some (bl,sz)) (hz:zeroOf P T=some z)
  (hc:Fh (fun i=>some (i*sz,sz)) (z.cells.toList.map Gv) (parts.toList.map fun p=>(p.1,ρ p.2))=some cs):Dp P ⟨dst,.build T parts,ty,pos,aft,g⟩ ρ H (.agg cs) H:=by
 obtain⟨inf,h1,h2⟩:=Uz ht;subst h2;exact Sa hu h1 hz hc
end
theorem Q9 {P:Program}{g:Operand}{ps:Array Tmp}{assign body:Code}{S:Br}{Q:C2→Br→Prop}{fid:FuncId}{first caps:List AV}
  (hg:(ev S.τ g= .p (.fn fid)∧first=[]∧caps=[])∨ev S.τ g= .fn (.func fid) first caps)
  (h:∀d l (L:OV),L=⟨.ready,none,S.n,S.τ,ps,assign,body⟩→∃Hs Hf,(BJ.loop l L:: .dfr d::S.H).Perm (Hs++Hf) ∧
   Bq P fid (first++[.fn (.yield l) [] []]++caps) Hs (fun r H'=>Us P l d S Q r (H'++Hf))) :
  JD P none (.rangeFunc g ps assign body) S Q:=Za hg fun d l=>h d l _ rfl
def su (H':List BJ):ET→List BJ→Prop
 | .val v,H''=>v= .tup []∧H''=H'
 | .panic _,_=>False
def VM (v:AV) (C:List BJ→Prop):ET→List BJ→Prop
 | .val v',H'=>v'=v∧C H'
 | .panic _,_=>False
section
variable {P:Program}{n:Nat}{τ:Nat→AV}{H:List BJ}{D:List ES}
theorem XY {b:Nat}{cs cs':List AV}(h:GS cs cs'):ME (.box b cs) (.box b cs'):=⟨rfl,fun F w hr=>by
 obtain⟨vs,T,h1,h2⟩:=hr;exact⟨vs,T,h1,Ou h h2⟩⟩
theorem H5 {i:Nat}{o o':BJ}(hi:H[i]?=some o) (hw:ME o o'):Ia ⟨n,τ,H,D⟩ ⟨n,τ,H.set i o',D⟩:=by
 intro F a w hs;refine⟨F,⟨hs.size,hs.tmp,?_,hs.defs⟩,?_⟩
 ·have hk:=GB (x':=o') hi hw.1;refine⟨fun x hx c hc=>?_,by show List.Nodup _;rw[hk];exact hs.heap.nodup,fun x hx=>?_,hs.heap.bd⟩
  ·rcases Dh hx with rfl | ⟨j,_,hj⟩
   ·exact hs.heap.sub _ (List.mem_of_getElem? hi) c (by rw[←hw.1];exact hc)
   exact hs.heap.sub _ (List.mem_of_getElem? hj) c hc
  rcases Dh hx with rfl | ⟨j,_,hj⟩
  ·exact hw.2 F w (hs.heap.obj _ (List.mem_of_getElem? hi))
  exact hs.heap.obj _ (List.mem_of_getElem? hj)
 refine { Trans.refl (F:=F) (H:=H) (w:=w) with keys:=fun x hx c hc=>?_ };rcases Dh hx with rfl | ⟨j,_,hj⟩
 ·exact .inl ⟨_,List.mem_of_getElem? hi,by rw[←hw.1];exact hc⟩
 exact .inl ⟨_,List.mem_of_getElem? hj,hc⟩
end
section
variable {P:Program}{dst:Option Tmp}{ty:TypeId}{pos:String}{aft:Array Edge}{g:Option (Nat×Bool)}{ρ:Operand→AV}{H:List BJ}{x y:Operand}
theorem VZ {T e:TypeId}{b i:Nat}{l:List (Int×AV)}{k:Int}{zv:Value}{za v:AV}(hT:mapOf P T=some e) (hz:zeroOf P e=some zv) (hza:∀F w,CH F w za zv) (hx:ρ x= .map b) (hy:ρ y= .p (.int .i64 k)) (hi:H[i]?=some (.map b (EJ l))) (hv:(J1 k l).getD za=v) :
  Dp P ⟨dst,.lookup T x y false,ty,pos,aft,g⟩ ρ H v H:=by subst hv;exact X6 hT hz hza hx hy hi
theorem SX {T e:TypeId}{b i:Nat}{l:List (Int×AV)}{k:Int}{zv:Value}{za v:AV}{ok:Bool}(hT:mapOf P T=some e) (hz:zeroOf P e=some zv) (hza:∀F w,CH F w za zv) (hx:ρ x= .map b) (hy:ρ y= .p (.int .i64 k)) (hi:H[i]?=some (.map b (EJ l))) (hv:(J1 k l).getD za=v) (hok:(J1 k l).isSome=ok) :
  Dp P ⟨dst,.lookup T x y true,ty,pos,aft,g⟩ ρ H (.tup [v,.p (.bool ok)]) H:=by subst hv;subst hok;exact VE hT hz hza hx hy hi
end
section
variable {P:Program}{dst:Option Tmp}{ty:TypeId}{pos:String}{aft:Array Edge}{g:Option (Nat×Bool)}{ρ:Operand→AV}{H:List BJ}{x y:Operand}
theorem LI {T e:TypeId}{sz bytes:Nat}(hT:F3 P T=some (e,sz,bytes)) :
  DU P ⟨dst,.buildSlice T 0 #[],ty,pos,aft,g⟩ ρ H (MG sz [] H) :=
 Hg fun F w E hH hE=>by
  obtain⟨hu,i,hi,hs,hby⟩:=FV hT;obtain⟨v,H',F',h1,h2,h3,h4⟩:=Om (F:=F) (w:=w) (sz:=sz) (c:=0) (rows:=[]) (vs:=[]) (T:=e) (H:=H) hH Ap (by simp[B1]) Ap Ap;refine⟨_,_,v,H',F',?_,h1,h2,h3,h4⟩;have hszr:(sizeOf e).run P w= .ok sz w:=by simp[sizeOf,typeInfo,hi,hs]
  simp only[execOp,Instr.buildSlice,Sem.run_bind,run_underlying hu,Result.andThen_ok,hszr];rw[if_neg Ao];simp only[Sem.run_pure,Result.andThen_ok,Sem.run_bind,pure_bind,Nat.zero_mul,if_true];have e0:(Array.map (fun x=>(#[]:Array Value)[x % (#[]:Array Value).size]!) (Array.range 0))=(⟨[]⟩:Array Value):=by simp
  rw[e0];simp only[Array.map_empty,Instr.fill,newRow,newObj,Sem.run_bind,Sem.run,Result.andThen,Sem.run_pure];rfl
end
section
variable {P:Program}{dst:Option Tmp}{ty:TypeId}{pos:String}{aft:Array Edge}{g:Option (Nat×Bool)}{ρ:Operand→AV}{H:List BJ}{x y:Operand}
theorem M5 {T U e:TypeId}{n1 n2:Nat}{rows:List (List PV)}(hT:F3 P T=some (e,n1,n2)) (hx:ρ x= .p (.lst rows)) (hy:ρ y= .p .nils):DU P ⟨dst,.binOp .eql T x y U,ty,pos,aft,g⟩ ρ H (P6 (fun v=>∃b:Bool,v= .p (.bool b)∧(b=true→rows=[])) H) :=
 (U9 (FV hT).1 hx hy).mono fun r H' h=>by cases r<;>exact h
end
section
variable {P:Program}{r:Option Nat}{ops:Array Oper}{Q:C2→Br→Prop}{k:Nat}{n:Nat}{τ:Nat→AV}{H:List BJ}{D:List ES}{dst:Option Tmp}{ty:TypeId}{pos:String}{aft:Array Edge}{v:AV}{c:Call}{f:Operand}{fid:FuncId}{first caps A:List AV}
theorem OQ (ho:ops[k]?=some ⟨dst,.call c,ty,pos,aft,none⟩) (hd:Gm dst n=true) (hc:c.callee= .value f) (hf:(ev τ f= .p (.fn fid)∧first=[]∧caps=[])∨ev τ f= .fn (.func fid) first caps) (h:Bq P fid A [] (U5 v [])) (hA:GS (first++c.args.toList.map (ev τ)++caps) A) (pan:Q (.panic v) ⟨n,τ,H,D⟩):AL P r ops k ⟨n,τ,H,D⟩ Q :=
 Iz ho hd hc hf (Hs:=[]) (Hf:=H) Ap (h.args hA) (.inl rfl) (fun _ _ h=>h.elim) (fun v' H' ⟨h1,h2⟩=>by subst h1;subst h2;exact pan)
end
end Go.Abs
namespace Go.Eu
open Go.Abs
def Js (k:Int):Int:=if k=5∨k=6∨k=7 then 1 else if k=11 then 2 else -1
theorem Wp {k:Int}{i:Int}(h:i=Js k) (hi:0≤i):below k i=1:=by
 unfold Js at h;unfold below;split at h
 ·rename_i hk;subst h;rcases hk with rfl | rfl | rfl<;>simp
 split at h
 ·rename_i hk;subst h;subst hk;simp
 omega
theorem Tl {k:Int}{i:Int}(h:i≠Js k):below k i=0:=by
 unfold Js at h;unfold below;rw[if_neg];simp only[Bool.or_eq_true,Bool.and_eq_true,beq_iff_eq];intro hc;apply h;rcases hc with ⟨h1,h2⟩ | ⟨h1,h2⟩
 ·rw[if_pos (by rcases h2 with (h | h) | h<;>simp[h]),h1]
 rw[if_neg Ao,if_pos h2,h1]
theorem Ws {k:Int}(h:¬(0≤k∧k<13)):Js k= -1:=by
 unfold Js;rw[if_neg Ao,if_neg Ao]
section
variable {σ:Type}
mutual
def El (st:σ→Int→Tm→σ×Bool):Tm→Int→σ→σ×Bool
 | .mk k i n l ks,d,s=>if (st s d (.mk k i n l ks)).2=false then ((st s d (.mk k i n l ks)).1,false) else Eg st k d 0 (st s d (.mk k i n l ks)).1 ks
def Eg (st:σ→Int→Tm→σ×Bool) (k d:Int):Nat→σ→List Tm→σ×Bool
 | _,s,[]=>(s,true)
 | j,s,t::ts=>if (El st t (d+below k j) s).2=false then ((El st t (d+below k j) s).1,false) else Eg st k d (j+1) (El st t (d+below k j) s).1 ts
end
end
def O7 (ix nm:Bool) (lv ks bl:Int):List AV:=[.p (.bool ix),.p (.bool nm),.p (I lv),.p (I ks),.p (I bl)]
def O8:List AV:=[O7 true false 0 0 (-1),O7 false false 0 0 (-1),O7 false false 1 0 (-1),O7 false true (-1) 0 (-1),O7 false false 0 2 (-1),O7 false false 0 2 1,O7 false false 0 2 1,O7 false false 0 2 1,O7 false false 0 3 (-1),O7 false false 0 1 (-1),O7 false false 0 1 (-1),O7 false false 0 3 2,O7 true false 0 0 (-1)].flatten
theorem cz {k:Int}(h:0≤k∧k<13):O8[0+k.toNat*5+4]?=some (.p (I (Js k))):=by
 have:k=0∨k=1∨k=2∨k=3∨k=4∨k=5∨k=6∨k=7∨k=8∨k=9∨k=10∨k=11∨k=12:=by omega
 rcases this with rfl | rfl | rfl | rfl | rfl | rfl | rfl | rfl | rfl | rfl | rfl | rfl | rfl<;>rfl
section
variable {σ:Type}{st:σ→Int→Tm→σ×Bool}{Inv:Nat→σ→Prop}
theorem VN {t:Tm}{d:Int}{s:σ}(h:(st s d t).2=false):El st t d s=((st s d t).1,false):=by
 obtain⟨k,i,n,l,ks⟩:=t;rw[El,if_pos h]
theorem Hr {k i:Int}{n:ByteArray}{l:List CZ}{ks:List Tm}{d:Int}{s:σ}(h:(st s d (.mk k i n l ks)).2=true):El st (.mk k i n l ks) d s=Eg st k d 0 (st s d (.mk k i n l ks)).1 ks:=by
 rw[El,if_neg (by simp[h])]
theorem Ix {k d:Int}{ts:List Tm}{i:Nat}{x:Tm}{s:σ}(hx:ts[i]?=some x) (h:(El st x (d+below k i) s).2=false):Eg st k d i s (ts.drop i)=((El st x (d+below k i) s).1,false):=by
 rw[Ch hx,Eg,if_pos h]
theorem Kv {k d:Int}{ts:List Tm}{i:Nat}{x:Tm}{s:σ}(hx:ts[i]?=some x) (h:(El st x (d+below k i) s).2=true):Eg st k d i s (ts.drop i)=Eg st k d (i+1) (El st x (d+below k i) s).1 (ts.drop (i+1)):=by
 rw[Ch hx,Eg,if_neg (by simp[h])]
mutual
theorem JV (hI:∀m s d t,Inv (m+1) s→Inv m (st s d t).1):∀(t:Tm) (d:Int) (s:σ) (m:Nat),Inv (m+size t) s→(El st t d s).2=true→Inv m (El st t d s).1
 | .mk k i n l ks,d,s,m,h,hv=>by
  rw[size,show m+(1+Bb ks)=(m+Bb ks)+1 by omega] at h;have h1:=hI _ _ d (.mk k i n l ks) h;rw[El] at hv ⊢;split at hv
  ·cases hv
  rename_i hc;rw[if_neg hc];exact Pq hI ks k d 0 _ m h1 hv
theorem Pq (hI:∀m s d t,Inv (m+1) s→Inv m (st s d t).1):∀(ts:List Tm) (k d:Int) (j:Nat) (s:σ) (m:Nat),Inv (m+Bb ts) s→(Eg st k d j s ts).2=true→Inv m (Eg st k d j s ts).1
 | [],k,d,j,s,m,h,hv=>by simpa [Eg,Bb] using h
 | t::ts,k,d,j,s,m,h,hv=>by
  rw[Bb,show m+(size t+Bb ts)=(m+Bb ts)+size t by omega] at h;rw[Eg] at hv ⊢;split at hv
  ·cases hv
  rename_i hc;rw[if_neg hc];have:=JV hI t (d+below k j) s _ h (by simpa using hc);exact Pq hI ts k d (j+1) _ m this hv
end
end
def Xk (s:Int) (d:Int) (t:Tm):Int×Bool:=(wr (s+1),true)
mutual
theorem Vy (B:Int) (hB:B≤4611686018427387904):∀(t:Tm) (d s:Int),0≤s→s+size t<B→El Xk t d s=(s+size t,true)
 | .mk k i n l ks,d,s,h0,h=>by
  rw[size] at h ⊢;rw[Hr rfl];simp only[Xk];rw[Eb ⟨by omega,by omega⟩,Su B hB ks k d 0 (s+1) Ao Ao];congr 1;omega
theorem Su (B:Int) (hB:B≤4611686018427387904):∀(ts:List Tm) (k d:Int) (j:Nat) (s:Int),0≤s→s+Bb ts<B→Eg Xk k d j s ts=(s+Bb ts,true)
 | [],k,d,j,s,h0,h=>by simp[Eg,Bb]
 | t::ts,k,d,j,s,h0,h=>by
  rw[Bb] at h ⊢;rw[Eg,Vy B hB t _ s h0 Ao];simp only;rw[if_neg Ap,Su B hB ts k d (j+1) (s+size t) Ao Ao];congr 1;omega
end
def tP (s:List Int) (d:Int):Tm→List Int×Bool
 | .mk k i _ _ _=>(if k=12∧i ∉ s then s++[i] else s,true)
def uA (s:List Int):List (Int×AV):=s.map fun i=>(i,.p (.bool true))
def VP (xs ys:List Tm) (i:Nat):Prop:=ys.length=xs.length∧∀k,k<xs.length→ys[k]?=if k<i∨xs.length - 1 - k<i then xs[xs.length - 1 - k]? else xs[k]?
theorem YD (xs:List Tm):VP xs xs 0:=⟨rfl,fun k hk=>by rw[if_neg Ao]⟩
theorem YN {xs ys:List Tm}{i:Nat}{a b:Tm}(h:VP xs ys i) (hi:i<xs.length - 1 - i) (ha:ys[i]?=some a) (hb:ys[xs.length - 1 - i]?=some b):VP xs ((ys.set i b).set (xs.length - 1 - i) a) (i+1):=by
 obtain⟨hl,h⟩:=h;refine⟨by simp[hl],fun k hk=>?_⟩;have e1:=h i Ao;rw[if_neg Ao,ha] at e1;have e2:=h (xs.length - 1 - i) Ao;rw[if_neg Ao,hb] at e2;by_cases k1:k=xs.length - 1 - i
 ·subst k1;rw[if_pos Ao,List.getElem?_set_self Aj,e1];congr 1;omega
 rw[List.getElem?_set_ne (fun e=>k1 e.symm)];by_cases k2:k=i
 ·subst k2;rw[if_pos Ao,List.getElem?_set_self Ao,e2]
 rw[List.getElem?_set_ne (fun e=>k2 e.symm),h k hk];by_cases k3:k<i∨xs.length - 1 - k<i
 ·rw[if_pos k3,if_pos Ao]
 rw[if_neg k3,if_neg Ao]
theorem XM {xs ys:List Tm}{i:Nat}(h:VP xs ys i) (hi:xs.length - 1 - i≤i):ys=xs.reverse:=by
 obtain⟨hl,h⟩:=h;apply List.ext_getElem?;intro k;by_cases hk:k<xs.length
 ·rw[h k hk,List.getElem?_reverse hk];by_cases k3:k<i∨xs.length - 1 - k<i
  ·rw[if_pos k3]
  rw[if_neg k3];congr 1;omega
 rw[List.getElem?_eq_none Ao,List.getElem?_eq_none Aj]
def sX (f:Int) (n i:Nat):List Tm:=(dk f 0 n).take i++List.replicate (n - i) Bi
def kS (t:Tm):Bool:=decide ((size t:Int) > 4096)||decide (Ev t > 200)
def ta {σ:Type}(st:σ→Int→Tm→σ) (xs:List Tm):Nat→σ→σ
 | 0,s=>s
 | m+1,s=>ta st xs m (st s m (xs.getD m Bi))
def qd (k:Int) (t:Tm) (i:Int) (a:Tm):Tm:= .mk k 0 ⟨#[]⟩ [] [a,t]
end Go.Eu
namespace Go.Abs
def cQ (mkv:Nat→AV) (cs:List AV):ET→List BJ→Prop
 | .val v,H'=>∃b,v=mkv b∧H'=[.box b cs]
 | .panic _,_=>False
section
variable {P:Program}{ops:Array Oper}{n:Nat}{τ₀ τ:Nat→AV}{D:List ES}{Q:C2→Br→Prop}{opn:Nat→Bool}{k:Nat}{H:List BJ}{dst:Option Tmp}{ty:TypeId}{pos:String}{aft:Array Edge}{c:Call}{f:Operand}{fid:FuncId}{first caps A:List AV}{mkv:Nat→AV}{cs:List AV}
theorem Yx {rd ef effs fx}(fx':List (Nat×Sp)) (ho:ops[k]?=some ⟨dst,.call c,ty,pos,aft,none⟩) (hn:opn k=true)
  (hc:c.callee= .value f) (hf:(ev τ f= .p (.fn fid)∧first=[]∧caps=[])∨ev τ f= .fn (.func fid) first caps) (h:Bq P fid A [] (cQ mkv cs)) (hA:first++c.args.toList.map (ev τ)++caps=A∨(first++c.args.toList.map (ev τ)++caps).map norm=A) (haft:FB ops k (fx'.map (·.1))=true)
  (next:∀b,KF ops k H (.box b cs::H) rd∧HX k (.eff (mkv b) (.box b cs::H)) fx∧Dr P ops n τ₀ D Q opn (k+1) (put τ dst (mkv b)) (.box b cs::H) rd ((k,H,.box b cs::H)::ef) (true::effs) (fx'++fx)):Dr P ops n τ₀ D Q opn k τ H rd ef effs fx :=
 Od fx' ho hn (GO (H:=H) (Hs:=[]) (Hf:=H) hc hf Ap h hA) haft ⟨_,_,_,⟨0,rfl,rfl⟩,rfl⟩ (fun v H' ⟨_,h,_⟩=>h.elim) (fun v H' ⟨Hs',⟨b,h1,h2⟩,h3⟩=>by subst h1;subst h2;subst h3;exact next b)
theorem Y6 {r:Option Nat}(ho:ops[k]?=some ⟨dst,.call c,ty,pos,aft,none⟩) (hd:Gm dst n=true)
  (hc:c.callee= .value f) (hf:(ev τ f= .p (.fn fid)∧first=[]∧caps=[])∨ev τ f= .fn (.func fid) first caps) (h:Bq P fid A [] (cQ mkv cs)) (hA:GS (first++c.args.toList.map (ev τ)++caps) A)
  (next:∀b,AL P r ops (k+1) ⟨n,put τ dst (mkv b),.box b cs::H,D⟩ Q):AL P r ops k ⟨n,τ,H,D⟩ Q :=
 Iz ho hd hc hf (Hs:=[]) (Hf:=H) Ap (h.args hA) (.inl rfl) (fun v Hs' ⟨b,h1,h2⟩=>by subst h1;subst h2;exact next b) (fun _ _ h=>h.elim)
end
def Ky {α:Type}(mkv:α→AV) (mkp:Int→AV) (C:α→List BJ→Prop) (x:Except Int α):ET→List BJ→Prop
 | .val v,H'=>∃a,x= .ok a∧v=mkv a∧C a H'
 | .panic v,_=>∃e,x= .error e∧v=mkp e
theorem DU.permR {P:Program}{ρ:Operand→AV}{o:Oper}{H:List BJ}{R R':ET→List BJ→Prop}(h:DU P o ρ H R) (hp:∀r H1,R r H1→∃H2,H1.Perm H2∧R' r H2):DU P o ρ H R':=by
 intro r F S a w hs hH hρ hd;have:=h r F S a w hs hH hρ hd;refine MJ this ?_ ?_
 ·rintro a' w' ⟨v',H1,F',hR,hs',ht⟩;obtain⟨H2,hp,hR'⟩:=hp _ _ hR;exact⟨v',H2,F',hR',⟨hs'.size,hs'.tmp,hs'.heap.perm hp,hs'.defs⟩,{ ht with keys:=fun o ho=>ht.keys o (hp.mem_iff.2 ho) }⟩
 rintro e a' w' ⟨v',H1,F',u,hR,h1,h2,hs',ht⟩;obtain⟨H2,hp,hR'⟩:=hp _ _ hR;exact⟨v',H2,F',u,hR',h1,h2,⟨hs'.size,hs'.tmp,hs'.heap.perm hp,hs'.defs⟩,{ ht with keys:=fun o ho=>ht.keys o (hp.mem_iff.2 ho) }⟩
section
variable {P:Program}{ops:Array Oper}{n:Nat}{τ₀ τ:Nat→AV}{D:List ES}{Q:C2→Br→Prop}{opn:Nat→Bool}{k:Nat}{T:List BJ}{dst:Option Tmp}{ty:TypeId}{pos:String}{aft:Array Edge}{c:Call}{f:Operand}{fid:FuncId}{first caps A:List AV}
 {α:Type} {mkv:α→AV} {mkp:Int→AV} {C:α→List BJ→Prop} {x:Except Int α}
theorem jt {r:Option Nat}(fr:List BJ) (ho:ops[k]?=some ⟨dst,.call c,ty,pos,aft,none⟩) (hd:Gm dst n=true)
  (hc:c.callee= .value f) (hf:(ev τ f= .p (.fn fid)∧first=[]∧caps=[])∨ev τ f= .fn (.func fid) first caps) (h:Bq P fid A T (Ky mkv mkp C x)) (hA:GS (first++c.args.toList.map (ev τ)++caps) A)
  (next:∀a T',x= .ok a→C a T'→AL P r ops (k+1) ⟨n,put τ dst (mkv a),fr++T',D⟩ Q) (pan:∀e T',x= .error e→Q (.panic (mkp e)) ⟨n,τ,T'++fr,D⟩):AL P r ops k ⟨n,τ,fr++T,D⟩ Q :=
 IW fr ho hd hc hf h hA (fun v T' ⟨a,h1,h2,h3⟩=>by subst h2;exact next a T' h1 h3) (fun v T' ⟨e,h1,h2⟩=>by subst h2;exact pan e T' h1)
theorem nQ {rd ef effs fx}(fr:List BJ) (ho:ops[k]?=some ⟨dst,.call c,ty,pos,aft,none⟩) (hn:opn k=true)
  (hc:c.callee= .value f) (hf:(ev τ f= .p (.fn fid)∧first=[]∧caps=[])∨ev τ f= .fn (.func fid) first caps) (h:Bq P fid A T (Ky mkv mkp C x)) (hA:GS (first++c.args.toList.map (ev τ)++caps) A) (haft:FB ops k []=true) (chk:ND ops n (true::effs).reverse=true) (hfx:NC k fx=true) (owe:KF ops k (fr++T) (fr++T) rd)
  (next:∀a T',x= .ok a→C a T'→KF ops k (fr++T) (fr++T') rd∧HX k (.eff (mkv a) (fr++T')) fx∧Dr P ops n τ₀ D Q opn (k+1) (put τ dst (mkv a)) (fr++T') rd ((k,fr++T,fr++T')::ef) (true::effs) fx)
  (pan:∀e,x= .error e→∀τ' T',(∀t,(∀(k:Nat) o,ops[k]?=some o→o.dst≠some t)→τ' t=τ₀ t)→Q (.panic (mkp e)) ⟨n,τ',T'++fr,D⟩):Dr P ops n τ₀ D Q opn k τ (fr++T) rd ef effs fx:=by
 have hop:DU P ⟨dst,.call c,ty,pos,aft,none⟩ (ev τ) (fr++T) (fun r H'=>∃T',Ky mkv mkp C x r T'∧(match r with | .val _=>H'=fr++T' | .panic _=>H'=T'++fr)):=by
  refine DU.permR (GO (H:=fr++T) (Hs:=T) (Hf:=fr) hc hf List.perm_append_comm (h.args hA) (.inl O)) ?_;rintro r H1 ⟨T',hR,rfl⟩;cases r with
  | val v=>exact⟨fr++T',List.perm_append_comm,T',hR,rfl⟩
  | panic v=>exact⟨T'++fr,List.Perm.refl _,T',hR,rfl⟩
 by_cases hx:∃a T',x= .ok a∧C a T'
 ·obtain⟨a,T',hx,hC⟩:=hx;refine Dr.opn _ [] ho hn Aq hop haft ⟨mkv a,_,T',⟨a,hx,O,hC⟩,O⟩ ?_ ?_ ?_ ?_
  ·rintro v H' ⟨T',⟨a',h1,h2,h3⟩,rfl⟩;exact(next a' T' h1 h3).1
  ·rintro v H' ⟨T',⟨a',h1,h2,h3⟩,rfl⟩;subst h2;exact(next a' T' h1 h3).2.1
  ·rintro v H' ⟨T',⟨a',h1,h2,h3⟩,rfl⟩;subst h2;exact(next a' T' h1 h3).2.2
  rintro v H' ⟨T',⟨e,h1,h2⟩,rfl⟩ τ' hτ;subst h2;exact pan e h1 τ' T' hτ
 refine Dr.pan _ ho hn Aq hop haft chk hfx ?_ owe ?_
 ·rintro v H' ⟨T',⟨a',h1,h2,h3⟩,rfl⟩;exact hx ⟨a',T',h1,h3⟩
 rintro v H' ⟨T',⟨e,h1,h2⟩,rfl⟩ τ' hτ;subst h2;exact pan e h1 τ' T' hτ
end
section
variable {P:Program}{ops:Array Oper}{n:Nat}{τ₀ τ:Nat→AV}{D:List ES}{Q:C2→Br→Prop}{opn:Nat→Bool}{k:Nat}{H Hs:List BJ}{dst:Option Tmp}{ty:TypeId}{pos:String}{aft:Array Edge}{c:Call}{f:Operand}{fid:FuncId}{first caps A:List AV}
 {α:Type} {mkv:α→AV} {mkp:Int→AV} {C:α→List BJ→Prop} {x:Except Int α}
theorem Dv {r:Option Nat}(is:List Nat) (ho:ops[k]?=some ⟨dst,.call c,ty,pos,aft,none⟩) (hd:Gm dst n=true)
  (hc:c.callee= .value f) (hf:(ev τ f= .p (.fn fid)∧first=[]∧caps=[])∨ev τ f= .fn (.func fid) first caps) (h:Bq P fid A Hs (Ky mkv mkp C x)) (hg:FY H is Hs) (hn:is.Nodup) (hA:GS (first++c.args.toList.map (ev τ)++caps) A)
  (hl:∀a T',C a T'→T'.length=Hs.length)
  (next:∀a T',x= .ok a→C a T'→AL P r ops (k+1) ⟨n,put τ dst (mkv a),LQ H is T',D⟩ Q) (pan:∀e H',x= .error e→Q (.panic (mkp e)) ⟨n,τ,H'++C8 is 0 H,D⟩):AL P r ops k ⟨n,τ,H,D⟩ Q :=
 eh is ho hd hc hf h hg hn hA (fun v T' ⟨a,h1,h2,h3⟩=>by subst h2;exact⟨hl a T' h3,next a T' h1 h3⟩) (fun v T' ⟨e,h1,h2⟩=>by subst h2;exact pan e T' h1)
theorem PZ {rd ef effs fx}(is:List Nat) (ho:ops[k]?=some ⟨dst,.call c,ty,pos,aft,none⟩) (hn:opn k=true)
  (hc:c.callee= .value f) (hf:(ev τ f= .p (.fn fid)∧first=[]∧caps=[])∨ev τ f= .fn (.func fid) first caps) (h:Bq P fid A Hs (Ky mkv mkp C x)) (hg:FY H is Hs) (hnd:is.Nodup) (hA:GS (first++c.args.toList.map (ev τ)++caps) A)
  (hl:∀a T',C a T'→T'.length=Hs.length) (haft:FB ops k []=true) (chk:ND ops n (true::effs).reverse=true) (hfx:NC k fx=true) (owe:KF ops k H H rd)
  (next:∀a T',x= .ok a→C a T'→KF ops k H (LQ H is T') rd∧HX k (.eff (mkv a) (LQ H is T')) fx∧Dr P ops n τ₀ D Q opn (k+1) (put τ dst (mkv a)) (LQ H is T') rd ((k,H,LQ H is T')::ef) (true::effs) fx)
  (pan:∀e,x= .error e→∀τ' H',(∀t,(∀(k:Nat) o,ops[k]?=some o→o.dst≠some t)→τ' t=τ₀ t)→Q (.panic (mkp e)) ⟨n,τ',H'++C8 is 0 H,D⟩):Dr P ops n τ₀ D Q opn k τ H rd ef effs fx:=by
 have hop:DU P ⟨dst,.call c,ty,pos,aft,none⟩ (ev τ) H (fun r H'=>∃T',Ky mkv mkp C x r T'∧(match r with | .val _=>H'=LQ H is T' | .panic _=>H'=T'++C8 is 0 H)):=by
  refine DU.permR (GO hc hf (Da hnd hg) (h.args hA) (.inl O)) ?_;rintro r H1 ⟨T',hR,rfl⟩;cases r with
  | val v=>obtain⟨a,h1,h2,h3⟩:=hR;exact⟨_,(Mk hnd hg (hl a T' h3)).symm,T',⟨a,h1,h2,h3⟩,rfl⟩
  | panic v=>exact⟨_,List.Perm.refl _,T',hR,rfl⟩
 by_cases hx:∃a T',x= .ok a∧C a T'
 ·obtain⟨a,T',hx,hC⟩:=hx;refine Dr.opn _ [] ho hn Aq hop haft ⟨mkv a,_,T',⟨a,hx,O,hC⟩,O⟩ ?_ ?_ ?_ ?_
  ·rintro v H' ⟨T',⟨a',h1,h2,h3⟩,rfl⟩;exact(next a' T' h1 h3).1
  ·rintro v H' ⟨T',⟨a',h1,h2,h3⟩,rfl⟩;subst h2;exact(next a' T' h1 h3).2.1
  ·rintro v H' ⟨T',⟨a',h1,h2,h3⟩,rfl⟩;subst h2;exact(next a' T' h1 h3).2.2
  rintro v H' ⟨T',⟨e,h1,h2⟩,rfl⟩ τ' hτ;subst h2;exact pan e h1 τ' T' hτ
 refine Dr.pan _ ho hn Aq hop haft chk hfx ?_ owe ?_
 ·rintro v H' ⟨T',⟨a',h1,h2,h3⟩,rfl⟩;exact hx ⟨a',T',h1,h3⟩
 rintro v H' ⟨T',⟨e,h1,h2⟩,rfl⟩ τ' hτ;subst h2;exact pan e h1 τ' T' hτ
end
theorem DZ:∀xs:List AV,GS xs xs
 | []=>Et
 | x::xs=>aw (we rfl) (DZ xs)
def oN (ops:Array Oper) (t:Nat):Bool:=ops.toList.all fun o=>match o.dst with | some u=> !(Nat.beq u t) | none=>true
theorem Rr {ops:Array Oper}{t:Nat}(h:oN ops t=true) (k:Nat) (o:Oper) (ho:ops[k]?=some o):o.dst≠some t:=by
 intro e;have hm:o∈ops.toList:=by
  rw[←Array.getElem?_toList] at ho;exact List.mem_of_getElem? ho
 have:=List.all_eq_true.1 h o hm;simp[e] at this
theorem Mj {L Hs:List BJ}{is:List Nat}(X:List BJ) (hn:is.Nodup) (hg:FY L is Hs):(X++L).Perm (Hs++(X++C8 is 0 L)):=by
 have h:=(Da hn hg).append_left X;refine h.trans ?_;rw[←List.append_assoc,←List.append_assoc];exact List.perm_append_comm.append_right _
theorem Eh.eq {P:Program}{f:FuncId}{caps:List AV}{m:Mx}{H X:List BJ}{R:List BJ→Prop}(h:Eh P f caps m H (fun H'=>H'=X)) (hq:R X):Eh P f caps m H R:=by
 refine⟨h.1,fun F w vs u hH hr hm=>?_⟩;refine(h.2 F w vs u hH hr hm).mono ?_;rintro e u' w' ⟨v,H',F',h1,h2,rfl,h3,h4⟩;exact⟨v,_,F',h1,h2,hq,h3,h4⟩
end Go.Abs
namespace Go.Eu
open Go.Abs
mutual
def Vp:Tm→Prop
 | .mk k i _ _ ks=>(k=0→0≤i∧i<1099511627776)∧Sy ks
def Sy:List Tm→Prop
 | []=>True
 | t::ts=>Vp t∧Sy ts
end
theorem MN:∀{ts:List Tm}{i:Nat}{t:Tm},Sy ts→ts[i]?=some t→Vp t
 | [],i,t,_,h=>by simp at h
 | a::ts,0,t,hn,h=>by simp at h;subst h;exact hn.1
 | a::ts,i+1,t,hn,h=>by simp at h;exact MN hn.2 h
def Pc:Tm→Tm
 | .mk k i n l _=> .mk k i n l []
def Io (i:Int):Except Int Tm:=if i > 65535 then .error 24 else .ok (Oz i)
def Vi (n m:Int):Except Int Int:=if wr (n+m) > 4096 then .error 5 else .ok (wr (n+m))
def Yo (b fr:Int) (t:Tm) (d:Int):Except Int Tm :=
 if t.index - d<fr then .ok (Pc t) else if b<0∧t.index - d<fr - b then .error 24 else Io (t.index+b)
def M3 {α β:Type}(f:α→β):Except Int α→Except Int β
 | .error e=> .error e
 | .ok x=> .ok (f x)
def Dg {α β:Type}(x:Except Int α) (f:α→Except Int β):Except Int β :=
 match x with
 | .error e=> .error e
 | .ok x=>f x
def KQ (rep:Tm→Int→Except Int Tm) (s:Unit) (t:Tm) (d:Int):Except Int ((Tm×Bool)×Unit) :=
 if t.kind=0 then M3 (fun x=>((x,true),())) (rep t d) else .ok ((Pc t,false),())
mutual
def D5 {σ:Type}(vis:σ→Tm→Int→Except Int ((Tm×Bool)×σ)):Tm→Int→σ→Except Int (Tm×σ)
 | .mk k i n l ks,d,s=>Dg (vis s (.mk k i n l ks) d) fun r =>
   if r.1.2=true then .ok (r.1.1,r.2) else Dg (Dy vis k 0 ks d r.2) fun q=> .ok (Li r.1.1 q.1,q.2)
def Dy {σ:Type}(vis:σ→Tm→Int→Except Int ((Tm×Bool)×σ)) (k:Int):Nat→List Tm→Int→σ→Except Int (List Tm×σ)
 | _,[],_,s=> .ok ([],s)
 | j,t::ts,d,s=>Dg (D5 vis t (d+below k j) s) fun r=>Dg (Dy vis k (j+1) ts d r.2) fun q=> .ok (r.1::q.1,q.2)
end
section
variable {σ:Type}{vis:σ→Tm→Int→Except Int ((Tm×Bool)×σ)}
theorem GH {t:Tm}{d:Int}{s q:σ}{o:Tm}(h:vis s t d= .ok ((o,true),q)):D5 vis t d s= .ok (o,q):=by
 obtain⟨k,i,n,l,ks⟩:=t;simp[D5,h,Dg]
theorem H4 {t:Tm}{d e:Int}{s:σ}(h:vis s t d= .error e):D5 vis t d s= .error e:=by
 obtain⟨k,i,n,l,ks⟩:=t;simp[D5,h,Dg]
theorem IT {k i d:Int}{n:ByteArray}{l:List CZ}{ks:List Tm}{s q q':σ}{o:Tm}{ys:List Tm}(h:vis s (.mk k i n l ks) d= .ok ((o,false),q)) (hk:Dy vis k 0 ks d q= .ok (ys,q')):D5 vis (.mk k i n l ks) d s= .ok (Li o ys,q'):=by
 simp[D5,h,Dg,hk]
theorem Jn {k i d e:Int}{n:ByteArray}{l:List CZ}{ks:List Tm}{s q:σ}{o:Tm}(h:vis s (.mk k i n l ks) d= .ok ((o,false),q)) (hk:Dy vis k 0 ks d q= .error e):D5 vis (.mk k i n l ks) d s= .error e:=by
 simp[D5,h,Dg,hk]
def Qo (vis:σ→Tm→Int→Except Int ((Tm×Bool)×σ)) (k:Int) (ts:List Tm) (d:Int) (q0:σ) (i:Nat) (ys:List Tm) (q:σ):Prop :=
 ys.length=i∧Dy vis k 0 ts d q0=Dg (Dy vis k i (ts.drop i) d q) fun r=> .ok (ys++r.1,r.2)
theorem Qo.zero (k:Int) (ts:List Tm) (d:Int) (q0:σ):Qo vis k ts d q0 0 [] q0:=by
 refine⟨O,?_⟩;simp only[List.drop_zero,List.nil_append];cases Dy vis k 0 ts d q0<;>rfl
theorem Qo.err {k d e:Int}{ts ys:List Tm}{q0 q:σ}{i:Nat}{x:Tm}(h:Qo vis k ts d q0 i ys q) (hx:ts[i]?=some x) (hb:D5 vis x (d+below k i) q= .error e):Dy vis k 0 ts d q0= .error e:=by
 rw[h.2,Ch hx,Dy,hb];rfl
theorem Qo.succ {k d:Int}{ts ys:List Tm}{q0 q q':σ}{i:Nat}{x y:Tm}(h:Qo vis k ts d q0 i ys q) (hx:ts[i]?=some x) (hb:D5 vis x (d+below k i) q= .ok (y,q')):Qo vis k ts d q0 (i+1) (ys++[y]) q':=by
 refine⟨by simp[h.1],?_⟩;rw[h.2,Ch hx,Dy,hb];simp only[Dg];cases Dy vis k (i+1) (ts.drop (i+1)) d q'<;>simp
theorem Qo.fin {k d:Int}{ts ys:List Tm}{q0 q:σ}{i:Nat}(h:Qo vis k ts d q0 i ys q) (hi:ts.length≤i):Dy vis k 0 ts d q0= .ok (ys,q):=by
 rw[h.2,List.drop_eq_nil_of_le hi,Dy];simp[Dg]
end
theorem dY {ys:List Tm}{i m:Nat}{x:Tm}(h:ys.length=i) (hm:0<m):(ys++List.replicate m Bi).set i x=(ys++[x])++List.replicate (m - 1) Bi:=by
 subst h;cases m with
 | zero=>omega
 | succ m=>simp[List.replicate_succ]
section
variable {b fr d k i:Int}{n:ByteArray}{l:List CZ}{ks:List Tm}
theorem Ya (h:i - d<fr):Yo b fr (.mk k i n l ks) d= .ok (.mk k i n l []):=by simp[Yo,Tm.index,Pc,h]
theorem jH (h:¬i - d<fr) (h2:b<0) (h3:i - d<fr - b):Yo b fr (.mk k i n l ks) d= .error 24:=by unfold Yo;exact(if_neg h).trans (if_pos ⟨h2,h3⟩)
theorem YM (h:¬i - d<fr) (h2:¬(b<0∧i - d<fr - b)):Yo b fr (.mk k i n l ks) d=Io (i+b):=by unfold Yo;exact(if_neg h).trans (if_neg h2)
variable {rep:Tm→Int→Except Int Tm}{s:Unit}
theorem Of {e:Int}(h:k=0) (hr:rep (.mk k i n l ks) d= .error e):KQ rep s (.mk k i n l ks) d= .error e:=by unfold KQ;exact(if_pos h).trans (by rw[hr];rfl)
theorem MH {x:Tm}(h:k=0) (hr:rep (.mk k i n l ks) d= .ok x):KQ rep s (.mk k i n l ks) d= .ok ((x,true),()):=by unfold KQ;exact(if_pos h).trans (by rw[hr];rfl)
theorem N1 (h:k≠0):KQ rep s (.mk k i n l ks) d= .ok ((.mk k i n l [],false),()):=by unfold KQ;exact(if_neg h).trans rfl
end
def Kd (b fr:Int) (t:Tm):Except Int Tm:=M3 Prod.fst (D5 (KQ (Yo b fr)) t 0 ())
theorem Qn {α β:Type}{f:α→β}{x:Except Int α}{a:α}(h:x= .ok a):M3 f x= .ok (f a):=by rw[h];rfl
theorem Ot {α β:Type}{f:α→β}{x:Except Int α}{e:Int}(h:x= .error e):M3 f x= .error e:=by rw[h];rfl
def JG (vs:List Tm) (dp ti d:Int):Int:=if 0≤wr (wr (ti - d) - dp)∧wr (wr (ti - d) - dp)<(vs.length:Int) then wr (wr (ti - d) - dp) else -1
theorem dV {vs:List Tm}{dp ti d:Int}(h1:0≤wr (wr (ti - d) - dp)) (h2:wr (wr (ti - d) - dp)<(vs.length:Int)):JG vs dp ti d=wr (wr (ti - d) - dp):=if_pos ⟨h1,h2⟩
theorem iQ {vs:List Tm}{dp ti d:Int}(h:¬(0≤wr (wr (ti - d) - dp)∧wr (wr (ti - d) - dp)<(vs.length:Int))):JG vs dp ti d= -1:=if_neg h
theorem UY {vs:List Tm}{dp ti d:Int}(h:0≤JG vs dp ti d):JG vs dp ti d<(vs.length:Int):=by
 unfold JG at *;split<;>omega
def U7 (vs:List Tm) (sz:List Int) (dp:Int) (t:Tm) (d:Int):Int :=
 if t.kind=0∧0≤JG vs dp t.index d then sz.getD (JG vs dp t.index d).toNat 0 else 1
def R1 (vs:List Tm) (sz:List Int) (dp:Int) (n:Int) (t:Tm) (d:Int):Except Int ((Tm×Bool)×Int) :=
 M3 (fun m=>((Bi,decide (t.kind=0)),m)) (Vi n (U7 vs sz dp t d))
def K7 (vs:List Tm) (dp:Int) (t:Tm) (d:Int):Except Int Tm :=
 if 0≤JG vs dp t.index d then Kd (wr (dp+d)) 0 (vs.getD (JG vs dp t.index d).toNat Bi)
 else if wr (t.index - d)<dp then .ok (Pc t) else Io (wr (t.index - vs.length))
def Jy (vs:List Tm) (dp:Int) (t:Tm):Except Int Tm :=
 Dg (D5 (R1 vs (vs.map fun v=>(size v:Int)) dp) t 0 0) fun _=>M3 Prod.fst (D5 (KQ (K7 vs dp)) t 0 ())
def F8 (t:Tm) (vs:List Tm) (dp:Int):Tm×Int :=
 match Jy vs dp t with
 | .error e=>(Bi,e)
 | .ok x=>if Ev x > 200 then (Bi,7) else (x,0)
section
variable {vs:List Tm}{sz:List Int}{dp n d k i r m e:Int}{nm:ByteArray}{l:List CZ}{ks:List Tm}
theorem QT (hm:U7 vs sz dp (.mk k i nm l ks) d=m) (hz:Vi n m= .ok r):R1 vs sz dp n (.mk k i nm l ks) d= .ok ((Bi,decide (k=0)),r):=by
 subst hm;exact Qn hz
theorem OY (hm:U7 vs sz dp (.mk k i nm l ks) d=m) (hz:Vi n m= .error e):R1 vs sz dp n (.mk k i nm l ks) d= .error e:=by
 subst hm;exact Ot hz
theorem SB (h:k=0∧0≤JG vs dp i d) (hx:sz[(JG vs dp i d).toNat]?=some m):U7 vs sz dp (.mk k i nm l ks) d=m:=by
 unfold U7;refine(if_pos h).trans ?_;rw[List.getD_eq_getElem?_getD];exact(congrArg (fun o=>Option.getD o 0) hx)
theorem QV (h:¬(k=0∧0≤JG vs dp i d)):U7 vs sz dp (.mk k i nm l ks) d=1:=by
 unfold U7;exact if_neg h
theorem RS {v:Tm}(h:0≤JG vs dp i d) (hx:vs[(JG vs dp i d).toNat]?=some v):K7 vs dp (.mk k i nm l ks) d=Kd (wr (dp+d)) 0 v:=by
 unfold K7;refine(if_pos h).trans ?_;rw[List.getD_eq_getElem?_getD];exact(congrArg (fun o=>Kd (wr (dp+d)) 0 (Option.getD o Bi)) hx)
theorem WM (h:¬0≤JG vs dp i d) (h2:wr (i - d)<dp):K7 vs dp (.mk k i nm l ks) d= .ok (.mk k i nm l []):=by
 unfold K7;exact(if_neg h).trans ((if_pos h2).trans rfl)
theorem UL (h:¬0≤JG vs dp i d) (h2:¬wr (i - d)<dp):K7 vs dp (.mk k i nm l ks) d=Io (wr (i - vs.length)):=by
 unfold K7;exact(if_neg h).trans (if_neg h2)
end
theorem I0 {t:Tm}{vs:List Tm}{dp e:Int}(h:Jy vs dp t= .error e):F8 t vs dp=(Bi,e):=by unfold F8;rw[h]
theorem Po {t x:Tm}{vs:List Tm}{dp:Int}(h:Jy vs dp t= .ok x) (hd:Ev x > 200):F8 t vs dp=(Bi,7):=by unfold F8;rw[h];exact if_pos hd
theorem TR {t x:Tm}{vs:List Tm}{dp:Int}(h:Jy vs dp t= .ok x) (hd:¬Ev x > 200):F8 t vs dp=(x,0):=by unfold F8;rw[h];exact if_neg hd
theorem MY {t x:Tm}{vs:List Tm}{dp:Int}{a:Tm×Int}{b:Unit}(h1:D5 (R1 vs (vs.map fun v=>(size v:Int)) dp) t 0 0= .ok a) (h2:D5 (KQ (K7 vs dp)) t 0 ()= .ok (x,b)):Jy vs dp t= .ok x:=by
 unfold Jy;rw[h1];exact Qn h2
theorem Py {t:Tm}{vs:List Tm}{dp e:Int}(h1:D5 (R1 vs (vs.map fun v=>(size v:Int)) dp) t 0 0= .error e):Jy vs dp t= .error e:=by
 unfold Jy;rw[h1];rfl
theorem P1 {t:Tm}{vs:List Tm}{dp e:Int}{a:Tm×Int}(h1:D5 (R1 vs (vs.map fun v=>(size v:Int)) dp) t 0 0= .ok a) (h2:D5 (KQ (K7 vs dp)) t 0 ()= .error e):Jy vs dp t= .error e:=by
 unfold Jy;rw[h1];exact Ot h2
theorem X8:∀{ts:List Tm},(∀t∈ts,Nd t)→Ld ts
 | [],_=>trivial
 | t::ts,h=>⟨h t Ap,X8 fun x hx=>h x (by simp[hx])⟩
section
variable {σ:Type}{vis:σ→Tm→Int→Except Int ((Tm×Bool)×σ)}
mutual
theorem PW (hv:∀s t d r,Nd t→Vp t→vis s t d= .ok r→Nd r.1.1):∀(t:Tm) (d:Int) (s:σ) (r:Tm×σ),Nd t→Vp t→D5 vis t d s= .ok r→Nd r.1
 | .mk k i n l ks,d,s,r,h1,h2,h=>by
  unfold D5 Dg at h;split at h
  ·cases h
  rename_i r1 hr;have hn:=hv _ _ _ _ h1 h2 hr;simp only at h;split at h
  ·injection h with h;subst h;exact hn
  split at h
  ·cases h
  rename_i q hq;injection h with h;subst h;obtain⟨g1,g2⟩:=SJ hv ks k 0 d r1.2 q h1.2.2.2.2.1 h2.2 hq;obtain⟨⟨o,dn⟩,q1⟩:=r1;obtain⟨ok,oi,on,ol,os⟩:=o;exact⟨hn.1,hn.2.1,hn.2.2.1,by rw[g2];exact h1.2.2.2.1,g1,hn.2.2.2.2.2⟩
theorem SJ (hv:∀s t d r,Nd t→Vp t→vis s t d= .ok r→Nd r.1.1):∀(ts:List Tm) (k:Int) (j:Nat) (d:Int) (s:σ) (r:List Tm×σ),Ld ts→Sy ts→Dy vis k j ts d s= .ok r→Ld r.1∧r.1.length=ts.length
 | [],k,j,d,s,r,h1,h2,h=>by
  unfold Dy at h;injection h with h;subst h;exact⟨trivial,rfl⟩
 | t::ts,k,j,d,s,r,h1,h2,h=>by
  unfold Dy Dg at h;split at h
  ·cases h
  rename_i r1 hr;simp only at h;split at h
  ·cases h
  rename_i q hq;injection h with h;subst h;obtain⟨g1,g2⟩:=SJ hv ts k (j+1) d r1.2 q h1.2 h2.2 hq;exact⟨⟨PW hv t _ _ _ h1.1 h2.1 hr,g1⟩,by simp[g2]⟩
end
end
theorem R9 {t:Tm}(h:Nd t):Nd (Pc t):=by
 obtain⟨k,i,n,l,ks⟩:=t;exact⟨h.1,h.2.1,h.2.2.1,by decide,trivial,h.2.2.2.2.2⟩
theorem WQ {i:Int}{x:Tm}(hi: -9223372036854775808≤i) (h:Io i= .ok x):Nd x:=by
 unfold Io at h;split at h
 ·cases h
 injection h with h;subst h;exact⟨by decide,by decide,by simp,by decide,trivial,⟨by decide,by decide⟩,⟨hi,by omega⟩⟩
theorem ZM {rep:Tm→Int→Except Int Tm}(hr:∀t d x,Nd t→Vp t→t.kind=0→rep t d= .ok x→Nd x):∀(s:Unit) (t:Tm) (d:Int) (r:(Tm×Bool)×Unit),Nd t→Vp t→KQ rep s t d= .ok r→Nd r.1.1:=by
 intro s t d r h1 h2 h;unfold KQ at h;split at h
 ·rename_i hk;unfold M3 at h;split at h
  ·cases h
  rename_i x hx;injection h with h;subst h;exact hr t d x h1 h2 hk hx
 injection h with h;subst h;exact R9 h1
theorem Zf {b fr:Int}{t x:Tm}(hb:I2 b) (h1:Nd t) (h2:Vp t) (h:Kd b fr t= .ok x):Nd x:=by
 unfold Kd M3 at h;split at h
 ·cases h
 rename_i r hr;injection h with h;subst h;refine PW (ZM ?_) t 0 () r h1 h2 hr;intro t d x g1 g2 g3 g;obtain⟨k,i,n,l,ks⟩:=t;have hi:=g2.1 g3;unfold Yo at g;split at g
 ·injection g with g;subst g;exact R9 g1
 split at g
 ·cases g
 exact WQ (by have:=hb.1;simp only[Tm.index];omega) g
theorem gA {vs:List Tm}{dp:Int}{t x:Tm}{u:Unit}(hv:Ld vs) (hp:Sy vs) (h1:Nd t) (h2:Vp t) (h:D5 (KQ (K7 vs dp)) t 0 ()= .ok (x,u)):Nd x:=by
 refine PW (ZM ?_) t 0 () (x,u) h1 h2 h;intro t d x g1 g2 g3 g;unfold K7 at g;split at g
 ·rename_i h0;have hl:=UY h0;obtain⟨v,hx⟩:=A7 (l:=vs) (i:=(JG vs dp t.index d).toNat) Ao;rw[List.getD_eq_getElem?_getD,hx] at g;exact Zf (Xf _) (DW hv hx) (MN hp hx) g
 split at g
 ·injection g with g;subst g;exact R9 g1
 exact WQ (Xf _).1 g
theorem kG {vs:List Tm}{i:Nat}{x:Tm}(hx:vs[i]?=some x):(((vs.take i).map fun v=>(size v:Int))++List.replicate (vs.length - i) 0).set i (size x:Int)=((vs.take (i+1)).map fun v=>(size v:Int))++List.replicate (vs.length - (i+1)) 0:=by
 have hi:i<vs.length:=by
  rcases Nat.lt_or_ge i vs.length with h | h
  ·exact h
  rw[List.getElem?_eq_none h] at hx;cases hx
 obtain⟨m,hm⟩:∃m,vs.length - i=m+1:=⟨vs.length - i - 1,by omega⟩;have hl:((vs.take i).map fun v=>(size v:Int)).length=i:=by simp;omega
 rw[List.take_add_one,hx,hm,show vs.length - (i+1)=m by omega,List.replicate_succ,List.set_append_right _ _ Ao,hl];simp
theorem nB {vs:List Tm}{i:Nat}(h:vs.length≤i):((vs.take i).map fun v=>(size v:Int))++List.replicate (vs.length - i) 0=vs.map fun v=>(size v:Int):=by
 rw[List.take_of_length_le h,show vs.length - i=0 by omega];simp
theorem ZU {k i:Int}{n:ByteArray}{l:List CZ}{ks:List Tm}(h:Wt (.mk k i n l ks)) (hk:k=0):ks=[]:=by
 have:=h.1;subst hk;cases ks with
 | nil=>rfl
 | cons a b=>simp[arity] at this;omega
def FW (x:Tm×Int):Except Int (Tm×Unit):=if x.2=0 then .ok (x.1,()) else .error x.2
def G4 (x:List Tm×Int):Except Int (List Tm×Unit):=if x.2=0 then .ok (x.1,()) else .error x.2
theorem Wq {er e:Int}(h:er≠0):Gg er e=er:=by unfold Gg;rw[if_neg h]
theorem YX {er i:Int}(h:er≠0):NX er i=er:=by unfold NX;split<;>simp[Wq h]
mutual
theorem Tg (b fr:Int):∀(t:Tm) (d er:Int),er≠0→(Cf b fr d er t).2=er
 | .mk k i n l ks,d,er,h=>by
  unfold Cf;split
  ·split
   ·rfl
   split
   ·exact Wq h
   exact YX h
  exact LF b fr k ks d 0 er h
theorem LF (b fr k:Int):∀(ts:List Tm) (d:Int) (j:Nat) (er:Int),er≠0→(DJ b fr k d j er ts).2=er
 | [],d,j,er,h=>rfl
 | t::ts,d,j,er,h=>by
  unfold DJ;simp only;rw[Tg b fr t _ er h];exact LF b fr k ts d (j+1) er h
end
mutual
theorem TC (b:Int) (hb:0≤b) (hb2:b<4398046511104):∀(t:Tm) (d:Int),Wt t→Vp t→0≤d→d+size t<2199023255552→D5 (KQ (Yo b 0)) t d ()=FW (Cf b 0 d 0 t)
 | .mk k i n l ks,d,h1,h2,h3,h4=>by
  by_cases hk:k=0
  ·have hks:=ZU h1 hk;have hi:=h2.1 hk;have e1:wr (0+d)=d:=by rw[Int.zero_add];exact Eb (by unfold I2;omega)
   have e2:wr (i+b)=i+b:=Eb (by unfold I2;omega);by_cases hlo:i - d<0
   ·rw[GH (MH hk (Ya hlo))];unfold Cf;rw[if_pos hk,e1,if_pos Ao];subst hks;rfl
   have hsh:Yo b 0 (.mk k i n l ks) d=Io (i+b):=YM hlo Ao;unfold Cf;rw[if_pos hk,e1,if_neg Ao,e2,if_neg Ao];by_cases hbig:i+b > 65535
   ·rw[H4 (Of hk (hsh.trans (if_pos hbig)))];unfold FW NX Gg;simp[hbig]
   rw[GH (MH hk (hsh.trans (if_neg hbig)))];unfold FW NX;simp[hbig]
  have hs:d+Bb ks<2199023255551:=by simp only[size] at h4;omega
  have hL:=R7 b hb hb2 k ks d 0 h1.2.2 h2.2 h3 hs;unfold Cf;rw[if_neg hk];unfold G4 at hL;unfold FW;by_cases he:(DJ b 0 k d 0 0 ks).2=0
  ·rw[if_pos he] at hL;rw[if_pos he];exact IT (N1 hk) hL
  rw[if_neg he] at hL;rw[if_neg he];exact Jn (N1 hk) hL
theorem R7 (b:Int) (hb:0≤b) (hb2:b<4398046511104) (k:Int):∀(ts:List Tm) (d:Int) (j:Nat),Nl ts→Sy ts→0≤d→d+Bb ts<2199023255551→Dy (KQ (Yo b 0)) k j ts d ()=G4 (DJ b 0 k d j 0 ts)
 | [],d,j,h1,h2,h3,h4=>rfl
 | t::ts,d,j,h1,h2,h3,h4=>by
  have hbl:=C5 k j;simp only[Bb] at h4;have hT:=TC b hb hb2 t (d+below k j) h1.1 h2.1 Ao Ao;have hL:=R7 b hb hb2 k ts d (j+1) h1.2 h2.2 h3 Ao;unfold Dy DJ;rw[hT];unfold FW G4 Dg;by_cases he:(Cf b 0 (d+below k j) 0 t).2=0
  ·rw[if_pos he];simp only;rw[hL,he];unfold G4;by_cases hq:(DJ b 0 k d (j+1) 0 ts).2=0
   ·rw[if_pos hq,if_pos hq]
   rw[if_neg hq,if_neg hq]
  rw[if_neg he];simp only;rw[LF b 0 k ts d (j+1) _ he,if_neg he]
end
theorem aF {b:Int}{v:Tm}(hb:0≤b) (hb2:b<4398046511104) (h1:Wt v) (h2:Vp v) (h3:size v<1099511627776):Kd b 0 v=if (Cf b 0 0 0 v).2=0 then .ok (Cf b 0 0 0 v).1 else .error (Cf b 0 0 0 v).2:=by
 unfold Kd;rw[TC b hb hb2 v 0 h1 h2 Ao Ao];unfold FW;split<;>rfl
section
variable {vs:List Tm}{d er nd k i:Int}{n:ByteArray}{l:List CZ}{ks:List Tm}
theorem Ni {t:Tm}(h:nd > 4096):CD vs d er nd t=(t,er,nd):=by
 obtain⟨k,i,n,l,ks⟩:=t;unfold CD;rw[if_pos h]
theorem Jc (h:nd > 4096):∀(ts:List Tm) (d:Int) (j:Nat),Cd vs k d j er nd ts=(ts,er,nd)
 | [],d,j=>rfl
 | t::ts,d,j=>by unfold Cd;rw[Ni h];simp only;rw[Jc h ts d (j+1)]
theorem Nf {v:Tm}(h:nd≤4096) (hk:k=0) (h1:i≥d) (h2:i - d<(vs.length:Int)) (hv:vs[(i - d).toNat]?=some v):CD vs d er nd (.mk k i n l ks)=((Cf d 0 0 er v).1,(Cf d 0 0 er v).2,wr (nd+Eo v)):=by
 unfold CD;rw[if_neg Ao,if_pos ⟨hk,h1,h2⟩,List.getD_eq_getElem?_getD,hv];rfl
theorem Pb (h:nd≤4096) (hk:k=0) (h1:i≥d) (h2:¬i - d<(vs.length:Int)):CD vs d er nd (.mk k i n l ks)=(Oz (wr (i - vs.length)),NX er (wr (i - vs.length)),wr (nd+1)):=by
 unfold CD;rw[if_neg Ao,if_neg Ao,if_pos hk,if_pos h1]
theorem Nc (h:nd≤4096) (hk:k=0) (h1:¬i≥d):CD vs d er nd (.mk k i n l ks)=(.mk k i n l ks,er,wr (nd+1)):=by
 unfold CD;rw[if_neg Ao,if_neg Ao,if_pos hk,if_neg h1]
theorem Ll (h:nd≤4096) (hk:k≠0):CD vs d er nd (.mk k i n l ks)=((.mk k i n l (Cd vs k d 0 er (wr (nd+1)) ks).1),(Cd vs k d 0 er (wr (nd+1)) ks).2):=by
 unfold CD;rw[if_neg Ao,if_neg Ao,if_neg hk]
end
mutual
theorem aN (vs:List Tm):∀(t:Tm) (d er nd:Int),er≠0→(CD vs d er nd t).2.1=er
 | .mk k i n l ks,d,er,nd,h=>by
  unfold CD;split
  ·rfl
  split
  ·exact Tg _ _ _ _ _ h
  split
  ·split
   ·exact YX h
   rfl
  exact LD vs k ks d 0 er _ h
theorem LD (vs:List Tm) (k:Int):∀(ts:List Tm) (d:Int) (j:Nat) (er nd:Int),er≠0→(Cd vs k d j er nd ts).2.1=er
 | [],d,j,er,nd,h=>rfl
 | t::ts,d,j,er,nd,h=>by
  unfold Cd;simp only;rw[aN vs t _ er nd h];exact LD vs k ts d (j+1) er _ h
end
structure QA (vs:List Tm) (dp:Int):Prop where
 wt:Nl vs
 vp:Sy vs
 sz:∀x∈vs,size x<1099511627776
 len:vs.length<1099511627776
 lo:0≤dp
 hi:dp≤65536
theorem QA.size {vs:List Tm}{dp:Int}(V:QA vs dp):∀x∈vs,(size x:Int)≤1099511627776:=fun x hx=>by have:=V.sz x hx;omega
theorem Yi {vs:List Tm}{dp i d:Int}(V:QA vs dp) (h1:0≤i) (h2:i<1099511627776) (h3:0≤d) (h4:d<2199023255552):JG vs dp i d=if dp+d≤i∧i - (dp+d)<(vs.length:Int) then i - (dp+d) else -1:=by
 have:=V.lo;have:=V.hi;have e1:wr (i - d)=i - d:=Eb (by unfold I2;omega);have e2:wr (i - d - dp)=i - (dp+d):=by rw[Eb (by unfold I2;omega)];omega
 unfold JG;rw[e1,e2];by_cases h:dp+d≤i∧i - (dp+d)<(vs.length:Int)
 ·rw[if_pos h,if_pos Ao]
 rw[if_neg h,if_neg Ao]
theorem Yc {n m:Int}(h1:0≤n) (h2:n≤4096) (h3:0≤m) (h4:m≤1099511627776):Vi n m=if n+m > 4096 then .error 5 else .ok (n+m):=by
 unfold Vi;rw[show wr (n+m)=n+m from Eb (by unfold I2;omega)]
def ka {α:Type}(x:Except Int (α×Int)) (m:Int):Prop:=(m > 4096→x= .error 5)∧(m≤4096→∃z,x= .ok (z,m))
def lZ (vs:List Tm):List Int:=vs.map fun v=>(size v:Int)
theorem iK {vs:List Tm}{i:Nat}{v:Tm}(h:vs[i]?=some v):(lZ vs)[i]?=some (size v:Int):=by simp[lZ,h]
mutual
theorem Y1 {vs:List Tm}{dp:Int}(V:QA vs dp):∀(t:Tm) (d er nd:Int),Wt t→Vp t→0≤d→d+size t<2199023255552→0≤nd→nd≤4096→ka (D5 (R1 vs (lZ vs) dp) t d nd) (CD vs (dp+d) er nd t).2.2
 | .mk k i n l ks,d,er,nd,h1,h2,h3,h4,h5,h6=>by
  have hone:∀m:Int,0≤m→m≤1099511627776→U7 vs (lZ vs) dp (.mk k i n l ks) d=m→k=0→ka (D5 (R1 vs (lZ vs) dp) (.mk k i n l ks) d nd) (wr (nd+m)):=by
   intro m g1 g2 g3 hk;have ha:=Yc h5 h6 g1 g2;rw[show wr (nd+m)=nd+m from Eb (by unfold I2;omega)];refine⟨fun h=>?_,fun h=>?_⟩
   ·rw[if_pos h] at ha;exact H4 (OY g3 ha)
   rw[if_neg Ao] at ha;refine⟨Bi,GH ?_⟩;rw[QT g3 ha,hk];rfl
  by_cases hk:k=0
  ·have hi:=h2.1 hk;have hd:d<2199023255552:=by have:=size_pos (Tm.mk k i n l ks);omega
   have hv:=Yi V hi.1 hi.2 h3 hd;by_cases hin:dp+d≤i∧i - (dp+d)<(vs.length:Int)
   ·rw[if_pos hin] at hv;obtain⟨v,hx⟩:=A7 (l:=vs) (i:=(i - (dp+d)).toNat) Ao;have hsv:=V.sz v (List.mem_of_getElem? hx);rw[Nf h6 hk hin.1 hin.2 hx,No Ao];exact hone _ Ao Ao (SB ⟨hk,by omega⟩ (by rw[hv];exact iK hx)) hk
   rw[if_neg hin] at hv;have hc:=hone 1 Ao Ao (QV Ao) hk;by_cases hge:i≥dp+d
   ·rw[Pb h6 hk hge Ao];exact hc
   rw[Nc h6 hk hge];exact hc
  rw[Ll h6 hk];have hs:d+Bb ks<2199023255551:=by simp only[size] at h4;omega
  have e1:wr (nd+1)=nd+1:=Eb (by unfold I2;omega);have ha:=Yc (m:=1) h5 h6 Ao Ao;have hn:U7 vs (lZ vs) dp (.mk k i n l ks) d=1:=QV Ao;have hdec:decide (k=0)=false:=by simp[hk]
  simp only;rw[e1];by_cases hbig:nd+1 > 4096
  ·rw[Jc hbig];rw[if_pos hbig] at ha;exact⟨fun _=>H4 (OY hn ha),fun h=>by simp only at h;omega⟩
  rw[if_neg hbig] at ha;have hc:=QT (l:=l) hn ha;rw[hdec] at hc;obtain⟨g1,g2⟩:=Vh V k ks d 0 er (nd+1) h1.2.2 h2.2 h3 hs Ao Ao;refine⟨fun h=>Jn hc (g1 h),fun h=>?_⟩;obtain⟨z,hz⟩:=g2 h;exact⟨_,IT hc hz⟩
theorem Vh {vs:List Tm}{dp:Int}(V:QA vs dp) (k:Int):∀(ts:List Tm) (d:Int) (j:Nat) (er nd:Int),Nl ts→Sy ts→0≤d→d+Bb ts<2199023255551→0≤nd→nd≤4096→ka (Dy (R1 vs (lZ vs) dp) k j ts d nd) (Cd vs k (dp+d) j er nd ts).2.2
 | [],d,j,er,nd,h1,h2,h3,h4,h5,h6=>⟨fun h=>by simp only[Cd] at h;omega,fun _=>⟨_,rfl⟩⟩
 | t::ts,d,j,er,nd,h1,h2,h3,h4,h5,h6=>by
  have hbl:=C5 k j;simp only[Bb] at h4;obtain⟨g1,g2⟩:=Y1 V t (d+below k j) er nd h1.1 h2.1 Ao Ao h5 h6;have hm:=(Jh 1099511627776 Ao Ao t vs (dp+d+below k j) er nd h1.1 V.wt V.size h5 Ao).1;rw[show dp+(d+below k j)=dp+d+below k j by omega] at g1 g2;unfold Dy Cd;simp only;by_cases hbig:(CD vs (dp+d+below k j) er nd t).2.2 > 4096
  ·rw[g1 hbig,Jc hbig];exact⟨fun _=>O,fun h=>by simp only at h;omega⟩
  obtain⟨z,hz⟩:=g2 Ao;rw[hz];obtain⟨f1,f2⟩:=Vh V k ts d (j+1) (CD vs (dp+d+below k j) er nd t).2.1 (CD vs (dp+d+below k j) er nd t).2.2 h1.2 h2.2 h3 Ao Ao Ao;refine⟨fun h=>?_,fun h=>?_⟩
  ·simp only[Dg];rw[f1 h]
  obtain⟨y,hy⟩:=f2 h;exact⟨z::y,by simp only[Dg];rw[hy]⟩
end
mutual
theorem Yb {vs:List Tm}{dp:Int}(V:QA vs dp):∀(t:Tm) (d nd:Int),Wt t→Vp t→0≤d→d+size t<2199023255552→0≤nd→(CD vs (dp+d) 0 nd t).2.2≤4096→D5 (KQ (K7 vs dp)) t d ()=FW ((CD vs (dp+d) 0 nd t).1,(CD vs (dp+d) 0 nd t).2.1)
 | .mk k i n l ks,d,nd,h1,h2,h3,h4,h5,h6=>by
  have h7:nd≤4096:=by
   rcases Int.lt_or_le 4096 nd with h | h
   ·rw[Ni h] at h6;simp only at h6;omega
   exact h
  have:=V.lo;have:=V.hi;have:=V.len;by_cases hk:k=0
  ·have hi:=h2.1 hk;have hks:=ZU h1 hk;have hd:d<2199023255552:=by have:=size_pos (Tm.mk k i n l ks);omega
   have hv:=Yi V hi.1 hi.2 h3 hd;by_cases hin:dp+d≤i∧i - (dp+d)<(vs.length:Int)
   ·rw[if_pos hin] at hv;obtain⟨v,hx⟩:=A7 (l:=vs) (i:=(i - (dp+d)).toNat) Ao;have hsv:=V.sz v (List.mem_of_getElem? hx);rw[Nf h7 hk hin.1 hin.2 hx];have hr:K7 vs dp (.mk k i n l ks) d=Kd (wr (dp+d)) 0 v:=RS Ao (by rw[hv];exact hx);rw[show wr (dp+d)=dp+d from Eb (by unfold I2;omega),aF Ao Ao (QR V.wt hx) (MN V.vp hx) hsv] at hr;unfold FW;by_cases he:(Cf (dp+d) 0 0 0 v).2=0
    ·rw[if_pos he] at hr;rw[if_pos he];exact GH (MH hk hr)
    rw[if_neg he] at hr;rw[if_neg he];exact H4 (Of hk hr)
   rw[if_neg hin] at hv;have e1:wr (i - d)=i - d:=Eb (by unfold I2;omega);by_cases hge:i≥dp+d
   ·rw[Pb h7 hk hge Ao];have hr:K7 vs dp (.mk k i n l ks) d=Io (wr (i - vs.length)):=UL Ao (by rw[e1];omega);unfold Io at hr;unfold FW NX Gg;by_cases hbig:wr (i - vs.length) > 65535
    ·rw[if_pos hbig] at hr;simp only[hbig,if_true];exact H4 (Of hk hr)
    rw[if_neg hbig] at hr;simp only[hbig,if_false,if_true];exact GH (MH hk hr)
   rw[Nc h7 hk hge];have hr:K7 vs dp (.mk k i n l ks) d= .ok (.mk k i n l []):=WM Ao (by rw[e1];omega);subst hks;exact GH (MH hk hr)
  rw[Ll h7 hk] at h6 ⊢;have hs:d+Bb ks<2199023255551:=by simp only[size] at h4;omega
  have e1:wr (nd+1)=nd+1:=Eb (by unfold I2;omega);simp only at h6 ⊢;rw[e1] at h6 ⊢;have hL:=Vz V k ks d 0 (nd+1) h1.2.2 h2.2 h3 hs Ao h6;unfold G4 at hL;unfold FW;by_cases he:(Cd vs k (dp+d) 0 0 (nd+1) ks).2.1=0
  ·rw[if_pos he] at hL;rw[if_pos he];exact IT (N1 hk) hL
  rw[if_neg he] at hL;rw[if_neg he];exact Jn (N1 hk) hL
theorem Vz {vs:List Tm}{dp:Int}(V:QA vs dp) (k:Int):∀(ts:List Tm) (d:Int) (j:Nat) (nd:Int),Nl ts→Sy ts→0≤d→d+Bb ts<2199023255551→0≤nd→(Cd vs k (dp+d) j 0 nd ts).2.2≤4096→Dy (KQ (K7 vs dp)) k j ts d ()=G4 ((Cd vs k (dp+d) j 0 nd ts).1,(Cd vs k (dp+d) j 0 nd ts).2.1)
 | [],d,j,nd,h1,h2,h3,h4,h5,h6=>rfl
 | t::ts,d,j,nd,h1,h2,h3,h4,h5,h6=>by
  have hbl:=C5 k j;simp only[Bb] at h4;have h7:nd≤4096:=by
   rcases Int.lt_or_le 4096 nd with h | h
   ·rw[Jc h] at h6;simp only at h6;omega
   exact h
  have hm:=(Jh 1099511627776 Ao Ao t vs (dp+d+below k j) 0 nd h1.1 V.wt V.size h5 Ao);unfold Cd at h6;simp only at h6;have hm2:=(Kk 1099511627776 Ao Ao ts vs k (dp+d) (j+1) (CD vs (dp+d+below k j) 0 nd t).2.1 (CD vs (dp+d+below k j) 0 nd t).2.2 h1.2 V.wt V.size Ao hm.2.1).1;have hT:=Yb V t (d+below k j) nd h1.1 h2.1 Ao Ao h5 (by rw[show dp+(d+below k j)=dp+d+below k j by omega];omega);rw[show dp+(d+below k j)=dp+d+below k j by omega] at hT;unfold Dy Cd;rw[hT];simp only;unfold FW G4 Dg;by_cases he:(CD vs (dp+d+below k j) 0 nd t).2.1=0
  ·have hL:=Vz V k ts d (j+1) (CD vs (dp+d+below k j) 0 nd t).2.2 h1.2 h2.2 h3 Ao Ao (by rw[he] at h6;exact h6);simp only;rw[if_pos he];simp only;rw[hL,he];unfold G4;by_cases hq:(Cd vs k (dp+d) (j+1) 0 (CD vs (dp+d+below k j) 0 nd t).2.2 ts).2.1=0
   ·simp only[hq,if_true]
   simp only[hq,if_false]
  simp only;rw[if_neg he];simp only;rw[LD vs k ts (dp+d) (j+1) _ _ he,if_neg he]
end
theorem aU {t:Tm}{vs:List Tm}{dp:Int}(V:QA vs dp) (h1:Wt t) (h2:Vp t) (h3:size t<1099511627776):F8 t vs dp=CT t vs dp:=by
 have:=V.lo;have:=V.hi;have hmin:min dp 65536=dp:=by omega
 obtain⟨g1,g2⟩:=Y1 V t 0 0 0 h1 h2 Ao Ao Ao Ao;rw[Int.add_zero] at g1 g2;unfold CT;rw[hmin];by_cases hbig:(CD vs dp 0 0 t).2.2 > 4096
 ·rw[if_pos hbig];exact I0 (Py (g1 hbig))
 rw[if_neg hbig];obtain⟨z,hz⟩:=g2 Ao;have hr:=Yb V t 0 0 h1 h2 Ao Ao Ao (by rw[Int.add_zero];omega);rw[Int.add_zero] at hr;unfold FW at hr;simp only at hr;by_cases he:(CD vs dp 0 0 t).2.1=0
 ·rw[if_pos he] at hr;rw[if_neg Ao];by_cases hd:Ev (CD vs dp 0 0 t).1 > 200
  ·rw[if_pos hd];exact Po (MY hz hr) hd
  rw[if_neg hd];exact TR (MY hz hr) hd
 rw[if_neg he] at hr;rw[if_pos he];exact I0 (P1 hz hr)
theorem dq {i:Int}(h0:0≤i) (h1:i≤65535):Vp (Oz i):=⟨fun _=>⟨h0,by omega⟩,trivial⟩
theorem Uf:Vp Bi:=⟨fun _=>⟨by omega,by omega⟩,trivial⟩
mutual
theorem Sm (b:Int) (hb:0≤b) (hb2:b<4398046511104):∀(t:Tm) (d:Int),Vp t→0≤d→d+size t<4398046511104→(Cf b 0 d 0 t).2=0→Vp (Cf b 0 d 0 t).1
 | .mk k i n l ks,d,h,hd,hd2,he=>by
  by_cases hk:k=0
  ·have hi:=h.1 hk;have e1:wr (0+d)=d:=by rw[Int.zero_add];exact Eb (by unfold I2;omega)
   have e2:wr (i+b)=i+b:=Eb (by unfold I2;omega);unfold Cf at he ⊢;rw[if_pos hk,e1,e2] at he ⊢;by_cases hlo:i<d
   ·rw[if_pos hlo];exact h
   rw[if_neg hlo,if_neg Ao] at he ⊢;unfold NX Gg at he;by_cases hbig:i+b > 65535
   ·simp[hbig] at he
   exact dq Ao Ao
  unfold Cf at he ⊢;rw[if_neg hk] at he ⊢;simp only[size] at hd2;exact⟨fun h=>absurd h hk,Q3 b hb hb2 k ks d 0 h.2 hd Ao he⟩
theorem Q3 (b:Int) (hb:0≤b) (hb2:b<4398046511104) (k:Int):∀(ts:List Tm) (d:Int) (j:Nat),Sy ts→0≤d→d+Bb ts<4398046511103→(DJ b 0 k d j 0 ts).2=0→Sy (DJ b 0 k d j 0 ts).1
 | [],d,j,h,hd,hd2,he=>trivial
 | t::ts,d,j,h,hd,hd2,he=>by
  have hbl:=C5 k j;simp only[Bb] at hd2;unfold DJ at he ⊢;simp only at he ⊢;have h0:(Cf b 0 (d+below k j) 0 t).2=0:=by
   rcases Decidable.em ((Cf b 0 (d+below k j) 0 t).2=0) with h | h
   ·exact h
   rw[LF b 0 k ts d (j+1) _ h] at he;exact he
  rw[h0] at he ⊢;exact⟨Sm b hb hb2 t _ h.1 Ao Ao h0,Q3 b hb hb2 k ts d (j+1) h.2 hd Ao he⟩
end
mutual
theorem TY {vs:List Tm}{dp:Int}(V:QA vs dp):∀(t:Tm) (d nd:Int),Vp t→0≤d→d+size t<2199023255552→(CD vs (dp+d) 0 nd t).2.1=0→Vp (CD vs (dp+d) 0 nd t).1
 | .mk k i n l ks,d,nd,h,h3,h4,he=>by
  have:=V.lo;have:=V.hi;have:=V.len;rcases Int.lt_or_le 4096 nd with h7 | h7
  ·rw[Ni h7];exact h
  by_cases hk:k=0
  ·have hi:=h.1 hk;by_cases hin:dp+d≤i∧i - (dp+d)<(vs.length:Int)
   ·obtain⟨v,hx⟩:=A7 (l:=vs) (i:=(i - (dp+d)).toNat) Ao;have hsv:=V.sz v (List.mem_of_getElem? hx);rw[Nf h7 hk hin.1 hin.2 hx] at he ⊢;exact Sm _ Ao Ao v 0 (MN V.vp hx) Ao Ao he
   by_cases hge:i≥dp+d
   ·rw[Pb h7 hk hge Ao] at he ⊢;have e:wr (i - vs.length)=i - vs.length:=Eb (by unfold I2;omega);simp only[e] at he ⊢;unfold NX Gg at he;by_cases hbig:i - (vs.length:Int) > 65535
    ·simp[hbig] at he
    exact dq Ao Ao
   rw[Nc h7 hk hge];exact h
  rw[Ll h7 hk] at he ⊢;simp only[size] at h4;exact⟨fun h=>absurd h hk,Qv V k ks d 0 _ h.2 h3 Ao he⟩
theorem Qv {vs:List Tm}{dp:Int}(V:QA vs dp) (k:Int):∀(ts:List Tm) (d:Int) (j:Nat) (nd:Int),Sy ts→0≤d→d+Bb ts<2199023255551→(Cd vs k (dp+d) j 0 nd ts).2.1=0→Sy (Cd vs k (dp+d) j 0 nd ts).1
 | [],d,j,nd,h,h3,h4,he=>trivial
 | t::ts,d,j,nd,h,h3,h4,he=>by
  have hbl:=C5 k j;simp only[Bb] at h4;unfold Cd at he ⊢;simp only at he ⊢;have h0:(CD vs (dp+d+below k j) 0 nd t).2.1=0:=by
   rcases Decidable.em ((CD vs (dp+d+below k j) 0 nd t).2.1=0) with h | h
   ·exact h
   rw[LD vs k ts _ (j+1) _ _ h] at he;exact he
  rw[h0] at he ⊢;rw[show dp+d+below k j=dp+(d+below k j) by omega] at he h0 ⊢;exact⟨TY V t _ nd h.1 Ao Ao h0,Qv V k ts d (j+1) _ h.2 h3 Ao he⟩
end
theorem aC {vs:List Tm}{dp:Int}(V:QA vs dp) {t:Tm}(h:Vp t) (hs:size t<1099511627776):Vp (CT t vs dp).1:=by
 have:=V.lo;have:=V.hi;have hmin:min dp 65536=dp:=by omega
 unfold CT;rw[hmin];split
 ·exact Uf
 split
 ·exact Uf
 rename_i hne;split
 ·exact Uf
 have:=TY V t 0 0 h Ao Ao (by rw[Int.add_zero];exact Decidable.not_not.1 hne);rw[Int.add_zero] at this;exact this
structure I5 where
 dn:List (Int×Tm)
 op:List Int
 wk:Int
def pD (i:Int):List (Int×Tm)→Option Tm
 | []=>none
 | (j,x)::r=>if j=i then some x else pD i r
def nY (i:Int) (v:Tm):List (Int×Tm)→List (Int×Tm)
 | []=>[(i,v)]
 | (j,x)::r=>if j=i then (j,v)::r else (j,x)::nY i v r
def tu (l:List (Int×Tm)):List (Int×AV):=l.map fun p=>(p.1,TV p.2)
def nD (x:Tm) (e:Int):Except Int Tm:=if e≠0∨kS x=true then .error 11 else .ok x
def jm:Tm→List Tm→Except Int (Tm×List Tm)
 | v,[]=> .ok (v,[])
 | v,a::l=>if v.kind=5 then Dg (nD (F8 (v.kids.getD 1 Bi) [a] 0).1 (F8 (v.kids.getD 1 Bi) [a] 0).2) fun x=>jm x l else .ok (v,a::l)
def Ig (F:I5→Tm→Except Int (Tm×I5)):I5→List Tm→Except Int (List Tm×I5)
 | st,[]=> .ok ([],st)
 | st,t::ts=>Dg (F st t) fun r=>Dg (Ig F r.2 ts) fun q=> .ok (r.1::q.1,q.2)
def lP (F:I5→Tm→Except Int (Tm×I5)) (ms:List Mv) (st:I5) (i:Int):Except Int (Tm×I5) :=
 match pD i st.dn with
 | some v=> .ok (v,st)
 | none=>if i∈st.op then .error 22 else Dg (F { st with op:=st.op++[i] } (valueOf ms i)) fun r=> .ok (r.1,{ r.2 with dn:=nY i r.1 r.2.dn })
def oH (F:I5→Tm→Except Int (Tm×I5)) (ms:List Mv) (st:I5) (h:Tm):Except Int (Tm×I5) :=
 if known ms h=true then lP F ms st h.index else M3 (fun q=>(Li h q.1,q.2)) (Ig F st h.kids)
def e9 (ms:List Mv):Nat→I5→Tm→Except Int (Tm×I5)
 | 0,st,t=> .error 11
 | n+1,st,t =>
  if st.wk+1 > 8192000 then .error 11
  else Dg (oH (e9 ms n) ms { st with wk:=st.wk+1 } (A9 t).1) fun r =>
   Dg (Ig (e9 ms n) r.2 (A9 t).2) fun q =>
   Dg (if known ms (A9 t).1=true then jm r.1 q.1 else .ok (r.1,q.1)) fun y =>
   M3 (fun z=>(z,q.2)) (nD (apply y.1 y.2) 0)
structure Ok (S:Nat) (t:Tm):Prop where
 nd:Nd t
 vp:Vp t
 wt:Wt t
 sz:size t≤S
structure qo (ms:List Mv) (st:I5):Prop where
 dn:∀p∈st.dn,Ok 4096 p.2
 w0:0≤st.wk
 w1:st.wk≤8192000
abbrev tq (l:List Tm):Prop:=∀x∈l,Ok 4096 x
def rI (st st':I5):Prop:=∀i,i∈st.op→i∈st'.op
def sV (ms:List Mv) (B:Nat) (F:I5→Tm→Except Int (Tm×I5)):Prop:=∀st t r,Ok B t→qo ms st→F st t= .ok r→Ok 4096 r.1∧qo ms r.2∧rI st r.2
section
variable {F:I5→Tm→Except Int (Tm×I5)}{ms:List Mv}{st st':I5}{i e:Int}{z:Tm}
end
def Uy (F:I5→Tm→Except Int (Tm×I5)) (ts:List Tm) (q0:I5) (i:Nat) (ys:List Tm) (q:I5):Prop :=
 ys.length=i∧Ig F q0 ts=Dg (Ig F q (ts.drop i)) fun r=> .ok (ys++r.1,r.2)
section
variable {F:I5→Tm→Except Int (Tm×I5)}{ts ys:List Tm}{q0 q q':I5}{i:Nat}{x y:Tm}{e:Int}
theorem Uy.zero (F:I5→Tm→Except Int (Tm×I5)) (ts:List Tm) (q0:I5):Uy F ts q0 0 [] q0:=by
 refine⟨O,?_⟩;simp only[List.drop_zero,Dg];cases Ig F q0 ts<;>simp
theorem Uy.err (h:Uy F ts q0 i ys q) (hx:ts[i]?=some x) (hb:F q x= .error e):Ig F q0 ts= .error e:=by
 rw[h.2,Ch hx,Ig,hb];rfl
theorem Uy.succ (h:Uy F ts q0 i ys q) (hx:ts[i]?=some x) (hb:F q x= .ok (y,q')):Uy F ts q0 (i+1) (ys++[y]) q':=by
 refine⟨by simp[h.1],?_⟩;rw[h.2,Ch hx,Ig,hb];simp only[Dg];cases Ig F q' (ts.drop (i+1))<;>simp
theorem Uy.fin (h:Uy F ts q0 i ys q) (hi:ts.length≤i):Ig F q0 ts= .ok (ys,q):=by
 rw[h.2,List.drop_eq_nil_of_le hi,Ig];simp[Dg]
end
section
variable {ms:List Mv}{n:Nat}{dn:List (Int×Tm)}{op:List Int}{wk e:Int}{t v vv z h:Tm}{us ls ks:List Tm}{st1 st2:I5}
end
end Go.Eu
namespace Go.Abs
def iT {β:Type}(mkv:β→AV) (mkH:β→List BJ):ET→List BJ→Prop
 | .val v,H'=>∃b,v=mkv b∧H'=mkH b
 | .panic _,_=>False
section
variable {P:Program}{ops:Array Oper}{n:Nat}{τ₀ τ:Nat→AV}{D:List ES}{Q:C2→Br→Prop}{opn:Nat→Bool}{k:Nat}{H:List BJ}{dst:Option Tmp}{ty:TypeId}{pos:String}{aft:Array Edge}{c:Call}{f:Operand}{fid:FuncId}{first caps A:List AV}{β:Type}{mkv:β→AV}{mkH:β→List BJ}
theorem Yp {r:Option Nat}(ho:ops[k]?=some ⟨dst,.call c,ty,pos,aft,none⟩) (hd:Gm dst n=true)
  (hc:c.callee= .value f) (hf:(ev τ f= .p (.fn fid)∧first=[]∧caps=[])∨ev τ f= .fn (.func fid) first caps) (h:Bq P fid A [] (iT mkv mkH)) (hA:GS (first++c.args.toList.map (ev τ)++caps) A)
  (next:∀b,AL P r ops (k+1) ⟨n,put τ dst (mkv b),mkH b++H,D⟩ Q):AL P r ops k ⟨n,τ,H,D⟩ Q :=
 Iz ho hd hc hf (Hs:=[]) (Hf:=H) Ap (h.args hA) (.inl rfl) (fun v Hs' ⟨b,h1,h2⟩=>by subst h1;subst h2;exact next b) (fun _ _ h=>h.elim)
end
end Go.Abs
namespace Go.Eu
open Go.Abs
def XS (ms:List Mv) (n:Nat) (t:Tm):Tm×Int :=
 match e9 ms n ⟨[],[],0⟩ t with
 | .ok r=>(r.1,0)
 | .error e=>(Bi,e)
def sf (ms:List Mv) (n:Nat) (t:Tm):List Int×Int:=if (XS ms n t).2≠0 then ([],(XS ms n t).2) else (XN [] (XS ms n t).1,0)
mutual
def TP (p:Int→Int→ByteArray→List CZ→Prop):Tm→Prop
 | .mk k i n l ks=>p k i n l∧ik p ks
def ik (p:Int→Int→ByteArray→List CZ→Prop):List Tm→Prop
 | []=>True
 | t::ts=>TP p t∧ik p ts
end
section
variable {p q:Int→Int→ByteArray→List CZ→Prop}
mutual
theorem TP.imp (h:∀k i n l,p k i n l→q k i n l):∀(t:Tm),TP p t→TP q t
 | .mk k i n l ks,ht=>⟨h _ _ _ _ ht.1,ik.imp h ks ht.2⟩
theorem ik.imp (h:∀k i n l,p k i n l→q k i n l):∀(ts:List Tm),ik p ts→ik q ts
 | [],_=>trivial
 | t::ts,ht=>⟨TP.imp h t ht.1,ik.imp h ts ht.2⟩
end
end
def sW (ms:List Mv) (D:List Int) (k i:Int) (n:ByteArray) (l:List CZ):Prop:=known ms (.mk k i n l [])=true→i∈D
abbrev KM (ms:List Mv) (D:List Int):Tm→Prop:=TP (sW ms D)
abbrev mD (ms:List Mv) (D:List Int):List Tm→Prop:=ik (sW ms D)
theorem KM.mono {ms:List Mv}{D D':List Int}(h:∀i∈D,i∈D') {t:Tm}(ht:KM ms D t):KM ms D' t:=TP.imp (fun k i n l g e=>h _ (g e)) t ht
theorem mD.mono {ms:List Mv}{D D':List Int}(h:∀i∈D,i∈D') {t:List Tm}(ht:mD ms D t):mD ms D' t:=ik.imp (fun k i n l g e=>h _ (g e)) t ht
theorem KM.head {ms:List Mv}{D:List Int}{h:Tm}(hk:known ms h=true) (ht:KM ms D h):h.index∈D:=by
 obtain⟨k,i,n,l,ks⟩:=h;exact ht.1 hk
theorem KM.kids {ms:List Mv}{D:List Int}{h:Tm}(ht:KM ms D h):mD ms D h.kids:=by
 obtain⟨k,i,n,l,ks⟩:=h;exact ht.2
inductive Ord (ms:List Mv):List Int→Prop
 | nil:Ord ms []
 | snoc {D:List Int} {i:Int}:Ord ms D→i ∉ D→KM ms D (valueOf ms i)→Ord ms (D++[i])
theorem Ord.pre {ms:List Mv}{D:List Int}(h:Ord ms D):∀i∈D,∃D',Ord ms D'∧(∀j∈D',j∈D)∧i ∉ D'∧KM ms D' (valueOf ms i):=by
 induction h with
 | nil=>intro i hi;simp at hi
 | @snoc D j h1 h2 h3 ih =>
  intro i hi;rcases List.mem_append.1 hi with hi | hi
  ·obtain⟨D',a,b,c,d⟩:=ih i hi;exact⟨D',a,fun j hj=>List.mem_append_left _ (b j hj),c,d⟩
  simp at hi;subst hi;exact⟨D,h1,fun j hj=>List.mem_append_left _ hj,h2,h3⟩
def nM:Tm→List Tm→Tm×List Tm
 | v,[]=>(v,[])
 | v,a::l=>if v.kind=5 then nM (CT (v.kids.getD 1 Bi) [a] 0).1 l else (v,a::l)
section
variable {F F':EL→Tm→Tm×Int×EL}
end
def kL (st:I5):List Int:=st.dn.map Prod.fst
def rY (ms:List Mv) (t v:Tm):Prop:=∃n ab c d,Lh ms n ab c t=(v,0,d)∧d.over=false
structure r6 (ms:List Mv) (ab:List Int) (st:I5):Prop where
 op:∀i,i∈st.op↔i∈kL st∨i∈ab
 ord:Ord ms (kL st)
 dis:∀i∈kL st,i ∉ ab
 val:∀p∈st.dn,rY ms (valueOf ms p.1) p.2
 ok:∀p∈st.dn,Ok 4096 p.2
 w0:0≤st.wk
def pot (ms:List Mv) (B:Nat) (st:I5):Int:=st.wk+(B*free ms st.op:Nat)
structure Step (ms:List Mv) (B:Nat) (ab:List Int) (st st':I5) (s:Nat):Prop where
 inv:r6 ms ab st'
 mono:∀i∈kL st,i∈kL st'
 pot:pot ms B st'≤pot ms B st+s
theorem Step.trans {ms:List Mv}{B:Nat}{ab:List Int}{a b c:I5}{s s':Nat}(h:Step ms B ab a b s) (h':Step ms B ab b c s'):Step ms B ab a c (s+s') :=
 ⟨h'.inv,fun i hi=>h'.mono i (h.mono i hi),by have:=h.pot;have:=h'.pot;omega⟩
theorem Step.le {ms:List Mv}{B:Nat}{ab:List Int}{a b:I5}{s s':Nat}(h:Step ms B ab a b s) (hs:s≤s'):Step ms B ab a b s':=⟨h.inv,h.mono,by have:=h.pot;omega⟩
def tH (ms:List Mv) (B:Nat) (ab:List Int) (t:Tm) (s:Nat) (st:I5) (F:Tm×Int×EL) (G:Except Int (Tm×I5)):Prop :=
 (F.2.1=0∧∃st',G= .ok (F.1,st')∧Step ms B ab st st' s∧KM ms (kL st') t)∨(F.2.1=22∧F.1=Bi∧G= .error 22)
def sm (ms:List Mv) (B:Nat) (ab:List Int) (ts:List Tm) (st:I5) (F:List Tm×Int×EL) (G:Except Int (List Tm×I5)):Prop :=
 (F.2.1=0∧∃st',G= .ok (F.1,st')∧Step ms B ab st st' (Bb ts)∧mD ms (kL st') ts)∨(F.2.1=22∧G= .error 22)
def tA (m:Nat) (k i:Int) (n:ByteArray) (l:List CZ):Prop:=k=12→0≤i∧i<(m:Int)
def p6 (ms:List Mv) (k i:Int) (n:ByteArray) (l:List CZ):Prop:=(k=12→0≤i∧i<(ms.length:Int)∧known ms (.mk k i n l [])=false)∧(k=4→i=0∧n=⟨#[]⟩∧l=[])
def s4 (ms:List Mv) (B:Nat) (F:I5→Tm→Except Int (Tm×I5)):Prop:=∀st t r,Ok B t→qo ms st→TP (tA ms.length) t→(∀p∈st.dn,TP (p6 ms) p.2)→F st t= .ok r→TP (p6 ms) r.1∧∀p∈r.2.dn,TP (p6 ms) p.2
def sT (ms:List Mv) (F:I5→Tm→Except Int (Tm×I5)):Prop:=∀st t,TP (p6 ms) t→F st t= .error 11∨∃st',F st t= .ok (t,st')
def tN (F:I5→Tm→Except Int (Tm×I5)):Prop:=∀st t e,F st t= .error e→e=11∨e=22
abbrev wide:Nat:=9223372036854775808
structure l7 (l:CZ):Prop where
 vars:l.vars.length<wide
 c:I2 l.const
 v:∀v∈l.vars,I2 v.index∧I2 v.plus
mutual
def Wd:Tm→Prop
 | .mk k i n ls ks=>n.size<wide∧ls.length<wide∧(∀l∈ls,l7 l)∧ks.length<wide∧iL ks∧I2 k∧I2 i
def iL:List Tm→Prop
 | []=>True
 | t::ts=>Wd t∧iL ts
end
theorem Qh:∀{ts:List Tm}{i:Nat}{t:Tm},iL ts→ts[i]?=some t→Wd t
 | [],i,t,_,h=>by simp at h
 | a::ts,0,t,hn,h=>by simp at h;subst h;exact hn.1
 | a::ts,i+1,t,hn,h=>by simp at h;exact Qh hn.2 h
mutual
def Fw:Tm→Prop
 | .mk k i n ls ks=>n.size≤200∧ls.length≤20∧(∀l∈ls,l.vars.length≤20)∧mW ks
def mW:List Tm→Prop
 | []=>True
 | t::ts=>Fw t∧mW ts
end
theorem bW:∀{ts:List Tm},(∀t∈ts,Fw t)→mW ts
 | [],_=>trivial
 | t::ts,h=>⟨h t Ap,bW fun x hx=>h x (by simp[hx])⟩
def Zn:Tm→Prop
 | .mk k i n ls ks=>n.size≤200∧ls.length≤20∧(∀l∈ls,l.vars.length≤20)∧Bb ks≤200∧Ld ks∧mW ks
theorem lV {t:Tm}(h:Wd t) (hf:Zn t):Nd t:=by
 obtain⟨k,i,n,ls,ks⟩:=t;obtain⟨h1,h2,h3,h4,h5⟩:=hf;have:=HW ks;exact⟨by simp only[Dd];omega,by simp only[Dd];omega,fun l hl=>⟨by have:=h3 l hl;simp only[Dd];omega,(h.2.2.1 l hl).c,(h.2.2.1 l hl).v⟩,by simp only[Dd];omega,h5.1,h.2.2.2.2.2⟩
mutual
theorem PB:∀(t:Tm) (most:Int),-1152921504606846976≤most→most≤1152921504606846976→(size t:Int)≤1152921504606846976→0≤Ek t most∧Ek t most<size t∧(Ek t most≤most→Ek t most+1=size t)
 | .mk k i n l ks,most,h1,h2,h3=>by
  simp only[size] at h3 ⊢;unfold Ek;have:=Ov ks most 0 h1 h2 Ao Ao;exact⟨this.1,by omega,fun h=>by have:=this.2.2 h;omega⟩
theorem Ov:∀(ts:List Tm) (most n:Int),-1152921504606846976≤most→most≤1152921504606846976→0≤n→n+Bb ts≤1152921504606846976→n≤Ea ts most n∧Ea ts most n≤n+Bb ts∧(Ea ts most n≤most→Ea ts most n=n+Bb ts)
 | [],most,n,h1,h2,h3,h4=>by simp[Ea,Bb]
 | t::ts,most,n,h1,h2,h3,h4=>by
  simp only[Bb] at h4 ⊢;have hp:=size_pos t;unfold Ea;by_cases hm:n > most
  ·rw[if_pos hm];exact⟨by omega,by omega,by omega⟩
  rw[if_neg hm];have e1:wr (most - n)=most - n:=Eb ⟨by omega,by omega⟩;have hT:=PB t (most - n) Ao Ao Ao;rw[e1];have e2:wr (1+Ek t (most - n))=1+Ek t (most - n):=Eb ⟨by omega,by omega⟩;rw[e2];have e3:wr (n+(1+Ek t (most - n)))=n+(1+Ek t (most - n)):=Eb ⟨by omega,by omega⟩;rw[e3];have hL:=Ov ts most (n+(1+Ek t (most - n))) h1 h2 Ao Ao;refine⟨by omega,by omega,fun h=>?_⟩;have:=hL.2.2 h;have:=hT.2.2 Ao;omega
end
theorem eK {t:Tm}(h:Zn t):size t≤201:=by
 obtain⟨k,i,n,ls,ks⟩:=t;have:=h.2.2.2.1;simp only[size];omega
theorem Sz:∀(ts:List Tm) (most n:Int),0≤most→most≤1000→0≤n→n≤3000→(∀t∈ts,size t≤201)→n≤Ea ts most n
 | [],most,n,h1,h2,h3,h4,hs=>by simp[Ea]
 | t::ts,most,n,h1,h2,h3,h4,hs=>by
  have ht:=hs t Ap;unfold Ea;by_cases hm:n > most
  ·rw[if_pos hm];omega
  rw[if_neg hm];have e1:wr (most - n)=most - n:=Eb ⟨by omega,by omega⟩;have hT:=PB t (most - n) Ao Ao Ao;rw[e1];have e2:wr (1+Ek t (most - n))=1+Ek t (most - n):=Eb ⟨by omega,by omega⟩;rw[e2];have e3:wr (n+(1+Ek t (most - n)))=n+(1+Ek t (most - n)):=Eb ⟨by omega,by omega⟩;rw[e3];have hge:=Sz ts most (n+(1+Ek t (most - n))) h1 h2 Ao Ao (fun x hx=>hs x (by simp[hx]));omega
theorem Sx:∀(ts:List Tm) (most n:Int),0≤most→most≤1000→0≤n→n≤3000→(∀t∈ts,size t≤201)→Ea ts most n≤most→Ea ts most n=n+Bb ts
 | [],most,n,h1,h2,h3,h4,hs,h=>by simp[Ea,Bb]
 | t::ts,most,n,h1,h2,h3,h4,hs,h=>by
  have ht:=hs t Ap;simp only[Bb];unfold Ea at h ⊢;by_cases hm:n > most
  ·rw[if_pos hm] at h;omega
  rw[if_neg hm] at h ⊢;have e1:wr (most - n)=most - n:=Eb ⟨by omega,by omega⟩;have hT:=PB t (most - n) Ao Ao Ao;rw[e1] at h ⊢;have e2:wr (1+Ek t (most - n))=1+Ek t (most - n):=Eb ⟨by omega,by omega⟩;rw[e2] at h ⊢;have e3:wr (n+(1+Ek t (most - n)))=n+(1+Ek t (most - n)):=Eb ⟨by omega,by omega⟩;rw[e3] at h ⊢;have hL:=Sx ts most (n+(1+Ek t (most - n))) h1 h2 Ao Ao (fun x hx=>hs x (by simp[hx])) h;have hge:=Sz ts most (n+(1+Ek t (most - n))) h1 h2 Ao Ao (fun x hx=>hs x (by simp[hx]));have:=hT.2.2 Ao;omega
structure YF (l:List Tm):Prop where
 sz:Bb l≤200
 nd:Ld l
 fw:mW l
theorem jg {l:List Tm}{m:Nat}(hm:l.length≤m) (hw:iL l) (hl:l.length<wide) (h:Ea l 200 0≤200) (hc:∀j,j<m→∀t,l[j]?=some t→Zn t):YF l:=by
 have hf:∀t∈l,Zn t:=fun t ht=>by
  obtain⟨i,hi⟩:=Kl ht;exact hc i (by have:=(List.getElem?_eq_some_iff.1 hi).1;omega) t hi
 have:=Sx l 200 0 Ao Ao Ao Ao (fun t ht=>eK (hf t ht)) h;exact⟨by omega,X8 fun t ht=>by
  obtain⟨i,hi⟩:=Kl ht;exact lV (Qh hw hi) (hf t ht),bW fun t ht=>by
  obtain⟨k,i,n,ls,ks⟩:=t;have h5:=hf _ ht;exact⟨h5.1,h5.2.1,h5.2.2.1,h5.2.2.2.2.2⟩⟩
theorem Wa {l:List Tm}{m:Int}(hf:YF l) (hm:0≤m∧m≤1000) (h:Ea l m 0≤m):(Bb l:Int)≤m:=by
 have:=hf.sz;have:=(Ov l m 0 Ao Ao Ao Ao).2.2 h;omega
structure m5 (m:Nat) (x:Mv):Prop where
 n1:Nd x.type
 n2:Nd x.value
 sz:size x.type+size x.value≤40
 w1:wf 0 m 0 x.type
 w2:x.known=true→wf 0 m 0 x.value
 w3:x.known=false→x.value=Bi
structure sc (l:List Mv):Prop where
 len:l.length≤8
 all:∀m∈l,m5 l.length m
structure qW (m:Nat) (ctx terms:List Tm):Prop where
 len:ctx.length≤6
 s1:Bb ctx≤60
 s2:Bb terms≤60
 n1:Ld ctx
 n2:Ld terms
 w2:∀t∈terms,wf ctx.length m 0 t
 w1:∀(i:Nat) (t:Tm),ctx[i]?=some t→wf i m 0 t
structure tx (x:Mv):Prop where
 w1:Wd x.type
 w2:Wd x.value
theorem Ok.mono {B B':Nat}{t:Tm}(h:Ok B t) (hb:B≤B'):Ok B' t:=⟨h.nd,h.vp,h.wt,Nat.le_trans h.sz hb⟩
end Go.Eu
