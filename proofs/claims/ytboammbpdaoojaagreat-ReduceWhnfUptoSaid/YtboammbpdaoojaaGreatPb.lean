/- Part of the proofs: an abstract program logic, plain models and contracts of functions. -/
import Derived.Test.YtboammbpdaoojaaGreatPa
import Derived.MapKept
set_option linter.unusedVariables false
set_option linter.unusedSimpArgs false
namespace Go.Abs
section
variable {P:Program}{ops:Array Oper}{n:Nat}{τ₀:Nat→AV}{D:List Ej}{Q:DJ→B5→Prop}{opn:Nat→Bool}{k:Nat}{τ:Nat→AV}{H:List BU}{rd:jt}{ef:iJ}{effs:List Bool}{fx:List (Nat×Sp)}{dst:Option Tmp}{op:Op}{ty:TypeId}{pos:String}{aft:Array Edge}{v:AV}{H':List BU}
theorem HJ {cs:List AV}(fx':List (Nat×Sp)) (ho:ops[k]?=some ⟨dst,op,ty,pos,aft,none⟩) (hn:opn k=true) (h:Dh P ⟨dst,op,ty,pos,aft,none⟩ (ev τ) H (Iv cs H)) (haft:FI ops k (fx'.map (·.1))=true)
  (next:∀b,LJ ops k H (.box b cs::H) rd∧Hl k (.eff (.ptr b 0) (.box b cs::H)) fx∧Dr P ops n τ₀ D Q opn (k+1) (put τ dst (.ptr b 0)) (.box b cs::H) rd ((k,H,.box b cs::H)::ef) (true::effs) (fx'++fx)):Dr P ops n τ₀ D Q opn k τ H rd ef effs fx :=
 OJ fx' ho hn h haft ⟨_,_,0,rfl,rfl⟩ (fun _ _ h=>h.elim) (fun v H' ⟨b,h1,h2⟩=>by subst h1;subst h2;exact next b)
theorem LS {i sz:Nat}{rows:List (List PV)}(fx':List (Nat×Sp)) (ho:ops[k]?=some ⟨dst,op,ty,pos,aft,none⟩) (hn:opn k=true) (h:Dh P ⟨dst,op,ty,pos,aft,none⟩ (ev τ) H (Nu i sz rows H)) (haft:FI ops k (fx'.map (·.1))=true)
  (next:∀o c,LJ ops k H (H.set i (.vec o sz rows c)) rd∧Hl k (.eff (.vs o rows.length c) (H.set i (.vec o sz rows c))) fx∧Dr P ops n τ₀ D Q opn (k+1) (put τ dst (.vs o rows.length c)) (H.set i (.vec o sz rows c)) rd ((k,H,H.set i (.vec o sz rows c))::ef) (true::effs) (fx'++fx)):Dr P ops n τ₀ D Q opn k τ H rd ef effs fx :=
 OJ fx' ho hn h haft ⟨_,_,none,0,rfl,rfl⟩ (fun _ _ h=>h.elim) (fun v H' ⟨o,c,h1,h2⟩=>by subst h1;subst h2;exact next o c)
def Gx (v:AV) (H':List BU):Ei→List BU→Prop
 | .val v',H''=>v'=v∧H''=H'
 | .panic _,_=>False
theorem gW {c:Call}{g:Option (Nat×Bool)}{f:Operand}{fid:FuncId}{first caps:List AV}{ρ:Operand→AV}{Hs Hf Hs':List BU}{A:List AV}
  (hc:c.callee= .value f) (hf:(ρ f= .p (.fn fid)∧first=[]∧caps=[])∨ρ f= .fn (.func fid) first caps) (hp:H.Perm (Hs++Hf)) (h:B4 P fid A Hs (Gx v Hs')) (hA:first++c.args.toList.map ρ++caps=A∨(first++c.args.toList.map ρ++caps).map norm=A) :
  D3 P ⟨dst,.call c,ty,pos,aft,g⟩ ρ H v (Hs'++Hf):=by
 refine(Gd (H:=H) hc hf hp h hA).mono ?_;rintro r H' ⟨Hs',h1,rfl⟩;cases r with
 | val v'=>obtain⟨rfl,rfl⟩:=h1;exact⟨rfl,rfl⟩
 | panic v'=>exact h1
end
def KB (k:Int):List (Int×AV)→Option AV
 | []=>none
 | (j,x)::r=>if j=k then some x else KB k r
def NT (k:Int) (v:AV):List (Int×AV)→List (Int×AV)
 | []=>[(k,v)]
 | (j,x)::r=>if j=k then (j,v)::r else (j,x)::NT k v r
def Ec (l:List (Int×AV)):List (PV×AV):=l.map fun p=>(.int .i64 p.1,p.2)
def mapOf (P:Program) (T:TypeId):Option TypeId :=
 match P.underlying T with
 | some (.map k e)=>match P.underlying k with
  | some (.int .i64)=>some e
  | _=>none
 | _=>none
theorem NN {P:Program}{T e:TypeId}(h:mapOf P T=some e):∃k,P.underlying T=some (.map k e)∧P.underlying k=some (.int .i64):=by
 unfold mapOf at h;split at h
 ·rename_i k e' hu;split at h
  ·rename_i hk;injection h with h;subst h;exact⟨k,hu,hk⟩
  cases h
 cases h
section
variable {F:Nat→Prop}{w:World}
theorem OU {k:Int}:∀{l:List (Int×AV)}{es:List MapEntry}(i:Nat),D2 F w (Ec l) es →
  (KB k l=none∧Instr.findNow (.int .i64) (.int .i64 k) es i=some none)∨∃j e x,KB k l=some x∧Instr.findNow (.int .i64) (.int .i64 k) es i=some (some (i+j,e.val))∧es[j]?=some e∧e.key= .int .i64 k∧CX F w x e.val
 | [],es,i,h=>by simp only[Ec,List.map_nil,D2] at h;subst h;exact .inl ⟨rfl,rfl⟩
 | (j,x)::l,es,i,h=>by
  simp only[Ec,List.map_cons,D2] at h;obtain⟨e,es',rfl,hk,hx,hr⟩:=h;simp only[Ca] at hk;by_cases hj:j=k
  ·subst hj;exact .inr ⟨0,e,x,by simp[KB],by simp[Instr.findNow,hk,Instr.sameNow],rfl,hk,hx⟩
  have hne:(k==j)=false:=by simp[Ne.symm hj]
  rcases OU (k:=k) (i+1) hr with ⟨h1,h2⟩ | ⟨q,e',x',h1,h2,h3,h4,h5⟩
  ·exact .inl ⟨by simp[KB,hj,h1],by simp[Instr.findNow,hk,Instr.sameNow,hne,h2]⟩
  exact .inr ⟨q+1,e',x',by simp[KB,hj,h1],by simp[Instr.findNow,hk,Instr.sameNow,hne,h2];omega,by simpa using h3,h4,h5⟩
theorem Vl {k:Int}:∀{l:List (Int×AV)}{es:List MapEntry},D2 F w (Ec l) es→KB k l=none→∀x∈es,x.key≠ .int .i64 k
 | [],es,h,_=>by
  simp only[Ec,List.map_nil,D2] at h;subst h;simp
 | (j,v)::l,es,h,hm=>by
  simp only[Ec,List.map_cons,D2] at h;obtain⟨e,es',rfl,hk,hv,hr⟩:=h;simp only[KB] at hm;split at hm
  ·cases hm
  rename_i q;intro x hx;rcases List.mem_cons.1 hx with rfl | hx
  ·simp only[Ca] at hk;rw[hk];intro e;injection e with _ e2;exact q e2
  exact Vl hr hm x hx
theorem WA {k:Int}{v:AV}{u:Value}{c:Nat}:∀{l:List (Int×AV)}{es:List MapEntry},D2 F w (Ec l) es→KB k l=none→CX F w v u→D2 F w (Ec (NT k v l)) (es++[{ key:= .int .i64 k,val:=u,born:=c }])
 | [],es,h,_,hv=>by
  simp only[Ec,List.map_nil,D2] at h;subst h;simp only[NT,Ec,List.map_cons,List.map_nil,List.nil_append,D2];exact⟨_,[],O,by simp[Ca],hv,rfl⟩
 | (j,x)::l,es,h,hm,hv=>by
  simp only[Ec,List.map_cons,D2] at h;obtain⟨e,es',rfl,hk,hx,hr⟩:=h;by_cases hj:j=k
  ·simp[KB,hj] at hm
  simp only[KB,if_neg hj] at hm;simp only[NT,if_neg hj,Ec,List.map_cons,List.cons_append,D2];exact⟨e,_,O,hk,hx,WA hr hm hv⟩
theorem ZU {k:Int}{v:AV}{u:Value}:∀{l:List (Int×AV)}{es:List MapEntry}{j:Nat}(i:Nat) {y:Value},D2 F w (Ec l) es→Instr.findNow (.int .i64) (.int .i64 k) es i=some (some (i+j,y))→CX F w v u→D2 F w (Ec (NT k v l)) (es.modify j fun e=>{ e with key:= .int .i64 k,val:=u })
 | [],es,j,i,y,h,hf,_=>by simp only[Ec,List.map_nil,D2] at h;subst h;simp[Instr.findNow] at hf
 | (q,x)::l,es,j,i,y,h,hf,hv=>by
  simp only[Ec,List.map_cons,D2] at h;obtain⟨e,es',rfl,hk,hx,hr⟩:=h;simp only[Ca] at hk;by_cases hj:q=k
  ·subst hj;simp[Instr.findNow,hk,Instr.sameNow] at hf;obtain⟨rfl,_⟩:j=0∧True:=⟨by omega,trivial⟩;simp only[NT,if_true,Ec,List.map_cons,D2];exact⟨_,es',O,by simp[Ca],hv,hr⟩
  have hne:(k==q)=false:=by simp[Ne.symm hj]
  simp only[Instr.findNow,hk,Instr.sameNow,if_true,hne] at hf;cases j with
  | zero =>
   have:∀(es:List MapEntry) (m:Nat) (y:Value) (r:Nat),Instr.findNow (.int .i64) (.int .i64 k) es m=some (some (r,y))→m≤r:=by
    intro es
    induction es with
    | nil=>intro m y r h;simp[Instr.findNow] at h
    | cons e es ih =>
     intro m y r h;simp only[Instr.findNow] at h;split at h
     ·simp at h;omega
     ·have:=ih _ _ _ h;omega
     cases h
   have:=this _ _ _ _ hf;omega
  | succ j =>
   simp only[NT,if_neg hj,Ec,List.map_cons,List.modify_succ_cons,D2];exact⟨e,_,O,by simpa [Ca] using hk,hx,ZU (i+1) hr (by rw[show i+1+j=i+(j+1) by omega];exact hf) hv⟩
end
section
variable {P:Program}{dst:Option Tmp}{ty:TypeId}{pos:String}{aft:Array Edge}{g:Option (Nat×Bool)}{ρ:Operand→AV}{H:List BU}{x y z:Operand}{v:AV}
def de (H:List BU):Ei→List BU→Prop
 | .val v,H'=>∃b,v= .map b∧H'= .map b (Ec [])::H
 | .panic _,_=>False
theorem Wj {T:TypeId}:Dh P ⟨dst,.makeMap T none,ty,pos,aft,g⟩ ρ H (de H) :=
 Hh fun F w E hH hE=>by
  refine⟨.map (some w.heap.size),World.push w (.map #[] 0),.map w.heap.size,.map w.heap.size (Ec [])::H,_,?_,⟨_,O,O⟩,NY H _ _ (.inl O),PL hH _ _ O ?_,by simp[CX]⟩
  ·simp[execOp,Instr.makeMap,Sem.run_bind];rfl
  exact⟨#[],0,MI _,MapKept.stamped_empty _,O⟩
theorem Xs {T e : TypeId} {b i : Nat} {l : List (Int × AV)} {k : Int} {zv : Value} {za : AV} (hT : mapOf P T = some e) (hz : zeroOf P e = some zv) (hza : ∀ F w, CX F w za zv) (hx : ρ x = .map b) (hy : ρ y = .p (.int .i64 k)) (hi : H[i]? = some (.map b (Ec l))) :
  D3 P ⟨dst, .lookup T x y false, ty, pos, aft, g⟩ ρ H ((KB k l).getD za) H :=
 Cf fun F w E hH hE => by
  obtain ⟨kt, hu, hk⟩ := NN hT
  have h1 := hE x Ae
  have h2 := hE y Ae
  rw [hx] at h1
  rw [hy] at h2
  simp only [CX, Ca] at h1 h2
  obtain ⟨es, clk, hb, hs0, hr⟩ := hH.obj _ (List.mem_of_getElem? hi)
  have hzv : (zeroValue e).run P w = .ok zv w := by
   unfold zeroOf at hz
   cases hi : P.info? e with
   | none => simp [hi] at hz
   | some i => have hz' : i.zero = some zv := by simpa [hi] using hz
               simp [zeroValue, typeInfo, hi, hz', Sem.run_bind]
  have hkey : MapKept.IsKey (.int .i64) (.int .i64 k) := rfl
  rcases OU (k := k) 0 hr with ⟨h3, h4⟩ | ⟨j, e', x', h3, h4, h5, h6, h7⟩
  ·refine ⟨zv, ?_, by rw [h3]; exact hza F w⟩
   simp [execOp, Instr.lookup, Sem.run_bind, run_underlying hu, h1, h2, MapKept.run_getObj_map hb, MapKept.run_checkKey hk hkey, MapKept.run_findKey hk h4, hzv]
  refine ⟨e'.val, ?_, by rw [h3]; exact h7⟩
  simp [execOp, Instr.lookup, Sem.run_bind, run_underlying hu, h1, h2, MapKept.run_getObj_map hb, MapKept.run_checkKey hk hkey, MapKept.run_findKey hk h4]
theorem UC {T e : TypeId} {b i : Nat} {l : List (Int × AV)} {k : Int} {zv : Value} {za : AV} (hT : mapOf P T = some e) (hz : zeroOf P e = some zv) (hza : ∀ F w, CX F w za zv) (hx : ρ x = .map b) (hy : ρ y = .p (.int .i64 k)) (hi : H[i]? = some (.map b (Ec l))) :
  D3 P ⟨dst, .lookup T x y true, ty, pos, aft, g⟩ ρ H (.tup [(KB k l).getD za, .p (.bool (KB k l).isSome)]) H :=
 Cf fun F w E hH hE => by
  obtain ⟨kt, hu, hk⟩ := NN hT
  have h1 := hE x Ae
  have h2 := hE y Ae
  rw [hx] at h1
  rw [hy] at h2
  simp only [CX, Ca] at h1 h2
  obtain ⟨es, clk, hb, hs0, hr⟩ := hH.obj _ (List.mem_of_getElem? hi)
  have hzv : (zeroValue e).run P w = .ok zv w := by
   unfold zeroOf at hz
   cases hi : P.info? e with
   | none => simp [hi] at hz
   | some i => have hz' : i.zero = some zv := by simpa [hi] using hz
               simp [zeroValue, typeInfo, hi, hz', Sem.run_bind]
  have hkey : MapKept.IsKey (.int .i64) (.int .i64 k) := rfl
  rcases OU (k := k) 0 hr with ⟨h3, h4⟩ | ⟨j, e', x', h3, h4, h5, h6, h7⟩
  ·refine ⟨.tuple #[zv, .bool false], ?_, ?_⟩
   ·simp [execOp, Instr.lookup, Sem.run_bind, run_underlying hu, h1, h2, MapKept.run_getObj_map hb, MapKept.run_checkKey hk hkey, MapKept.run_findKey hk h4, hzv]
   simp only [h3, CX, CD, Ca]
   exact ⟨[zv, .bool false], O, _, _, O, hza F w, _, _, O, O, O⟩
  refine ⟨.tuple #[e'.val, .bool true], ?_, ?_⟩
  ·simp [execOp, Instr.lookup, Sem.run_bind, run_underlying hu, h1, h2, MapKept.run_getObj_map hb, MapKept.run_checkKey hk hkey, MapKept.run_findKey hk h4]
  simp only [h3, CX, CD, Ca]
  exact ⟨[e'.val, .bool true], O, _, _, O, h7, _, _, O, O, O⟩
theorem Sd {T e:TypeId}{b i:Nat}{l:List (Int×AV)}{k:Int}{va:AV}(hT:mapOf P T=some e) (hx:ρ x= .map b) (hy:ρ y= .p (.int .i64 k)) (hz:ρ z=va) (hi:H[i]?=some (.map b (Ec l))) :
  D3 P ⟨dst,.mapUpdate T x y z,ty,pos,aft,g⟩ ρ H (.p .any) (H.set i (.map b (Ec (NT k va l)))) :=
 (IS (R:=qD (.p .any) (H.set i (.map b (Ec (NT k va l))))) fun F w E hH hE=>by
  obtain⟨kt,hu,hk⟩:=NN hT;have h1:=hE x Ae;have h2:=hE y Ae;have h0:=hE z Ae;rw[hx] at h1;rw[hy] at h2;rw[hz] at h0;simp only[CX,Ca] at h1 h2;obtain⟨es,clk,hb,hs0,hr⟩:=hH.obj _ (List.mem_of_getElem? hi);have hFb:F b:=hH.sub _ (List.mem_of_getElem? hi) b rfl;have hlt:=hH.bd b hFb;have hkey:MapKept.IsKey (.int .i64) (.int .i64 k):=rfl;have fin:∀(es':Array MapEntry) (clk':Nat),MapKept.Stamped es' clk'→D2 F w (Ec (NT k va l)) es'.toList→Trans F H w F (H.set i (.map b (Ec (NT k va l)))) { w with heap:=w.heap.setIfInBounds b (.map es' clk') }∧HRel F (H.set i (.map b (Ec (NT k va l)))) { w with heap:=w.heap.setIfInBounds b (.map es' clk') }:=by
   intro es' clk' hs' hr';have hw:Ht b (.map es' clk') w { w with heap:=w.heap.setIfInBounds b (.map es' clk') }:=⟨rfl,rfl,rfl,rfl⟩;have st:=hw.stable hFb;exact⟨hw.trans hi O O,hw.HRel hH hi O O ⟨es',clk',hw.self hlt,hs',D2.mono st _ _ hr'⟩⟩
  rcases OU (k:=k) 0 hr with ⟨h3,h4⟩ | ⟨j,e',x',h3,h4,h5,h6,h7⟩
  ·have hr':=WA (c:=clk) hr h3 h0;obtain⟨f1,f2⟩:=fin (es.push { key:= .int .i64 k,val:=E z,born:=clk }) (clk+1) (MapKept.stamped_push hs0 (Vl hr h3)) (by simpa using hr');refine⟨_,_,F,?_,⟨O,O⟩,f1,f2⟩;simp[execOp,Instr.mapUpdate,Sem.run_bind,run_underlying hu,h1,h2,MapKept.run_getObj_map hb,MapKept.run_checkKey hk hkey,MapKept.run_findKey hk h4,MapKept.run_setObj_map _ hb]
  have hr':=ZU (v:=va) (u:=E z) 0 hr h4 h0;obtain⟨f1,f2⟩:=fin (es.modify j fun e=>{ e with key:= .int .i64 k,val:=E z }) clk (MapKept.stamped_modify hs0 j _ (fun _ _=>rfl) (fun e _ he=>by rw[show es[j]?=some e' by simpa using h5] at he;cases he;exact h6.symm)) (by simpa using hr');refine⟨_,_,F,?_,⟨O,O⟩,f1,f2⟩;have h5':es[j]?=some e':=by simpa using h5
  simp[execOp,Instr.mapUpdate,Sem.run_bind,run_underlying hu,h1,h2,MapKept.run_getObj_map hb,MapKept.run_checkKey hk hkey,MapKept.run_findKey hk h4,MapKept.run_setObj_map _ hb,h5',h6,Instr.keyThatStays,Instr.sameBits])
theorem Hz {T:TypeId}{d:TypeDesc}{a b:Value}{c:Bool}{w:World}(hu:P.underlying T=some d) (h:(match d,a,b with
  | .bool,.bool x,.bool y=>some (x==y)
  | .interface _,.nilIface,.nilIface=>some true
  | .interface _,.iface _ _,.nilIface=>some false
  | .slice _,.slice none _ _,.slice none _ _=>some true
  | .slice _,.slice (some _) _ _,.slice none _ _=>some false
  | _,_,_=>none)=some c):(Op.equal T a b).run P w= .ok c w:=by
 unfold Op.equal;rw[show Op.maxDepth=9999+1 from rfl];unfold Op.equalIn;simp only[Sem.run_bind,run_underlying hu,Result.andThen_ok];split at h<;>simp_all
theorem X6 {a b:Bool}{T U:TypeId}(hu:P.underlying T=some .bool) (hx:ρ x= .p (.bool a)) (hy:ρ y= .p (.bool b)):D3 P ⟨dst,.binOp .eql T x y U,ty,pos,aft,g⟩ ρ H (.p (.bool (a==b))) H :=
 Cf fun F w E hH hE=>by
  have e1:=hE x Ae;have e2:=hE y Ae;rw[hx] at e1;rw[hy] at e2;simp only[CX,Ca] at e1 e2;refine⟨.bool (a==b),?_,by simp[CX,Ca]⟩;have hg:(eqGuard .eql T x y (.bool a) (.bool b)).run P w= .ok () w:=by unfold eqGuard;rfl
  have hq:(Op.equal T (.bool a) (.bool b)).run P w= .ok (a==b) w:=Hz hu rfl;simp[execOp,Sem.run_bind,hg,e1,e2,binOp,hq]
theorem HU {T U:TypeId}{ms:Array (String×TypeId)}{X:PV}{b:Bool}(hu:P.underlying T=some (.interface ms)) (hx:ρ x= .p X) (hy:ρ (.const .nilIface)= .p .nilIface) (hX:(match X with | .nilIface=>some false | .iface _ _=>some true | _=>none)=some b):D3 P ⟨dst,.binOp .neq T x (.const .nilIface) U,ty,pos,aft,g⟩ ρ H (.p (.bool b)) H :=
 Cf fun F w E hH hE=>by
  have e2:=hE (.const .nilIface) Ae;rw[hy] at e2;simp only[CX,Ca] at e2;have e1:=hE x Ae;rw[hx] at e1;have hg:∀a,(eqGuard .neq T x (.const .nilIface) a .nilIface).run P w= .ok () w:=by
   intro a;unfold eqGuard;cases a<;>simp<;>rfl
  refine⟨.bool b,?_,by simp[CX,Ca]⟩;cases X with
  | nilIface =>
   simp at hX;subst hX;simp only[CX,Ca] at e1;have hq:(Op.equal T .nilIface .nilIface).run P w= .ok true w:=Hz hu rfl;simp[execOp,Sem.run_bind,hg,e1,e2,binOp,hq]
  | iface t c =>
   simp at hX;subst hX;simp only[CX,Ca] at e1;obtain⟨u,e1,_⟩:=e1;have hq:(Op.equal T (.iface t u) .nilIface).run P w= .ok false w:=Hz hu rfl;simp[execOp,Sem.run_bind,hg,e1,e2,binOp,hq]
  | _=>simp at hX
theorem Sc {T e:TypeId}{len sz b o:Nat}{k:IntKind}{i:Int}{inf:TypeInfo}(hu:P.underlying T=some (.array len e)) (hj:P.info? e=some inf) (hs:inf.size=sz) (hx:ρ x= .ptr b o) (hy:ρ y= .p (.int k i)) (h0:0≤i) (hn:i<len) :
  D3 P ⟨dst,.indexAddr T x y,ty,pos,aft,g⟩ ρ H (.ptr b (o+i.toNat*sz)) H :=
 Cf fun F w E hH hE=>by
  have h1:=hE x Ae;have h2:=hE y Ae;rw[hx] at h1;rw[hy] at h2;simp only[CX,Ca] at h1 h2;refine⟨.pointer (some ⟨b,o+i.toNat*sz,none⟩),?_,by simp[CX]⟩;simp[execOp,Instr.indexAt,Sem.run_bind,run_underlying hu,h1,h2,asIntOf,h0,hn,sizeOf,typeInfo,hj,hs,Addr.add_mid,Instr.sureAddr,asAddr]
theorem SR {T e:TypeId}{len:Nat}{parts:Array (Nat×Operand)}{z:Value}{cs:List AV}{inf:TypeInfo}(hu:P.underlying T=some (.array len e)) (hj:P.info? e=some inf) (hz:zeroOf P T=some z)
  (hc:Ft (fun i=>some (i*inf.size,inf.size)) (z.cells.toList.map G8) (parts.toList.map fun p=>(p.1,ρ p.2))=some cs):D3 P ⟨dst,.build T parts,ty,pos,aft,g⟩ ρ H (.agg cs) H :=
 Cf fun F w E hH hE=>by
  unfold zeroOf at hz;cases hi:P.info? T with
  | none=>simp[hi] at hz
  | some i =>
   have hz':i.zero=some z:=by simpa [hi] using hz
   have hzv:(zeroValue T).run P w= .ok z w:=by simp[zeroValue,typeInfo,hi,hz',Sem.run_bind]
   have hsz:(sizeOf e).run P w= .ok inf.size w:=by simp[sizeOf,typeInfo,hj]
   obtain⟨us,hf,hr⟩:=JV (F:=F) (w:=w) (place:=(fun i=>some (i*inf.size,inf.size))) _ (parts.toList.map fun p=>(p.1,E p.2)) _ z.cells.toList _ Av (by
    intro j p q h1 h2;simp only[List.getElem?_map] at h1 h2;cases hj:parts.toList[j]? with
    | none=>simp[hj] at h1
    | some t =>
     simp[hj] at h1 h2;subst h1;subst h2;exact⟨O,hE _ (by
      have:=List.mem_of_getElem? hj;simp only[Op.operands];exact List.mem_map.2 ⟨t,this,O⟩)⟩) (HN _) hc
   refine⟨.agg ⟨us⟩,?_,by simp only[CX];exact⟨us,rfl,hr⟩⟩;simp only[execOp,Instr.build,Sem.run_bind,hzv,Result.andThen_ok,run_underlying hu,hsz];have hf':Instr.fill (fun i=>some (i*inf.size,inf.size)) z.cells (parts.toList.map fun p=>(p.1,E p.2))=some ⟨us⟩:=hf;simp[hf']
theorem U9 {T U:TypeId}{e:TypeId}{rows:List (List PV)}(hu:P.underlying T=some (.slice e)) (hx:ρ x= .p (.lst rows)) (hy:ρ y= .p .nils):Dh P ⟨dst,.binOp .eql T x y U,ty,pos,aft,g⟩ ρ H (fun r H'=>match r with | .val v=>(∃b,v= .p (.bool b)∧(b=true→rows=[]))∧H'=H | .panic _=>False) :=
 Hh fun F w E hH hE=>by
  have e1:=hE x Ae;have e2:=hE y Ae;rw[hx] at e1;rw[hy] at e2;simp only[CX,Ca] at e1 e2;have hg:∀o n c,(eqGuard .eql T x y (.slice o n c) (.slice none 0 0)).run P w= .ok () w:=by intro o n c;unfold eqGuard;rfl
  have key:∃b,(execOp E ⟨dst,.binOp .eql T x y U,ty,pos,aft,g⟩).run P w= .ok (.value (.bool b)) w∧(b=true→rows=[]):=by
   rcases e1 with ⟨rfl,o,c,h1⟩ | ⟨bb,o,c,sz,h1,_⟩
   ·cases o with
    | none =>
     have hq:(Op.equal T (.slice none 0 c) (.slice none 0 0)).run P w= .ok true w:=Hz hu rfl;exact⟨true,by simp[execOp,Sem.run_bind,hg,h1,e2,binOp,hq],fun _=>rfl⟩
    | some a =>
     have hq:(Op.equal T (.slice (some a) 0 c) (.slice none 0 0)).run P w= .ok false w:=Hz hu rfl;exact⟨false,by simp[execOp,Sem.run_bind,hg,h1,e2,binOp,hq],fun _=>rfl⟩
   have hq:(Op.equal T (.slice (some ⟨bb,o,none⟩) rows.length c) (.slice none 0 0)).run P w= .ok false w:=Hz hu rfl;exact⟨false,by simp[execOp,Sem.run_bind,hg,h1,e2,binOp,hq],fun h=>by cases h⟩
  obtain⟨b,hb,hr⟩:=key;exact⟨_,w,.p (.bool b),H,F,hb,⟨⟨b,O,hr⟩,O⟩,.refl,hH,by simp[CX,Ca]⟩
end
def OH (P:Program) (T:TypeId):Bool :=
 match P.underlying T with
 | some (.struct fs)=>match fs.toList with
  | [f,g]=>f.name != "_" &&g.name != "_" &&Nat.beq f.offset 0&&Nat.beq g.offset 1&&(match P.underlying f.type,P.underlying g.type with | some (.int .i64),some (.int .i64)=>true | _,_=>false)&& !P.stoodInHeld T&& !P.eqGuardType P.depth T
  | _=>false
 | _=>false
theorem X9 {P:Program}{T:TypeId}{a b c d:Int}{w:World}(h:OH P T=true):(Op.equal T (.agg #[.int .i64 a,.int .i64 b]) (.agg #[.int .i64 c,.int .i64 d])).run P w= .ok (a==c&&b==d) w:=by
 unfold OH at h;split at h
 ·rename_i fs hu;split at h
  ·rename_i f g hfs;obtain rfl:fs=#[f,g]:=by apply Array.ext';simpa using hfs
   simp only[Bool.and_eq_true,bne_iff_ne,ne_eq,Bool.not_eq_true'] at h;obtain⟨⟨⟨⟨⟨⟨h1,h2⟩,h3⟩,h4⟩,h5⟩,h6⟩,h7⟩:=h;split at h5
   ·rename_i hf hg;have e3:=Nat.eq_of_beq_eq_true h3;have e4:=Nat.eq_of_beq_eq_true h4;have hp:(program).run P w= .ok P w:=rfl;have af:(isAgg f.type).run P w= .ok false w:=Mk hf false rfl w;have ag:(isAgg g.type).run P w= .ok false w:=Mk hg false rfl w;have pf:∀x y,(part f.type #[.int .i64 x,.int .i64 y] f.offset).run P w= .ok (.int .i64 x) w:=by
     intro x y;unfold part;simp[Sem.run_bind,af,e3]
    have pg:∀x y,(part g.type #[.int .i64 x,.int .i64 y] g.offset).run P w= .ok (.int .i64 y) w:=by
     intro x y;unfold part;simp[Sem.run_bind,ag,e4]
    have qf:∀x y,(Op.equalIn 9999 f.type (.int .i64 x) (.int .i64 y)).run P w= .ok (x==y) w:=by
     intro x y;rw[show (9999:Nat)=9998+1 from rfl];unfold Op.equalIn;simp[Sem.run_bind,run_underlying hf]
    have qg:∀x y,(Op.equalIn 9999 g.type (.int .i64 x) (.int .i64 y)).run P w= .ok (x==y) w:=by
     intro x y;rw[show (9999:Nat)=9998+1 from rfl];unfold Op.equalIn;simp[Sem.run_bind,run_underlying hg]
    unfold Op.equal;rw[show Op.maxDepth=9999+1 from rfl];unfold Op.equalIn;simp only[Sem.run_bind,run_underlying hu,Result.andThen_ok,hp,h6];simp[Sem.run_bind,h1,h2,pf,pg,qf,qg];cases hac:(a==c)<;>cases hbd:(b==d)<;>simp_all [Sem.run_bind,h1,h2,pf,pg,qf,qg]
   cases h5
  cases h
 cases h
section
variable {P:Program}{dst:Option Tmp}{ty:TypeId}{pos:String}{aft:Array Edge}{g:Option (Nat×Bool)}{ρ:Operand→AV}{H:List BU}{x y z:Operand}{v:AV}
theorem Zf {T U:TypeId}{a b c d:Int}(h:OH P T=true) (hx:ρ x= .agg [.p (.int .i64 a),.p (.int .i64 b)]) (hy:ρ y= .agg [.p (.int .i64 c),.p (.int .i64 d)]):D3 P ⟨dst,.binOp .neq T x y U,ty,pos,aft,g⟩ ρ H (.p (.bool (!(a==c&&b==d)))) H :=
 Cf fun F w E hH hE=>by
  have e1:=hE x Ae;have e2:=hE y Ae;rw[hx] at e1;rw[hy] at e2;simp only[CX,CD,Ca] at e1 e2;obtain⟨vs,e1,u1,us1,rfl,rfl,u2,us2,rfl,rfl,rfl⟩:=e1;obtain⟨vs',e2,v1,vs1,rfl,rfl,v2,vs2,rfl,rfl,rfl⟩:=e2;refine⟨.bool (!(a==c&&b==d)),?_,by simp[CX,Ca]⟩;have hq:=X9 (P:=P) (T:=T) (a:=a) (b:=b) (c:=c) (d:=d) (w:=w) h;have h':=h;have hg:(eqGuard .neq T x y (.agg #[.int .i64 a,.int .i64 b]) (.agg #[.int .i64 c,.int .i64 d])).run P w= .ok () w:=by
   unfold OH at h';split at h'
   ·split at h'
    ·simp only[Bool.and_eq_true,Bool.not_eq_true'] at h';have h7:=h'.2;have hp:(program).run P w= .ok P w:=rfl;unfold eqGuard;simp[Sem.run_bind,hp,h7]
    cases h'
   cases h'
  simp[execOp,Sem.run_bind,hg,e1,e2,binOp,hq]
end
theorem Ia {P:Program}{r:Option Nat}{c:Code}{S:B5}{Q:DJ→B5→Prop}(N:Nat) (C:Nat→Prop) (St:Nat→B5) (i₀:Nat) (h₀:i₀≤N) (hC:C i₀) (l:Le S (St i₀))
  (round:∀i,i≤N→C i→JH P r c (St i) (Sk (fun S'=>i<N∧C (i+1)∧Le S' (St (i+1))) Q)):JH P r (.loop c) S Q:=by
 refine VN (fun m S=>∃i,i≤N∧m=N - i∧C i∧S=St i) (m:=N - i₀) l ⟨i₀,h₀,O,hC,O⟩ ?_;rintro m S ⟨i,hi,rfl,hc,rfl⟩;refine(round i hi hc).mono ?_;intro e S' h;cases e with
 | normal =>
  obtain⟨h1,h2,h3⟩:=h;exact⟨N - (i+1),St (i+1),by omega,h3,i+1,by omega,rfl,h2,rfl⟩
 | exit id=>exact h
 | ret=>exact h
 | panic v=>exact h
theorem Bo {α:Type}{P:Program}{r:Option Nat}{c:Code}{S:B5}{Q:DJ→B5→Prop}(St:α→B5) (μ:α→Nat) (C:α→Prop) (a₀:α) (hC:C a₀) (l:Le S (St a₀))
  (round:∀a,C a→JH P r c (St a) (Sk (fun S'=>∃a',μ a' < μ a∧C a'∧Le S' (St a')) Q)):JH P r (.loop c) S Q:=by
 refine VN (fun m S=>∃a,m=μ a∧C a∧S=St a) (m:=μ a₀) l ⟨a₀,O,hC,O⟩ ?_;rintro m S ⟨a,rfl,hc,rfl⟩;refine(round a hc).mono ?_;intro e S' h;cases e with
 | normal =>
  obtain⟨a',h1,h2,h3⟩:=h;exact⟨μ a',St a',h1,h3,a',O,h2,O⟩
 | exit id=>exact h
 | ret=>exact h
 | panic v=>exact h
abbrev wr (n:Int):Int:=IntKind.i64.wrap n
section
variable {P:Program}{dst:Option Tmp}{ty:TypeId}{pos:String}{aft:Array Edge}{g:Option (Nat×Bool)}{ρ:Operand→AV}{H:List BU}{x y z:Operand}{v:AV}
theorem EU {m n:Int}{T U:TypeId}(hx:ρ x= .p (.int .i64 m)) (hy:ρ y= .p (.int .i64 n)):D3 P ⟨dst,.binOp .add T x y U,ty,pos,aft,g⟩ ρ H (.p (.int .i64 (wr (m+n)))) H :=
 Cf fun F w E hH hE=>by
  have e1:=hE x Ae;have e2:=hE y Ae;rw[hx] at e1;rw[hy] at e2;simp only[CX,Ca] at e1 e2;exact⟨.int .i64 (wr (m+n)),by simp[execOp,Sem.run_bind,IZ,e1,e2,binOp,Op.intArith],by simp[CX,Ca]⟩
theorem Ja {m n:Int}{T U:TypeId}(hx:ρ x= .p (.int .i64 m)) (hy:ρ y= .p (.int .i64 n)):D3 P ⟨dst,.binOp .sub T x y U,ty,pos,aft,g⟩ ρ H (.p (.int .i64 (wr (m - n)))) H :=
 Cf fun F w E hH hE=>by
  have e1:=hE x Ae;have e2:=hE y Ae;rw[hx] at e1;rw[hy] at e2;simp only[CX,Ca] at e1 e2;exact⟨.int .i64 (wr (m - n)),by simp[execOp,Sem.run_bind,IZ,e1,e2,binOp,Op.intArith],by simp[CX,Ca]⟩
end
def qW (R:AV→Prop):Ei→List BU→Prop
 | .val v,H'=>R v∧H'=[]
 | .panic _,_=>False
abbrev GL (P:Program) (f:FuncId) (args:List AV) (R:AV→Prop):Prop:=B4 P f args [] (qW R)
theorem GL.of {P:Program}{f:FuncId}{args:List AV}{v:AV}{R:AV→Prop}(h:Et P f args v) (hR:R v):GL P f args R :=
 B4.mono h fun r H hr=>by
  cases r with
  | val v'=>obtain⟨rfl,rfl⟩:=hr;exact⟨hR,rfl⟩
  | panic v'=>exact hr
def P6 (R:AV→Prop) (H:List BU):Ei→List BU→Prop
 | .val v,H'=>R v∧H'=H
 | .panic _,_=>False
section
variable {P:Program}{r:Option Nat}{ops:Array Oper}{Q:DJ→B5→Prop}{k:Nat}{n:Nat}{τ:Nat→AV}{H H':List BU}{D:List Ej}{dst:Option Tmp}{op:Op}{ty:TypeId}{pos:String}{aft:Array Edge}{g:Option (Nat×Bool)}{v:AV}
theorem CP {c:Call}{f:Operand}{fid:FuncId}{ρ:Operand→AV}{A:List AV}{R:AV→Prop}(hc:c.callee= .value f) (hf:ρ f= .p (.fn fid)) (h:GL P fid A R) (hA:c.args.toList.map ρ=A∨(c.args.toList.map ρ).map norm=A) :
  Dh P ⟨dst,.call c,ty,pos,aft,g⟩ ρ H (P6 R H):=by
 refine(Gd (H:=H) (Hs:=[]) (Hf:=H) (first:=[]) (caps:=[]) hc (.inl ⟨hf,O,O⟩) (A:=A) Av h (by simpa using hA)).mono ?_;rintro r H' ⟨Hs',h1,rfl⟩;cases r with
 | val v'=>obtain⟨h1,rfl⟩:=h1;exact⟨h1,rfl⟩
 | panic v'=>exact h1
theorem D1 {R:AV→Prop}(ho:ops[k]?=some ⟨dst,op,ty,pos,aft,none⟩) (hd:Gw dst n=true) (h:Dh P ⟨dst,op,ty,pos,aft,none⟩ (ev τ) H (P6 R H))
  (next:∀v,R v→AL P r ops (k+1) ⟨n,put τ dst v,H,D⟩ Q):AL P r ops k ⟨n,τ,H,D⟩ Q :=
 GR (S:=⟨n,τ,H,D⟩) ho An (Io hd) h (fun v H' ⟨h1,h2⟩=>by subst h2;exact next v h1) (fun _ _ h=>h.elim)
theorem IU {R:AV→Prop}{j d:Nat}{want:Bool}(ho:ops[k]?=some ⟨dst,op,ty,pos,aft,some (j,want)⟩) (hd:Gw dst n=true) (hj:(ops[j]?).bind (·.dst)=some d) (hb:τ d= .p (.bool want)) (h:Dh P ⟨dst,op,ty,pos,aft,some (j,want)⟩ (ev τ) H (P6 R H))
  (next:∀v,R v→AL P r ops (k+1) ⟨n,put τ dst v,H,D⟩ Q):AL P r ops k ⟨n,τ,H,D⟩ Q :=
 GR (S:=⟨n,τ,H,D⟩) ho (by simp only[DM];exact⟨d,hj,hb⟩) (Io hd) h (fun v H' ⟨h1,h2⟩=>by subst h2;exact next v h1) (fun _ _ h=>h.elim)
end
section
variable {P:Program}{ops:Array Oper}{n:Nat}{τ₀:Nat→AV}{D:List Ej}{Q:DJ→B5→Prop}{opn:Nat→Bool}{k:Nat}{τ:Nat→AV}{H:List BU}{rd:jt}{ef:iJ}{effs:List Bool}{fx:List (Nat×Sp)}{dst:Option Tmp}{op:Op}{ty:TypeId}{pos:String}{aft:Array Edge}
theorem J3 {R:AV→Prop}(fx':List (Nat×Sp)) (ho:ops[k]?=some ⟨dst,op,ty,pos,aft,none⟩) (hn:opn k=true) (h:Dh P ⟨dst,op,ty,pos,aft,none⟩ (ev τ) H (P6 R H)) (haft:FI ops k (fx'.map (·.1))=true) (hne:∃v,R v) (owe:LJ ops k H H rd)
  (next:∀v,R v→Hl k (.eff v H) fx∧Dr P ops n τ₀ D Q opn (k+1) (put τ dst v) H rd ((k,H,H)::ef) (true::effs) (fx'++fx)):Dr P ops n τ₀ D Q opn k τ H rd ef effs fx :=
 OJ fx' ho hn h haft (let ⟨v,hv⟩:=hne;⟨v,H,hv,rfl⟩) (fun _ _ h=>h.elim) (fun v H' ⟨h1,h2⟩=>by subst h2;exact⟨owe,next v h1⟩)
theorem gd {R:AV→Prop}{j d:Nat}{want:Bool}(fx':List (Nat×Sp)) (ho:ops[k]?=some ⟨dst,op,ty,pos,aft,some (j,want)⟩) (hn:opn k=true) (hj:(ops[j]?).bind (·.dst)=some d) (hb:τ d= .p (.bool want)) (h:Dh P ⟨dst,op,ty,pos,aft,some (j,want)⟩ (ev τ) H (P6 R H)) (haft:FI ops k (fx'.map (·.1))=true) (hne:∃v,R v) (owe:LJ ops k H H rd)
  (next:∀v,R v→Hl k (.eff v H) fx∧Dr P ops n τ₀ D Q opn (k+1) (put τ dst v) H rd ((k,H,H)::ef) (true::effs) (fx'++fx)):Dr P ops n τ₀ D Q opn k τ H rd ef effs fx :=
 .opn (P6 R H) fx' ho hn ⟨d,hj,hb⟩ h haft (let ⟨v,hv⟩:=hne;⟨v,H,hv,rfl⟩) (fun v H' ⟨_,h2⟩=>by subst h2;exact owe) (fun v H' ⟨h1,h2⟩=>by subst h2;exact(next v h1).1) (fun v H' ⟨h1,h2⟩=>by subst h2;exact(next v h1).2) (fun _ _ h=>h.elim)
end
theorem Bi {P:Program}{r:Option Nat}{c:Code}{Q:DJ→B5→Prop}{n:Nat}{τ:Nat→AV}{H:List BU}{D:List Ej}(live:List Nat) (d:Nat) (R:AV→Prop) (h:JH P r c ⟨n,τ,H,D⟩ (Sk (fun S'=>S'.n=n∧S'.D=D∧H.Sublist S'.H∧R (S'.τ d)∧lL S'.τ τ live) Q))
  (next:∀x,R x→Q .normal ⟨n,mk ((d,x)::live.map fun t=>(t,τ t)),H,D⟩):JH P r c ⟨n,τ,H,D⟩ Q:=by
 intro F a w hs;refine wpIn_mono (h F a w hs) ?_;rintro e a' w' ⟨e',S',F',hq,he,hs',ht⟩;cases e' with
 | normal =>
  obtain⟨n',τ',H',D'⟩:=S';obtain⟨h1,h3,h2,h4,h5⟩:=hq;simp only at h1 h2 h3 h4 h5;subst h1;subst h3;have l:Le ⟨n',τ',H',D'⟩ ⟨n',mk ((d,τ' d)::live.map fun t=>(t,τ t)),H,D'⟩:=EP ⟨rfl,P0 h5⟩ h2;exact⟨.normal,_,F',next _ h4,he,hs'.le l,ht.sublist h2⟩
 | exit id=>exact⟨.exit id,S',F',hq,he,hs',ht⟩
 | ret=>exact⟨.ret,S',F',hq,he,hs',ht⟩
 | panic v=>exact⟨.panic v,S',F',hq,he,hs',ht⟩
def Gq (v:AV):Prop:=∃b:Bool,v= .p (.bool b)
def ZG (v:AV):Prop:=∃e:Int,v= .p (.int .i64 e)
end Go.Abs
namespace Go.Eu
open Go.Abs
noncomputable def Ng {α:Type}(a b:α):Bool:= @decide (a=b) (Classical.propDecidable _)
theorem GO {α:Type}{a b:α}(h:a=b):Ng a b=true:=by simp[Ng,h]
theorem H5 {α:Type}{a b:α}(h:a≠b):Ng a b=false:=by simp[Ng,h]
theorem IT {α:Type}{a b:α}:Ng a b=true↔a=b:=by simp[Ng]
abbrev LV (l:Cl):AV:= .agg ((CE l).map .p)
abbrev od (ts:List Tm):AV:= .p (.lst (BO ts))
abbrev ph (ls:List Cl):AV:= .p (.lst (ls.map CE))
theorem Cz {ts:List CR}{i:Nat}{t:CR}(h:ts[i]?=some t):(ts.map EF)[i]?=some (EF t):=by simp[h]
theorem GC {ts:List Cl}{i:Nat}{t:Cl}(h:ts[i]?=some t):(ts.map CE)[i]?=some (CE t):=by simp[h]
def agree {α:Type}(a b:List α) (i:Nat):Prop:=a.take i=b.take i
theorem ND {α:Type}(a b:List α):agree a b 0:=by simp[agree]
theorem Nj {α:Type}{a b:List α}{i:Nat}{x:α}(h:agree a b i) (ha:a[i]?=some x) (hb:b[i]?=some x):agree a b (i+1):=by
 unfold agree at *;rw[List.take_add_one,List.take_add_one,ha,hb,h]
theorem PQ {α:Type}{a b:List α}{n:Nat}(h:agree a b n) (ha:a.length=n) (hb:b.length=n):a=b:=by
 unfold agree at h
 rwa [List.take_of_length_le Au,List.take_of_length_le Au] at h
theorem BE {α:Type}{l:List α}{i:Nat}(h:i<l.length):∃x,l[i]?=some x:=⟨_,List.getElem?_eq_getElem h⟩
abbrev Dt:Nat:=1099511627776
def I3 (n:Int):Prop:= -9223372036854775808≤n∧n≤9223372036854775807
structure M6 (l:Cl):Prop where
 vars:l.vars.length<Dt
 c:I3 l.const
 v:∀v∈l.vars,I3 v.index∧I3 v.plus
mutual
def Nd:Tm→Prop
 | .mk k i n ls ks=>n.size<Dt∧ls.length<Dt∧(∀l∈ls,M6 l)∧ks.length<Dt∧Lo ks∧I3 k∧I3 i
def Lo:List Tm→Prop
 | []=>True
 | t::ts=>Nd t∧Lo ts
end
theorem Di:∀{ts:List Tm}{i:Nat}{t:Tm},Lo ts→ts[i]?=some t→Nd t
 | [],i,t,_,h=>by simp at h
 | a::ts,0,t,hn,h=>by simp at h;subst h;exact hn.1
 | a::ts,i+1,t,hn,h=>by simp at h;exact Di hn.2 h
mutual
def depth:Tm→Nat
 | .mk _ _ _ _ ks=>cG ks+1
def cG:List Tm→Nat
 | []=>0
 | t::ts=>max (depth t) (cG ts)
end
end Go.Eu
namespace Go.Eu
theorem Ot (bs : ByteArray) : ∀ (d i : Nat) (r : List UInt8), bs.size - i = d → ByteArray.toList.loop bs i r = r.reverse ++ bs.data.toList.drop i := by
 intro d
 induction d with
 | zero =>
  intro i r h
  unfold ByteArray.toList.loop
  have : ¬ i < bs.size := by omega
  simp only [this, if_false]
  rw [List.drop_eq_nil_of_le (by have : bs.data.size = bs.size := rfl; simp; omega)]; simp
 | succ d ih =>
  intro i r h
  unfold ByteArray.toList.loop
  have hi : i < bs.size := by omega
  simp only [hi, if_true]
  rw [ih (i + 1) _ Au]
  have hlt : i < bs.data.toList.length := by have : bs.data.size = bs.size := rfl; simp; omega
  rw [List.drop_eq_getElem_cons hlt]
  have : bs.get! i = bs.data.toList[i] := by
   have h2 : i < bs.data.size := by simpa using hlt
   show bs.data[i]! = _
   rw [getElem!_pos bs.data i h2]; simp
  simp [this]
theorem N6 (bs:ByteArray):bs.toList=bs.data.toList:=by
 unfold ByteArray.toList;rw[Ot bs _ 0 [] rfl];simp
theorem G3 {a b:ByteArray}(h:a.toList=b.toList):a=b:=by
 rw[N6,N6] at h;cases a;cases b;simp at h;congr
end Go.Eu
namespace Go.Eu
open Go.Abs
mutual
def E4:Tm→Int→Int
 | .mk _ _ _ _ ks,most=>Em ks most 0
def Em:List Tm→Int→Int→Int
 | [],_,n=>n
 | t::ts,most,n=>if n > most then n else Em ts most (wr (n+wr (1+E4 t (wr (most - n)))))
end
theorem Tt {l:List Tm}{i:Nat}{t:Tm}{most n:Int}(h:l[i]?=some t):Em (l.drop i) most n=if n > most then n else Em (l.drop (i+1)) most (wr (n+wr (1+E4 t (wr (most - n))))):=by
 have hlt:i<l.length:=(List.getElem?_eq_some_iff.1 h).1;rw[List.drop_eq_getElem_cons hlt];have:l[i]=t:=by simpa [List.getElem?_eq_getElem hlt] using h
 rw[this,Em]
end Go.Eu
namespace Go.Eu
def arity (k:Int):Int:=if k=4∨k=5∨k=6∨k=7 then 2 else if k=8∨k=11 then 3 else if k=9∨k=10 then 1 else 0
def below (k i:Int):Int:=if ((i==1&&(k==5||k==6||k==7))||(i==2&&k==11))=true then 1 else 0
def XL:Tm→Prop
 | .mk kd _ _ _ ks=>0≤kd∧kd<13∧(ks.length:Int)=arity kd
mutual
def wf (vars metas:Int):Int→Tm→Prop
 | d,.mk kd ix _ _ ks=>0≤kd∧kd<13∧(ks.length:Int)=arity kd∧(kd=0→0≤ix∧ix - d<vars)∧(kd=12→0≤ix∧ix<metas)∧jR vars metas kd d 0 ks
def jR (vars metas:Int):Int→Int→Nat→List Tm→Prop
 | _,_,_,[]=>True
 | kd,d,i,t::ts=>wf vars metas (d+below kd i) t∧jR vars metas kd d (i+1) ts
end
theorem Kr {vars metas kd d:Int}:∀{ks:List Tm}{i:Nat},(∀j t,ks[j]?=some t→wf vars metas (d+below kd ((i+j:Nat):Int)) t)→jR vars metas kd d i ks
 | [],i,_=>by simp[jR]
 | t::ts,i,h=>by
  simp only[jR];exact⟨by have:=h 0 t rfl;simpa using this,Kr fun j t' ht=>by have:=h (j+1) t' (by simpa using ht);rw[show i+1+j=i+(j+1) by omega];exact this⟩
theorem DK (k i:Int):0≤below k i∧below k i≤1:=by unfold below;split<;>omega
theorem DD {α:Type}{l:List α}{p:Nat→α→Prop}{i:Nat}{x:α}(h:∀j,j<i→∀t,l[j]?=some t→p j t) (hx:l[i]?=some x) (hp:p i x):∀j,j<i+1→∀t,l[j]?=some t→p j t:=by
 intro j hj t ht;rcases Nat.lt_or_ge j i with h' | h'
 ·exact h j h' t ht
 have e:j=i:=by omega
 subst e;rw[hx] at ht;injection ht with ht;subst ht;exact hp
end Go.Eu
namespace Go.Abs
section
variable {α:Type}
def P5 (is:List Nat):Nat→List α→List α
 | _,[]=>[]
 | k,a::l=>bif is.any (Nat.beq k ·) then a::P5 is (k+1) l else P5 is (k+1) l
theorem PY (is:List Nat):∀(k:Nat) (l:List α),(P5 is k l).Sublist l
 | _,[]=>List.Sublist.refl _
 | k,a::l=>by
  simp only[P5];cases is.any (Nat.beq k ·)
  ·exact(PY is (k+1) l).cons _
  exact(PY is (k+1) l).cons_cons _
theorem CJ {is:List Nat}{l l':List α}(h:P5 is 0 l=l'):l'.Sublist l:=h▸PY is 0 l
def Fm (H:List α):List Nat→List α→Prop
 | [],xs=>xs=[]
 | i::is,xs=>∃x xs',xs=x::xs'∧H[i]?=some x∧Fm H is xs'
def Ll (H:List α):List Nat→List α→List α
 | i::is,x::xs=>Ll (H.set i x) is xs
 | _,_=>H
def DO (is:List Nat):Nat→List α→List α
 | _,[]=>[]
 | k,a::l=>if k∈is then DO is (k+1) l else a::DO is (k+1) l
theorem Px:∀(k:Nat) (l:List α),DO [] k l=l
 | _,[]=>rfl
 | k,a::l=>by simp[DO,Px (k+1) l]
theorem Pq {is:List Nat}{j:Nat}:∀(k:Nat) (l:List α),j<k→DO (j::is) k l=DO is k l
 | _,[],_=>rfl
 | k,a::l,h=>by
  have:k≠j:=by omega
  have ih:=Pq (is:=is) (j:=j) (k+1) l Au;simp[DO,this,ih]
theorem N1 {is:List Nat}{x:α}:∀(l:List α) (k i:Nat),l[i]?=some x→(k+i) ∉ is→(DO is k l).Perm (x::DO ((k+i)::is) k l)
 | [],k,i,h,_=>by simp at h
 | a::l,k,0,h,hn=>by
  simp at h hn;subst h;simp[DO,hn,Pq (k+1) l (Nat.lt_succ_self k)]
 | a::l,k,i+1,h,hn=>by
  simp at h;have ih:=N1 l (k+1) i h (by rw[show k+1+i=k+(i+1) by omega];exact hn);rw[show k+1+i=k+(i+1) by omega] at ih;have hk:k≠k+(i+1):=by omega
  simp only[DO,List.mem_cons,hk,false_or];split
  ·exact ih
  exact(ih.cons a).trans (.swap _ _ _)
theorem Dj {H:List α}:∀{is:List Nat}{xs:List α},is.Nodup→Fm H is xs→H.Perm (xs++DO is 0 H)
 | [],xs,_,h=>by simp only[Fm] at h;subst h;simp[Px]
 | i::is,xs,hn,h=>by
  obtain⟨x,xs',rfl,hx,hr⟩:=h;have hn':=List.nodup_cons.1 hn;have ih:=Dj hn'.2 hr;have:=N1 (is:=is) H 0 i hx (by simpa using hn'.1);simp only[Nat.zero_add] at this;exact ih.trans (((List.Perm.refl xs').append this).trans List.perm_middle)
theorem Ps {is:List Nat}{y:α}:∀(l:List α) (k i:Nat),(k+i)∈is→DO is k (l.set i y)=DO is k l
 | [],k,i,_=>by simp
 | a::l,k,0,h=>by simp at h;simp[DO,h]
 | a::l,k,i+1,h=>by
  have:=Ps (y:=y) l (k+1) i (by rw[show k+1+i=k+(i+1) by omega];exact h);simp only[List.set_cons_succ,DO,this]
theorem SK {i:Nat}{y:α}:∀{is:List Nat}{xs H:List α},i ∉ is→Fm H is xs→Fm (H.set i y) is xs
 | [],xs,H,_,h=>h
 | j::is,xs,H,hn,h=>by
  obtain⟨x,xs',rfl,hx,hr⟩:=h;simp at hn;exact⟨x,xs',O,by rw[List.getElem?_set_ne hn.1];exact hx,SK hn.2 hr⟩
theorem T7:∀{is:List Nat}{xs xs' H:List α},is.Nodup→Fm H is xs→xs'.length=xs.length→Fm (Ll H is xs') is xs'∧(∀ks k,(∀i∈is,k+i∈ks)→DO ks k (Ll H is xs')=DO ks k H)∧∀j,j ∉ is→(Ll H is xs')[j]?=H[j]?
 | [],xs,xs',H,_,h,hl=>by
  simp only[Fm] at h;subst h;have:xs'=[]:=by simpa using hl
  subst this;exact⟨O,fun _ _ _=>O,fun _ _=>O⟩
 | i::is,xs,xs',H,hn,h,hl=>by
  obtain⟨x,xr,rfl,hx,hr⟩:=h;have hn':=List.nodup_cons.1 hn;cases xs' with
  | nil=>simp at hl
  | cons y ys =>
   have hlt:i<H.length:=(List.getElem?_eq_some_iff.1 hx).1;obtain⟨h1,h2,h3⟩:=T7 (H:=H.set i y) hn'.2 (SK hn'.1 hr) (by simpa using hl);refine⟨⟨y,ys,O,by rw[Ll,h3 i hn'.1];simp[hlt],h1⟩,fun ks k hk=>?_,fun j hj=>?_⟩
   ·rw[Ll,h2 ks k (fun q hq=>hk q (by simp[hq])),Ps _ _ _ (hk i Av)]
   simp at hj;rw[Ll,h3 j hj.2,List.getElem?_set_ne (fun e=>hj.1 e.symm)]
theorem Mf {is:List Nat}{xs xs' H:List α}(hn:is.Nodup) (h:Fm H is xs) (hl:xs'.length=xs.length):(Ll H is xs').Perm (xs'++DO is 0 H):=by
 obtain⟨h1,h2,_⟩:=T7 hn h hl;have:=Dj hn h1
 rwa [h2 is 0 (fun i hi=>by simpa using hi)] at this
end
def j4 (τ:Nat→AV) (x:AV):List Nat→Prop
 | []=>True
 | t::r=>τ t=x∧j4 τ x r
theorem EH {τ:Nat→AV}{x:AV}:∀{ts:List Nat},j4 τ x ts→∀t∈ts,τ t=x
 | [],_,t,h=>by simp at h
 | a::r,h,t,ht=>by
  rcases List.mem_cons.1 ht with rfl | ht
  ·exact h.1
  exact EH h.2 t ht
section
variable {P:Program}{S:B5}{a T n b i:Nat}{cs:List AV}{v:AV}
theorem BJ (hT:ED P T=some (true,n)) (ha:S.τ a= .ptr b 0) (hi:S.H[i]?=some (.box b cs)) (hn:cs.length=n):jQ P S (.cell a T) (.agg cs):=by
 obtain⟨d,h1,h2,h3⟩:=Fh hT;exact⟨b,cs,i,ha,hi,.inl ⟨d,h1,h2,by rw[h3,hn],rfl⟩⟩
theorem G7 (hT:ED P T=some (false,n)) (ha:S.τ a= .ptr b 0) (hi:S.H[i]?=some (.box b [v])):jQ P S (.cell a T) v:=by
 obtain⟨d,h1,h2,h3⟩:=Fh hT;exact⟨b,[v],i,ha,hi,.inr ⟨d,h1,h2,O⟩⟩
end
section
variable {P:Program}{dst:Option Tmp}{ty:TypeId}{pos:String}{aft:Array Edge}{g:Option (Nat×Bool)}{ρ:Operand→AV}{H Hs Hs':List BU}{x y z:Operand}{v:AV}{c:Call}{f:Operand}{fid:FuncId}{first caps A:List AV}
theorem Dh.permD {o:Oper}{H H' H'':List BU}(h:D3 P o ρ H v H') (hp:H'.Perm H''):D3 P o ρ H v H'':=by
 intro r F S a w hs hH hρ hd;have:=h r F S a w hs hH hρ hd;refine Mo this ?_ ?_
 ·rintro a' w' ⟨v',H1,F',⟨rfl,rfl⟩,hs',ht⟩;exact⟨v',H'',F',⟨O,O⟩,⟨hs'.size,hs'.tmp,hs'.heap.perm hp,hs'.defs⟩,{ ht with keys:=fun o ho=>ht.keys o (hp.mem_iff.2 ho) }⟩
 rintro e a' w' ⟨v',H1,F',u,h,_⟩;exact h.elim
theorem CS (is:List Nat) (hc:c.callee= .value f) (hf:(ρ f= .p (.fn fid)∧first=[]∧caps=[])∨ρ f= .fn (.func fid) first caps) (h:B4 P fid A Hs (Gx v Hs')) (hg:Fm H is Hs) (hn:is.Nodup) (hl:Hs'.length=Hs.length) (hA:first++c.args.toList.map ρ++caps=A∨(first++c.args.toList.map ρ++caps).map norm=A) :
  D3 P ⟨dst,.call c,ty,pos,aft,g⟩ ρ H v (Ll H is Hs') :=
 Dh.permD (gW hc hf (Dj hn hg) h hA) (Mf hn hg hl).symm
theorem gU (hc:c.callee= .value f) (hf:ρ f= .fn (.func fid) first caps) (h:Et P fid A v) (hA:first++c.args.toList.map ρ++caps=A∨(first++c.args.toList.map ρ++caps).map norm=A) :
  D3 P ⟨dst,.call c,ty,pos,aft,g⟩ ρ H v H:=by
 refine(Gd (H:=H) (Hs:=[]) (Hf:=H) hc (.inr hf) (A:=A) Av h hA).mono ?_;rintro r H' ⟨Hs',h1,rfl⟩;cases r with
 | val v'=>obtain⟨rfl,rfl⟩:=h1;exact⟨rfl,rfl⟩
 | panic v'=>exact h1
theorem Cb {T T2 e e2:TypeId}{sz bytes n2 n3 c i n:Nat}{o:Option Nat}{rows rows' rows2:List (List PV)}{zv:Value}(hT:F9 P T=some (e,sz,bytes)) (hT2:F9 P T2=some (e2,n2,n3)) (hz:zeroOf P e=some zv) (hzs:zv.cells.size=sz) (hb0:(Nat.blt 0 sz&&Nat.blt 0 bytes)=true)
  (hx:ρ x= .vs o n c) (hn:n=rows.length) (hi:H[i]?=some (.vec o sz rows c)) (hy:norm (ρ y)= .p (.lst rows')) (hsol:∀r∈rows',Ed sz r) (hroom:2*(rows.length+rows'.length)*bytes≤281474976710656) (h2:rows++rows'=rows2) :
  Dh P ⟨dst,.call { callee:= .builtin .append,args:=#[x,y],argTypes:=#[T,T2] },ty,pos,aft,g⟩ ρ H (Nu i sz rows2 H):=by
 subst h2;exact Rb hT hT2 hz hzs hb0 hx hn hi hy hsol hroom
theorem Ux {F:Nat→Prop}{w:World}{u:Value}(h:CX F w (.p .nils) u):CX F w (.vs none 0 0) u:=by
 simp only[CX,Ca] at *;exact⟨Aw,Aw,none,h⟩
theorem Xe {α : Type} : ∀ {us cs : List α}, us.length = cs.length → splice cs 0 us = us := by
 have key : ∀ (us : List α) (pre cs : List α), us.length = cs.length → splice (pre ++ cs) pre.length us = pre ++ us := by
  intro us
  induction us with
  | nil => intro pre cs h; have : cs = [] := by simpa using h.symm
           subst this; simp [splice]
  | cons u us ih =>
   intro pre cs h
   cases cs with
   | nil => simp at h
   | cons c cs =>
    simp only [splice]
    have := ih (pre ++ [u]) cs (by simpa using h)
    have e : (pre ++ c :: cs).set pre.length u = pre ++ [u] ++ cs := by simp
    rw [e]
    simpa using this
 intro us cs h
 exact key us [] cs h
theorem Bc {T:TypeId}{bl:Bool}{n b i:Nat}{cs us:List AV}(hT:ED P T=some (bl,n+1)) (hx:ρ x= .ptr b 0) (hi:H[i]?=some (.box b cs)) (hy:Ew (ρ y)=some us) (hn:us.length=n+1)
  (ho:cs.length=n+1) (h1:us.all one=true):D3 P ⟨dst,.store T x y,ty,pos,aft,g⟩ ρ H (.p .any) (H.set i (.box b us)):=by
 have:=CO (P:=P) (dst:=dst) (ty:=ty) (pos:=pos) (aft:=aft) (g:=g) hT hx hi hy hn (by rw[ho];simp) h1
 rwa [Xe (by rw[hn,ho])] at this
theorem Eh {T:TypeId}{bl:Bool}{b i j sz c:Nat}{rows rows2:List (List PV)}{us:List AV}{r:List PV}(hT:ED P T=some (bl,sz)) (hpos:Nat.blt 0 sz=true) (hx:ρ x= .ptr b (j*sz)) (hi:H[i]?=some (.vec (some b) sz rows c)) (hj:j<rows.length) (hy:Ew (ρ y)=some us) (hp:Gr (us.map dn)=some r) (hrl:r.length=sz) (h1:us.all one=true) (h2:rows.set j r=rows2) :
  D3 P ⟨dst,.store T x y,ty,pos,aft,g⟩ ρ H (.p .any) (H.set i (.vec (some b) sz rows2 c)):=by
 subst h2;exact SU hT hpos hx hi hj hy hp hrl h1
theorem L3 {T e:TypeId}{sz bytes:Nat}{m:Int}{zs:List Value}{zv:Value}{zr:List PV}{rows2:List (List PV)}(hT:F9 P T=some (e,sz,bytes)) (hz:zeroOf P e=some zv) (hzs:zv.cells=⟨zs⟩) (hsz:zs.length=sz) (hpos:0<sz) (hp:Gr ((zs.map G8).map dn)=some zr)
  (hx:ρ x= .p (.int .i64 m)) (hy:ρ y= .p (.int .i64 m)) (h0:0≤m) (hm:bytes*m≤281474976710656) (hm2:m≤9223372036854775807) (h2:List.replicate m.toNat zr=rows2) :
  Dh P ⟨dst,.makeSlice T x y,ty,pos,aft,g⟩ ρ H (Lv sz rows2 H):=by
 subst h2;exact SS hT hz hzs hsz hpos hp hx hy h0 hm hm2
theorem Cp {T e:TypeId}{sz bytes lo hi:Nat}{rows rows2:List (List PV)}{l h:Option Operand}(hT:F9 P T=some (e,sz,bytes)) (hx:ρ x= .p (.lst rows)) (hr:∀r∈rows,r.length=sz)
  (hl:match l with | none=>lo=0 | some y=>∃k,ρ y= .p (.int k lo)) (hh:match h with | none=>hi=rows.length | some y=>∃k,ρ y= .p (.int k hi)) (h1:lo≤hi) (h2:hi≤rows.length) (h3:(rows.take hi).drop lo=rows2) :
  D3 P ⟨dst,.slice T x l h none,ty,pos,aft,g⟩ ρ H (.p (.lst rows2)) H:=by
 subst h3;exact aU hT hx hr hl hh h1 h2
end
section
variable {P:Program}{r:Option Nat}{ops:Array Oper}{Q:DJ→B5→Prop}{k:Nat}{n:Nat}{τ:Nat→AV}{H H':List BU}{D:List Ej}{dst:Option Tmp}{op:Op}{ty:TypeId}{pos:String}{aft:Array Edge}{v:AV}
theorem kP (ho:ops[k]?=some ⟨dst,op,ty,pos,aft,none⟩) (hd:Gw dst n=true) (h:Dh P ⟨dst,op,ty,pos,aft,none⟩ (ev τ) H (de H))
  (next:∀b,AL P r ops (k+1) ⟨n,put τ dst (.map b),.map b (Ec [])::H,D⟩ Q):AL P r ops k ⟨n,τ,H,D⟩ Q :=
 GR (S:=⟨n,τ,H,D⟩) ho An (Io hd) h (fun v H' ⟨b,h1,h2⟩=>by subst h1;subst h2;exact next b) (fun _ _ h=>h.elim)
end
theorem leH {is:List Nat}{H H1 H':List BU}(h:P5 is 0 H=H1) (w:GB H1 H'):jj H H':=⟨H1,CJ h,w⟩
theorem D9 {x y:AV}(h:norm x=y):Rf x y:=fun _ _ _ hr=>h▸hr.norm
theorem DN:GB [] []:=rfl
theorem wl {o o':BU}{l l':List BU}(h:MH o o') (r:GB l l'):GB (o::l) (o'::l'):=⟨o',l',rfl,h,r⟩
theorem on {b:Nat}{cs cs':List AV}(h:cs.map dn=cs'):MH (.box b cs) (.box b cs'):=⟨rfl,fun F w hr=>by
 obtain⟨vs,T,h1,h2⟩:=hr;exact⟨vs,T,h1,h▸Kf h2⟩⟩
theorem Bj {n:Nat}{τ:Nat→AV}{H:List BU}{D:List Ej}{i b:Nat}{cs:List AV}(hi:H[i]?=some (.box b cs)):Ie ⟨n,τ,H,D⟩ ⟨n,τ,H.set i (.box b (cs.map dn)),D⟩:=by
 intro F a w hs;refine⟨F,⟨hs.size,hs.tmp,?_,hs.defs⟩,?_⟩
 ·have hk:=GK (x':= .box b (cs.map dn)) hi rfl;refine⟨fun o ho c hc=>?_,by show List.Nodup _;rw[hk];exact hs.heap.nodup,fun o ho=>?_,hs.heap.bd⟩
  ·rcases Dy ho with rfl | ⟨j,_,hj⟩
   ·exact hs.heap.sub _ (List.mem_of_getElem? hi) c hc
   exact hs.heap.sub _ (List.mem_of_getElem? hj) c hc
  rcases Dy ho with rfl | ⟨j,_,hj⟩
  ·exact(on O).2 F w (hs.heap.obj _ (List.mem_of_getElem? hi))
  exact hs.heap.obj _ (List.mem_of_getElem? hj)
 refine { Trans.refl (F:=F) (H:=H) (w:=w) with keys:=fun o ho c hc=>?_ };rcases Dy ho with rfl | ⟨j,_,hj⟩
 ·exact .inl ⟨_,List.mem_of_getElem? hi,hc⟩
 exact .inl ⟨_,List.mem_of_getElem? hj,hc⟩
theorem ER {n:Nat}{τ:Nat→AV}{H:List BU}{D:List Ej}(t:Nat):Ie ⟨n,τ,H,D⟩ ⟨n,put τ (some t) (norm (τ t)),H,D⟩:=Q7 fun _ _ _ h=>h.norm
theorem ob {b:Nat}{cs cs':List AV}(h:cs=cs'):MH (.box b cs) (.box b cs'):=oe (by rw[h])
theorem om {b:Nat}{l l':List (PV×AV)}(h:l=l'):MH (.map b l) (.map b l'):=oe (by rw[h])
def Zd (mkv:AV→AV) (sz:Nat) (rows:List (List PV)):Ei→List BU→Prop
 | .val v,H'=>∃o c,v=mkv (.vs o rows.length c)∧H'=[.vec o sz rows c]
 | .panic _,_=>False
section
variable {P:Program}{r:Option Nat}{ops:Array Oper}{Q:DJ→B5→Prop}{k:Nat}{n:Nat}{τ:Nat→AV}{H H':List BU}{D:List Ej}{dst:Option Tmp}{op:Op}{ty:TypeId}{pos:String}{aft:Array Edge}{v:AV}
theorem NI {c:Call}{f:Operand}{fid:FuncId}{first caps:List AV}{A:List AV}{mkv:AV→AV}{sz:Nat}{rows:List (List PV)}
  (ho:ops[k]?=some ⟨dst,.call c,ty,pos,aft,none⟩) (hd:Gw dst n=true)
  (hc:c.callee= .value f) (hf:(ev τ f= .p (.fn fid)∧first=[]∧caps=[])∨ev τ f= .fn (.func fid) first caps) (h:B4 P fid A [] (Zd mkv sz rows)) (hA:first++c.args.toList.map (ev τ)++caps=A∨(first++c.args.toList.map (ev τ)++caps).map norm=A)
  (next:∀o cp,AL P r ops (k+1) ⟨n,put τ dst (mkv (.vs o rows.length cp)),.vec o sz rows cp::H,D⟩ Q):AL P r ops k ⟨n,τ,H,D⟩ Q :=
 JA ho hd hc hf (Hs:=[]) (Hf:=H) Av h hA (fun v H' ⟨o,cp,h1,h2⟩=>by subst h1;subst h2;exact next o cp) (fun _ _ h=>h.elim)
end
theorem W6 {P:Program}{f:FuncId}{args:List AV}{pre post:List AV}{sz:Nat}{rows:List (List PV)}(h:B4 P f args [] (Zd (fun v=> .tup (pre++v::post)) sz rows)) (hb:∀x∈pre++post,∀F F' w v,Dk F w F' w→CX F w x v→CX F' w x v) :
  Et P f args (.tup (pre++ .p (.lst rows)::post)):=by
 refine⟨h.1,fun F w vs hH ha=>(h.2 F w vs hH ha).mono ?_⟩;rintro e w' ⟨r,H',F',hR,he,hH',ht⟩;cases r with
 | panic v=>exact hR.elim
 | val v =>
  obtain⟨o,c,rfl,rfl⟩:=hR;obtain⟨u,rfl,hu⟩:=he;have hbd:∀b,o=some b→b<w'.heap.size:=fun b hb=>hH'.bd b (hH'.sub _ (List.mem_cons_self ..) b (by rw[←hb];rfl));have st:Dk F' w' (fun b=>F' b∧o≠some b) w':=⟨Nat.le_refl _,fun _ _ _=>rfl,fun _ h _ h'=>h h'.1⟩;have hob:=hH'.obj _ (List.mem_cons_self ..);refine⟨.val (.tup (pre++ .p (.lst rows)::post)),[],fun b=>F' b∧o≠some b,⟨O,O⟩,⟨u,O,?_⟩,?_,?_⟩
  ·simp only[CX] at hu ⊢;obtain⟨us,hus,hr⟩:=hu;refine⟨us,hus,?_⟩;have key:∀(pre:List AV) (us:List Value),(∀x∈pre++post,∀F F' w v,Dk F w F' w→CX F w x v→CX F' w x v)→CD F' w' (pre++ .vs o rows.length c::post) us→CD (fun b=>F' b∧o≠some b) w' (pre++ .p (.lst rows)::post) us:=by
    intro pre
    induction pre with
    | nil =>
     intro us hb hr;simp only[List.nil_append,CD] at hr ⊢;obtain⟨u,us',rfl,h1,h2⟩:=hr;refine⟨u,us',O,K5 hbd hob h1 _ st (fun b hb h=>h.2 hb),?_⟩;exact CD.mono st _ _ h2
    | cons x pre ih =>
     intro us hb hr;simp only[List.cons_append,CD] at hr ⊢;obtain⟨u,us',rfl,h1,h2⟩:=hr;exact⟨u,us',rfl,hb x Av _ _ _ _ st h1,ih us' (fun y hy=>hb y (by simp at hy ⊢;rcases hy with h | h<;>simp[h])) h2⟩
   exact key pre us hb hr
  ·exact⟨fun _ h=>by simp at h,by simp,fun _ h=>by simp at h,fun b hb=>hH'.bd b hb.1⟩
  refine⟨ht.size,fun b hb hn=>ht.same b hb hn,fun b hb hn=>⟨ht.keep b hb hn,?_⟩,fun b hb=>ht.fresh b hb.1,fun _ h=>by simp at h,ht.os,ht.out,ht.tape⟩;intro ho;subst ho;have:=hH.bd b hb;rcases ht.keys _ (List.mem_cons_self ..) b rfl with ⟨o',ho',_⟩ | h
  ·simp at ho'
  omega
theorem WJ (c:AV) (F F':Nat→Prop) (w:World) (v:Value) (st:Dk F w F' w) (h:CX F w c v):CX F' w c v:=CX.mono st _ _ h
def Gc:List AV→List AV→Prop
 | [],ys=>ys=[]
 | x::xs,ys=>∃y ys',ys=y::ys'∧Rf x y∧Gc xs ys'
theorem FH:Gc [] []:=rfl
theorem aw {x y:AV}{xs ys:List AV}(h:Rf x y) (r:Gc xs ys):Gc (x::xs) (y::ys):=⟨y,ys,rfl,h,r⟩
theorem Pe {F:Nat→Prop}{w:World}:∀{xs ys:List AV}{vs:List Value},Gc xs ys→CD F w xs vs→CD F w ys vs
 | [],ys,vs,h,hr=>by simp only[Gc] at h;subst h;exact hr
 | x::xs,ys,vs,h,hr=>by
  obtain⟨y,ys',rfl,h1,h2⟩:=h;simp only[CD] at hr ⊢;obtain⟨u,us,rfl,r1,r2⟩:=hr;exact⟨u,us,O,h1 F w u r1,Pe h2 r2⟩
theorem JJ:Rf (.p .nils) (.vs none 0 0):=fun _ _ _ h=>Ux h
theorem B4.args {P:Program}{f:FuncId}{args A:List AV}{H:List BU}{R:Ei→List BU→Prop}(h:B4 P f A H R) (hA:Gc args A):B4 P f args H R :=
 ⟨h.1,fun F w vs hH ha=>h.2 F w vs hH (Pe hA ha)⟩
section
variable {P:Program}{r:Option Nat}{ops:Array Oper}{Q:DJ→B5→Prop}{k:Nat}{n:Nat}{τ:Nat→AV}{H Hs:List BU}{D:List Ej}{dst:Option Tmp}{op:Op}{ty:TypeId}{pos:String}{aft:Array Edge}{v:AV}{c:Call}{f:Operand}{fid:FuncId}{first caps A:List AV}{R:Ei→List BU→Prop}
theorem Tp {S:B5}{H':List BU}(hp:S.H.Perm H'):Ie S ⟨S.n,S.τ,H',S.D⟩:=fun F a w hs =>
 ⟨F,⟨hs.size,hs.tmp,hs.heap.perm hp,hs.defs⟩,{ Trans.refl (F:=F) (H:=S.H) (w:=w) with keys:=fun o ho b hb=> .inl ⟨o,hp.mem_iff.2 ho,hb⟩ }⟩
theorem dj (is:List Nat) (ho:ops[k]?=some ⟨dst,.call c,ty,pos,aft,none⟩) (hd:Gw dst n=true)
  (hc:c.callee= .value f) (hf:(ev τ f= .p (.fn fid)∧first=[]∧caps=[])∨ev τ f= .fn (.func fid) first caps) (h:B4 P fid A Hs R) (hg:Fm H is Hs) (hn:is.Nodup) (hA:Gc (first++c.args.toList.map (ev τ)++caps) A)
  (next:∀v Hs',R (.val v) Hs'→Hs'.length=Hs.length∧AL P r ops (k+1) ⟨n,put τ dst v,Ll H is Hs',D⟩ Q) (pan:∀v Hs',R (.panic v) Hs'→Q (.panic v) ⟨n,τ,Hs'++DO is 0 H,D⟩):AL P r ops k ⟨n,τ,H,D⟩ Q :=
 JA ho hd hc hf (Dj hn hg) (h.args hA) (.inl rfl) (fun v H' hR=>by
  obtain⟨hl,hn'⟩:=next v H' hR;exact CH (Tp (S:=⟨n,put τ dst v,H'++DO is 0 H,D⟩) (Mf hn hg hl).symm) hn') pan
theorem cm (is:List Nat) (ho:ops[k]?=some ⟨dst,.call c,ty,pos,aft,none⟩) (hd:Gw dst n=true)
  (hc:c.callee= .value f) (hf:(ev τ f= .p (.fn fid)∧first=[]∧caps=[])∨ev τ f= .fn (.func fid) first caps) (h:B4 P fid A Hs R) (hg:Fm H is Hs) (hn:is.Nodup) (hA:Gc (first++c.args.toList.map (ev τ)++caps) A)
  (next:∀v Hs',R (.val v) Hs'→AL P r ops (k+1) ⟨n,put τ dst v,Hs'++DO is 0 H,D⟩ Q) (pan:∀v Hs',R (.panic v) Hs'→Q (.panic v) ⟨n,τ,Hs'++DO is 0 H,D⟩):AL P r ops k ⟨n,τ,H,D⟩ Q :=
 JA ho hd hc hf (Dj hn hg) (h.args hA) (.inl rfl) next pan
theorem H8 {sz:Nat}:Ie ⟨n,τ,H,D⟩ ⟨n,τ,.vec none sz [] 0::H,D⟩:=by
 intro F a w hs;have hH:HRel F (.vec none sz [] 0::H) w:=⟨fun o ho b hb=>by
   rcases List.mem_cons.1 ho with rfl | ho
   ·cases hb
   ·exact hs.heap.sub o ho b hb,by simpa [List.filterMap_cons,BU.key] using hs.heap.nodup,fun o ho=>by
   rcases List.mem_cons.1 ho with rfl | ho
   ·exact⟨O,O⟩
   exact hs.heap.obj o ho,hs.heap.bd⟩
 exact⟨F,⟨hs.size,hs.tmp,hH,hs.defs⟩,⟨Nat.le_refl _,fun _ _ _=>O,fun _ h _=>h,fun _ h=> .inl h,fun o ho b hb=>by
   rcases List.mem_cons.1 ho with rfl | ho
   ·cases hb
   exact .inl ⟨o,ho,hb⟩,O,O,O⟩⟩
end
section
variable {P:Program}{r:Option Nat}{ops:Array Oper}{Q:DJ→B5→Prop}{k:Nat}{n:Nat}{τ:Nat→AV}{H:List BU}{D:List Ej}{o:Option Nat}{sz cp i:Nat}{rows:List (List PV)}
theorem VI {F:Nat→Prop}{w:World}{a:Act}(hs:Dw F ⟨n,τ,H,D⟩ a w) (hi:H[i]?=some (.vec o sz rows cp)) (hne:0<rows.length):∃b,o=some b:=by
 have:=hs.heap.obj _ (List.mem_of_getElem? hi);cases o with
 | none=>obtain⟨h,_⟩:=this;simp[h] at hne
 | some b=>exact⟨b,rfl⟩
theorem MZ (hi:H[i]?=some (.vec o sz rows cp)) (hne:0<rows.length) (next:∀b,o=some b→AL P r ops k ⟨n,τ,H,D⟩ Q):AL P r ops k ⟨n,τ,H,D⟩ Q:=fun F a w hs=>by
 obtain⟨b,hb⟩:=VI hs hi hne;exact next b hb F a w hs
theorem MJ {c:Code}(hi:H[i]?=some (.vec o sz rows cp)) (hne:0<rows.length) (next:∀b,o=some b→JH P r c ⟨n,τ,H,D⟩ Q):JH P r c ⟨n,τ,H,D⟩ Q:=fun F a w hs=>by
 obtain⟨b,hb⟩:=VI hs hi hne;exact next b hb F a w hs
end
section
variable {P:Program}{dst:Option Tmp}{ty:TypeId}{pos:String}{aft:Array Edge}{g:Option (Nat×Bool)}{ρ:Operand→AV}{H:List BU}
theorem BZ {a:Operand}{T e:TypeId}{n n1 n2:Nat}{rows:List (List PV)}(hT:F9 P T=some (e,n1,n2)) (hx:ρ a= .p (.lst rows)) (hn:rows.length=n) :
  D3 P ⟨dst,.call { callee:= .builtin .len,args:=#[a],argTypes:=#[T] },ty,pos,aft,g⟩ ρ H (.p (.int .i64 n)) H:=NZ hT (.inl ⟨rows,hx,hn⟩)
theorem KH {a:Operand}{T e:TypeId}{m n n1 n2 c:Nat}{o:Option Nat}(hT:F9 P T=some (e,n1,n2)) (hx:ρ a= .vs o m c) (hn:m=n) :
  D3 P ⟨dst,.call { callee:= .builtin .len,args:=#[a],argTypes:=#[T] },ty,pos,aft,g⟩ ρ H (.p (.int .i64 n)) H:=NZ hT (.inr (.inl ⟨o,c,by rw[hx,hn]⟩))
end
section
variable {P:Program}{dst:Option Tmp}{ty:TypeId}{pos:String}{aft:Array Edge}{g:Option (Nat×Bool)}{ρ:Operand→AV}{H:List BU}{x y:Operand}
theorem Vn {m n:Int}{T U:TypeId}(hx:ρ x= .p (.int .i64 m)) (hy:ρ y= .p (.int .i64 n)):D3 P ⟨dst,.binOp .mul T x y U,ty,pos,aft,g⟩ ρ H (.p (.int .i64 (wr (m*n)))) H :=
 Cf fun F w E hH hE=>by
  have e1:=hE x Ae;have e2:=hE y Ae;rw[hx] at e1;rw[hy] at e2;simp only[CX,Ca] at e1 e2;exact⟨.int .i64 (wr (m*n)),by simp[execOp,Sem.run_bind,IZ,e1,e2,binOp,Op.intArith],by simp[CX,Ca]⟩
end
section
variable {P:Program}{ops:Array Oper}{n:Nat}{τ₀:Nat→AV}{D:List Ej}{Q:DJ→B5→Prop}{opn:Nat→Bool}{k:Nat}{τ:Nat→AV}{H:List BU}{rd:jt}{ef:iJ}{effs:List Bool}{fx:List (Nat×Sp)}{dst:Option Tmp}{ty:TypeId}{pos:String}{aft:Array Edge}{c:Call}{f:Operand}{fid:FuncId}{first caps A:List AV}{mkv:AV→AV}{sz:Nat}{rows:List (List PV)}
theorem kG (fx':List (Nat×Sp)) (ho:ops[k]?=some ⟨dst,.call c,ty,pos,aft,none⟩) (hn:opn k=true)
  (hc:c.callee= .value f) (hf:(ev τ f= .p (.fn fid)∧first=[]∧caps=[])∨ev τ f= .fn (.func fid) first caps) (h:B4 P fid A [] (Zd mkv sz rows)) (hA:first++c.args.toList.map (ev τ)++caps=A∨(first++c.args.toList.map (ev τ)++caps).map norm=A) (haft:FI ops k (fx'.map (·.1))=true)
  (next:∀o cp,LJ ops k H (.vec o sz rows cp::H) rd∧Hl k (.eff (mkv (.vs o rows.length cp)) (.vec o sz rows cp::H)) fx∧Dr P ops n τ₀ D Q opn (k+1) (put τ dst (mkv (.vs o rows.length cp))) (.vec o sz rows cp::H) rd ((k,H,.vec o sz rows cp::H)::ef) (true::effs) (fx'++fx)):Dr P ops n τ₀ D Q opn k τ H rd ef effs fx :=
 OJ fx' ho hn (Gd (H:=H) (Hs:=[]) (Hf:=H) hc hf Av h hA) haft ⟨_,_,_,⟨none,0,rfl,rfl⟩,rfl⟩ (fun v H' ⟨_,h,_⟩=>h.elim) (fun v H' ⟨Hs',⟨o,cp,h1,h2⟩,h3⟩=>by subst h1;subst h2;subst h3;exact next o cp)
end
section
variable {P:Program}{dst:Option Tmp}{ty:TypeId}{pos:String}{aft:Array Edge}{g:Option (Nat×Bool)}{ρ:Operand→AV}{H Hs Hs':List BU}{v:AV}{c:Call}{f:Operand}{fid:FuncId}{first caps A:List AV}
theorem G6 (hc:c.callee= .value f) (hf:ρ f= .p (.fn fid)) (h:Et P fid A v) (hA:Gc (c.args.toList.map ρ) A):D3 P ⟨dst,.call c,ty,pos,aft,g⟩ ρ H v H:=BN hc hf (h.args hA) rfl
end
end Go.Abs
namespace Go.Eu
open Go.Abs
structure Mv where
 type:Tm
 known:Bool
 value:Tm
 cls:Bool
 deriving Inhabited
def Gv (n:Int):List PV:=[I n]
def Gt (s:ByteArray):List PV:=[.str s]
def s5 (b:Bool):List PV:=[.bool b]
def m0 (m:Mv):List PV:=Bg m.type++(.bool m.known::(Bg m.value++[.bool m.cls]))
theorem MB {ts:List Int}{i:Nat}{t:Int}(h:ts[i]?=some t):(ts.map Gv)[i]?=some (Gv t):=by simp[h]
theorem Ny {ts:List ByteArray}{i:Nat}{t:ByteArray}(h:ts[i]?=some t):(ts.map Gt)[i]?=some (Gt t):=by simp[h]
abbrev MV (m:Mv):AV:= .agg ((m0 m).map .p)
abbrev tY (l:List Mv):AV:= .p (.lst (l.map m0))
abbrev tQ (l:List Int):AV:= .p (.lst (l.map Gv))
def qB (sz:Nat) {α:Type}(f:α→List PV):Prop:=∀a,Ed sz (f a)
theorem HQ {α:Type}{sz:Nat}{f:α→List PV}(h:∀a,Ed sz (f a)) (l:List α):∀r∈l.map f,Ed sz r:=by
 intro r hr;obtain⟨a,_,rfl⟩:=List.mem_map.1 hr;exact h a
theorem K8 (t:Tm):Ed 5 (Bg t):=by
 obtain⟨k,i,n,l,s⟩:=t;refine⟨O,?_⟩;intro c hc;simp[Bg] at hc;rcases hc with rfl | rfl | rfl | rfl | rfl<;>simp
theorem B9 (l:List Tm):∀r∈BO l,Ed 5 r:=by rw[El];exact HQ K8 l
theorem O6 (l:List Int):∀r∈l.map Gv,Ed 1 r:=HQ (f:=Gv) (fun a=>⟨rfl,by simp[Gv]⟩) l
theorem KX (l:List ByteArray):∀r∈l.map Gt,Ed 1 r:=HQ (f:=Gt) (fun a=>⟨rfl,by simp[Gt]⟩) l
theorem Ga (l:List CR):∀r∈l.map EF,Ed 2 r:=HQ (f:=EF) (fun a=>⟨rfl,by simp[EF]⟩) l
theorem Mh (l:List Cl):∀r∈l.map CE,Ed 2 r:=HQ (f:=CE) (fun a=>⟨rfl,by simp[CE]⟩) l
theorem CT {sz:Nat}{rows:List (List PV)}(h:∀r∈rows,Ed sz r):∀r∈rows,r.length=sz:=fun r hr=>(h r hr).1
theorem Jj (a b:List Tm):BO a++BO b=BO (a++b):=by simp[El]
theorem GW {α:Type}{f:α→List PV}(a b:List α):a.map f++b.map f=(a++b).map f:=by simp
theorem TF (l:List Tm) (j:Nat) (x:Tm):(BO l).set j (Bg x)=BO (l.set j x):=by simp[El,List.map_set]
theorem dO {α:Type}{f:α→List PV}(l:List α) (j:Nat) (x:α):(l.map f).set j (f x)=(l.set j x).map f:=by simp[List.map_set]
theorem mi (n:Nat) (x:Tm):List.replicate n (Bg x)=BO (List.replicate n x):=by simp[El]
theorem lF {α:Type}{f:α→List PV}(n:Nat) (x:α):List.replicate n (f x)=(List.replicate n x).map f:=by simp
theorem Oo (l:List Tm) (hi:Nat):((BO l).take hi).drop 0=BO (l.take hi):=by simp[El,List.map_take]
theorem Xf {α:Type}{f:α→List PV}(l:List α) (hi:Nat):((l.map f).take hi).drop 0=(l.take hi).map f:=by simp[List.map_take]
theorem Jo (l:List Tm) (lo:Nat):((BO l).take (BO l).length).drop lo=BO (l.drop lo):=by rw[List.take_length];simp[El,List.map_drop]
theorem lN {α:Type}{f:α→List PV}(l:List α) (lo:Nat):((l.map f).take (l.map f).length).drop lo=(l.drop lo).map f:=by rw[List.take_length,List.map_drop]
theorem kv (l:List Tm) (lo hi:Nat):((BO l).take hi).drop lo=BO ((l.take hi).drop lo):=by simp[El,List.map_take,List.map_drop]
theorem HV {sz:Nat}{r:List PV}(h:Ed sz r):(r.map AV.p).all one=true:=by
 simp only[List.all_eq_true];intro x hx;obtain⟨c,hc,rfl⟩:=List.mem_map.1 hx;have:=h.2 c hc;cases c<;>simp_all [one]
theorem C5 (t:Tm):((Bg t).map AV.p).all one=true:=HV (K8 t)
theorem ek {r:List PV}(h:∀c∈r,c≠ .nils):(r.map AV.p).map dn=r.map .p:=by
 induction r with
 | nil=>rfl
 | cons c r ih =>
  simp only[List.map_cons];rw[ih fun d hd=>h d (by simp[hd])];have:=h c Av;cases c<;>simp_all [dn]
theorem Ka (t:Tm):Gr (((Bg t).map AV.p).map dn)=some (Bg t):=by obtain⟨k,i,n,l,s⟩:=t;rfl
end Go.Eu
namespace Go.Eu
def Zj (f a:Tm):Tm:= .mk 4 0 ⟨#[]⟩ [] [f,a]
def apply (f:Tm) (xs:List Tm):Tm:=xs.foldl Zj f
theorem Rq {f:Tm}{xs:List Tm}{i:Nat}{x:Tm}(h:xs[i]?=some x):apply f (xs.take (i+1))=Zj (apply f (xs.take i)) x:=by
 simp[apply,List.take_add_one,h]
def BK:Tm→Tm×List Tm
 | .mk k i n l [f,a]=>if k=4 then ((BK f).1,(BK f).2++[a]) else (.mk k i n l [f,a],[])
 | t=>(t,[])
theorem SL {k i:Int}{n:ByteArray}{l:List Cl}{ts:List Tm}(h:k≠4∨((ts.length:Nat):Int)≠2):BK (.mk k i n l ts)=(.mk k i n l ts,[]):=by
 unfold BK;split
 ·rename_i k' i' n' l' f a e;injection e with e1 e2 e3 e4 e5;subst e1 e2 e3 e4 e5;simp at h;rw[if_neg h]
 rfl
theorem TS {k i:Int}{n:ByteArray}{l:List Cl}{ts:List Tm}{x y:Tm}(h:k=4∧((ts.length:Nat):Int)=2) (hx:ts[0]?=some x) (hy:ts[1]?=some y):BK (.mk k i n l ts)=((BK x).1,(BK x).2++[y]):=by
 obtain⟨rfl,h2⟩:=h
 match ts,h2,hx,hy with
 | [a,b],_,hx,hy =>
  simp at hx hy;subst hx hy;simp[BK]
theorem eM {ts:List Tm}{x y:Tm}(h:((ts.length:Nat):Int)=2) (hx:ts[0]?=some x) (hy:ts[1]?=some y):ts=[x,y]:=by
 match ts,h,hx,hy with
 | [a,b],_,hx,hy =>
  simp at hx hy;subst hx hy;rfl
theorem Iu:∀(t:Tm),size (BK t).1+Bl (BK t).2+(BK t).2.length=size t
 | .mk k i n l [f,a]=>by
  unfold BK;split
  ·have:=Iu f;simp[size,Bl] at this ⊢;have e:∀(xs:List Tm) (y:Tm),Bl (xs++[y])=Bl xs+size y:=by
    intro xs y
    induction xs with
    | nil=>simp[Bl]
    | cons z zs ih=>simp[Bl,ih];omega
   rw[e];omega
  ·simp[Bl]
 | .mk k i n l []=>by simp[BK,Bl]
 | .mk k i n l [_]=>by simp[BK,Bl]
 | .mk k i n l (_::_::_::_)=>by simp[BK,Bl]
theorem PG (t:Tm):(BK t).2.length<size t:=by
 have:=Iu t;have:=size_pos (BK t).1;omega
def Xc (k:Int) (xs:List Tm) (t:Tm):Tm:=xs.foldr (fun a t=> .mk k 0 ⟨#[]⟩ [] [a,t]) t
theorem sd:(∀(p:Prop) [Decidable p],(decide p=true)=p)∧(∀{p:Prop} [Decidable p],decide p=false↔¬p)∧(∀{α:Type} [BEq α] [LawfulBEq α] {a b:α},(a==b)=true↔a=b)∧(∀{α:Type} [BEq α] [LawfulBEq α] {a b:α},(a !=b)=true↔a≠b)∧(∀{α:Type} [BEq α] [LawfulBEq α] {a b:α},(a==b)=false↔a≠b)∧(∀{α:Type} [BEq α] [LawfulBEq α] {a b:α},(a !=b)=false↔a=b)∧(∀{α:Type}(a b:α),(a≠b)=¬(a=b))∧(∀{α:Type} [LT α] {x y:α},x > y↔y<x)∧(∀{α:Type} [LE α] {x y:α},x≥y↔y≤x)∧(∀(b:Bool),(¬(b=true))=(b=false))∧(∀(b:Bool),(¬(b=false))=(b=true))∧(∀(b:Bool),((!b)=true)=(b=false))∧(∀(b:Bool),((!b)=false)=(b=true))∧(∀{a b:Int},¬a<b↔b≤a)∧(∀{a b:Int},¬a≤b↔b<a) :=
 ⟨fun _=>decide_eq_true_eq,decide_eq_false_iff_not,beq_iff_eq,bne_iff_ne,beq_eq_false_iff_ne,bne_eq_false_iff_eq,ne_eq,gt_iff_lt,ge_iff_le,Bool.not_eq_true,Bool.not_eq_false,fun b=>by cases b<;>simp,fun b=>by cases b<;>simp,Int.not_lt,Int.not_le⟩
theorem se:(∀(ts:List Tm),(BO ts).length=ts.length)∧(∀{α β:Type}{ays:List α}{f:α→β},(ays.map f).length=ays.length)∧(∀{α:Type}{n:Nat}{a:α},(List.replicate n a).length=n)∧(∀(a b:Bool),((a||b)=true)=(a=true∨b=true))∧(∀(a b:Bool),((a&&b)=true)=(a=true∧b=true))∧(∀{x y:Bool},(x||y)=false↔x=false∧y=false)∧(∀{x y:Bool},(x&&y)=false↔x=true→y=false) :=
 ⟨Bh,List.length_map _,List.length_replicate,Bool.or_eq_true,Bool.and_eq_true,Bool.or_eq_false_iff,Bool.and_eq_false_imp⟩
end Go.Eu
namespace Go.Eu
open Go.Abs
def PB (i:Int):Tm:= .mk 0 i ⟨#[]⟩ [] []
def Bu:Tm:= .mk 0 0 ⟨#[]⟩ [] []
def Gs (er e:Int):Int:=if er=0 then e else er
def NO (er i:Int):Int:=if i > 65535 then Gs er 24 else er
mutual
def FC:Tm→Int
 | .mk _ _ _ _ ks=>LM 1 ks
def LM:Int→List Tm→Int
 | n,[]=>n
 | n,t::ts=>LM (wr (n+FC t)) ts
end
mutual
def FE:Tm→Int
 | .mk _ _ _ _ ks=>wr (Jk 0 ks+1)
def Jk:Int→List Tm→Int
 | n,[]=>n
 | n,t::ts=>Jk (max n (FE t)) ts
end
mutual
def Cu (b fr:Int):Int→Int→Tm→Tm×Int
 | d,er,.mk k i n l ks =>
  if k=0 then
   (if i<wr (fr+d) then (.mk k i n l ks,er)
    else if wr (i+b)<wr (fr+d) then (.mk k i n l ks,Gs er 24)
    else (PB (wr (i+b)),NO er (wr (i+b))))
  else ((.mk k i n l (DU b fr k d 0 er ks).1),(DU b fr k d 0 er ks).2)
def DU (b fr k:Int):Int→Nat→Int→List Tm→List Tm×Int
 | d,j,er,[]=>([],er)
 | d,j,er,t::ts=>((Cu b fr (d+below k j) er t).1::(DU b fr k d (j+1) (Cu b fr (d+below k j) er t).2 ts).1,(DU b fr k d (j+1) (Cu b fr (d+below k j) er t).2 ts).2)
end
mutual
def CQ (vs:List Tm):Int→Int→Int→Tm→Tm×Int×Int
 | d,er,nd,.mk k i n l ks =>
  if nd > 4096 then (.mk k i n l ks,er,nd)
  else if k=0∧i≥d∧i - d<(vs.length:Int) then
   ((Cu d 0 0 er (vs.getD (i - d).toNat Bu)).1,(Cu d 0 0 er (vs.getD (i - d).toNat Bu)).2,wr (nd+FC (vs.getD (i - d).toNat Bu)))
  else if k=0 then
   (if i≥d then (PB (wr (i - vs.length)),NO er (wr (i - vs.length)),wr (nd+1)) else (.mk k i n l ks,er,wr (nd+1)))
  else ((.mk k i n l (Cq vs k d 0 er (wr (nd+1)) ks).1),(Cq vs k d 0 er (wr (nd+1)) ks).2)
def Cq (vs:List Tm) (k:Int):Int→Nat→Int→Int→List Tm→List Tm×Int×Int
 | d,j,er,nd,[]=>([],er,nd)
 | d,j,er,nd,t::ts=>((CQ vs (d+below k j) er nd t).1::(Cq vs k d (j+1) (CQ vs (d+below k j) er nd t).2.1 (CQ vs (d+below k j) er nd t).2.2 ts).1,
   (Cq vs k d (j+1) (CQ vs (d+below k j) er nd t).2.1 (CQ vs (d+below k j) er nd t).2.2 ts).2)
end
def Ce (t:Tm) (vs:List Tm) (d:Int):Tm×Int :=
 if (CQ vs (min d 65536) 0 0 t).2.2 > 4096 then (Bu,5)
 else if (CQ vs (min d 65536) 0 0 t).2.1≠0 then (Bu,(CQ vs (min d 65536) 0 0 t).2.1)
 else if FE (CQ vs (min d 65536) 0 0 t).1 > 200 then (Bu,7)
 else ((CQ vs (min d 65536) 0 0 t).1,0)
structure Ev where
 steps:Int
 nodes:Int
 forms:Int
 limit:Int
 over:Bool
 deriving Inhabited
def I5 (c:Ev):List PV:=[I c.steps,I c.nodes,I c.forms,I c.limit,.bool c.over]
def Ev.form (c:Ev) (t:Tm) (e:Int):Ev :=
 { c with forms:=wr (c.forms+FC t),over:=c.over||(e !=0||decide (c.steps > c.limit)||decide (c.nodes > wr (2*c.limit))||decide (wr (c.forms+FC t) > wr (40*c.limit))||decide (FC t > 2000)||decide (FE t > 95)) }
def Ev.sized (c:Ev) (t:Tm):Ev:={ c with over:=c.over||(decide (FC t > 2000)||decide (FE t > 95)) }
def Lf:Ev:=⟨0,0,0,1000,false⟩
end Go.Eu
namespace Go.Eu
theorem Cy {α:Type}{l:List α}{i:Nat}{x:α}(h:l[i]?=some x):l.drop i=x::l.drop (i+1):=by
 have hlt:=(List.getElem?_eq_some_iff.1 h).1;have e:l[i]=x:=(List.getElem?_eq_some_iff.1 h).2;rw[List.drop_eq_getElem_cons hlt,e]
theorem OG {α:Type}{l:List α}{i:Nat}{x d:α}(h:l[i]?=some x):l.getD i d=x:=by simp[List.getD,h]
end Go.Eu
namespace Go.Eu
open Go.Abs
theorem Xp (n:Int):I3 (wr n):=by
 unfold I3 wr IntKind.wrap;have:IntKind.i64.min= -9223372036854775808:=rfl;have:IntKind.i64.max=9223372036854775807:=rfl;simp[IntKind.signed,IntKind.bits];omega
theorem eK (i:Int):Nd (PB (wr i)):=by
 have:=Xp i;exact⟨by decide,by decide,by simp,by decide,trivial,⟨by decide,by decide⟩,this⟩
theorem QR:Nd Bu:=⟨by decide,by decide,by simp,by decide,trivial,⟨by decide,by decide⟩,⟨by decide,by decide⟩⟩
mutual
theorem Te (b fr:Int):∀(t:Tm) (d er:Int),Nd t→Nd (Cu b fr d er t).1
 | .mk k i n l ks,d,er,h=>by
  unfold Cu;split
  ·split
   ·exact h
   split
   ·exact h
   exact eK _
  simp only[Nd] at h ⊢;obtain⟨h1,h2,h3,h4,h5,h6⟩:=h;obtain⟨e1,e2⟩:=Q8 b fr k ks d 0 er h5;exact⟨h1,h2,h3,by rw[e1];exact h4,e2,h6⟩
theorem Q8 (b fr k:Int):∀(ts:List Tm) (d:Int) (j:Nat) (er:Int),Lo ts→(DU b fr k d j er ts).1.length=ts.length∧Lo (DU b fr k d j er ts).1
 | [],d,j,er,h=>by simp[DU,Lo]
 | t::ts,d,j,er,h=>by
  simp only[DU,Lo,List.length_cons] at *;have:=Te b fr t (d+below k j) er h.1;obtain⟨e1,e2⟩:=Q8 b fr k ts d (j+1) (Cu b fr (d+below k j) er t).2 h.2;exact⟨by rw[e1],this,e2⟩
end
theorem fY {vs:List Tm}(h:Lo vs) (i:Nat):Nd (vs.getD i Bu):=by
 cases e:vs[i]? with
 | none=>simp[List.getD,e];exact QR
 | some x=>rw[OG e];exact Di h e
mutual
theorem Ov:∀(t:Tm) (vs:List Tm) (d er nd:Int),Nd t→Lo vs→Nd (CQ vs d er nd t).1
 | .mk k i n l ks,vs,d,er,nd,h,hv=>by
  unfold CQ;split
  ·exact h
  split
  ·exact Te _ _ _ _ _ (fY hv _)
  split
  ·split
   ·exact eK _
   exact h
  simp only[Nd] at h ⊢;obtain⟨h1,h2,h3,h4,h5,h6⟩:=h;obtain⟨e1,e2⟩:=RT ks vs k d 0 er (wr (nd+1)) h5 hv;exact⟨h1,h2,h3,by rw[e1];exact h4,e2,h6⟩
theorem RT:∀(ts:List Tm) (vs:List Tm) (k d:Int) (j:Nat) (er nd:Int),Lo ts→Lo vs→(Cq vs k d j er nd ts).1.length=ts.length∧Lo (Cq vs k d j er nd ts).1
 | [],vs,k,d,j,er,nd,h,hv=>by simp[Cq,Lo]
 | t::ts,vs,k,d,j,er,nd,h,hv=>by
  simp only[Cq,Lo,List.length_cons] at *;have:=Ov t vs (d+below k j) er nd h.1 hv;obtain⟨e1,e2⟩:=RT ts vs k d (j+1) (CQ vs (d+below k j) er nd t).2.1 (CQ vs (d+below k j) er nd t).2.2 h.2 hv;exact⟨by rw[e1],this,e2⟩
end
theorem bD (t:Tm) (vs:List Tm) (d:Int) (h:Nd t) (hv:Lo vs):Nd (Ce t vs d).1:=by
 unfold Ce;split
 ·exact QR
 split
 ·exact QR
 split
 ·exact QR
 exact Ov t vs _ _ _ h hv
theorem L1 {o:Option Nat}{c:Nat}(l:List Tm) {l':List Tm}(h:l=l'):AV.vs o (BO l).length c= .vs o (BO l').length c:=by rw[h]
theorem Gg {α:Type}{f:α→List PV}{o:Option Nat}{c:Nat}(l:List α) {l':List α}(h:l=l'):AV.vs o (l.map f).length c= .vs o (l'.map f).length c:=by rw[h]
theorem KA {o:Option Nat}{sz c:Nat}(l:List Tm) {l':List Tm}(h:l=l'):MH (.vec o sz (BO l) c) (.vec o sz (BO l') c):=oe (by rw[h])
theorem F5 {α:Type}{f:α→List PV}{o:Option Nat}{sz c:Nat}(l:List α) {l':List α}(h:l=l'):MH (.vec o sz (l.map f) c) (.vec o sz (l'.map f) c):=oe (by rw[h])
theorem Dc {o:Option Nat}{c:Nat}(l:List Tm) {l':List Tm}(h:l.length=l'.length):AV.vs o (BO l).length c= .vs o (BO l').length c:=by rw[Bh,Bh,h]
theorem Sn {α:Type}{f:α→List PV}{o:Option Nat}{c:Nat}(l:List α) {l':List α}(h:l.length=l'.length):AV.vs o (l.map f).length c= .vs o (l'.map f).length c:=by rw[List.length_map,List.length_map,h]
mutual
def YC:List Int→Tm→List Int
 | l,.mk k i _ _ ks=>if k=12 then (if i∈l then l else UK (l++[i]) ks) else UK l ks
def UK:List Int→List Tm→List Int
 | l,[]=>l
 | l,t::ts=>UK (YC l t) ts
end
def td (l:List Int) (n:Int):Bool:=decide (n∈l)
def ej (fr:Int):Nat→Nat→List Tm
 | _,0=>[]
 | m,k+1=>PB (fr+(m+k:Nat))::ej fr m k
def nj (n fr:Int):List Tm:=if n<1∨n > 4096∨fr<0 then [] else ej fr 0 n.toNat
def m6:List Int→List Tm→Option (List Int)
 | l,[]=>some l
 | l,.mk k i _ _ _::ts=>if k≠0∨i∈l then none else m6 (l++[i]) ts
def tN (t:Tm):Int×List Int×Bool :=
 if (BK t).1.kind≠12 then (0,[],false)
 else match m6 [] (BK t).2 with
  | none=>(0,[],false)
  | some l=>((BK t).1.index,l,true)
def sa (ms:List Mv) (ctx:List Tm) (t:Tm) (cls:Bool):List Mv×Tm×Int :=
 if ms.length≥2000 then ([],Bu,6)
 else if FC (Xc 6 ctx t) > 4096 then ([],Bu,5)
 else if FE (Xc 6 ctx t) > 200 then ([],Bu,7)
 else (ms++[⟨Xc 6 ctx t,false,Bu,cls⟩],apply (.mk 12 ms.length ⟨#[]⟩ [] []) (nj ctx.length 0),0)
end Go.Eu
namespace Go.Eu
end Go.Eu
namespace Go.Eu
open Go.Abs
theorem Er {n:Int}(h:I3 n):wr n=n:=UQ (k:= .i64) h.1 h.2
mutual
theorem TM (B:Int) (hB:B≤4611686018427387904):∀(t:Tm),(size t:Int)<B→FC t=size t
 | .mk k i n l ks,h=>by
  have h':(1:Int)+Bl ks<B:=by rw[size] at h;omega
  show LM 1 ks=_;rw[RY B hB ks 1 Au h',size];omega
theorem RY (B:Int) (hB:B≤4611686018427387904):∀(ts:List Tm) (n:Int),0≤n→n+Bl ts<B→LM n ts=n+Bl ts
 | [],n,_,_=>by simp[LM,Bl]
 | t::ts,n,h0,h=>by
  simp only[Bl,LM] at *;rw[TM B hB t (by have:=size_pos t;omega),Er ⟨by omega,by omega⟩,RY B hB ts (n+size t) Au Au];omega
end
theorem OQ {t:Tm}(h:(size t:Int)<4611686018427387904):FC t=size t:=TM _ (Int.le_refl _) t h
mutual
def Wt:Tm→Prop
 | .mk k i _ _ ks=>(ks.length:Int)=arity k∧(k=12→0≤i)∧Nk ks
def Nk:List Tm→Prop
 | []=>True
 | t::ts=>Wt t∧Nk ts
end
theorem Qi:∀{ts:List Tm}{i:Nat}{t:Tm},Nk ts→ts[i]?=some t→Wt t
 | [],i,t,_,h=>by simp at h
 | a::ts,0,t,hn,h=>by simp at h;subst h;exact hn.1
 | a::ts,i+1,t,hn,h=>by simp at h;exact Qi hn.2 h
theorem I8 (a b:List Tm):Bl (a++b)=Bl a+Bl b:=by
 induction a with
 | nil=>simp[Bl]
 | cons x a ih=>simp[Bl,ih];omega
mutual
theorem jr {vars metas:Int}:∀(t:Tm) (d:Int),wf vars metas d t→Wt t
 | .mk k i n l ks,d,h=>by
  simp only[wf,Wt] at *;exact⟨h.2.2.1,fun e=>(h.2.2.2.2.1 e).1,dQ ks k d 0 h.2.2.2.2.2⟩
theorem dQ {vars metas:Int}:∀(ts:List Tm) (k d:Int) (j:Nat),jR vars metas k d j ts→Nk ts
 | [],k,d,j,h=>trivial
 | t::ts,k,d,j,h=>by
  simp only[jR,Nk] at *;exact⟨jr t _ h.1,dQ ts k d (j+1) h.2⟩
end
theorem bZ (i:Int):Wt (PB i):=⟨by simp[arity],by simp,trivial⟩
theorem QK:Wt Bu:=⟨by simp[arity],by simp,trivial⟩
mutual
theorem Th (b fr:Int):∀(t:Tm) (d er:Int),Wt t→Wt (Cu b fr d er t).1
 | .mk k i n l ks,d,er,h=>by
  unfold Cu;split
  ·split
   ·exact h
   split
   ·exact h
   exact bZ _
  simp only[Wt] at h ⊢;obtain⟨e1,e2⟩:=Q1 b fr k ks d 0 er h.2.2;exact⟨by rw[e1];exact h.1,h.2.1,e2⟩
theorem Q1 (b fr k:Int):∀(ts:List Tm) (d:Int) (j:Nat) (er:Int),Nk ts→(DU b fr k d j er ts).1.length=ts.length∧Nk (DU b fr k d j er ts).1
 | [],d,j,er,h=>by simp[DU,Nk]
 | t::ts,d,j,er,h=>by
  simp only[DU,Nk,List.length_cons] at *;have:=Th b fr t (d+below k j) er h.1;obtain⟨e1,e2⟩:=Q1 b fr k ts d (j+1) (Cu b fr (d+below k j) er t).2 h.2;exact⟨by rw[e1],this,e2⟩
end
theorem eE {vs:List Tm}(h:Nk vs) (i:Nat):Wt (vs.getD i Bu):=by
 cases e:vs[i]? with
 | none=>simp[List.getD,e];exact QK
 | some x=>rw[OG e];exact Qi h e
mutual
theorem Tj:∀(t:Tm) (vs:List Tm) (d er nd:Int),Wt t→Nk vs→Wt (CQ vs d er nd t).1
 | .mk k i n l ks,vs,d,er,nd,h,hv=>by
  unfold CQ;split
  ·exact h
  split
  ·exact Th _ _ _ _ _ (eE hv _)
  split
  ·split
   ·exact bZ _
   exact h
  simp only[Wt] at h ⊢;obtain⟨e1,e2⟩:=Ri ks vs k d 0 er (wr (nd+1)) h.2.2 hv;exact⟨by rw[e1];exact h.1,h.2.1,e2⟩
theorem Ri:∀(ts:List Tm) (vs:List Tm) (k d:Int) (j:Nat) (er nd:Int),Nk ts→Nk vs→(Cq vs k d j er nd ts).1.length=ts.length∧Nk (Cq vs k d j er nd ts).1
 | [],vs,k,d,j,er,nd,h,hv=>by simp[Cq,Nk]
 | t::ts,vs,k,d,j,er,nd,h,hv=>by
  simp only[Cq,Nk,List.length_cons] at *;have:=Tj t vs (d+below k j) er nd h.1 hv;obtain⟨e1,e2⟩:=Ri ts vs k d (j+1) (CQ vs (d+below k j) er nd t).2.1 (CQ vs (d+below k j) er nd t).2.2 h.2 hv;exact⟨by rw[e1],this,e2⟩
end
theorem aC (t:Tm) (vs:List Tm) (d:Int) (h:Wt t) (hv:Nk vs):Wt (Ce t vs d).1:=by
 unfold Ce;split
 ·exact QK
 split
 ·exact QK
 split
 ·exact QK
 exact Tj t vs _ _ _ h hv
mutual
theorem P4 (b fr:Int):∀(t:Tm) (d er:Int),t.kind=0∧t.kids=[]∨Wt t→size (Cu b fr d er t).1=size t
 | .mk k i n l ks,d,er,h=>by
  unfold Cu;split
  ·rename_i hk;split
   ·rfl
   split
   ·rfl
   have:ks=[]:=by
    rcases h with h | h
    ·exact h.2
    have:=h.1;subst hk;simp[arity] at this;exact this
   subst this;simp[PB,size,Bl]
  rename_i hk;have hw:Nk ks:=by
   rcases h with h | h
   ·exact absurd h.1 hk
   exact h.2.2
  simp only[size];rw[Nt b fr k ks d 0 er hw]
theorem Nt (b fr k:Int):∀(ts:List Tm) (d:Int) (j:Nat) (er:Int),Nk ts→Bl (DU b fr k d j er ts).1=Bl ts
 | [],d,j,er,h=>by simp[DU]
 | t::ts,d,j,er,h=>by
  simp only[DU,Bl];rw[P4 b fr t _ _ (.inr h.1),Nt b fr k ts _ _ _ h.2]
end
mutual
theorem Jv (V:Int) (hV:1≤V) (hV2:V≤2305843009213693952):∀(t:Tm) (vs:List Tm) (d er nd:Int),Wt t→Nk vs→(∀x∈vs,(size x:Int)≤V)→0≤nd→nd≤4096+V →
  nd≤(CQ vs d er nd t).2.2∧(CQ vs d er nd t).2.2≤4096+V∧((CQ vs d er nd t).2.2≤4096→(size (CQ vs d er nd t).1:Int)=(CQ vs d er nd t).2.2 - nd)
 | .mk k i n l ks,vs,d,er,nd,h,hv,hs,h0,h1=>by
  have hk0:k=0→ks=[]:=by
   intro e;have:=h.1;subst e;simp[arity] at this;exact this
  unfold CQ;split
  ·exact⟨by simp,h1,by simp;omega⟩
  split
  ·rename_i hc;have hlt:(i - d).toNat<vs.length:=by omega
   obtain⟨x,hx⟩:=BE hlt;have hxs:=hs x (List.mem_of_getElem? hx);rw[OG hx,P4 _ _ _ _ _ (.inr (Qi hv hx)),OQ Au,Er ⟨by omega,by omega⟩];simp only;exact⟨by omega,by omega,by omega⟩
  split
  ·rename_i hk;have hk:=hk0 hk;subst hk;split
   ·simp only[PB,size,Bl];rw[Er ⟨by omega,by omega⟩];exact⟨by omega,by omega,by omega⟩
   simp only[size,Bl];rw[Er ⟨by omega,by omega⟩];exact⟨by omega,by omega,by omega⟩
  rw[Er (n:=nd+1) ⟨by omega,by omega⟩];obtain⟨e1,e2,e3⟩:=LL V hV hV2 ks vs k d 0 er (nd+1) h.2.2 hv hs Au Au;simp only[size];exact⟨by omega,e2,fun q=>by have:=e3 q;omega⟩
theorem LL (V:Int) (hV:1≤V) (hV2:V≤2305843009213693952):∀(ts:List Tm) (vs:List Tm) (k d:Int) (j:Nat) (er nd:Int),Nk ts→Nk vs→(∀x∈vs,(size x:Int)≤V)→0≤nd→nd≤4096+V →
  nd≤(Cq vs k d j er nd ts).2.2∧(Cq vs k d j er nd ts).2.2≤4096+V∧((Cq vs k d j er nd ts).2.2≤4096→(Bl (Cq vs k d j er nd ts).1:Int)=(Cq vs k d j er nd ts).2.2 - nd)
 | [],vs,k,d,j,er,nd,h,hv,hs,h0,h1=>by simp only[Cq,Bl];exact⟨by omega,h1,by omega⟩
 | t::ts,vs,k,d,j,er,nd,h,hv,hs,h0,h1=>by
  obtain⟨e1,e2,e3⟩:=Jv V hV hV2 t vs (d+below k j) er nd h.1 hv hs h0 h1;obtain⟨f1,f2,f3⟩:=LL V hV hV2 ts vs k d (j+1) (CQ vs (d+below k j) er nd t).2.1 (CQ vs (d+below k j) er nd t).2.2 h.2 hv hs Au e2;simp only[Cq,Bl];exact⟨by omega,f2,fun q=>by have:=f3 q;have:=e3 Au;omega⟩
end
theorem Vs (t:Tm) (vs:List Tm) (d:Int) (h:Wt t) (hv:Nk vs) (hs:∀x∈vs,(size x:Int)≤2305843009213693952):size (Ce t vs d).1≤4096:=by
 have hz:size Bu≤4096:=by simp[Bu,size,Bl]
 obtain⟨e1,e2,e3⟩:=Jv 2305843009213693952 Au Au t vs (min d 65536) 0 0 h hv hs Au Au;unfold Ce;split
 ·exact hz
 rename_i hn;have:=e3 Au;split
 ·exact hz
 split
 ·exact hz
 simp only;omega
def known (ms:List Mv) (t:Tm):Bool :=
 match t with
 | .mk k i _ _ _=>k==12&&(decide (i<ms.length)&&(match ms[i.toNat]? with | some m=>m.known | none=>false))
def valueOf (ms:List Mv) (i:Int):Tm:=match ms[i.toNat]? with | some m=>m.value | none=>Bu
def Pm (F:Ev→Tm→Tm×Int×Ev):Ev→List Tm→List Tm×Int×Ev
 | c,[]=>([],0,c)
 | c,t::ts=>if (F c t).2.1≠0 then ([],(F c t).2.1,(F c t).2.2)
  else if (Pm F (F c t).2.2 ts).2.1≠0 then ([],(Pm F (F c t).2.2 ts).2.1,(Pm F (F c t).2.2 ts).2.2)
  else ((F c t).1::(Pm F (F c t).2.2 ts).1,0,(Pm F (F c t).2.2 ts).2.2)
def sM (l:List Tm) (q:List Tm×Int×Ev):List Tm×Int×Ev:=if q.2.1≠0 then ([],q.2.1,q.2.2) else (l++q.1,0,q.2.2)
def ju:Ev→Tm→List Tm→Ev×Tm×List Tm
 | c,v,[]=>(c,v,[])
 | c,v,a::l=>if v.kind=5∧c.over=false then ju (c.form (Ce (v.kids.getD 1 Bu) [a] 0).1 (Ce (v.kids.getD 1 Bu) [a] 0).2) (Ce (v.kids.getD 1 Bu) [a] 0).1 l else (c,v,a::l)
def L8:Tm→List Tm→Tm
 | .mk k i n l _,ks=> .mk k i n l ks
def L5 (ms:List Mv):Nat→List Int→Ev→Tm→Tm×Int×Ev
 | 0,ab,c,t=>(Bu,11,c)
 | n+1,ab,c,t =>
  if c.over=true then (Bu,11,c)
  else if known ms (BK t).1=false then
   (let q:=Pm (L5 ms n ab) c (BK t).1.kids
    if q.2.1≠0 then (Bu,q.2.1,q.2.2)
    else
     (let r:=Pm (L5 ms n ab) q.2.2 (BK t).2
      if r.2.1≠0 then (Bu,r.2.1,r.2.2)
      else (apply (L8 (BK t).1 q.1) r.1,0,r.2.2.sized (apply (L8 (BK t).1 q.1) r.1))))
  else if (BK t).1.index∈ab then (Bu,22,c)
  else
   (let v:=L5 ms n (ab++[(BK t).1.index]) c (valueOf ms (BK t).1.index)
    if v.2.1≠0 then (Bu,v.2.1,v.2.2)
    else
     (let r:=Pm (L5 ms n ab) (v.2.2.form v.1 0) (BK t).2
      if r.2.1≠0 then (Bu,r.2.1,r.2.2)
      else
       (let b:=ju r.2.2 v.1 r.1
        (apply b.2.1 b.2.2,0,b.1.form (apply b.2.1 b.2.2) 0))))
def free (ms:List Mv) (ab:List Int):Nat:=((List.range ms.length).filter fun i:Nat=> !decide ((i:Int)∈ab)).length
def Mb (S:Nat):Nat→Nat
 | 0=>0
 | k+1=>S*(Mb S k+2)+4096+Mb S k
def sU (S:Nat) (ms:List Mv):Prop:=∀m∈ms,Nd m.value∧Wt m.value∧size m.value≤S
structure sF (M:Nat) (s:Nat) (r:Tm):Prop where
 nd:Nd r
 wt:Wt r
 size:size r≤s*M
theorem LQ {α:Type}{l:List α}{x:α}(h:x∈l):∃i:Nat,l[i]?=some x:=by
 obtain⟨i,hi,he⟩:=List.mem_iff_getElem.1 h;exact⟨i,by rw[List.getElem?_eq_getElem hi,he]⟩
section
variable {ms:List Mv}{n:Nat}{ab:List Int}{c:Ev}{t:Tm}{zk zi:Int}{zn:ByteArray}{zl:List Cl}{zs:List Tm}
end
end Go.Eu
namespace Go.Eu
theorem HS {l:List Tm}{x:Tm}(h:x∈l):size x≤Bl l:=by
 obtain⟨i,hi⟩:=LQ h;exact Cs hi
def eh (ms:List Mv) (n:Nat) (c:Ev) (t:Tm):Tm×Int×Ev :=
 ((L5 ms n [] c t).1,(L5 ms n [] c t).2.1,if (L5 ms n [] c t).2.1=0 then (L5 ms n [] c t).2.2.form (L5 ms n [] c t).1 0 else (L5 ms n [] c t).2.2)
def tP (ms:List Mv) (n:Nat) (c:Ev) (t:Tm):List Int×Int :=
 if (eh ms n c t).2.1=0 then (YC [] (eh ms n c t).1,0) else ([],(eh ms n c t).2.1)
end Go.Eu
namespace Go.Abs
section
variable {P:Program}{r:Option Nat}{ops:Array Oper}{Q:DJ→B5→Prop}{k:Nat}{n:Nat}{τ:Nat→AV}{T:List BU}{D:List Ej}{dst:Option Tmp}{op:Op}{ty:TypeId}{pos:String}{aft:Array Edge}{v:AV}{c:Call}{f:Operand}{fid:FuncId}{first caps A:List AV}{R:Ei→List BU→Prop}
theorem MN {H H':List BU}(hp:H.Perm H') (h:AL P r ops k ⟨n,τ,H',D⟩ Q):AL P r ops k ⟨n,τ,H,D⟩ Q:=CH (Tp (S:=⟨n,τ,H,D⟩) hp) h
theorem JI (fr:List BU) {l:Nat}(ho:ops[k]?=some ⟨dst,.call c,ty,pos,aft,none⟩) (hd:Gw dst n=true)
  (hc:c.callee= .value f) (hf:ev τ f= .fn (.yield l) [] []) (h:L7 P l A T R) (hA:c.args.toList.map (ev τ)=A)
  (next:∀v T',R (.val v) T'→AL P r ops (k+1) ⟨n,put τ dst v,fr++T',D⟩ Q) (pan:∀v T',R (.panic v) T'→Q (.panic v) ⟨n,τ,T'++fr,D⟩):AL P r ops k ⟨n,τ,fr++T,D⟩ Q :=
 GR (S:=⟨n,τ,fr++T,D⟩) ho An (Io hd) (aB hc hf List.perm_append_comm h hA) (fun v H' ⟨Hs',h1,h2⟩=>by subst h2;exact MN List.perm_append_comm (next v Hs' h1)) (fun v H' ⟨Hs',h1,h2⟩=>by subst h2;exact pan v Hs' h1)
theorem IV (fr:List BU) (ho:ops[k]?=some ⟨dst,.call c,ty,pos,aft,none⟩) (hd:Gw dst n=true)
  (hc:c.callee= .value f) (hf:(ev τ f= .p (.fn fid)∧first=[]∧caps=[])∨ev τ f= .fn (.func fid) first caps) (h:B4 P fid A T R) (hA:Gc (first++c.args.toList.map (ev τ)++caps) A)
  (next:∀v T',R (.val v) T'→AL P r ops (k+1) ⟨n,put τ dst v,fr++T',D⟩ Q) (pan:∀v T',R (.panic v) T'→Q (.panic v) ⟨n,τ,T'++fr,D⟩):AL P r ops k ⟨n,τ,fr++T,D⟩ Q :=
 JA ho hd hc hf List.perm_append_comm (h.args hA) (.inl rfl) (fun v H' h1=>MN List.perm_append_comm (next v H' h1)) pan
end
theorem GB.append:∀{l l':List BU}{T:List BU},GB l l'→GB (l++T) (l'++T)
 | [],l',T,h=>by simp only[GB] at h;subst h;exact GB.refl T
 | o::l,l',T,h=>by
  obtain⟨o',r',rfl,h1,h2⟩:=h;exact⟨o',r'++T,O,h1,GB.append h2⟩
theorem Yx (is:List Nat) (l:List BU) {l1 l' T:List BU}(h:P5 is 0 l=l1) (w:GB l1 l'):jj (l++T) (l'++T):=⟨l1++T,(CJ h).append_right T,w.append⟩
theorem Gz (is:List Nat) (l:List BU) {l1 T:List BU}(h:P5 is 0 l=l1):(l1++T).Sublist (l++T):=(CJ h).append_right T
def sZ (b:Bool) (H':List BU):Ei→List BU→Prop
 | .val v,H''=>v= .p (.bool b)∧H''=H'
 | .panic _,_=>False
theorem DQ {n:Nat}{τ:Nat→AV}{H:List BU}{D:List Ej}{t:Nat}{x:AV}(h:τ t=x):Ie ⟨n,τ,H,D⟩ ⟨n,put τ (some t) x,H,D⟩:=Q7 fun _ _ _ hr=>h▸hr
section
variable {P:Program}{dst:Option Tmp}{ty:TypeId}{pos:String}{aft:Array Edge}{g:Option (Nat×Bool)}{ρ:Operand→AV}{H:List BU}{x y:Operand}
theorem UM {e:TypeId}{bl:Bool}{sz:Nat}(ht:ED P e=some (bl,sz)):∃inf,P.info? e=some inf∧inf.size=sz:=by
 obtain⟨d,_,_,h⟩:=Fh ht;cases hi:P.info? e with
 | none=>simp[hi] at h
 | some inf=>simp[hi] at h;exact⟨inf,rfl,h⟩
theorem RS {T e:TypeId}{bl:Bool}{len sz b o:Nat}{k:IntKind}{i:Int}(hu:P.underlying T=some (.array len e)) (ht:ED P e=some (bl,sz)) (hx:ρ x= .ptr b o) (hy:ρ y= .p (.int k i)) (h0:0≤i) (hn:i<len) :
  D3 P ⟨dst,.indexAddr T x y,ty,pos,aft,g⟩ ρ H (.ptr b (o+i.toNat*sz)) H:=by
 obtain⟨inf,h1,h2⟩:=UM ht;exact Sc hu h1 h2 hx hy h0 hn
theorem Eg {T e:TypeId}{bl:Bool}{len sz:Nat}{parts:Array (Nat×Operand)}{z:Value}{cs:List AV}(hu:P.underlying T=some (.array len e)) (ht:ED P e=some (bl,sz)) (hz:zeroOf P T=some z)
  (hc:Ft (fun i=>some (i*sz,sz)) (z.cells.toList.map G8) (parts.toList.map fun p=>(p.1,ρ p.2))=some cs):D3 P ⟨dst,.build T parts,ty,pos,aft,g⟩ ρ H (.agg cs) H:=by
 obtain⟨inf,h1,h2⟩:=UM ht;subst h2;exact SR hu h1 hz hc
end
theorem Rn {P:Program}{g:Operand}{ps:Array Tmp}{assign body:Code}{S:B5}{Q:DJ→B5→Prop}{fid:FuncId}{first caps:List AV}
  (hg:(ev S.τ g= .p (.fn fid)∧first=[]∧caps=[])∨ev S.τ g= .fn (.func fid) first caps)
  (h:∀d l (L:Nq),L=⟨.ready,none,S.n,S.τ,ps,assign,body⟩→∃Hs Hf,(BU.loop l L:: .dfr d::S.H).Perm (Hs++Hf) ∧
   B4 P fid (first++[.fn (.yield l) [] []]++caps) Hs (fun r H'=>U5 P l d S Q r (H'++Hf))) :
  JH P none (.rangeFunc g ps assign body) S Q:=Zp hg fun d l=>h d l _ rfl
def sr (H':List BU):Ei→List BU→Prop
 | .val v,H''=>v= .tup []∧H''=H'
 | .panic _,_=>False
def WL (v:AV) (C:List BU→Prop):Ei→List BU→Prop
 | .val v',H'=>v'=v∧C H'
 | .panic _,_=>False
section
variable {P:Program}{n:Nat}{τ:Nat→AV}{H:List BU}{D:List Ej}
theorem YA {b:Nat}{cs cs':List AV}(h:Gc cs cs'):MH (.box b cs) (.box b cs'):=⟨rfl,fun F w hr=>by
 obtain⟨vs,T,h1,h2⟩:=hr;exact⟨vs,T,h1,Pe h h2⟩⟩
theorem Hw {i:Nat}{o o':BU}(hi:H[i]?=some o) (hw:MH o o'):Ie ⟨n,τ,H,D⟩ ⟨n,τ,H.set i o',D⟩:=by
 intro F a w hs;refine⟨F,⟨hs.size,hs.tmp,?_,hs.defs⟩,?_⟩
 ·have hk:=GK (x':=o') hi hw.1;refine⟨fun x hx c hc=>?_,by show List.Nodup _;rw[hk];exact hs.heap.nodup,fun x hx=>?_,hs.heap.bd⟩
  ·rcases Dy hx with rfl | ⟨j,_,hj⟩
   ·exact hs.heap.sub _ (List.mem_of_getElem? hi) c (by rw[←hw.1];exact hc)
   exact hs.heap.sub _ (List.mem_of_getElem? hj) c hc
  rcases Dy hx with rfl | ⟨j,_,hj⟩
  ·exact hw.2 F w (hs.heap.obj _ (List.mem_of_getElem? hi))
  exact hs.heap.obj _ (List.mem_of_getElem? hj)
 refine { Trans.refl (F:=F) (H:=H) (w:=w) with keys:=fun x hx c hc=>?_ };rcases Dy hx with rfl | ⟨j,_,hj⟩
 ·exact .inl ⟨_,List.mem_of_getElem? hi,by rw[←hw.1];exact hc⟩
 exact .inl ⟨_,List.mem_of_getElem? hj,hc⟩
end
section
variable {P:Program}{dst:Option Tmp}{ty:TypeId}{pos:String}{aft:Array Edge}{g:Option (Nat×Bool)}{ρ:Operand→AV}{H:List BU}{x y:Operand}
theorem Wa {T e:TypeId}{b i:Nat}{l:List (Int×AV)}{k:Int}{zv:Value}{za v:AV}(hT:mapOf P T=some e) (hz:zeroOf P e=some zv) (hza:∀F w,CX F w za zv) (hx:ρ x= .map b) (hy:ρ y= .p (.int .i64 k)) (hi:H[i]?=some (.map b (Ec l))) (hv:(KB k l).getD za=v) :
  D3 P ⟨dst,.lookup T x y false,ty,pos,aft,g⟩ ρ H v H:=by subst hv;exact Xs hT hz hza hx hy hi
theorem Si {T e:TypeId}{b i:Nat}{l:List (Int×AV)}{k:Int}{zv:Value}{za v:AV}{ok:Bool}(hT:mapOf P T=some e) (hz:zeroOf P e=some zv) (hza:∀F w,CX F w za zv) (hx:ρ x= .map b) (hy:ρ y= .p (.int .i64 k)) (hi:H[i]?=some (.map b (Ec l))) (hv:(KB k l).getD za=v) (hok:(KB k l).isSome=ok) :
  D3 P ⟨dst,.lookup T x y true,ty,pos,aft,g⟩ ρ H (.tup [v,.p (.bool ok)]) H:=by subst hv;subst hok;exact UC hT hz hza hx hy hi
end
section
variable {P:Program}{dst:Option Tmp}{ty:TypeId}{pos:String}{aft:Array Edge}{g:Option (Nat×Bool)}{ρ:Operand→AV}{H:List BU}{x y:Operand}
theorem Lb {T e:TypeId}{sz bytes:Nat}(hT:F9 P T=some (e,sz,bytes)) :
  Dh P ⟨dst,.buildSlice T 0 #[],ty,pos,aft,g⟩ ρ H (Lv sz [] H) :=
 Hh fun F w E hH hE=>by
  obtain⟨hu,i,hi,hs,hby⟩:=Fi hT;obtain⟨v,H',F',h1,h2,h3,h4⟩:=OW (F:=F) (w:=w) (sz:=sz) (c:=0) (rows:=[]) (vs:=[]) (T:=e) (H:=H) hH Av (by simp[CD]) Av Av;refine⟨_,_,v,H',F',?_,h1,h2,h3,h4⟩;have hszr:(sizeOf e).run P w= .ok sz w:=by simp[sizeOf,typeInfo,hi,hs]
  simp only[execOp,Instr.buildSlice,Sem.run_bind,run_underlying hu,Result.andThen_ok,hszr];rw[if_neg Au];simp only[Sem.run_pure,Result.andThen_ok,Sem.run_bind,pure_bind,Nat.zero_mul,if_true];have e0:(Array.map (fun x=>(#[]:Array Value)[x % (#[]:Array Value).size]!) (Array.range 0))=(⟨[]⟩:Array Value):=by simp
  rw[e0];simp only[Array.map_empty,Instr.fill,newRow,newObj,Sem.run_bind,Sem.run,Result.andThen,Sem.run_pure];rfl
end
section
variable {P:Program}{dst:Option Tmp}{ty:TypeId}{pos:String}{aft:Array Edge}{g:Option (Nat×Bool)}{ρ:Operand→AV}{H:List BU}{x y:Operand}
theorem Mz {T U e:TypeId}{n1 n2:Nat}{rows:List (List PV)}(hT:F9 P T=some (e,n1,n2)) (hx:ρ x= .p (.lst rows)) (hy:ρ y= .p .nils):Dh P ⟨dst,.binOp .eql T x y U,ty,pos,aft,g⟩ ρ H (P6 (fun v=>∃b:Bool,v= .p (.bool b)∧(b=true→rows=[])) H) :=
 (U9 (Fi hT).1 hx hy).mono fun r H' h=>by cases r<;>exact h
end
section
variable {P:Program}{r:Option Nat}{ops:Array Oper}{Q:DJ→B5→Prop}{k:Nat}{n:Nat}{τ:Nat→AV}{H:List BU}{D:List Ej}{dst:Option Tmp}{ty:TypeId}{pos:String}{aft:Array Edge}{v:AV}{c:Call}{f:Operand}{fid:FuncId}{first caps A:List AV}
theorem OX (ho:ops[k]?=some ⟨dst,.call c,ty,pos,aft,none⟩) (hd:Gw dst n=true) (hc:c.callee= .value f) (hf:(ev τ f= .p (.fn fid)∧first=[]∧caps=[])∨ev τ f= .fn (.func fid) first caps) (h:B4 P fid A [] (Up v [])) (hA:Gc (first++c.args.toList.map (ev τ)++caps) A) (pan:Q (.panic v) ⟨n,τ,H,D⟩):AL P r ops k ⟨n,τ,H,D⟩ Q :=
 JA ho hd hc hf (Hs:=[]) (Hf:=H) Av (h.args hA) (.inl rfl) (fun _ _ h=>h.elim) (fun v' H' ⟨h1,h2⟩=>by subst h1;subst h2;exact pan)
end
end Go.Abs
namespace Go.Eu
open Go.Abs
def Ju (k:Int):Int:=if k=5∨k=6∨k=7 then 1 else if k=11 then 2 else -1
theorem Wg {k:Int}{i:Int}(h:i=Ju k) (hi:0≤i):below k i=1:=by
 unfold Ju at h;unfold below;split at h
 ·rename_i hk;subst h;rcases hk with rfl | rfl | rfl<;>simp
 split at h
 ·rename_i hk;subst h;subst hk;simp
 omega
theorem Tb {k:Int}{i:Int}(h:i≠Ju k):below k i=0:=by
 unfold Ju at h;unfold below;rw[if_neg];simp only[Bool.or_eq_true,Bool.and_eq_true,beq_iff_eq];intro hc;apply h;rcases hc with ⟨h1,h2⟩ | ⟨h1,h2⟩
 ·rw[if_pos (by rcases h2 with (h | h) | h<;>simp[h]),h1]
 rw[if_neg Au,if_pos h2,h1]
theorem WH {k:Int}(h:¬(0≤k∧k<13)):Ju k= -1:=by
 unfold Ju;rw[if_neg Au,if_neg Au]
section
variable {σ:Type}
mutual
def E2 (st:σ→Int→Tm→σ×Bool):Tm→Int→σ→σ×Bool
 | .mk k i n l ks,d,s=>if (st s d (.mk k i n l ks)).2=false then ((st s d (.mk k i n l ks)).1,false) else E3 st k d 0 (st s d (.mk k i n l ks)).1 ks
def E3 (st:σ→Int→Tm→σ×Bool) (k d:Int):Nat→σ→List Tm→σ×Bool
 | _,s,[]=>(s,true)
 | j,s,t::ts=>if (E2 st t (d+below k j) s).2=false then ((E2 st t (d+below k j) s).1,false) else E3 st k d (j+1) (E2 st t (d+below k j) s).1 ts
end
end
def PT (ix nm:Bool) (lv ks bl:Int):List AV:=[.p (.bool ix),.p (.bool nm),.p (I lv),.p (I ks),.p (I bl)]
def PR:List AV:=[PT true false 0 0 (-1),PT false false 0 0 (-1),PT false false 1 0 (-1),PT false true (-1) 0 (-1),PT false false 0 2 (-1),PT false false 0 2 1,PT false false 0 2 1,PT false false 0 2 1,PT false false 0 3 (-1),PT false false 0 1 (-1),PT false false 0 1 (-1),PT false false 0 3 2,PT true false 0 0 (-1)].flatten
theorem ey {k:Int}(h:0≤k∧k<13):PR[0+k.toNat*5+4]?=some (.p (I (Ju k))):=by
 have:k=0∨k=1∨k=2∨k=3∨k=4∨k=5∨k=6∨k=7∨k=8∨k=9∨k=10∨k=11∨k=12:=by omega
 rcases this with rfl | rfl | rfl | rfl | rfl | rfl | rfl | rfl | rfl | rfl | rfl | rfl | rfl<;>rfl
section
variable {σ:Type}{st:σ→Int→Tm→σ×Bool}{Inv:Nat→σ→Prop}
theorem VZ {t:Tm}{d:Int}{s:σ}(h:(st s d t).2=false):E2 st t d s=((st s d t).1,false):=by
 obtain⟨k,i,n,l,ks⟩:=t;rw[E2,if_pos h]
theorem II {k i:Int}{n:ByteArray}{l:List Cl}{ks:List Tm}{d:Int}{s:σ}(h:(st s d (.mk k i n l ks)).2=true):E2 st (.mk k i n l ks) d s=E3 st k d 0 (st s d (.mk k i n l ks)).1 ks:=by
 rw[E2,if_neg (by simp[h])]
theorem I6 {k d:Int}{ts:List Tm}{i:Nat}{x:Tm}{s:σ}(hx:ts[i]?=some x) (h:(E2 st x (d+below k i) s).2=false):E3 st k d i s (ts.drop i)=((E2 st x (d+below k i) s).1,false):=by
 rw[Cy hx,E3,if_pos h]
theorem Ku {k d:Int}{ts:List Tm}{i:Nat}{x:Tm}{s:σ}(hx:ts[i]?=some x) (h:(E2 st x (d+below k i) s).2=true):E3 st k d i s (ts.drop i)=E3 st k d (i+1) (E2 st x (d+below k i) s).1 (ts.drop (i+1)):=by
 rw[Cy hx,E3,if_neg (by simp[h])]
mutual
theorem JZ (hI:∀m s d t,Inv (m+1) s→Inv m (st s d t).1):∀(t:Tm) (d:Int) (s:σ) (m:Nat),Inv (m+size t) s→(E2 st t d s).2=true→Inv m (E2 st t d s).1
 | .mk k i n l ks,d,s,m,h,hv=>by
  rw[size,show m+(1+Bl ks)=(m+Bl ks)+1 by omega] at h;have h1:=hI _ _ d (.mk k i n l ks) h;rw[E2] at hv ⊢;split at hv
  ·cases hv
  rename_i hc;rw[if_neg hc];exact Ph hI ks k d 0 _ m h1 hv
theorem Ph (hI:∀m s d t,Inv (m+1) s→Inv m (st s d t).1):∀(ts:List Tm) (k d:Int) (j:Nat) (s:σ) (m:Nat),Inv (m+Bl ts) s→(E3 st k d j s ts).2=true→Inv m (E3 st k d j s ts).1
 | [],k,d,j,s,m,h,hv=>by simpa [E3,Bl] using h
 | t::ts,k,d,j,s,m,h,hv=>by
  rw[Bl,show m+(size t+Bl ts)=(m+Bl ts)+size t by omega] at h;rw[E3] at hv ⊢;split at hv
  ·cases hv
  rename_i hc;rw[if_neg hc];have:=JZ hI t (d+below k j) s _ h (by simpa using hc);exact Ph hI ts k d (j+1) _ m this hv
end
end
def XR (s:Int) (d:Int) (t:Tm):Int×Bool:=(wr (s+1),true)
mutual
theorem V3 (B:Int) (hB:B≤4611686018427387904):∀(t:Tm) (d s:Int),0≤s→s+size t<B→E2 XR t d s=(s+size t,true)
 | .mk k i n l ks,d,s,h0,h=>by
  rw[size] at h ⊢;rw[II rfl];simp only[XR];rw[Er ⟨by omega,by omega⟩,Sr B hB ks k d 0 (s+1) Au Au];congr 1;omega
theorem Sr (B:Int) (hB:B≤4611686018427387904):∀(ts:List Tm) (k d:Int) (j:Nat) (s:Int),0≤s→s+Bl ts<B→E3 XR k d j s ts=(s+Bl ts,true)
 | [],k,d,j,s,h0,h=>by simp[E3,Bl]
 | t::ts,k,d,j,s,h0,h=>by
  rw[Bl] at h ⊢;rw[E3,V3 B hB t _ s h0 Au];simp only;rw[if_neg Av,Sr B hB ts k d (j+1) (s+size t) Au Au];congr 1;omega
end
def sv (s:List Int) (d:Int):Tm→List Int×Bool
 | .mk k i _ _ _=>(if k=12∧i ∉ s then s++[i] else s,true)
def tW (s:List Int):List (Int×AV):=s.map fun i=>(i,.p (.bool true))
def VD (xs ys:List Tm) (i:Nat):Prop:=ys.length=xs.length∧∀k,k<xs.length→ys[k]?=if k<i∨xs.length - 1 - k<i then xs[xs.length - 1 - k]? else xs[k]?
theorem XZ (xs:List Tm):VD xs xs 0:=⟨rfl,fun k hk=>by rw[if_neg Au]⟩
theorem XM {xs ys:List Tm}{i:Nat}{a b:Tm}(h:VD xs ys i) (hi:i<xs.length - 1 - i) (ha:ys[i]?=some a) (hb:ys[xs.length - 1 - i]?=some b):VD xs ((ys.set i b).set (xs.length - 1 - i) a) (i+1):=by
 obtain⟨hl,h⟩:=h;refine⟨by simp[hl],fun k hk=>?_⟩;have e1:=h i Au;rw[if_neg Au,ha] at e1;have e2:=h (xs.length - 1 - i) Au;rw[if_neg Au,hb] at e2;by_cases k1:k=xs.length - 1 - i
 ·subst k1;rw[if_pos Au,List.getElem?_set_self Ao,e1];congr 1;omega
 rw[List.getElem?_set_ne (fun e=>k1 e.symm)];by_cases k2:k=i
 ·subst k2;rw[if_pos Au,List.getElem?_set_self Au,e2]
 rw[List.getElem?_set_ne (fun e=>k2 e.symm),h k hk];by_cases k3:k<i∨xs.length - 1 - k<i
 ·rw[if_pos k3,if_pos Au]
 rw[if_neg k3,if_neg Au]
theorem Wy {xs ys:List Tm}{i:Nat}(h:VD xs ys i) (hi:xs.length - 1 - i≤i):ys=xs.reverse:=by
 obtain⟨hl,h⟩:=h;apply List.ext_getElem?;intro k;by_cases hk:k<xs.length
 ·rw[h k hk,List.getElem?_reverse hk];by_cases k3:k<i∨xs.length - 1 - k<i
  ·rw[if_pos k3]
  rw[if_neg k3];congr 1;omega
 rw[List.getElem?_eq_none Au,List.getElem?_eq_none Ao]
def sT (f:Int) (n i:Nat):List Tm:=(ej f 0 n).take i++List.replicate (n - i) Bu
def kM (t:Tm):Bool:=decide ((size t:Int) > 4096)||decide (FE t > 200)
def tJ {σ:Type}(st:σ→Int→Tm→σ) (xs:List Tm):Nat→σ→σ
 | 0,s=>s
 | m+1,s=>tJ st xs m (st s m (xs.getD m Bu))
def rq (k:Int) (t:Tm) (i:Int) (a:Tm):Tm:= .mk k 0 ⟨#[]⟩ [] [a,t]
end Go.Eu
namespace Go.Abs
def eZ (mkv:Nat→AV) (cs:List AV):Ei→List BU→Prop
 | .val v,H'=>∃b,v=mkv b∧H'=[.box b cs]
 | .panic _,_=>False
section
variable {P:Program}{ops:Array Oper}{n:Nat}{τ₀ τ:Nat→AV}{D:List Ej}{Q:DJ→B5→Prop}{opn:Nat→Bool}{k:Nat}{H:List BU}{dst:Option Tmp}{ty:TypeId}{pos:String}{aft:Array Edge}{c:Call}{f:Operand}{fid:FuncId}{first caps A:List AV}{mkv:Nat→AV}{cs:List AV}
theorem ZF {rd ef effs fx}(fx':List (Nat×Sp)) (ho:ops[k]?=some ⟨dst,.call c,ty,pos,aft,none⟩) (hn:opn k=true)
  (hc:c.callee= .value f) (hf:(ev τ f= .p (.fn fid)∧first=[]∧caps=[])∨ev τ f= .fn (.func fid) first caps) (h:B4 P fid A [] (eZ mkv cs)) (hA:first++c.args.toList.map (ev τ)++caps=A∨(first++c.args.toList.map (ev τ)++caps).map norm=A) (haft:FI ops k (fx'.map (·.1))=true)
  (next:∀b,LJ ops k H (.box b cs::H) rd∧Hl k (.eff (mkv b) (.box b cs::H)) fx∧Dr P ops n τ₀ D Q opn (k+1) (put τ dst (mkv b)) (.box b cs::H) rd ((k,H,.box b cs::H)::ef) (true::effs) (fx'++fx)):Dr P ops n τ₀ D Q opn k τ H rd ef effs fx :=
 OJ fx' ho hn (Gd (H:=H) (Hs:=[]) (Hf:=H) hc hf Av h hA) haft ⟨_,_,_,⟨0,rfl,rfl⟩,rfl⟩ (fun v H' ⟨_,h,_⟩=>h.elim) (fun v H' ⟨Hs',⟨b,h1,h2⟩,h3⟩=>by subst h1;subst h2;subst h3;exact next b)
theorem Ys {r:Option Nat}(ho:ops[k]?=some ⟨dst,.call c,ty,pos,aft,none⟩) (hd:Gw dst n=true)
  (hc:c.callee= .value f) (hf:(ev τ f= .p (.fn fid)∧first=[]∧caps=[])∨ev τ f= .fn (.func fid) first caps) (h:B4 P fid A [] (eZ mkv cs)) (hA:Gc (first++c.args.toList.map (ev τ)++caps) A)
  (next:∀b,AL P r ops (k+1) ⟨n,put τ dst (mkv b),.box b cs::H,D⟩ Q):AL P r ops k ⟨n,τ,H,D⟩ Q :=
 JA ho hd hc hf (Hs:=[]) (Hf:=H) Av (h.args hA) (.inl rfl) (fun v Hs' ⟨b,h1,h2⟩=>by subst h1;subst h2;exact next b) (fun _ _ h=>h.elim)
end
def LK {α:Type}(mkv:α→AV) (mkp:Int→AV) (C:α→List BU→Prop) (x:Except Int α):Ei→List BU→Prop
 | .val v,H'=>∃a,x= .ok a∧v=mkv a∧C a H'
 | .panic v,_=>∃e,x= .error e∧v=mkp e
theorem Dh.permR {P:Program}{ρ:Operand→AV}{o:Oper}{H:List BU}{R R':Ei→List BU→Prop}(h:Dh P o ρ H R) (hp:∀r H1,R r H1→∃H2,H1.Perm H2∧R' r H2):Dh P o ρ H R':=by
 intro r F S a w hs hH hρ hd;have:=h r F S a w hs hH hρ hd;refine Mo this ?_ ?_
 ·rintro a' w' ⟨v',H1,F',hR,hs',ht⟩;obtain⟨H2,hp,hR'⟩:=hp _ _ hR;exact⟨v',H2,F',hR',⟨hs'.size,hs'.tmp,hs'.heap.perm hp,hs'.defs⟩,{ ht with keys:=fun o ho=>ht.keys o (hp.mem_iff.2 ho) }⟩
 rintro e a' w' ⟨v',H1,F',u,hR,h1,h2,hs',ht⟩;obtain⟨H2,hp,hR'⟩:=hp _ _ hR;exact⟨v',H2,F',u,hR',h1,h2,⟨hs'.size,hs'.tmp,hs'.heap.perm hp,hs'.defs⟩,{ ht with keys:=fun o ho=>ht.keys o (hp.mem_iff.2 ho) }⟩
section
variable {P:Program}{ops:Array Oper}{n:Nat}{τ₀ τ:Nat→AV}{D:List Ej}{Q:DJ→B5→Prop}{opn:Nat→Bool}{k:Nat}{T:List BU}{dst:Option Tmp}{ty:TypeId}{pos:String}{aft:Array Edge}{c:Call}{f:Operand}{fid:FuncId}{first caps A:List AV}
 {α:Type} {mkv:α→AV} {mkp:Int→AV} {C:α→List BU→Prop} {x:Except Int α}
theorem jg {r:Option Nat}(fr:List BU) (ho:ops[k]?=some ⟨dst,.call c,ty,pos,aft,none⟩) (hd:Gw dst n=true)
  (hc:c.callee= .value f) (hf:(ev τ f= .p (.fn fid)∧first=[]∧caps=[])∨ev τ f= .fn (.func fid) first caps) (h:B4 P fid A T (LK mkv mkp C x)) (hA:Gc (first++c.args.toList.map (ev τ)++caps) A)
  (next:∀a T',x= .ok a→C a T'→AL P r ops (k+1) ⟨n,put τ dst (mkv a),fr++T',D⟩ Q) (pan:∀e T',x= .error e→Q (.panic (mkp e)) ⟨n,τ,T'++fr,D⟩):AL P r ops k ⟨n,τ,fr++T,D⟩ Q :=
 IV fr ho hd hc hf h hA (fun v T' ⟨a,h1,h2,h3⟩=>by subst h2;exact next a T' h1 h3) (fun v T' ⟨e,h1,h2⟩=>by subst h2;exact pan e T' h1)
theorem pE {rd ef effs fx}(fr:List BU) (ho:ops[k]?=some ⟨dst,.call c,ty,pos,aft,none⟩) (hn:opn k=true)
  (hc:c.callee= .value f) (hf:(ev τ f= .p (.fn fid)∧first=[]∧caps=[])∨ev τ f= .fn (.func fid) first caps) (h:B4 P fid A T (LK mkv mkp C x)) (hA:Gc (first++c.args.toList.map (ev τ)++caps) A) (haft:FI ops k []=true) (chk:OC ops n (true::effs).reverse=true) (hfx:NK k fx=true) (owe:LJ ops k (fr++T) (fr++T) rd)
  (next:∀a T',x= .ok a→C a T'→LJ ops k (fr++T) (fr++T') rd∧Hl k (.eff (mkv a) (fr++T')) fx∧Dr P ops n τ₀ D Q opn (k+1) (put τ dst (mkv a)) (fr++T') rd ((k,fr++T,fr++T')::ef) (true::effs) fx)
  (pan:∀e,x= .error e→∀τ' T',(∀t,(∀(k:Nat) o,ops[k]?=some o→o.dst≠some t)→τ' t=τ₀ t)→Q (.panic (mkp e)) ⟨n,τ',T'++fr,D⟩):Dr P ops n τ₀ D Q opn k τ (fr++T) rd ef effs fx:=by
 have hop:Dh P ⟨dst,.call c,ty,pos,aft,none⟩ (ev τ) (fr++T) (fun r H'=>∃T',LK mkv mkp C x r T'∧(match r with | .val _=>H'=fr++T' | .panic _=>H'=T'++fr)):=by
  refine Dh.permR (Gd (H:=fr++T) (Hs:=T) (Hf:=fr) hc hf List.perm_append_comm (h.args hA) (.inl O)) ?_;rintro r H1 ⟨T',hR,rfl⟩;cases r with
  | val v=>exact⟨fr++T',List.perm_append_comm,T',hR,rfl⟩
  | panic v=>exact⟨T'++fr,List.Perm.refl _,T',hR,rfl⟩
 by_cases hx:∃a T',x= .ok a∧C a T'
 ·obtain⟨a,T',hx,hC⟩:=hx;refine Dr.opn _ [] ho hn Aw hop haft ⟨mkv a,_,T',⟨a,hx,O,hC⟩,O⟩ ?_ ?_ ?_ ?_
  ·rintro v H' ⟨T',⟨a',h1,h2,h3⟩,rfl⟩;exact(next a' T' h1 h3).1
  ·rintro v H' ⟨T',⟨a',h1,h2,h3⟩,rfl⟩;subst h2;exact(next a' T' h1 h3).2.1
  ·rintro v H' ⟨T',⟨a',h1,h2,h3⟩,rfl⟩;subst h2;exact(next a' T' h1 h3).2.2
  rintro v H' ⟨T',⟨e,h1,h2⟩,rfl⟩ τ' hτ;subst h2;exact pan e h1 τ' T' hτ
 refine Dr.pan _ ho hn Aw hop haft chk hfx ?_ owe ?_
 ·rintro v H' ⟨T',⟨a',h1,h2,h3⟩,rfl⟩;exact hx ⟨a',T',h1,h3⟩
 rintro v H' ⟨T',⟨e,h1,h2⟩,rfl⟩ τ' hτ;subst h2;exact pan e h1 τ' T' hτ
end
section
variable {P:Program}{ops:Array Oper}{n:Nat}{τ₀ τ:Nat→AV}{D:List Ej}{Q:DJ→B5→Prop}{opn:Nat→Bool}{k:Nat}{H Hs:List BU}{dst:Option Tmp}{ty:TypeId}{pos:String}{aft:Array Edge}{c:Call}{f:Operand}{fid:FuncId}{first caps A:List AV}
 {α:Type} {mkv:α→AV} {mkp:Int→AV} {C:α→List BU→Prop} {x:Except Int α}
theorem D8 {r:Option Nat}(is:List Nat) (ho:ops[k]?=some ⟨dst,.call c,ty,pos,aft,none⟩) (hd:Gw dst n=true)
  (hc:c.callee= .value f) (hf:(ev τ f= .p (.fn fid)∧first=[]∧caps=[])∨ev τ f= .fn (.func fid) first caps) (h:B4 P fid A Hs (LK mkv mkp C x)) (hg:Fm H is Hs) (hn:is.Nodup) (hA:Gc (first++c.args.toList.map (ev τ)++caps) A)
  (hl:∀a T',C a T'→T'.length=Hs.length)
  (next:∀a T',x= .ok a→C a T'→AL P r ops (k+1) ⟨n,put τ dst (mkv a),Ll H is T',D⟩ Q) (pan:∀e H',x= .error e→Q (.panic (mkp e)) ⟨n,τ,H'++DO is 0 H,D⟩):AL P r ops k ⟨n,τ,H,D⟩ Q :=
 dj is ho hd hc hf h hg hn hA (fun v T' ⟨a,h1,h2,h3⟩=>by subst h2;exact⟨hl a T' h3,next a T' h1 h3⟩) (fun v T' ⟨e,h1,h2⟩=>by subst h2;exact pan e T' h1)
theorem PC {rd ef effs fx}(is:List Nat) (ho:ops[k]?=some ⟨dst,.call c,ty,pos,aft,none⟩) (hn:opn k=true)
  (hc:c.callee= .value f) (hf:(ev τ f= .p (.fn fid)∧first=[]∧caps=[])∨ev τ f= .fn (.func fid) first caps) (h:B4 P fid A Hs (LK mkv mkp C x)) (hg:Fm H is Hs) (hnd:is.Nodup) (hA:Gc (first++c.args.toList.map (ev τ)++caps) A)
  (hl:∀a T',C a T'→T'.length=Hs.length) (haft:FI ops k []=true) (chk:OC ops n (true::effs).reverse=true) (hfx:NK k fx=true) (owe:LJ ops k H H rd)
  (next:∀a T',x= .ok a→C a T'→LJ ops k H (Ll H is T') rd∧Hl k (.eff (mkv a) (Ll H is T')) fx∧Dr P ops n τ₀ D Q opn (k+1) (put τ dst (mkv a)) (Ll H is T') rd ((k,H,Ll H is T')::ef) (true::effs) fx)
  (pan:∀e,x= .error e→∀τ' H',(∀t,(∀(k:Nat) o,ops[k]?=some o→o.dst≠some t)→τ' t=τ₀ t)→Q (.panic (mkp e)) ⟨n,τ',H'++DO is 0 H,D⟩):Dr P ops n τ₀ D Q opn k τ H rd ef effs fx:=by
 have hop:Dh P ⟨dst,.call c,ty,pos,aft,none⟩ (ev τ) H (fun r H'=>∃T',LK mkv mkp C x r T'∧(match r with | .val _=>H'=Ll H is T' | .panic _=>H'=T'++DO is 0 H)):=by
  refine Dh.permR (Gd hc hf (Dj hnd hg) (h.args hA) (.inl O)) ?_;rintro r H1 ⟨T',hR,rfl⟩;cases r with
  | val v=>obtain⟨a,h1,h2,h3⟩:=hR;exact⟨_,(Mf hnd hg (hl a T' h3)).symm,T',⟨a,h1,h2,h3⟩,rfl⟩
  | panic v=>exact⟨_,List.Perm.refl _,T',hR,rfl⟩
 by_cases hx:∃a T',x= .ok a∧C a T'
 ·obtain⟨a,T',hx,hC⟩:=hx;refine Dr.opn _ [] ho hn Aw hop haft ⟨mkv a,_,T',⟨a,hx,O,hC⟩,O⟩ ?_ ?_ ?_ ?_
  ·rintro v H' ⟨T',⟨a',h1,h2,h3⟩,rfl⟩;exact(next a' T' h1 h3).1
  ·rintro v H' ⟨T',⟨a',h1,h2,h3⟩,rfl⟩;subst h2;exact(next a' T' h1 h3).2.1
  ·rintro v H' ⟨T',⟨a',h1,h2,h3⟩,rfl⟩;subst h2;exact(next a' T' h1 h3).2.2
  rintro v H' ⟨T',⟨e,h1,h2⟩,rfl⟩ τ' hτ;subst h2;exact pan e h1 τ' T' hτ
 refine Dr.pan _ ho hn Aw hop haft chk hfx ?_ owe ?_
 ·rintro v H' ⟨T',⟨a',h1,h2,h3⟩,rfl⟩;exact hx ⟨a',T',h1,h3⟩
 rintro v H' ⟨T',⟨e,h1,h2⟩,rfl⟩ τ' hτ;subst h2;exact pan e h1 τ' T' hτ
end
theorem Dm:∀xs:List AV,Gc xs xs
 | []=>FH
 | x::xs=>aw (we rfl) (Dm xs)
def oQ (ops:Array Oper) (t:Nat):Bool:=ops.toList.all fun o=>match o.dst with | some u=> !(Nat.beq u t) | none=>true
theorem R3 {ops:Array Oper}{t:Nat}(h:oQ ops t=true) (k:Nat) (o:Oper) (ho:ops[k]?=some o):o.dst≠some t:=by
 intro e;have hm:o∈ops.toList:=by
  rw[←Array.getElem?_toList] at ho;exact List.mem_of_getElem? ho
 have:=List.all_eq_true.1 h o hm;simp[e] at this
theorem MW {L Hs:List BU}{is:List Nat}(X:List BU) (hn:is.Nodup) (hg:Fm L is Hs):(X++L).Perm (Hs++(X++DO is 0 L)):=by
 have h:=(Dj hn hg).append_left X;refine h.trans ?_;rw[←List.append_assoc,←List.append_assoc];exact List.perm_append_comm.append_right _
theorem E8.eq {P:Program}{f:FuncId}{caps:List AV}{m:M4}{H X:List BU}{R:List BU→Prop}(h:E8 P f caps m H (fun H'=>H'=X)) (hq:R X):E8 P f caps m H R:=by
 refine⟨h.1,fun F w vs u hH hr hm=>?_⟩;refine(h.2 F w vs u hH hr hm).mono ?_;rintro e u' w' ⟨v,H',F',h1,h2,rfl,h3,h4⟩;exact⟨v,_,F',h1,h2,hq,h3,h4⟩
end Go.Abs
namespace Go.Eu
open Go.Abs
mutual
def Vp:Tm→Prop
 | .mk k i _ _ ks=>(k=0→0≤i∧i<1099511627776)∧TE ks
def TE:List Tm→Prop
 | []=>True
 | t::ts=>Vp t∧TE ts
end
theorem Mr:∀{ts:List Tm}{i:Nat}{t:Tm},TE ts→ts[i]?=some t→Vp t
 | [],i,t,_,h=>by simp at h
 | a::ts,0,t,hn,h=>by simp at h;subst h;exact hn.1
 | a::ts,i+1,t,hn,h=>by simp at h;exact Mr hn.2 h
def PF:Tm→Tm
 | .mk k i n l _=> .mk k i n l []
def Ip (i:Int):Except Int Tm:=if i > 65535 then .error 24 else .ok (PB i)
def Wq (n m:Int):Except Int Int:=if wr (n+m) > 4096 then .error 5 else .ok (wr (n+m))
def ZP (b fr:Int) (t:Tm) (d:Int):Except Int Tm :=
 if t.index - d<fr then .ok (PF t) else if b<0∧t.index - d<fr - b then .error 24 else Ip (t.index+b)
def M0 {α β:Type}(f:α→β):Except Int α→Except Int β
 | .error e=> .error e
 | .ok x=> .ok (f x)
def Dz {α β:Type}(x:Except Int α) (f:α→Except Int β):Except Int β :=
 match x with
 | .error e=> .error e
 | .ok x=>f x
def KK (rep:Tm→Int→Except Int Tm) (s:Unit) (t:Tm) (d:Int):Except Int ((Tm×Bool)×Unit) :=
 if t.kind=0 then M0 (fun x=>((x,true),())) (rep t d) else .ok ((PF t,false),())
mutual
def EL {σ:Type}(vis:σ→Tm→Int→Except Int ((Tm×Bool)×σ)):Tm→Int→σ→Except Int (Tm×σ)
 | .mk k i n l ks,d,s=>Dz (vis s (.mk k i n l ks) d) fun r =>
   if r.1.2=true then .ok (r.1.1,r.2) else Dz (EC vis k 0 ks d r.2) fun q=> .ok (L8 r.1.1 q.1,q.2)
def EC {σ:Type}(vis:σ→Tm→Int→Except Int ((Tm×Bool)×σ)) (k:Int):Nat→List Tm→Int→σ→Except Int (List Tm×σ)
 | _,[],_,s=> .ok ([],s)
 | j,t::ts,d,s=>Dz (EL vis t (d+below k j) s) fun r=>Dz (EC vis k (j+1) ts d r.2) fun q=> .ok (r.1::q.1,q.2)
end
section
variable {σ:Type}{vis:σ→Tm→Int→Except Int ((Tm×Bool)×σ)}
theorem Gb {t:Tm}{d:Int}{s q:σ}{o:Tm}(h:vis s t d= .ok ((o,true),q)):EL vis t d s= .ok (o,q):=by
 obtain⟨k,i,n,l,ks⟩:=t;simp[EL,h,Dz]
theorem Hu {t:Tm}{d e:Int}{s:σ}(h:vis s t d= .error e):EL vis t d s= .error e:=by
 obtain⟨k,i,n,l,ks⟩:=t;simp[EL,h,Dz]
theorem IW {k i d:Int}{n:ByteArray}{l:List Cl}{ks:List Tm}{s q q':σ}{o:Tm}{ys:List Tm}(h:vis s (.mk k i n l ks) d= .ok ((o,false),q)) (hk:EC vis k 0 ks d q= .ok (ys,q')):EL vis (.mk k i n l ks) d s= .ok (L8 o ys,q'):=by
 simp[EL,h,Dz,hk]
theorem J0 {k i d e:Int}{n:ByteArray}{l:List Cl}{ks:List Tm}{s q:σ}{o:Tm}(h:vis s (.mk k i n l ks) d= .ok ((o,false),q)) (hk:EC vis k 0 ks d q= .error e):EL vis (.mk k i n l ks) d s= .error e:=by
 simp[EL,h,Dz,hk]
def R7 (vis:σ→Tm→Int→Except Int ((Tm×Bool)×σ)) (k:Int) (ts:List Tm) (d:Int) (q0:σ) (i:Nat) (ys:List Tm) (q:σ):Prop :=
 ys.length=i∧EC vis k 0 ts d q0=Dz (EC vis k i (ts.drop i) d q) fun r=> .ok (ys++r.1,r.2)
theorem R7.zero (k:Int) (ts:List Tm) (d:Int) (q0:σ):R7 vis k ts d q0 0 [] q0:=by
 refine⟨O,?_⟩;simp only[List.drop_zero,List.nil_append];cases EC vis k 0 ts d q0<;>rfl
theorem R7.err {k d e:Int}{ts ys:List Tm}{q0 q:σ}{i:Nat}{x:Tm}(h:R7 vis k ts d q0 i ys q) (hx:ts[i]?=some x) (hb:EL vis x (d+below k i) q= .error e):EC vis k 0 ts d q0= .error e:=by
 rw[h.2,Cy hx,EC,hb];rfl
theorem R7.succ {k d:Int}{ts ys:List Tm}{q0 q q':σ}{i:Nat}{x y:Tm}(h:R7 vis k ts d q0 i ys q) (hx:ts[i]?=some x) (hb:EL vis x (d+below k i) q= .ok (y,q')):R7 vis k ts d q0 (i+1) (ys++[y]) q':=by
 refine⟨by simp[h.1],?_⟩;rw[h.2,Cy hx,EC,hb];simp only[Dz];cases EC vis k (i+1) (ts.drop (i+1)) d q'<;>simp
theorem R7.fin {k d:Int}{ts ys:List Tm}{q0 q:σ}{i:Nat}(h:R7 vis k ts d q0 i ys q) (hi:ts.length≤i):EC vis k 0 ts d q0= .ok (ys,q):=by
 rw[h.2,List.drop_eq_nil_of_le hi,EC];simp[Dz]
end
theorem fB {ys:List Tm}{i m:Nat}{x:Tm}(h:ys.length=i) (hm:0<m):(ys++List.replicate m Bu).set i x=(ys++[x])++List.replicate (m - 1) Bu:=by
 subst h;cases m with
 | zero=>omega
 | succ m=>simp[List.replicate_succ]
section
variable {b fr d k i:Int}{n:ByteArray}{l:List Cl}{ks:List Tm}
theorem YZ (h:i - d<fr):ZP b fr (.mk k i n l ks) d= .ok (.mk k i n l []):=by simp[ZP,Tm.index,PF,h]
theorem gB (h:¬i - d<fr) (h2:b<0) (h3:i - d<fr - b):ZP b fr (.mk k i n l ks) d= .error 24:=by unfold ZP;exact(if_neg h).trans (if_pos ⟨h2,h3⟩)
theorem Xu (h:¬i - d<fr) (h2:¬(b<0∧i - d<fr - b)):ZP b fr (.mk k i n l ks) d=Ip (i+b):=by unfold ZP;exact(if_neg h).trans (if_neg h2)
variable {rep:Tm→Int→Except Int Tm}{s:Unit}
theorem ON {e:Int}(h:k=0) (hr:rep (.mk k i n l ks) d= .error e):KK rep s (.mk k i n l ks) d= .error e:=by unfold KK;exact(if_pos h).trans (by rw[hr];rfl)
theorem MU {x:Tm}(h:k=0) (hr:rep (.mk k i n l ks) d= .ok x):KK rep s (.mk k i n l ks) d= .ok ((x,true),()):=by unfold KK;exact(if_pos h).trans (by rw[hr];rfl)
theorem OR (h:k≠0):KK rep s (.mk k i n l ks) d= .ok ((.mk k i n l [],false),()):=by unfold KK;exact(if_neg h).trans rfl
end
def LD (b fr:Int) (t:Tm):Except Int Tm:=M0 Prod.fst (EL (KK (ZP b fr)) t 0 ())
theorem RE {α β:Type}{f:α→β}{x:Except Int α}{a:α}(h:x= .ok a):M0 f x= .ok (f a):=by rw[h];rfl
theorem O9 {α β:Type}{f:α→β}{x:Except Int α}{e:Int}(h:x= .error e):M0 f x= .error e:=by rw[h];rfl
def JU (vs:List Tm) (dp ti d:Int):Int:=if 0≤wr (wr (ti - d) - dp)∧wr (wr (ti - d) - dp)<(vs.length:Int) then wr (wr (ti - d) - dp) else -1
theorem bX {vs:List Tm}{dp ti d:Int}(h1:0≤wr (wr (ti - d) - dp)) (h2:wr (wr (ti - d) - dp)<(vs.length:Int)):JU vs dp ti d=wr (wr (ti - d) - dp):=if_pos ⟨h1,h2⟩
theorem iW {vs:List Tm}{dp ti d:Int}(h:¬(0≤wr (wr (ti - d) - dp)∧wr (wr (ti - d) - dp)<(vs.length:Int))):JU vs dp ti d= -1:=if_neg h
theorem UJ {vs:List Tm}{dp ti d:Int}(h:0≤JU vs dp ti d):JU vs dp ti d<(vs.length:Int):=by
 unfold JU at *;split<;>omega
def VA (vs:List Tm) (sz:List Int) (dp:Int) (t:Tm) (d:Int):Int :=
 if t.kind=0∧0≤JU vs dp t.index d then sz.getD (JU vs dp t.index d).toNat 0 else 1
def RP (vs:List Tm) (sz:List Int) (dp:Int) (n:Int) (t:Tm) (d:Int):Except Int ((Tm×Bool)×Int) :=
 M0 (fun m=>((Bu,decide (t.kind=0)),m)) (Wq n (VA vs sz dp t d))
def LR (vs:List Tm) (dp:Int) (t:Tm) (d:Int):Except Int Tm :=
 if 0≤JU vs dp t.index d then LD (wr (dp+d)) 0 (vs.getD (JU vs dp t.index d).toNat Bu)
 else if wr (t.index - d)<dp then .ok (PF t) else Ip (wr (t.index - vs.length))
def KE (vs:List Tm) (dp:Int) (t:Tm):Except Int Tm :=
 Dz (EL (RP vs (vs.map fun v=>(size v:Int)) dp) t 0 0) fun _=>M0 Prod.fst (EL (KK (LR vs dp)) t 0 ())
def GI (t:Tm) (vs:List Tm) (dp:Int):Tm×Int :=
 match KE vs dp t with
 | .error e=>(Bu,e)
 | .ok x=>if FE x > 200 then (Bu,7) else (x,0)
section
variable {vs:List Tm}{sz:List Int}{dp n d k i r m e:Int}{nm:ByteArray}{l:List Cl}{ks:List Tm}
theorem Qe (hm:VA vs sz dp (.mk k i nm l ks) d=m) (hz:Wq n m= .ok r):RP vs sz dp n (.mk k i nm l ks) d= .ok ((Bu,decide (k=0)),r):=by
 subst hm;exact RE hz
theorem OY (hm:VA vs sz dp (.mk k i nm l ks) d=m) (hz:Wq n m= .error e):RP vs sz dp n (.mk k i nm l ks) d= .error e:=by
 subst hm;exact O9 hz
theorem R9 (h:k=0∧0≤JU vs dp i d) (hx:sz[(JU vs dp i d).toNat]?=some m):VA vs sz dp (.mk k i nm l ks) d=m:=by
 unfold VA;refine(if_pos h).trans ?_;rw[List.getD_eq_getElem?_getD];exact(congrArg (fun o=>Option.getD o 0) hx)
theorem QQ (h:¬(k=0∧0≤JU vs dp i d)):VA vs sz dp (.mk k i nm l ks) d=1:=by
 unfold VA;exact if_neg h
theorem RH {v:Tm}(h:0≤JU vs dp i d) (hx:vs[(JU vs dp i d).toNat]?=some v):LR vs dp (.mk k i nm l ks) d=LD (wr (dp+d)) 0 v:=by
 unfold LR;refine(if_pos h).trans ?_;rw[List.getD_eq_getElem?_getD];exact(congrArg (fun o=>LD (wr (dp+d)) 0 (Option.getD o Bu)) hx)
theorem WO (h:¬0≤JU vs dp i d) (h2:wr (i - d)<dp):LR vs dp (.mk k i nm l ks) d= .ok (.mk k i nm l []):=by
 unfold LR;exact(if_neg h).trans ((if_pos h2).trans rfl)
theorem T9 (h:¬0≤JU vs dp i d) (h2:¬wr (i - d)<dp):LR vs dp (.mk k i nm l ks) d=Ip (wr (i - vs.length)):=by
 unfold LR;exact(if_neg h).trans (if_neg h2)
end
theorem JB {t:Tm}{vs:List Tm}{dp e:Int}(h:KE vs dp t= .error e):GI t vs dp=(Bu,e):=by unfold GI;rw[h]
theorem P9 {t x:Tm}{vs:List Tm}{dp:Int}(h:KE vs dp t= .ok x) (hd:FE x > 200):GI t vs dp=(Bu,7):=by unfold GI;rw[h];exact if_pos hd
theorem Tv {t x:Tm}{vs:List Tm}{dp:Int}(h:KE vs dp t= .ok x) (hd:¬FE x > 200):GI t vs dp=(x,0):=by unfold GI;rw[h];exact if_neg hd
theorem Ml {t x:Tm}{vs:List Tm}{dp:Int}{a:Tm×Int}{b:Unit}(h1:EL (RP vs (vs.map fun v=>(size v:Int)) dp) t 0 0= .ok a) (h2:EL (KK (LR vs dp)) t 0 ()= .ok (x,b)):KE vs dp t= .ok x:=by
 unfold KE;rw[h1];exact RE h2
theorem Pj {t:Tm}{vs:List Tm}{dp e:Int}(h1:EL (RP vs (vs.map fun v=>(size v:Int)) dp) t 0 0= .error e):KE vs dp t= .error e:=by
 unfold KE;rw[h1];rfl
theorem Pv {t:Tm}{vs:List Tm}{dp e:Int}{a:Tm×Int}(h1:EL (RP vs (vs.map fun v=>(size v:Int)) dp) t 0 0= .ok a) (h2:EL (KK (LR vs dp)) t 0 ()= .error e):KE vs dp t= .error e:=by
 unfold KE;rw[h1];exact O9 h2
theorem XU:∀{ts:List Tm},(∀t∈ts,Nd t)→Lo ts
 | [],_=>trivial
 | t::ts,h=>⟨h t Av,XU fun x hx=>h x (by simp[hx])⟩
section
variable {σ:Type}{vis:σ→Tm→Int→Except Int ((Tm×Bool)×σ)}
mutual
theorem PD (hv:∀s t d r,Nd t→Vp t→vis s t d= .ok r→Nd r.1.1):∀(t:Tm) (d:Int) (s:σ) (r:Tm×σ),Nd t→Vp t→EL vis t d s= .ok r→Nd r.1
 | .mk k i n l ks,d,s,r,h1,h2,h=>by
  unfold EL Dz at h;split at h
  ·cases h
  rename_i r1 hr;have hn:=hv _ _ _ _ h1 h2 hr;simp only at h;split at h
  ·injection h with h;subst h;exact hn
  split at h
  ·cases h
  rename_i q hq;injection h with h;subst h;obtain⟨g1,g2⟩:=SA hv ks k 0 d r1.2 q h1.2.2.2.2.1 h2.2 hq;obtain⟨⟨o,dn⟩,q1⟩:=r1;obtain⟨ok,oi,on,ol,os⟩:=o;exact⟨hn.1,hn.2.1,hn.2.2.1,by rw[g2];exact h1.2.2.2.1,g1,hn.2.2.2.2.2⟩
theorem SA (hv:∀s t d r,Nd t→Vp t→vis s t d= .ok r→Nd r.1.1):∀(ts:List Tm) (k:Int) (j:Nat) (d:Int) (s:σ) (r:List Tm×σ),Lo ts→TE ts→EC vis k j ts d s= .ok r→Lo r.1∧r.1.length=ts.length
 | [],k,j,d,s,r,h1,h2,h=>by
  unfold EC at h;injection h with h;subst h;exact⟨trivial,rfl⟩
 | t::ts,k,j,d,s,r,h1,h2,h=>by
  unfold EC Dz at h;split at h
  ·cases h
  rename_i r1 hr;simp only at h;split at h
  ·cases h
  rename_i q hq;injection h with h;subst h;obtain⟨g1,g2⟩:=SA hv ts k (j+1) d r1.2 q h1.2 h2.2 hq;exact⟨⟨PD hv t _ _ _ h1.1 h2.1 hr,g1⟩,by simp[g2]⟩
end
end
theorem SD {t:Tm}(h:Nd t):Nd (PF t):=by
 obtain⟨k,i,n,l,ks⟩:=t;exact⟨h.1,h.2.1,h.2.2.1,by decide,trivial,h.2.2.2.2.2⟩
theorem Vq {i:Int}{x:Tm}(hi: -9223372036854775808≤i) (h:Ip i= .ok x):Nd x:=by
 unfold Ip at h;split at h
 ·cases h
 injection h with h;subst h;exact⟨by decide,by decide,by simp,by decide,trivial,⟨by decide,by decide⟩,⟨hi,by omega⟩⟩
theorem Yq {rep:Tm→Int→Except Int Tm}(hr:∀t d x,Nd t→Vp t→t.kind=0→rep t d= .ok x→Nd x):∀(s:Unit) (t:Tm) (d:Int) (r:(Tm×Bool)×Unit),Nd t→Vp t→KK rep s t d= .ok r→Nd r.1.1:=by
 intro s t d r h1 h2 h;unfold KK at h;split at h
 ·rename_i hk;unfold M0 at h;split at h
  ·cases h
  rename_i x hx;injection h with h;subst h;exact hr t d x h1 h2 hk hx
 injection h with h;subst h;exact SD h1
theorem aF {b fr:Int}{t x:Tm}(hb:I3 b) (h1:Nd t) (h2:Vp t) (h:LD b fr t= .ok x):Nd x:=by
 unfold LD M0 at h;split at h
 ·cases h
 rename_i r hr;injection h with h;subst h;refine PD (Yq ?_) t 0 () r h1 h2 hr;intro t d x g1 g2 g3 g;obtain⟨k,i,n,l,ks⟩:=t;have hi:=g2.1 g3;unfold ZP at g;split at g
 ·injection g with g;subst g;exact SD g1
 split at g
 ·cases g
 exact Vq (by have:=hb.1;simp only[Tm.index];omega) g
theorem iG {vs:List Tm}{dp:Int}{t x:Tm}{u:Unit}(hv:Lo vs) (hp:TE vs) (h1:Nd t) (h2:Vp t) (h:EL (KK (LR vs dp)) t 0 ()= .ok (x,u)):Nd x:=by
 refine PD (Yq ?_) t 0 () (x,u) h1 h2 h;intro t d x g1 g2 g3 g;unfold LR at g;split at g
 ·rename_i h0;have hl:=UJ h0;obtain⟨v,hx⟩:=BE (l:=vs) (i:=(JU vs dp t.index d).toNat) Au;rw[List.getD_eq_getElem?_getD,hx] at g;exact aF (Xp _) (Di hv hx) (Mr hp hx) g
 split at g
 ·injection g with g;subst g;exact SD g1
 exact Vq (Xp _).1 g
theorem kz {vs:List Tm}{i:Nat}{x:Tm}(hx:vs[i]?=some x):(((vs.take i).map fun v=>(size v:Int))++List.replicate (vs.length - i) 0).set i (size x:Int)=((vs.take (i+1)).map fun v=>(size v:Int))++List.replicate (vs.length - (i+1)) 0:=by
 have hi:i<vs.length:=by
  rcases Nat.lt_or_ge i vs.length with h | h
  ·exact h
  rw[List.getElem?_eq_none h] at hx;cases hx
 obtain⟨m,hm⟩:∃m,vs.length - i=m+1:=⟨vs.length - i - 1,by omega⟩;have hl:((vs.take i).map fun v=>(size v:Int)).length=i:=by simp;omega
 rw[List.take_add_one,hx,hm,show vs.length - (i+1)=m by omega,List.replicate_succ,List.set_append_right _ _ Au,hl];simp
theorem pD {vs:List Tm}{i:Nat}(h:vs.length≤i):((vs.take i).map fun v=>(size v:Int))++List.replicate (vs.length - i) 0=vs.map fun v=>(size v:Int):=by
 rw[List.take_of_length_le h,show vs.length - i=0 by omega];simp
theorem Ya {k i:Int}{n:ByteArray}{l:List Cl}{ks:List Tm}(h:Wt (.mk k i n l ks)) (hk:k=0):ks=[]:=by
 have:=h.1;subst hk;cases ks with
 | nil=>rfl
 | cons a b=>simp[arity] at this;omega
def Fo (x:Tm×Int):Except Int (Tm×Unit):=if x.2=0 then .ok (x.1,()) else .error x.2
def HE (x:List Tm×Int):Except Int (List Tm×Unit):=if x.2=0 then .ok (x.1,()) else .error x.2
theorem Wr {er e:Int}(h:er≠0):Gs er e=er:=by unfold Gs;rw[if_neg h]
theorem YL {er i:Int}(h:er≠0):NO er i=er:=by unfold NO;split<;>simp[Wr h]
mutual
theorem Sl (b fr:Int):∀(t:Tm) (d er:Int),er≠0→(Cu b fr d er t).2=er
 | .mk k i n l ks,d,er,h=>by
  unfold Cu;split
  ·split
   ·rfl
   split
   ·exact Wr h
   exact YL h
  exact Kt b fr k ks d 0 er h
theorem Kt (b fr k:Int):∀(ts:List Tm) (d:Int) (j:Nat) (er:Int),er≠0→(DU b fr k d j er ts).2=er
 | [],d,j,er,h=>rfl
 | t::ts,d,j,er,h=>by
  unfold DU;simp only;rw[Sl b fr t _ er h];exact Kt b fr k ts d (j+1) er h
end
mutual
theorem Sm (b:Int) (hb:0≤b) (hb2:b<4398046511104):∀(t:Tm) (d:Int),Wt t→Vp t→0≤d→d+size t<2199023255552→EL (KK (ZP b 0)) t d ()=Fo (Cu b 0 d 0 t)
 | .mk k i n l ks,d,h1,h2,h3,h4=>by
  by_cases hk:k=0
  ·have hks:=Ya h1 hk;have hi:=h2.1 hk;have e1:wr (0+d)=d:=by rw[Int.zero_add];exact Er (by unfold I3;omega)
   have e2:wr (i+b)=i+b:=Er (by unfold I3;omega);by_cases hlo:i - d<0
   ·rw[Gb (MU hk (YZ hlo))];unfold Cu;rw[if_pos hk,e1,if_pos Au];subst hks;rfl
   have hsh:ZP b 0 (.mk k i n l ks) d=Ip (i+b):=Xu hlo Au;unfold Cu;rw[if_pos hk,e1,if_neg Au,e2,if_neg Au];by_cases hbig:i+b > 65535
   ·rw[Hu (ON hk (hsh.trans (if_pos hbig)))];unfold Fo NO Gs;simp[hbig]
   rw[Gb (MU hk (hsh.trans (if_neg hbig)))];unfold Fo NO;simp[hbig]
  have hs:d+Bl ks<2199023255551:=by simp only[size] at h4;omega
  have hL:=RV b hb hb2 k ks d 0 h1.2.2 h2.2 h3 hs;unfold Cu;rw[if_neg hk];unfold HE at hL;unfold Fo;by_cases he:(DU b 0 k d 0 0 ks).2=0
  ·rw[if_pos he] at hL;rw[if_pos he];exact IW (OR hk) hL
  rw[if_neg he] at hL;rw[if_neg he];exact J0 (OR hk) hL
theorem RV (b:Int) (hb:0≤b) (hb2:b<4398046511104) (k:Int):∀(ts:List Tm) (d:Int) (j:Nat),Nk ts→TE ts→0≤d→d+Bl ts<2199023255551→EC (KK (ZP b 0)) k j ts d ()=HE (DU b 0 k d j 0 ts)
 | [],d,j,h1,h2,h3,h4=>rfl
 | t::ts,d,j,h1,h2,h3,h4=>by
  have hbl:=DK k j;simp only[Bl] at h4;have hT:=Sm b hb hb2 t (d+below k j) h1.1 h2.1 Au Au;have hL:=RV b hb hb2 k ts d (j+1) h1.2 h2.2 h3 Au;unfold EC DU;rw[hT];unfold Fo HE Dz;by_cases he:(Cu b 0 (d+below k j) 0 t).2=0
  ·rw[if_pos he];simp only;rw[hL,he];unfold HE;by_cases hq:(DU b 0 k d (j+1) 0 ts).2=0
   ·rw[if_pos hq,if_pos hq]
   rw[if_neg hq,if_neg hq]
  rw[if_neg he];simp only;rw[Kt b 0 k ts d (j+1) _ he,if_neg he]
end
theorem aA {b:Int}{v:Tm}(hb:0≤b) (hb2:b<4398046511104) (h1:Wt v) (h2:Vp v) (h3:size v<1099511627776):LD b 0 v=if (Cu b 0 0 0 v).2=0 then .ok (Cu b 0 0 0 v).1 else .error (Cu b 0 0 0 v).2:=by
 unfold LD;rw[Sm b hb hb2 v 0 h1 h2 Au Au];unfold Fo;split<;>rfl
section
variable {vs:List Tm}{d er nd k i:Int}{n:ByteArray}{l:List Cl}{ks:List Tm}
theorem NW {t:Tm}(h:nd > 4096):CQ vs d er nd t=(t,er,nd):=by
 obtain⟨k,i,n,l,ks⟩:=t;unfold CQ;rw[if_pos h]
theorem Jr (h:nd > 4096):∀(ts:List Tm) (d:Int) (j:Nat),Cq vs k d j er nd ts=(ts,er,nd)
 | [],d,j=>rfl
 | t::ts,d,j=>by unfold Cq;rw[NW h];simp only;rw[Jr h ts d (j+1)]
theorem Nf {v:Tm}(h:nd≤4096) (hk:k=0) (h1:i≥d) (h2:i - d<(vs.length:Int)) (hv:vs[(i - d).toNat]?=some v):CQ vs d er nd (.mk k i n l ks)=((Cu d 0 0 er v).1,(Cu d 0 0 er v).2,wr (nd+FC v)):=by
 unfold CQ;rw[if_neg Au,if_pos ⟨hk,h1,h2⟩,List.getD_eq_getElem?_getD,hv];rfl
theorem O8 (h:nd≤4096) (hk:k=0) (h1:i≥d) (h2:¬i - d<(vs.length:Int)):CQ vs d er nd (.mk k i n l ks)=(PB (wr (i - vs.length)),NO er (wr (i - vs.length)),wr (nd+1)):=by
 unfold CQ;rw[if_neg Au,if_neg Au,if_pos hk,if_pos h1]
theorem Ni (h:nd≤4096) (hk:k=0) (h1:¬i≥d):CQ vs d er nd (.mk k i n l ks)=(.mk k i n l ks,er,wr (nd+1)):=by
 unfold CQ;rw[if_neg Au,if_neg Au,if_pos hk,if_neg h1]
theorem MM (h:nd≤4096) (hk:k≠0):CQ vs d er nd (.mk k i n l ks)=((.mk k i n l (Cq vs k d 0 er (wr (nd+1)) ks).1),(Cq vs k d 0 er (wr (nd+1)) ks).2):=by
 unfold CQ;rw[if_neg Au,if_neg Au,if_neg hk]
end
mutual
theorem aZ (vs:List Tm):∀(t:Tm) (d er nd:Int),er≠0→(CQ vs d er nd t).2.1=er
 | .mk k i n l ks,d,er,nd,h=>by
  unfold CQ;split
  ·rfl
  split
  ·exact Sl _ _ _ _ _ h
  split
  ·split
   ·exact YL h
   rfl
  exact Ko vs k ks d 0 er _ h
theorem Ko (vs:List Tm) (k:Int):∀(ts:List Tm) (d:Int) (j:Nat) (er nd:Int),er≠0→(Cq vs k d j er nd ts).2.1=er
 | [],d,j,er,nd,h=>rfl
 | t::ts,d,j,er,nd,h=>by
  unfold Cq;simp only;rw[aZ vs t _ er nd h];exact Ko vs k ts d (j+1) er _ h
end
structure QG (vs:List Tm) (dp:Int):Prop where
 wt:Nk vs
 vp:TE vs
 sz:∀x∈vs,size x<1099511627776
 len:vs.length<1099511627776
 lo:0≤dp
 hi:dp≤65536
theorem QG.size {vs:List Tm}{dp:Int}(V:QG vs dp):∀x∈vs,(size x:Int)≤1099511627776:=fun x hx=>by have:=V.sz x hx;omega
theorem Y2 {vs:List Tm}{dp i d:Int}(V:QG vs dp) (h1:0≤i) (h2:i<1099511627776) (h3:0≤d) (h4:d<2199023255552):JU vs dp i d=if dp+d≤i∧i - (dp+d)<(vs.length:Int) then i - (dp+d) else -1:=by
 have:=V.lo;have:=V.hi;have e1:wr (i - d)=i - d:=Er (by unfold I3;omega);have e2:wr (i - d - dp)=i - (dp+d):=by rw[Er (by unfold I3;omega)];omega
 unfold JU;rw[e1,e2];by_cases h:dp+d≤i∧i - (dp+d)<(vs.length:Int)
 ·rw[if_pos h,if_pos Au]
 rw[if_neg h,if_neg Au]
theorem YP {n m:Int}(h1:0≤n) (h2:n≤4096) (h3:0≤m) (h4:m≤1099511627776):Wq n m=if n+m > 4096 then .error 5 else .ok (n+m):=by
 unfold Wq;rw[show wr (n+m)=n+m from Er (by unfold I3;omega)]
def kh {α:Type}(x:Except Int (α×Int)) (m:Int):Prop:=(m > 4096→x= .error 5)∧(m≤4096→∃z,x= .ok (z,m))
def lG (vs:List Tm):List Int:=vs.map fun v=>(size v:Int)
theorem iM {vs:List Tm}{i:Nat}{v:Tm}(h:vs[i]?=some v):(lG vs)[i]?=some (size v:Int):=by simp[lG,h]
mutual
theorem YW {vs:List Tm}{dp:Int}(V:QG vs dp):∀(t:Tm) (d er nd:Int),Wt t→Vp t→0≤d→d+size t<2199023255552→0≤nd→nd≤4096→kh (EL (RP vs (lG vs) dp) t d nd) (CQ vs (dp+d) er nd t).2.2
 | .mk k i n l ks,d,er,nd,h1,h2,h3,h4,h5,h6=>by
  have hone:∀m:Int,0≤m→m≤1099511627776→VA vs (lG vs) dp (.mk k i n l ks) d=m→k=0→kh (EL (RP vs (lG vs) dp) (.mk k i n l ks) d nd) (wr (nd+m)):=by
   intro m g1 g2 g3 hk;have ha:=YP h5 h6 g1 g2;rw[show wr (nd+m)=nd+m from Er (by unfold I3;omega)];refine⟨fun h=>?_,fun h=>?_⟩
   ·rw[if_pos h] at ha;exact Hu (OY g3 ha)
   rw[if_neg Au] at ha;refine⟨Bu,Gb ?_⟩;rw[Qe g3 ha,hk];rfl
  by_cases hk:k=0
  ·have hi:=h2.1 hk;have hd:d<2199023255552:=by have:=size_pos (Tm.mk k i n l ks);omega
   have hv:=Y2 V hi.1 hi.2 h3 hd;by_cases hin:dp+d≤i∧i - (dp+d)<(vs.length:Int)
   ·rw[if_pos hin] at hv;obtain⟨v,hx⟩:=BE (l:=vs) (i:=(i - (dp+d)).toNat) Au;have hsv:=V.sz v (List.mem_of_getElem? hx);rw[Nf h6 hk hin.1 hin.2 hx,OQ Au];exact hone _ Au Au (R9 ⟨hk,by omega⟩ (by rw[hv];exact iM hx)) hk
   rw[if_neg hin] at hv;have hc:=hone 1 Au Au (QQ Au) hk;by_cases hge:i≥dp+d
   ·rw[O8 h6 hk hge Au];exact hc
   rw[Ni h6 hk hge];exact hc
  rw[MM h6 hk];have hs:d+Bl ks<2199023255551:=by simp only[size] at h4;omega
  have e1:wr (nd+1)=nd+1:=Er (by unfold I3;omega);have ha:=YP (m:=1) h5 h6 Au Au;have hn:VA vs (lG vs) dp (.mk k i n l ks) d=1:=QQ Au;have hdec:decide (k=0)=false:=by simp[hk]
  simp only;rw[e1];by_cases hbig:nd+1 > 4096
  ·rw[Jr hbig];rw[if_pos hbig] at ha;exact⟨fun _=>Hu (OY hn ha),fun h=>by simp only at h;omega⟩
  rw[if_neg hbig] at ha;have hc:=Qe (l:=l) hn ha;rw[hdec] at hc;obtain⟨g1,g2⟩:=VR V k ks d 0 er (nd+1) h1.2.2 h2.2 h3 hs Au Au;refine⟨fun h=>J0 hc (g1 h),fun h=>?_⟩;obtain⟨z,hz⟩:=g2 h;exact⟨_,IW hc hz⟩
theorem VR {vs:List Tm}{dp:Int}(V:QG vs dp) (k:Int):∀(ts:List Tm) (d:Int) (j:Nat) (er nd:Int),Nk ts→TE ts→0≤d→d+Bl ts<2199023255551→0≤nd→nd≤4096→kh (EC (RP vs (lG vs) dp) k j ts d nd) (Cq vs k (dp+d) j er nd ts).2.2
 | [],d,j,er,nd,h1,h2,h3,h4,h5,h6=>⟨fun h=>by simp only[Cq] at h;omega,fun _=>⟨_,rfl⟩⟩
 | t::ts,d,j,er,nd,h1,h2,h3,h4,h5,h6=>by
  have hbl:=DK k j;simp only[Bl] at h4;obtain⟨g1,g2⟩:=YW V t (d+below k j) er nd h1.1 h2.1 Au Au h5 h6;have hm:=(Jv 1099511627776 Au Au t vs (dp+d+below k j) er nd h1.1 V.wt V.size h5 Au).1;rw[show dp+(d+below k j)=dp+d+below k j by omega] at g1 g2;unfold EC Cq;simp only;by_cases hbig:(CQ vs (dp+d+below k j) er nd t).2.2 > 4096
  ·rw[g1 hbig,Jr hbig];exact⟨fun _=>O,fun h=>by simp only at h;omega⟩
  obtain⟨z,hz⟩:=g2 Au;rw[hz];obtain⟨f1,f2⟩:=VR V k ts d (j+1) (CQ vs (dp+d+below k j) er nd t).2.1 (CQ vs (dp+d+below k j) er nd t).2.2 h1.2 h2.2 h3 Au Au Au;refine⟨fun h=>?_,fun h=>?_⟩
  ·simp only[Dz];rw[f1 h]
  obtain⟨y,hy⟩:=f2 h;exact⟨z::y,by simp only[Dz];rw[hy]⟩
end
mutual
theorem Yo {vs:List Tm}{dp:Int}(V:QG vs dp):∀(t:Tm) (d nd:Int),Wt t→Vp t→0≤d→d+size t<2199023255552→0≤nd→(CQ vs (dp+d) 0 nd t).2.2≤4096→EL (KK (LR vs dp)) t d ()=Fo ((CQ vs (dp+d) 0 nd t).1,(CQ vs (dp+d) 0 nd t).2.1)
 | .mk k i n l ks,d,nd,h1,h2,h3,h4,h5,h6=>by
  have h7:nd≤4096:=by
   rcases Int.lt_or_le 4096 nd with h | h
   ·rw[NW h] at h6;simp only at h6;omega
   exact h
  have:=V.lo;have:=V.hi;have:=V.len;by_cases hk:k=0
  ·have hi:=h2.1 hk;have hks:=Ya h1 hk;have hd:d<2199023255552:=by have:=size_pos (Tm.mk k i n l ks);omega
   have hv:=Y2 V hi.1 hi.2 h3 hd;by_cases hin:dp+d≤i∧i - (dp+d)<(vs.length:Int)
   ·rw[if_pos hin] at hv;obtain⟨v,hx⟩:=BE (l:=vs) (i:=(i - (dp+d)).toNat) Au;have hsv:=V.sz v (List.mem_of_getElem? hx);rw[Nf h7 hk hin.1 hin.2 hx];have hr:LR vs dp (.mk k i n l ks) d=LD (wr (dp+d)) 0 v:=RH Au (by rw[hv];exact hx);rw[show wr (dp+d)=dp+d from Er (by unfold I3;omega),aA Au Au (Qi V.wt hx) (Mr V.vp hx) hsv] at hr;unfold Fo;by_cases he:(Cu (dp+d) 0 0 0 v).2=0
    ·rw[if_pos he] at hr;rw[if_pos he];exact Gb (MU hk hr)
    rw[if_neg he] at hr;rw[if_neg he];exact Hu (ON hk hr)
   rw[if_neg hin] at hv;have e1:wr (i - d)=i - d:=Er (by unfold I3;omega);by_cases hge:i≥dp+d
   ·rw[O8 h7 hk hge Au];have hr:LR vs dp (.mk k i n l ks) d=Ip (wr (i - vs.length)):=T9 Au (by rw[e1];omega);unfold Ip at hr;unfold Fo NO Gs;by_cases hbig:wr (i - vs.length) > 65535
    ·rw[if_pos hbig] at hr;simp only[hbig,if_true];exact Hu (ON hk hr)
    rw[if_neg hbig] at hr;simp only[hbig,if_false,if_true];exact Gb (MU hk hr)
   rw[Ni h7 hk hge];have hr:LR vs dp (.mk k i n l ks) d= .ok (.mk k i n l []):=WO Au (by rw[e1];omega);subst hks;exact Gb (MU hk hr)
  rw[MM h7 hk] at h6 ⊢;have hs:d+Bl ks<2199023255551:=by simp only[size] at h4;omega
  have e1:wr (nd+1)=nd+1:=Er (by unfold I3;omega);simp only at h6 ⊢;rw[e1] at h6 ⊢;have hL:=VX V k ks d 0 (nd+1) h1.2.2 h2.2 h3 hs Au h6;unfold HE at hL;unfold Fo;by_cases he:(Cq vs k (dp+d) 0 0 (nd+1) ks).2.1=0
  ·rw[if_pos he] at hL;rw[if_pos he];exact IW (OR hk) hL
  rw[if_neg he] at hL;rw[if_neg he];exact J0 (OR hk) hL
theorem VX {vs:List Tm}{dp:Int}(V:QG vs dp) (k:Int):∀(ts:List Tm) (d:Int) (j:Nat) (nd:Int),Nk ts→TE ts→0≤d→d+Bl ts<2199023255551→0≤nd→(Cq vs k (dp+d) j 0 nd ts).2.2≤4096→EC (KK (LR vs dp)) k j ts d ()=HE ((Cq vs k (dp+d) j 0 nd ts).1,(Cq vs k (dp+d) j 0 nd ts).2.1)
 | [],d,j,nd,h1,h2,h3,h4,h5,h6=>rfl
 | t::ts,d,j,nd,h1,h2,h3,h4,h5,h6=>by
  have hbl:=DK k j;simp only[Bl] at h4;have h7:nd≤4096:=by
   rcases Int.lt_or_le 4096 nd with h | h
   ·rw[Jr h] at h6;simp only at h6;omega
   exact h
  have hm:=(Jv 1099511627776 Au Au t vs (dp+d+below k j) 0 nd h1.1 V.wt V.size h5 Au);unfold Cq at h6;simp only at h6;have hm2:=(LL 1099511627776 Au Au ts vs k (dp+d) (j+1) (CQ vs (dp+d+below k j) 0 nd t).2.1 (CQ vs (dp+d+below k j) 0 nd t).2.2 h1.2 V.wt V.size Au hm.2.1).1;have hT:=Yo V t (d+below k j) nd h1.1 h2.1 Au Au h5 (by rw[show dp+(d+below k j)=dp+d+below k j by omega];omega);rw[show dp+(d+below k j)=dp+d+below k j by omega] at hT;unfold EC Cq;rw[hT];simp only;unfold Fo HE Dz;by_cases he:(CQ vs (dp+d+below k j) 0 nd t).2.1=0
  ·have hL:=VX V k ts d (j+1) (CQ vs (dp+d+below k j) 0 nd t).2.2 h1.2 h2.2 h3 Au Au (by rw[he] at h6;exact h6);simp only;rw[if_pos he];simp only;rw[hL,he];unfold HE;by_cases hq:(Cq vs k (dp+d) (j+1) 0 (CQ vs (dp+d+below k j) 0 nd t).2.2 ts).2.1=0
   ·simp only[hq,if_true]
   simp only[hq,if_false]
  simp only;rw[if_neg he];simp only;rw[Ko vs k ts (dp+d) (j+1) _ _ he,if_neg he]
end
theorem bB {t:Tm}{vs:List Tm}{dp:Int}(V:QG vs dp) (h1:Wt t) (h2:Vp t) (h3:size t<1099511627776):GI t vs dp=Ce t vs dp:=by
 have:=V.lo;have:=V.hi;have hmin:min dp 65536=dp:=by omega
 obtain⟨g1,g2⟩:=YW V t 0 0 0 h1 h2 Au Au Au Au;rw[Int.add_zero] at g1 g2;unfold Ce;rw[hmin];by_cases hbig:(CQ vs dp 0 0 t).2.2 > 4096
 ·rw[if_pos hbig];exact JB (Pj (g1 hbig))
 rw[if_neg hbig];obtain⟨z,hz⟩:=g2 Au;have hr:=Yo V t 0 0 h1 h2 Au Au Au (by rw[Int.add_zero];omega);rw[Int.add_zero] at hr;unfold Fo at hr;simp only at hr;by_cases he:(CQ vs dp 0 0 t).2.1=0
 ·rw[if_pos he] at hr;rw[if_neg Au];by_cases hd:FE (CQ vs dp 0 0 t).1 > 200
  ·rw[if_pos hd];exact P9 (Ml hz hr) hd
  rw[if_neg hd];exact Tv (Ml hz hr) hd
 rw[if_neg he] at hr;rw[if_pos he];exact JB (Pv hz hr)
theorem ez {i:Int}(h0:0≤i) (h1:i≤65535):Vp (PB i):=⟨fun _=>⟨h0,by omega⟩,trivial⟩
theorem U8:Vp Bu:=⟨fun _=>⟨by omega,by omega⟩,trivial⟩
mutual
theorem TH (b:Int) (hb:0≤b) (hb2:b<4398046511104):∀(t:Tm) (d:Int),Vp t→0≤d→d+size t<4398046511104→(Cu b 0 d 0 t).2=0→Vp (Cu b 0 d 0 t).1
 | .mk k i n l ks,d,h,hd,hd2,he=>by
  by_cases hk:k=0
  ·have hi:=h.1 hk;have e1:wr (0+d)=d:=by rw[Int.zero_add];exact Er (by unfold I3;omega)
   have e2:wr (i+b)=i+b:=Er (by unfold I3;omega);unfold Cu at he ⊢;rw[if_pos hk,e1,e2] at he ⊢;by_cases hlo:i<d
   ·rw[if_pos hlo];exact h
   rw[if_neg hlo,if_neg Au] at he ⊢;unfold NO Gs at he;by_cases hbig:i+b > 65535
   ·simp[hbig] at he
   exact ez Au Au
  unfold Cu at he ⊢;rw[if_neg hk] at he ⊢;simp only[size] at hd2;exact⟨fun h=>absurd h hk,Ra b hb hb2 k ks d 0 h.2 hd Au he⟩
theorem Ra (b:Int) (hb:0≤b) (hb2:b<4398046511104) (k:Int):∀(ts:List Tm) (d:Int) (j:Nat),TE ts→0≤d→d+Bl ts<4398046511103→(DU b 0 k d j 0 ts).2=0→TE (DU b 0 k d j 0 ts).1
 | [],d,j,h,hd,hd2,he=>trivial
 | t::ts,d,j,h,hd,hd2,he=>by
  have hbl:=DK k j;simp only[Bl] at hd2;unfold DU at he ⊢;simp only at he ⊢;have h0:(Cu b 0 (d+below k j) 0 t).2=0:=by
   rcases Decidable.em ((Cu b 0 (d+below k j) 0 t).2=0) with h | h
   ·exact h
   rw[Kt b 0 k ts d (j+1) _ h] at he;exact he
  rw[h0] at he ⊢;exact⟨TH b hb hb2 t _ h.1 Au Au h0,Ra b hb hb2 k ts d (j+1) h.2 hd Au he⟩
end
mutual
theorem TY {vs:List Tm}{dp:Int}(V:QG vs dp):∀(t:Tm) (d nd:Int),Vp t→0≤d→d+size t<2199023255552→(CQ vs (dp+d) 0 nd t).2.1=0→Vp (CQ vs (dp+d) 0 nd t).1
 | .mk k i n l ks,d,nd,h,h3,h4,he=>by
  have:=V.lo;have:=V.hi;have:=V.len;rcases Int.lt_or_le 4096 nd with h7 | h7
  ·rw[NW h7];exact h
  by_cases hk:k=0
  ·have hi:=h.1 hk;by_cases hin:dp+d≤i∧i - (dp+d)<(vs.length:Int)
   ·obtain⟨v,hx⟩:=BE (l:=vs) (i:=(i - (dp+d)).toNat) Au;have hsv:=V.sz v (List.mem_of_getElem? hx);rw[Nf h7 hk hin.1 hin.2 hx] at he ⊢;exact TH _ Au Au v 0 (Mr V.vp hx) Au Au he
   by_cases hge:i≥dp+d
   ·rw[O8 h7 hk hge Au] at he ⊢;have e:wr (i - vs.length)=i - vs.length:=Er (by unfold I3;omega);simp only[e] at he ⊢;unfold NO Gs at he;by_cases hbig:i - (vs.length:Int) > 65535
    ·simp[hbig] at he
    exact ez Au Au
   rw[Ni h7 hk hge];exact h
  rw[MM h7 hk] at he ⊢;simp only[size] at h4;exact⟨fun h=>absurd h hk,SG V k ks d 0 _ h.2 h3 Au he⟩
theorem SG {vs:List Tm}{dp:Int}(V:QG vs dp) (k:Int):∀(ts:List Tm) (d:Int) (j:Nat) (nd:Int),TE ts→0≤d→d+Bl ts<2199023255551→(Cq vs k (dp+d) j 0 nd ts).2.1=0→TE (Cq vs k (dp+d) j 0 nd ts).1
 | [],d,j,nd,h,h3,h4,he=>trivial
 | t::ts,d,j,nd,h,h3,h4,he=>by
  have hbl:=DK k j;simp only[Bl] at h4;unfold Cq at he ⊢;simp only at he ⊢;have h0:(CQ vs (dp+d+below k j) 0 nd t).2.1=0:=by
   rcases Decidable.em ((CQ vs (dp+d+below k j) 0 nd t).2.1=0) with h | h
   ·exact h
   rw[Ko vs k ts _ (j+1) _ _ h] at he;exact he
  rw[h0] at he ⊢;rw[show dp+d+below k j=dp+(d+below k j) by omega] at he h0 ⊢;exact⟨TY V t _ nd h.1 Au Au h0,SG V k ts d (j+1) _ h.2 h3 Au he⟩
end
theorem Z8 {vs:List Tm}{dp:Int}(V:QG vs dp) {t:Tm}(h:Vp t) (hs:size t<1099511627776):Vp (Ce t vs dp).1:=by
 have:=V.lo;have:=V.hi;have hmin:min dp 65536=dp:=by omega
 unfold Ce;rw[hmin];split
 ·exact U8
 split
 ·exact U8
 rename_i hne;split
 ·exact U8
 have:=TY V t 0 0 h Au Au (by rw[Int.add_zero];exact Decidable.not_not.1 hne);rw[Int.add_zero] at this;exact this
structure JD where
 dn:List (Int×Tm)
 op:List Int
 wk:Int
def oG (i:Int):List (Int×Tm)→Option Tm
 | []=>none
 | (j,x)::r=>if j=i then some x else oG i r
def mr (i:Int) (v:Tm):List (Int×Tm)→List (Int×Tm)
 | []=>[(i,v)]
 | (j,x)::r=>if j=i then (j,v)::r else (j,x)::mr i v r
def tZ (l:List (Int×Tm)):List (Int×AV):=l.map fun p=>(p.1,TV p.2)
def pS (x:Tm) (e:Int):Except Int Tm:=if e≠0∨kM x=true then .error 11 else .ok x
def je:Tm→List Tm→Except Int (Tm×List Tm)
 | v,[]=> .ok (v,[])
 | v,a::l=>if v.kind=5 then Dz (pS (GI (v.kids.getD 1 Bu) [a] 0).1 (GI (v.kids.getD 1 Bu) [a] 0).2) fun x=>je x l else .ok (v,a::l)
def It (F:JD→Tm→Except Int (Tm×JD)):JD→List Tm→Except Int (List Tm×JD)
 | st,[]=> .ok ([],st)
 | st,t::ts=>Dz (F st t) fun r=>Dz (It F r.2 ts) fun q=> .ok (r.1::q.1,q.2)
def lM (F:JD→Tm→Except Int (Tm×JD)) (ms:List Mv) (st:JD) (i:Int):Except Int (Tm×JD) :=
 match oG i st.dn with
 | some v=> .ok (v,st)
 | none=>if i∈st.op then .error 22 else Dz (F { st with op:=st.op++[i] } (valueOf ms i)) fun r=> .ok (r.1,{ r.2 with dn:=mr i r.1 r.2.dn })
def mT (F:JD→Tm→Except Int (Tm×JD)) (ms:List Mv) (st:JD) (h:Tm):Except Int (Tm×JD) :=
 if known ms h=true then lM F ms st h.index else M0 (fun q=>(L8 h q.1,q.2)) (It F st h.kids)
def dY (ms:List Mv):Nat→JD→Tm→Except Int (Tm×JD)
 | 0,st,t=> .error 11
 | n+1,st,t =>
  if st.wk+1 > 8192000 then .error 11
  else Dz (mT (dY ms n) ms { st with wk:=st.wk+1 } (BK t).1) fun r =>
   Dz (It (dY ms n) r.2 (BK t).2) fun q =>
   Dz (if known ms (BK t).1=true then je r.1 q.1 else .ok (r.1,q.1)) fun y =>
   M0 (fun z=>(z,q.2)) (pS (apply y.1 y.2) 0)
structure Ok (S:Nat) (t:Tm):Prop where
 nd:Nd t
 vp:Vp t
 wt:Wt t
 sz:size t≤S
structure rn (ms:List Mv) (st:JD):Prop where
 dn:∀p∈st.dn,Ok 4096 p.2
 w0:0≤st.wk
 w1:st.wk≤8192000
abbrev tc (l:List Tm):Prop:=∀x∈l,Ok 4096 x
def qe (st st':JD):Prop:=∀i,i∈st.op→i∈st'.op
def sA (ms:List Mv) (B:Nat) (F:JD→Tm→Except Int (Tm×JD)):Prop:=∀st t r,Ok B t→rn ms st→F st t= .ok r→Ok 4096 r.1∧rn ms r.2∧qe st r.2
section
variable {F:JD→Tm→Except Int (Tm×JD)}{ms:List Mv}{st st':JD}{i e:Int}{z:Tm}
end
def UL (F:JD→Tm→Except Int (Tm×JD)) (ts:List Tm) (q0:JD) (i:Nat) (ys:List Tm) (q:JD):Prop :=
 ys.length=i∧It F q0 ts=Dz (It F q (ts.drop i)) fun r=> .ok (ys++r.1,r.2)
section
variable {F:JD→Tm→Except Int (Tm×JD)}{ts ys:List Tm}{q0 q q':JD}{i:Nat}{x y:Tm}{e:Int}
theorem UL.zero (F:JD→Tm→Except Int (Tm×JD)) (ts:List Tm) (q0:JD):UL F ts q0 0 [] q0:=by
 refine⟨O,?_⟩;simp only[List.drop_zero,Dz];cases It F q0 ts<;>simp
theorem UL.err (h:UL F ts q0 i ys q) (hx:ts[i]?=some x) (hb:F q x= .error e):It F q0 ts= .error e:=by
 rw[h.2,Cy hx,It,hb];rfl
theorem UL.succ (h:UL F ts q0 i ys q) (hx:ts[i]?=some x) (hb:F q x= .ok (y,q')):UL F ts q0 (i+1) (ys++[y]) q':=by
 refine⟨by simp[h.1],?_⟩;rw[h.2,Cy hx,It,hb];simp only[Dz];cases It F q' (ts.drop (i+1))<;>simp
theorem UL.fin (h:UL F ts q0 i ys q) (hi:ts.length≤i):It F q0 ts= .ok (ys,q):=by
 rw[h.2,List.drop_eq_nil_of_le hi,It];simp[Dz]
end
section
variable {ms:List Mv}{n:Nat}{dn:List (Int×Tm)}{op:List Int}{wk e:Int}{t v vv z h:Tm}{us ls ks:List Tm}{st1 st2:JD}
end
end Go.Eu
namespace Go.Abs
def jU {β:Type}(mkv:β→AV) (mkH:β→List BU):Ei→List BU→Prop
 | .val v,H'=>∃b,v=mkv b∧H'=mkH b
 | .panic _,_=>False
section
variable {P:Program}{ops:Array Oper}{n:Nat}{τ₀ τ:Nat→AV}{D:List Ej}{Q:DJ→B5→Prop}{opn:Nat→Bool}{k:Nat}{H:List BU}{dst:Option Tmp}{ty:TypeId}{pos:String}{aft:Array Edge}{c:Call}{f:Operand}{fid:FuncId}{first caps A:List AV}{β:Type}{mkv:β→AV}{mkH:β→List BU}
theorem ZS {r:Option Nat}(ho:ops[k]?=some ⟨dst,.call c,ty,pos,aft,none⟩) (hd:Gw dst n=true)
  (hc:c.callee= .value f) (hf:(ev τ f= .p (.fn fid)∧first=[]∧caps=[])∨ev τ f= .fn (.func fid) first caps) (h:B4 P fid A [] (jU mkv mkH)) (hA:Gc (first++c.args.toList.map (ev τ)++caps) A)
  (next:∀b,AL P r ops (k+1) ⟨n,put τ dst (mkv b),mkH b++H,D⟩ Q):AL P r ops k ⟨n,τ,H,D⟩ Q :=
 JA ho hd hc hf (Hs:=[]) (Hf:=H) Av (h.args hA) (.inl rfl) (fun v Hs' ⟨b,h1,h2⟩=>by subst h1;subst h2;exact next b) (fun _ _ h=>h.elim)
end
end Go.Abs
namespace Go.Eu
open Go.Abs
def XJ (ms:List Mv) (n:Nat) (t:Tm):Tm×Int :=
 match dY ms n ⟨[],[],0⟩ t with
 | .ok r=>(r.1,0)
 | .error e=>(Bu,e)
def sP (ms:List Mv) (n:Nat) (t:Tm):List Int×Int:=if (XJ ms n t).2≠0 then ([],(XJ ms n t).2) else (YC [] (XJ ms n t).1,0)
mutual
def TP (p:Int→Int→ByteArray→List Cl→Prop):Tm→Prop
 | .mk k i n l ks=>p k i n l∧iV p ks
def iV (p:Int→Int→ByteArray→List Cl→Prop):List Tm→Prop
 | []=>True
 | t::ts=>TP p t∧iV p ts
end
section
variable {p q:Int→Int→ByteArray→List Cl→Prop}
mutual
theorem TP.imp (h:∀k i n l,p k i n l→q k i n l):∀(t:Tm),TP p t→TP q t
 | .mk k i n l ks,ht=>⟨h _ _ _ _ ht.1,iV.imp h ks ht.2⟩
theorem iV.imp (h:∀k i n l,p k i n l→q k i n l):∀(ts:List Tm),iV p ts→iV q ts
 | [],_=>trivial
 | t::ts,ht=>⟨TP.imp h t ht.1,iV.imp h ts ht.2⟩
end
end
def sS (ms:List Mv) (D:List Int) (k i:Int) (n:ByteArray) (l:List Cl):Prop:=known ms (.mk k i n l [])=true→i∈D
abbrev KM (ms:List Mv) (D:List Int):Tm→Prop:=TP (sS ms D)
abbrev mw (ms:List Mv) (D:List Int):List Tm→Prop:=iV (sS ms D)
theorem KM.mono {ms:List Mv}{D D':List Int}(h:∀i∈D,i∈D') {t:Tm}(ht:KM ms D t):KM ms D' t:=TP.imp (fun k i n l g e=>h _ (g e)) t ht
theorem mw.mono {ms:List Mv}{D D':List Int}(h:∀i∈D,i∈D') {t:List Tm}(ht:mw ms D t):mw ms D' t:=iV.imp (fun k i n l g e=>h _ (g e)) t ht
theorem KM.head {ms:List Mv}{D:List Int}{h:Tm}(hk:known ms h=true) (ht:KM ms D h):h.index∈D:=by
 obtain⟨k,i,n,l,ks⟩:=h;exact ht.1 hk
theorem KM.kids {ms:List Mv}{D:List Int}{h:Tm}(ht:KM ms D h):mw ms D h.kids:=by
 obtain⟨k,i,n,l,ks⟩:=h;exact ht.2
inductive Ord (ms:List Mv):List Int→Prop
 | nil:Ord ms []
 | snoc {D:List Int} {i:Int}:Ord ms D→i ∉ D→KM ms D (valueOf ms i)→Ord ms (D++[i])
theorem Ord.pre {ms:List Mv}{D:List Int}(h:Ord ms D):∀i∈D,∃D',Ord ms D'∧(∀j∈D',j∈D)∧i ∉ D'∧KM ms D' (valueOf ms i):=by
 induction h with
 | nil=>intro i hi;simp at hi
 | @snoc D j h1 h2 h3 ih =>
  intro i hi;rcases List.mem_append.1 hi with hi | hi
  ·obtain⟨D',a,b,c,d⟩:=ih i hi;exact⟨D',a,fun j hj=>List.mem_append_left _ (b j hj),c,d⟩
  simp at hi;subst hi;exact⟨D,h1,fun j hj=>List.mem_append_left _ hj,h2,h3⟩
def mI:Tm→List Tm→Tm×List Tm
 | v,[]=>(v,[])
 | v,a::l=>if v.kind=5 then mI (Ce (v.kids.getD 1 Bu) [a] 0).1 l else (v,a::l)
section
variable {F F':Ev→Tm→Tm×Int×Ev}
end
def ko (st:JD):List Int:=st.dn.map Prod.fst
def p5 (ms:List Mv) (t v:Tm):Prop:=∃n ab c d,L5 ms n ab c t=(v,0,d)∧d.over=false
structure p4 (ms:List Mv) (ab:List Int) (st:JD):Prop where
 op:∀i,i∈st.op↔i∈ko st∨i∈ab
 ord:Ord ms (ko st)
 dis:∀i∈ko st,i ∉ ab
 val:∀p∈st.dn,p5 ms (valueOf ms p.1) p.2
 ok:∀p∈st.dn,Ok 4096 p.2
 w0:0≤st.wk
def pot (ms:List Mv) (B:Nat) (st:JD):Int:=st.wk+(B*free ms st.op:Nat)
structure Step (ms:List Mv) (B:Nat) (ab:List Int) (st st':JD) (s:Nat):Prop where
 inv:p4 ms ab st'
 mono:∀i∈ko st,i∈ko st'
 pot:pot ms B st'≤pot ms B st+s
theorem Step.trans {ms:List Mv}{B:Nat}{ab:List Int}{a b c:JD}{s s':Nat}(h:Step ms B ab a b s) (h':Step ms B ab b c s'):Step ms B ab a c (s+s') :=
 ⟨h'.inv,fun i hi=>h'.mono i (h.mono i hi),by have:=h.pot;have:=h'.pot;omega⟩
theorem Step.le {ms:List Mv}{B:Nat}{ab:List Int}{a b:JD}{s s':Nat}(h:Step ms B ab a b s) (hs:s≤s'):Step ms B ab a b s':=⟨h.inv,h.mono,by have:=h.pot;omega⟩
def tE (ms:List Mv) (B:Nat) (ab:List Int) (t:Tm) (s:Nat) (st:JD) (F:Tm×Int×Ev) (G:Except Int (Tm×JD)):Prop :=
 (F.2.1=0∧∃st',G= .ok (F.1,st')∧Step ms B ab st st' s∧KM ms (ko st') t)∨(F.2.1=22∧F.1=Bu∧G= .error 22)
def tG (ms:List Mv) (B:Nat) (ab:List Int) (ts:List Tm) (st:JD) (F:List Tm×Int×Ev) (G:Except Int (List Tm×JD)):Prop :=
 (F.2.1=0∧∃st',G= .ok (F.1,st')∧Step ms B ab st st' (Bl ts)∧mw ms (ko st') ts)∨(F.2.1=22∧G= .error 22)
def sq (m:Nat) (k i:Int) (n:ByteArray) (l:List Cl):Prop:=k=12→0≤i∧i<(m:Int)
def pZ (ms:List Mv) (k i:Int) (n:ByteArray) (l:List Cl):Prop:=(k=12→0≤i∧i<(ms.length:Int)∧known ms (.mk k i n l [])=false)∧(k=4→i=0∧n=⟨#[]⟩∧l=[])
def s7 (ms:List Mv) (B:Nat) (F:JD→Tm→Except Int (Tm×JD)):Prop:=∀st t r,Ok B t→rn ms st→TP (sq ms.length) t→(∀p∈st.dn,TP (pZ ms) p.2)→F st t= .ok r→TP (pZ ms) r.1∧∀p∈r.2.dn,TP (pZ ms) p.2
def r9 (ms:List Mv) (F:JD→Tm→Except Int (Tm×JD)):Prop:=∀st t,TP (pZ ms) t→F st t= .error 11∨∃st',F st t= .ok (t,st')
def si (F:JD→Tm→Except Int (Tm×JD)):Prop:=∀st t e,F st t= .error e→e=11∨e=22
abbrev wide:Nat:=9223372036854775808
structure ll (l:Cl):Prop where
 vars:l.vars.length<wide
 c:I3 l.const
 v:∀v∈l.vars,I3 v.index∧I3 v.plus
mutual
def Wd:Tm→Prop
 | .mk k i n ls ks=>n.size<wide∧ls.length<wide∧(∀l∈ls,ll l)∧ks.length<wide∧im ks∧I3 k∧I3 i
def im:List Tm→Prop
 | []=>True
 | t::ts=>Wd t∧im ts
end
theorem QJ:∀{ts:List Tm}{i:Nat}{t:Tm},im ts→ts[i]?=some t→Wd t
 | [],i,t,_,h=>by simp at h
 | a::ts,0,t,hn,h=>by simp at h;subst h;exact hn.1
 | a::ts,i+1,t,hn,h=>by simp at h;exact QJ hn.2 h
mutual
def Fw:Tm→Prop
 | .mk k i n ls ks=>n.size≤200∧ls.length≤20∧(∀l∈ls,l.vars.length≤20)∧m5 ks
def m5:List Tm→Prop
 | []=>True
 | t::ts=>Fw t∧m5 ts
end
theorem dk:∀{ts:List Tm},(∀t∈ts,Fw t)→m5 ts
 | [],_=>trivial
 | t::ts,h=>⟨h t Av,dk fun x hx=>h x (by simp[hx])⟩
def Zu:Tm→Prop
 | .mk k i n ls ks=>n.size≤200∧ls.length≤20∧(∀l∈ls,l.vars.length≤20)∧Bl ks≤200∧Lo ks∧m5 ks
theorem kZ {t:Tm}(h:Wd t) (hf:Zu t):Nd t:=by
 obtain⟨k,i,n,ls,ks⟩:=t;obtain⟨h1,h2,h3,h4,h5⟩:=hf;have:=JC ks;exact⟨by simp only[Dt];omega,by simp only[Dt];omega,fun l hl=>⟨by have:=h3 l hl;simp only[Dt];omega,(h.2.2.1 l hl).c,(h.2.2.1 l hl).v⟩,by simp only[Dt];omega,h5.1,h.2.2.2.2.2⟩
mutual
theorem PI:∀(t:Tm) (most:Int),-1152921504606846976≤most→most≤1152921504606846976→(size t:Int)≤1152921504606846976→0≤E4 t most∧E4 t most<size t∧(E4 t most≤most→E4 t most+1=size t)
 | .mk k i n l ks,most,h1,h2,h3=>by
  simp only[size] at h3 ⊢;unfold E4;have:=Oy ks most 0 h1 h2 Au Au;exact⟨this.1,by omega,fun h=>by have:=this.2.2 h;omega⟩
theorem Oy:∀(ts:List Tm) (most n:Int),-1152921504606846976≤most→most≤1152921504606846976→0≤n→n+Bl ts≤1152921504606846976→n≤Em ts most n∧Em ts most n≤n+Bl ts∧(Em ts most n≤most→Em ts most n=n+Bl ts)
 | [],most,n,h1,h2,h3,h4=>by simp[Em,Bl]
 | t::ts,most,n,h1,h2,h3,h4=>by
  simp only[Bl] at h4 ⊢;have hp:=size_pos t;unfold Em;by_cases hm:n > most
  ·rw[if_pos hm];exact⟨by omega,by omega,by omega⟩
  rw[if_neg hm];have e1:wr (most - n)=most - n:=Er ⟨by omega,by omega⟩;have hT:=PI t (most - n) Au Au Au;rw[e1];have e2:wr (1+E4 t (most - n))=1+E4 t (most - n):=Er ⟨by omega,by omega⟩;rw[e2];have e3:wr (n+(1+E4 t (most - n)))=n+(1+E4 t (most - n)):=Er ⟨by omega,by omega⟩;rw[e3];have hL:=Oy ts most (n+(1+E4 t (most - n))) h1 h2 Au Au;refine⟨by omega,by omega,fun h=>?_⟩;have:=hL.2.2 h;have:=hT.2.2 Au;omega
end
theorem dN {t:Tm}(h:Zu t):size t≤201:=by
 obtain⟨k,i,n,ls,ks⟩:=t;have:=h.2.2.2.1;simp only[size];omega
theorem Td:∀(ts:List Tm) (most n:Int),0≤most→most≤1000→0≤n→n≤3000→(∀t∈ts,size t≤201)→n≤Em ts most n
 | [],most,n,h1,h2,h3,h4,hs=>by simp[Em]
 | t::ts,most,n,h1,h2,h3,h4,hs=>by
  have ht:=hs t Av;unfold Em;by_cases hm:n > most
  ·rw[if_pos hm];omega
  rw[if_neg hm];have e1:wr (most - n)=most - n:=Er ⟨by omega,by omega⟩;have hT:=PI t (most - n) Au Au Au;rw[e1];have e2:wr (1+E4 t (most - n))=1+E4 t (most - n):=Er ⟨by omega,by omega⟩;rw[e2];have e3:wr (n+(1+E4 t (most - n)))=n+(1+E4 t (most - n)):=Er ⟨by omega,by omega⟩;rw[e3];have hge:=Td ts most (n+(1+E4 t (most - n))) h1 h2 Au Au (fun x hx=>hs x (by simp[hx]));omega
theorem T4:∀(ts:List Tm) (most n:Int),0≤most→most≤1000→0≤n→n≤3000→(∀t∈ts,size t≤201)→Em ts most n≤most→Em ts most n=n+Bl ts
 | [],most,n,h1,h2,h3,h4,hs,h=>by simp[Em,Bl]
 | t::ts,most,n,h1,h2,h3,h4,hs,h=>by
  have ht:=hs t Av;simp only[Bl];unfold Em at h ⊢;by_cases hm:n > most
  ·rw[if_pos hm] at h;omega
  rw[if_neg hm] at h ⊢;have e1:wr (most - n)=most - n:=Er ⟨by omega,by omega⟩;have hT:=PI t (most - n) Au Au Au;rw[e1] at h ⊢;have e2:wr (1+E4 t (most - n))=1+E4 t (most - n):=Er ⟨by omega,by omega⟩;rw[e2] at h ⊢;have e3:wr (n+(1+E4 t (most - n)))=n+(1+E4 t (most - n)):=Er ⟨by omega,by omega⟩;rw[e3] at h ⊢;have hL:=T4 ts most (n+(1+E4 t (most - n))) h1 h2 Au Au (fun x hx=>hs x (by simp[hx])) h;have hge:=Td ts most (n+(1+E4 t (most - n))) h1 h2 Au Au (fun x hx=>hs x (by simp[hx]));have:=hT.2.2 Au;omega
structure XQ (l:List Tm):Prop where
 sz:Bl l≤200
 nd:Lo l
 fw:m5 l
theorem iC {l:List Tm}{m:Nat}(hm:l.length≤m) (hw:im l) (hl:l.length<wide) (h:Em l 200 0≤200) (hc:∀j,j<m→∀t,l[j]?=some t→Zu t):XQ l:=by
 have hf:∀t∈l,Zu t:=fun t ht=>by
  obtain⟨i,hi⟩:=LQ ht;exact hc i (by have:=(List.getElem?_eq_some_iff.1 hi).1;omega) t hi
 have:=T4 l 200 0 Au Au Au Au (fun t ht=>dN (hf t ht)) h;exact⟨by omega,XU fun t ht=>by
  obtain⟨i,hi⟩:=LQ ht;exact kZ (QJ hw hi) (hf t ht),dk fun t ht=>by
  obtain⟨k,i,n,ls,ks⟩:=t;have h5:=hf _ ht;exact⟨h5.1,h5.2.1,h5.2.2.1,h5.2.2.2.2.2⟩⟩
theorem Ve {l:List Tm}{m:Int}(hf:XQ l) (hm:0≤m∧m≤1000) (h:Em l m 0≤m):(Bl l:Int)≤m:=by
 have:=hf.sz;have:=(Oy l m 0 Au Au Au Au).2.2 h;omega
structure oR (m:Nat) (x:Mv):Prop where
 n1:Nd x.type
 n2:Nd x.value
 sz:size x.type+size x.value≤40
 w1:wf 0 m 0 x.type
 w2:x.known=true→wf 0 m 0 x.value
 w3:x.known=false→x.value=Bu
structure sE (l:List Mv):Prop where
 len:l.length≤8
 all:∀m∈l,oR l.length m
structure rV (m:Nat) (ctx terms:List Tm):Prop where
 len:ctx.length≤6
 s1:Bl ctx≤60
 s2:Bl terms≤60
 n1:Lo ctx
 n2:Lo terms
 w2:∀t∈terms,wf ctx.length m 0 t
 w1:∀(i:Nat) (t:Tm),ctx[i]?=some t→wf i m 0 t
structure ta (x:Mv):Prop where
 w1:Wd x.type
 w2:Wd x.value
theorem Ok.mono {B B':Nat}{t:Tm}(h:Ok B t) (hb:B≤B'):Ok B' t:=⟨h.nd,h.vp,h.wt,Nat.le_trans h.sz hb⟩
end Go.Eu
