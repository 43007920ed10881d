/- Part of the proofs: an abstract program logic, plain models and contracts of functions. -/
import Derived.Test.YtboammbpdaoojaaGreatPa
import Derived.MapKept
set_option linter.unusedVariables false
set_option linter.unusedSimpArgs false
namespace Go.Abs
section
variable {P:Program}{ops:Array Oper}{n:Nat}{τ₀:Nat→AV}{D:List Ee}{Q:DC→B5→Prop}{opn:Nat→Bool}{k:Nat}{τ:Nat→AV}{H:List BR}{rd:XW}{ef:Va}{effs:List Bool}{fx:List (Nat×Sp)}{dst:Option Tmp}{op:Op}{ty:TypeId}{pos:String}{aft:Array Edge}{v:AV}{H':List BR}
theorem GA {cs:List AV}(fx':List (Nat×Sp)) (ho:ops[k]?=some ⟨dst,op,ty,pos,aft,none⟩) (hn:opn k=true) (h:Dd P ⟨dst,op,ty,pos,aft,none⟩ (ev τ) H (Iw cs H)) (haft:FW ops k (fx'.map (·.1))=true)
  (next:∀b,Ke ops k H (.box b cs::H) rd∧Hp k (.eff (.ptr b 0) (.box b cs::H)) fx∧Dr P ops n τ₀ D Q opn (k+1) (put τ dst (.ptr b 0)) (.box b cs::H) rd ((k,H,.box b cs::H)::ef) (true::effs) (fx'++fx)):Dr P ops n τ₀ D Q opn k τ H rd ef effs fx :=
 N3 fx' ho hn h haft ⟨_,_,0,rfl,rfl⟩ (fun _ _ h=>h.elim) (fun v H' ⟨b,h1,h2⟩=>by subst h1;subst h2;exact next b)
theorem JZ {i sz:Nat}{rows:List (List PV)}(fx':List (Nat×Sp)) (ho:ops[k]?=some ⟨dst,op,ty,pos,aft,none⟩) (hn:opn k=true) (h:Dd P ⟨dst,op,ty,pos,aft,none⟩ (ev τ) H (OW i sz rows H)) (haft:FW ops k (fx'.map (·.1))=true)
  (next:∀o c,Ke ops k H (H.set i (.vec o sz rows c)) rd∧Hp k (.eff (.vs o rows.length c) (H.set i (.vec o sz rows c))) fx∧Dr P ops n τ₀ D Q opn (k+1) (put τ dst (.vs o rows.length c)) (H.set i (.vec o sz rows c)) rd ((k,H,H.set i (.vec o sz rows c))::ef) (true::effs) (fx'++fx)):Dr P ops n τ₀ D Q opn k τ H rd ef effs fx :=
 N3 fx' ho hn h haft ⟨_,_,none,0,rfl,rfl⟩ (fun _ _ h=>h.elim) (fun v H' ⟨o,c,h1,h2⟩=>by subst h1;subst h2;exact next o c)
def Gj (v:AV) (H':List BR):Eg→List BR→Prop
 | .val v',H''=>v'=v∧H''=H'
 | .panic _,_=>False
theorem js {c:Call}{g:Option (Nat×Bool)}{f:Operand}{fid:FuncId}{first caps:List AV}{ρ:Operand→AV}{Hs Hf Hs':List BR}{A:List AV}
  (hc:c.callee= .value f) (hf:(ρ f= .p (.fn fid)∧first=[]∧caps=[])∨ρ f= .fn (.func fid) first caps) (hp:H.Perm (Hs++Hf)) (h:B2 P fid A Hs (Gj v Hs')) (hA:first++c.args.toList.map ρ++caps=A∨(first++c.args.toList.map ρ++caps).map norm=A) :
  D4 P ⟨dst,.call c,ty,pos,aft,g⟩ ρ H v (Hs'++Hf):=by
 refine(GV (H:=H) hc hf hp h hA).mono ?_;rintro r H' ⟨Hs',h1,rfl⟩;cases r with
 | val v'=>obtain⟨rfl,rfl⟩:=h1;exact⟨rfl,rfl⟩
 | panic v'=>exact h1
end
def J8 (k:Int):List (Int×AV)→Option AV
 | []=>none
 | (j,x)::r=>if j=k then some x else J8 k r
def Nf (k:Int) (v:AV):List (Int×AV)→List (Int×AV)
 | []=>[(k,v)]
 | (j,x)::r=>if j=k then (j,v)::r else (j,x)::Nf k v r
def Ea (l:List (Int×AV)):List (PV×AV):=l.map fun p=>(.int .i64 p.1,p.2)
def mapOf (P:Program) (T:TypeId):Option TypeId :=
 match P.underlying T with
 | some (.map k e)=>match P.underlying k with
  | some (.int .i64)=>some e
  | _=>none
 | _=>none
theorem Na {P:Program}{T e:TypeId}(h:mapOf P T=some e):∃k,P.underlying T=some (.map k e)∧P.underlying k=some (.int .i64):=by
 unfold mapOf at h;split at h
 ·rename_i k e' hu;split at h
  ·rename_i hk;injection h with h;subst h;exact⟨k,hu,hk⟩
  cases h
 cases h
section
variable {F:Nat→Prop}{w:World}
theorem OB {k:Int}:∀{l:List (Int×AV)}{es:List MapEntry}(i:Nat),Dz F w (Ea l) es →
  (J8 k l=none∧Instr.findNow (.int .i64) (.int .i64 k) es i=some none)∨∃j e x,J8 k l=some x∧Instr.findNow (.int .i64) (.int .i64 k) es i=some (some (i+j,e.val))∧es[j]?=some e∧e.key= .int .i64 k∧CW F w x e.val
 | [],es,i,h=>by simp only[Ea,List.map_nil,Dz] at h;subst h;exact .inl ⟨rfl,rfl⟩
 | (j,x)::l,es,i,h=>by
  simp only[Ea,List.map_cons,Dz] at h;obtain⟨e,es',rfl,hk,hx,hr⟩:=h;simp only[Cb] at hk;by_cases hj:j=k
  ·subst hj;exact .inr ⟨0,e,x,by simp[J8],by simp[Instr.findNow,hk,Instr.sameNow],rfl,hk,hx⟩
  have hne:(k==j)=false:=by simp[Ne.symm hj]
  rcases OB (k:=k) (i+1) hr with ⟨h1,h2⟩ | ⟨q,e',x',h1,h2,h3,h4,h5⟩
  ·exact .inl ⟨by simp[J8,hj,h1],by simp[Instr.findNow,hk,Instr.sameNow,hne,h2]⟩
  exact .inr ⟨q+1,e',x',by simp[J8,hj,h1],by simp[Instr.findNow,hk,Instr.sameNow,hne,h2];omega,by simpa using h3,h4,h5⟩
theorem V2 {k:Int}:∀{l:List (Int×AV)}{es:List MapEntry},Dz F w (Ea l) es→J8 k l=none→∀x∈es,x.key≠ .int .i64 k
 | [],es,h,_=>by
  simp only[Ea,List.map_nil,Dz] at h;subst h;simp
 | (j,v)::l,es,h,hm=>by
  simp only[Ea,List.map_cons,Dz] at h;obtain⟨e,es',rfl,hk,hv,hr⟩:=h;simp only[J8] at hm;split at hm
  ·cases hm
  rename_i q;intro x hx;rcases List.mem_cons.1 hx with rfl | hx
  ·simp only[Cb] at hk;rw[hk];intro e;injection e with _ e2;exact q e2
  exact V2 hr hm x hx
theorem WS {k:Int}{v:AV}{u:Value}{c:Nat}:∀{l:List (Int×AV)}{es:List MapEntry},Dz F w (Ea l) es→J8 k l=none→CW F w v u→Dz F w (Ea (Nf k v l)) (es++[{ key:= .int .i64 k,val:=u,born:=c }])
 | [],es,h,_,hv=>by
  simp only[Ea,List.map_nil,Dz] at h;subst h;simp only[Nf,Ea,List.map_cons,List.map_nil,List.nil_append,Dz];exact⟨_,[],O,by simp[Cb],hv,rfl⟩
 | (j,x)::l,es,h,hm,hv=>by
  simp only[Ea,List.map_cons,Dz] at h;obtain⟨e,es',rfl,hk,hx,hr⟩:=h;by_cases hj:j=k
  ·simp[J8,hj] at hm
  simp only[J8,if_neg hj] at hm;simp only[Nf,if_neg hj,Ea,List.map_cons,List.cons_append,Dz];exact⟨e,_,O,hk,hx,WS hr hm hv⟩
theorem Yz {k:Int}{v:AV}{u:Value}:∀{l:List (Int×AV)}{es:List MapEntry}{j:Nat}(i:Nat) {y:Value},Dz F w (Ea l) es→Instr.findNow (.int .i64) (.int .i64 k) es i=some (some (i+j,y))→CW F w v u→Dz F w (Ea (Nf k v l)) (es.modify j fun e=>{ e with key:= .int .i64 k,val:=u })
 | [],es,j,i,y,h,hf,_=>by simp only[Ea,List.map_nil,Dz] at h;subst h;simp[Instr.findNow] at hf
 | (q,x)::l,es,j,i,y,h,hf,hv=>by
  simp only[Ea,List.map_cons,Dz] at h;obtain⟨e,es',rfl,hk,hx,hr⟩:=h;simp only[Cb] at hk;by_cases hj:q=k
  ·subst hj;simp[Instr.findNow,hk,Instr.sameNow] at hf;obtain⟨rfl,_⟩:j=0∧True:=⟨by omega,trivial⟩;simp only[Nf,if_true,Ea,List.map_cons,Dz];exact⟨_,es',O,by simp[Cb],hv,hr⟩
  have hne:(k==q)=false:=by simp[Ne.symm hj]
  simp only[Instr.findNow,hk,Instr.sameNow,if_true,hne] at hf;cases j with
  | zero =>
   have:∀(es:List MapEntry) (m:Nat) (y:Value) (r:Nat),Instr.findNow (.int .i64) (.int .i64 k) es m=some (some (r,y))→m≤r:=by
    intro es
    induction es with
    | nil=>intro m y r h;simp[Instr.findNow] at h
    | cons e es ih =>
     intro m y r h;simp only[Instr.findNow] at h;split at h
     ·simp at h;omega
     ·have:=ih _ _ _ h;omega
     cases h
   have:=this _ _ _ _ hf;omega
  | succ j =>
   simp only[Nf,if_neg hj,Ea,List.map_cons,List.modify_succ_cons,Dz];exact⟨e,_,O,by simpa [Cb] using hk,hx,Yz (i+1) hr (by rw[show i+1+j=i+(j+1) by omega];exact hf) hv⟩
end
section
variable {P:Program}{dst:Option Tmp}{ty:TypeId}{pos:String}{aft:Array Edge}{g:Option (Nat×Bool)}{ρ:Operand→AV}{H:List BR}{x y z:Operand}{v:AV}
def eV (H:List BR):Eg→List BR→Prop
 | .val v,H'=>∃b,v= .map b∧H'= .map b (Ea [])::H
 | .panic _,_=>False
theorem Vm {T:TypeId}:Dd P ⟨dst,.makeMap T none,ty,pos,aft,g⟩ ρ H (eV H) :=
 Hc fun F w E hH hE=>by
  refine⟨.map (some w.heap.size),World.push w (.map #[] 0),.map w.heap.size,.map w.heap.size (Ea [])::H,_,?_,⟨_,O,O⟩,NW H _ _ (.inl O),PS hH _ _ O ?_,by simp[CW]⟩
  ·simp[execOp,Instr.makeMap,Sem.run_bind];rfl
  exact⟨#[],0,L5 _,MapKept.stamped_empty _,O⟩
theorem Xi {T e : TypeId} {b i : Nat} {l : List (Int × AV)} {k : Int} {zv : Value} {za : AV} (hT : mapOf P T = some e) (hz : zeroOf P e = some zv) (hza : ∀ F w, CW F w za zv) (hx : ρ x = .map b) (hy : ρ y = .p (.int .i64 k)) (hi : H[i]? = some (.map b (Ea l))) :
  D4 P ⟨dst, .lookup T x y false, ty, pos, aft, g⟩ ρ H ((J8 k l).getD za) H :=
 Ce fun F w E hH hE => by
  obtain ⟨kt, hu, hk⟩ := Na hT
  have h1 := hE x Aj
  have h2 := hE y Aj
  rw [hx] at h1
  rw [hy] at h2
  simp only [CW, Cb] at h1 h2
  obtain ⟨es, clk, hb, hs0, hr⟩ := hH.obj _ (List.mem_of_getElem? hi)
  have hzv : (zeroValue e).run P w = .ok zv w := by
   unfold zeroOf at hz
   cases hi : P.info? e with
   | none => simp [hi] at hz
   | some i => have hz' : i.zero = some zv := by simpa [hi] using hz
               simp [zeroValue, typeInfo, hi, hz', Sem.run_bind]
  have hkey : MapKept.IsKey (.int .i64) (.int .i64 k) := rfl
  rcases OB (k := k) 0 hr with ⟨h3, h4⟩ | ⟨j, e', x', h3, h4, h5, h6, h7⟩
  ·refine ⟨zv, ?_, by rw [h3]; exact hza F w⟩
   simp [execOp, Instr.lookup, Sem.run_bind, run_underlying hu, h1, h2, MapKept.run_getObj_map hb, MapKept.run_checkKey hk hkey, MapKept.run_findKey hk h4, hzv]
  refine ⟨e'.val, ?_, by rw [h3]; exact h7⟩
  simp [execOp, Instr.lookup, Sem.run_bind, run_underlying hu, h1, h2, MapKept.run_getObj_map hb, MapKept.run_checkKey hk hkey, MapKept.run_findKey hk h4]
theorem VP {T e : TypeId} {b i : Nat} {l : List (Int × AV)} {k : Int} {zv : Value} {za : AV} (hT : mapOf P T = some e) (hz : zeroOf P e = some zv) (hza : ∀ F w, CW F w za zv) (hx : ρ x = .map b) (hy : ρ y = .p (.int .i64 k)) (hi : H[i]? = some (.map b (Ea l))) :
  D4 P ⟨dst, .lookup T x y true, ty, pos, aft, g⟩ ρ H (.tup [(J8 k l).getD za, .p (.bool (J8 k l).isSome)]) H :=
 Ce fun F w E hH hE => by
  obtain ⟨kt, hu, hk⟩ := Na hT
  have h1 := hE x Aj
  have h2 := hE y Aj
  rw [hx] at h1
  rw [hy] at h2
  simp only [CW, Cb] at h1 h2
  obtain ⟨es, clk, hb, hs0, hr⟩ := hH.obj _ (List.mem_of_getElem? hi)
  have hzv : (zeroValue e).run P w = .ok zv w := by
   unfold zeroOf at hz
   cases hi : P.info? e with
   | none => simp [hi] at hz
   | some i => have hz' : i.zero = some zv := by simpa [hi] using hz
               simp [zeroValue, typeInfo, hi, hz', Sem.run_bind]
  have hkey : MapKept.IsKey (.int .i64) (.int .i64 k) := rfl
  rcases OB (k := k) 0 hr with ⟨h3, h4⟩ | ⟨j, e', x', h3, h4, h5, h6, h7⟩
  ·refine ⟨.tuple #[zv, .bool false], ?_, ?_⟩
   ·simp [execOp, Instr.lookup, Sem.run_bind, run_underlying hu, h1, h2, MapKept.run_getObj_map hb, MapKept.run_checkKey hk hkey, MapKept.run_findKey hk h4, hzv]
   simp only [h3, CW, CB, Cb]
   exact ⟨[zv, .bool false], O, _, _, O, hza F w, _, _, O, O, O⟩
  refine ⟨.tuple #[e'.val, .bool true], ?_, ?_⟩
  ·simp [execOp, Instr.lookup, Sem.run_bind, run_underlying hu, h1, h2, MapKept.run_getObj_map hb, MapKept.run_checkKey hk hkey, MapKept.run_findKey hk h4]
  simp only [h3, CW, CB, Cb]
  exact ⟨[e'.val, .bool true], O, _, _, O, h7, _, _, O, O, O⟩
theorem Sq {T e:TypeId}{b i:Nat}{l:List (Int×AV)}{k:Int}{va:AV}(hT:mapOf P T=some e) (hx:ρ x= .map b) (hy:ρ y= .p (.int .i64 k)) (hz:ρ z=va) (hi:H[i]?=some (.map b (Ea l))) :
  D4 P ⟨dst,.mapUpdate T x y z,ty,pos,aft,g⟩ ρ H (.p .any) (H.set i (.map b (Ea (Nf k va l)))) :=
 (IS (R:=rF (.p .any) (H.set i (.map b (Ea (Nf k va l))))) fun F w E hH hE=>by
  obtain⟨kt,hu,hk⟩:=Na hT;have h1:=hE x Aj;have h2:=hE y Aj;have h0:=hE z Aj;rw[hx] at h1;rw[hy] at h2;rw[hz] at h0;simp only[CW,Cb] at h1 h2;obtain⟨es,clk,hb,hs0,hr⟩:=hH.obj _ (List.mem_of_getElem? hi);have hFb:F b:=hH.sub _ (List.mem_of_getElem? hi) b rfl;have hlt:=hH.bd b hFb;have hkey:MapKept.IsKey (.int .i64) (.int .i64 k):=rfl;have fin:∀(es':Array MapEntry) (clk':Nat),MapKept.Stamped es' clk'→Dz F w (Ea (Nf k va l)) es'.toList→Trans F H w F (H.set i (.map b (Ea (Nf k va l)))) { w with heap:=w.heap.setIfInBounds b (.map es' clk') }∧HRel F (H.set i (.map b (Ea (Nf k va l)))) { w with heap:=w.heap.setIfInBounds b (.map es' clk') }:=by
   intro es' clk' hs' hr';have hw:H5 b (.map es' clk') w { w with heap:=w.heap.setIfInBounds b (.map es' clk') }:=⟨rfl,rfl,rfl,rfl⟩;have st:=hw.stable hFb;exact⟨hw.trans hi O O,hw.HRel hH hi O O ⟨es',clk',hw.self hlt,hs',Dz.mono st _ _ hr'⟩⟩
  rcases OB (k:=k) 0 hr with ⟨h3,h4⟩ | ⟨j,e',x',h3,h4,h5,h6,h7⟩
  ·have hr':=WS (c:=clk) hr h3 h0;obtain⟨f1,f2⟩:=fin (es.push { key:= .int .i64 k,val:=E z,born:=clk }) (clk+1) (MapKept.stamped_push hs0 (V2 hr h3)) (by simpa using hr');refine⟨_,_,F,?_,⟨O,O⟩,f1,f2⟩;simp[execOp,Instr.mapUpdate,Sem.run_bind,run_underlying hu,h1,h2,MapKept.run_getObj_map hb,MapKept.run_checkKey hk hkey,MapKept.run_findKey hk h4,MapKept.run_setObj_map _ hb]
  have hr':=Yz (v:=va) (u:=E z) 0 hr h4 h0;obtain⟨f1,f2⟩:=fin (es.modify j fun e=>{ e with key:= .int .i64 k,val:=E z }) clk (MapKept.stamped_modify hs0 j _ (fun _ _=>rfl) (fun e _ he=>by rw[show es[j]?=some e' by simpa using h5] at he;cases he;exact h6.symm)) (by simpa using hr');refine⟨_,_,F,?_,⟨O,O⟩,f1,f2⟩;have h5':es[j]?=some e':=by simpa using h5
  simp[execOp,Instr.mapUpdate,Sem.run_bind,run_underlying hu,h1,h2,MapKept.run_getObj_map hb,MapKept.run_checkKey hk hkey,MapKept.run_findKey hk h4,MapKept.run_setObj_map _ hb,h5',h6,Instr.keyThatStays,Instr.sameBits])
theorem II {T:TypeId}{d:TypeDesc}{a b:Value}{c:Bool}{w:World}(hu:P.underlying T=some d) (h:(match d,a,b with
  | .bool,.bool x,.bool y=>some (x==y)
  | .interface _,.nilIface,.nilIface=>some true
  | .interface _,.iface _ _,.nilIface=>some false
  | .slice _,.slice none _ _,.slice none _ _=>some true
  | .slice _,.slice (some _) _ _,.slice none _ _=>some false
  | _,_,_=>none)=some c):(Op.equal T a b).run P w= .ok c w:=by
 unfold Op.equal;rw[show Op.maxDepth=9999+1 from rfl];unfold Op.equalIn;simp only[Sem.run_bind,run_underlying hu,Result.andThen_ok];split at h<;>simp_all
theorem SA {a b:Bool}{T U:TypeId}(hu:P.underlying T=some .bool) (hx:ρ x= .p (.bool a)) (hy:ρ y= .p (.bool b)):D4 P ⟨dst,.binOp .eql T x y U,ty,pos,aft,g⟩ ρ H (.p (.bool (a==b))) H :=
 Ce fun F w E hH hE=>by
  have e1:=hE x Aj;have e2:=hE y Aj;rw[hx] at e1;rw[hy] at e2;simp only[CW,Cb] at e1 e2;refine⟨.bool (a==b),?_,by simp[CW,Cb]⟩;have hg:(eqGuard .eql T x y (.bool a) (.bool b)).run P w= .ok () w:=by unfold eqGuard;rfl
  have hq:(Op.equal T (.bool a) (.bool b)).run P w= .ok (a==b) w:=II hu rfl;simp[execOp,Sem.run_bind,hg,e1,e2,binOp,hq]
theorem HV {T U:TypeId}{ms:Array (String×TypeId)}{X:PV}{b:Bool}(hu:P.underlying T=some (.interface ms)) (hx:ρ x= .p X) (hy:ρ (.const .nilIface)= .p .nilIface) (hX:(match X with | .nilIface=>some false | .iface _ _=>some true | _=>none)=some b):D4 P ⟨dst,.binOp .neq T x (.const .nilIface) U,ty,pos,aft,g⟩ ρ H (.p (.bool b)) H :=
 Ce fun F w E hH hE=>by
  have e2:=hE (.const .nilIface) Aj;rw[hy] at e2;simp only[CW,Cb] at e2;have e1:=hE x Aj;rw[hx] at e1;have hg:∀a,(eqGuard .neq T x (.const .nilIface) a .nilIface).run P w= .ok () w:=by
   intro a;unfold eqGuard;cases a<;>simp<;>rfl
  refine⟨.bool b,?_,by simp[CW,Cb]⟩;cases X with
  | nilIface =>
   simp at hX;subst hX;simp only[CW,Cb] at e1;have hq:(Op.equal T .nilIface .nilIface).run P w= .ok true w:=II hu rfl;simp[execOp,Sem.run_bind,hg,e1,e2,binOp,hq]
  | iface t c =>
   simp at hX;subst hX;simp only[CW,Cb] at e1;obtain⟨u,e1,_⟩:=e1;have hq:(Op.equal T (.iface t u) .nilIface).run P w= .ok false w:=II hu rfl;simp[execOp,Sem.run_bind,hg,e1,e2,binOp,hq]
  | _=>simp at hX
theorem Sw {T e:TypeId}{len sz b o:Nat}{k:IntKind}{i:Int}{inf:TypeInfo}(hu:P.underlying T=some (.array len e)) (hj:P.info? e=some inf) (hs:inf.size=sz) (hx:ρ x= .ptr b o) (hy:ρ y= .p (.int k i)) (h0:0≤i) (hn:i<len) :
  D4 P ⟨dst,.indexAddr T x y,ty,pos,aft,g⟩ ρ H (.ptr b (o+i.toNat*sz)) H :=
 Ce fun F w E hH hE=>by
  have h1:=hE x Aj;have h2:=hE y Aj;rw[hx] at h1;rw[hy] at h2;simp only[CW,Cb] at h1 h2;refine⟨.pointer (some ⟨b,o+i.toNat*sz,none⟩),?_,by simp[CW]⟩;simp[execOp,Instr.indexAt,Sem.run_bind,run_underlying hu,h1,h2,asIntOf,h0,hn,sizeOf,typeInfo,hj,hs,Addr.add_mid,Instr.sureAddr,asAddr]
theorem Sf {T e:TypeId}{len:Nat}{parts:Array (Nat×Operand)}{z:Value}{cs:List AV}{inf:TypeInfo}(hu:P.underlying T=some (.array len e)) (hj:P.info? e=some inf) (hz:zeroOf P T=some z)
  (hc:F3 (fun i=>some (i*inf.size,inf.size)) (z.cells.toList.map G4) (parts.toList.map fun p=>(p.1,ρ p.2))=some cs):D4 P ⟨dst,.build T parts,ty,pos,aft,g⟩ ρ H (.agg cs) H :=
 Ce fun F w E hH hE=>by
  unfold zeroOf at hz;cases hi:P.info? T with
  | none=>simp[hi] at hz
  | some i =>
   have hz':i.zero=some z:=by simpa [hi] using hz
   have hzv:(zeroValue T).run P w= .ok z w:=by simp[zeroValue,typeInfo,hi,hz',Sem.run_bind]
   have hsz:(sizeOf e).run P w= .ok inf.size w:=by simp[sizeOf,typeInfo,hj]
   obtain⟨us,hf,hr⟩:=Ji (F:=F) (w:=w) (place:=(fun i=>some (i*inf.size,inf.size))) _ (parts.toList.map fun p=>(p.1,E p.2)) _ z.cells.toList _ Ay (by
    intro j p q h1 h2;simp only[List.getElem?_map] at h1 h2;cases hj:parts.toList[j]? with
    | none=>simp[hj] at h1
    | some t =>
     simp[hj] at h1 h2;subst h1;subst h2;exact⟨O,hE _ (by
      have:=List.mem_of_getElem? hj;simp only[Op.operands];exact List.mem_map.2 ⟨t,this,O⟩)⟩) (HS _) hc
   refine⟨.agg ⟨us⟩,?_,by simp only[CW];exact⟨us,rfl,hr⟩⟩;simp only[execOp,Instr.build,Sem.run_bind,hzv,Result.andThen_ok,run_underlying hu,hsz];have hf':Instr.fill (fun i=>some (i*inf.size,inf.size)) z.cells (parts.toList.map fun p=>(p.1,E p.2))=some ⟨us⟩:=hf;simp[hf']
theorem Us {T U:TypeId}{e:TypeId}{rows:List (List PV)}(hu:P.underlying T=some (.slice e)) (hx:ρ x= .p (.lst rows)) (hy:ρ y= .p .nils):Dd P ⟨dst,.binOp .eql T x y U,ty,pos,aft,g⟩ ρ H (fun r H'=>match r with | .val v=>(∃b,v= .p (.bool b)∧(b=true→rows=[]))∧H'=H | .panic _=>False) :=
 Hc fun F w E hH hE=>by
  have e1:=hE x Aj;have e2:=hE y Aj;rw[hx] at e1;rw[hy] at e2;simp only[CW,Cb] at e1 e2;have hg:∀o n c,(eqGuard .eql T x y (.slice o n c) (.slice none 0 0)).run P w= .ok () w:=by intro o n c;unfold eqGuard;rfl
  have key:∃b,(execOp E ⟨dst,.binOp .eql T x y U,ty,pos,aft,g⟩).run P w= .ok (.value (.bool b)) w∧(b=true→rows=[]):=by
   rcases e1 with ⟨rfl,o,c,h1⟩ | ⟨bb,o,c,sz,h1,_⟩
   ·cases o with
    | none =>
     have hq:(Op.equal T (.slice none 0 c) (.slice none 0 0)).run P w= .ok true w:=II hu rfl;exact⟨true,by simp[execOp,Sem.run_bind,hg,h1,e2,binOp,hq],fun _=>rfl⟩
    | some a =>
     have hq:(Op.equal T (.slice (some a) 0 c) (.slice none 0 0)).run P w= .ok false w:=II hu rfl;exact⟨false,by simp[execOp,Sem.run_bind,hg,h1,e2,binOp,hq],fun _=>rfl⟩
   have hq:(Op.equal T (.slice (some ⟨bb,o,none⟩) rows.length c) (.slice none 0 0)).run P w= .ok false w:=II hu rfl;exact⟨false,by simp[execOp,Sem.run_bind,hg,h1,e2,binOp,hq],fun h=>by cases h⟩
  obtain⟨b,hb,hr⟩:=key;exact⟨_,w,.p (.bool b),H,F,hb,⟨⟨b,O,hr⟩,O⟩,.refl,hH,by simp[CW,Cb]⟩
end
def OF (P:Program) (T:TypeId):Bool :=
 match P.underlying T with
 | some (.struct fs)=>match fs.toList with
  | [f,g]=>f.name != "_" &&g.name != "_" &&Nat.beq f.offset 0&&Nat.beq g.offset 1&&(match P.underlying f.type,P.underlying g.type with | some (.int .i64),some (.int .i64)=>true | _,_=>false)&& !P.stoodInHeld T&& !P.eqGuardType P.depth T
  | _=>false
 | _=>false
theorem Xr {P:Program}{T:TypeId}{a b c d:Int}{w:World}(h:OF P T=true):(Op.equal T (.agg #[.int .i64 a,.int .i64 b]) (.agg #[.int .i64 c,.int .i64 d])).run P w= .ok (a==c&&b==d) w:=by
 unfold OF at h;split at h
 ·rename_i fs hu;split at h
  ·rename_i f g hfs;obtain rfl:fs=#[f,g]:=by apply Array.ext';simpa using hfs
   simp only[Bool.and_eq_true,bne_iff_ne,ne_eq,Bool.not_eq_true'] at h;obtain⟨⟨⟨⟨⟨⟨h1,h2⟩,h3⟩,h4⟩,h5⟩,h6⟩,h7⟩:=h;split at h5
   ·rename_i hf hg;have e3:=Nat.eq_of_beq_eq_true h3;have e4:=Nat.eq_of_beq_eq_true h4;have hp:(program).run P w= .ok P w:=rfl;have af:(isAgg f.type).run P w= .ok false w:=Ml hf false rfl w;have ag:(isAgg g.type).run P w= .ok false w:=Ml hg false rfl w;have pf:∀x y,(part f.type #[.int .i64 x,.int .i64 y] f.offset).run P w= .ok (.int .i64 x) w:=by
     intro x y;unfold part;simp[Sem.run_bind,af,e3]
    have pg:∀x y,(part g.type #[.int .i64 x,.int .i64 y] g.offset).run P w= .ok (.int .i64 y) w:=by
     intro x y;unfold part;simp[Sem.run_bind,ag,e4]
    have qf:∀x y,(Op.equalIn 9999 f.type (.int .i64 x) (.int .i64 y)).run P w= .ok (x==y) w:=by
     intro x y;rw[show (9999:Nat)=9998+1 from rfl];unfold Op.equalIn;simp[Sem.run_bind,run_underlying hf]
    have qg:∀x y,(Op.equalIn 9999 g.type (.int .i64 x) (.int .i64 y)).run P w= .ok (x==y) w:=by
     intro x y;rw[show (9999:Nat)=9998+1 from rfl];unfold Op.equalIn;simp[Sem.run_bind,run_underlying hg]
    unfold Op.equal;rw[show Op.maxDepth=9999+1 from rfl];unfold Op.equalIn;simp only[Sem.run_bind,run_underlying hu,Result.andThen_ok,hp,h6];simp[Sem.run_bind,h1,h2,pf,pg,qf,qg];cases hac:(a==c)<;>cases hbd:(b==d)<;>simp_all [Sem.run_bind,h1,h2,pf,pg,qf,qg]
   cases h5
  cases h
 cases h
section
variable {P:Program}{dst:Option Tmp}{ty:TypeId}{pos:String}{aft:Array Edge}{g:Option (Nat×Bool)}{ρ:Operand→AV}{H:List BR}{x y z:Operand}{v:AV}
theorem bV {T U:TypeId}{a b c d:Int}(h:OF P T=true) (hx:ρ x= .agg [.p (.int .i64 a),.p (.int .i64 b)]) (hy:ρ y= .agg [.p (.int .i64 c),.p (.int .i64 d)]):D4 P ⟨dst,.binOp .neq T x y U,ty,pos,aft,g⟩ ρ H (.p (.bool (!(a==c&&b==d)))) H :=
 Ce fun F w E hH hE=>by
  have e1:=hE x Aj;have e2:=hE y Aj;rw[hx] at e1;rw[hy] at e2;simp only[CW,CB,Cb] at e1 e2;obtain⟨vs,e1,u1,us1,rfl,rfl,u2,us2,rfl,rfl,rfl⟩:=e1;obtain⟨vs',e2,v1,vs1,rfl,rfl,v2,vs2,rfl,rfl,rfl⟩:=e2;refine⟨.bool (!(a==c&&b==d)),?_,by simp[CW,Cb]⟩;have hq:=Xr (P:=P) (T:=T) (a:=a) (b:=b) (c:=c) (d:=d) (w:=w) h;have h':=h;have hg:(eqGuard .neq T x y (.agg #[.int .i64 a,.int .i64 b]) (.agg #[.int .i64 c,.int .i64 d])).run P w= .ok () w:=by
   unfold OF at h';split at h'
   ·split at h'
    ·simp only[Bool.and_eq_true,Bool.not_eq_true'] at h';have h7:=h'.2;have hp:(program).run P w= .ok P w:=rfl;unfold eqGuard;simp[Sem.run_bind,hp,h7]
    cases h'
   cases h'
  simp[execOp,Sem.run_bind,hg,e1,e2,binOp,hq]
end
theorem Ic {P:Program}{r:Option Nat}{c:Code}{S:B5}{Q:DC→B5→Prop}(N:Nat) (C:Nat→Prop) (St:Nat→B5) (i₀:Nat) (h₀:i₀≤N) (hC:C i₀) (l:Le S (St i₀))
  (round:∀i,i≤N→C i→JR P r c (St i) (TG (fun S'=>i<N∧C (i+1)∧Le S' (St (i+1))) Q)):JR P r (.loop c) S Q:=by
 refine XQ (fun m S=>∃i,i≤N∧m=N - i∧C i∧S=St i) (m:=N - i₀) l ⟨i₀,h₀,O,hC,O⟩ ?_;rintro m S ⟨i,hi,rfl,hc,rfl⟩;refine(round i hi hc).mono ?_;intro e S' h;cases e with
 | normal =>
  obtain⟨h1,h2,h3⟩:=h;exact⟨N - (i+1),St (i+1),by omega,h3,i+1,by omega,rfl,h2,rfl⟩
 | exit id=>exact h
 | ret=>exact h
 | panic v=>exact h
theorem Bn {α:Type}{P:Program}{r:Option Nat}{c:Code}{S:B5}{Q:DC→B5→Prop}(St:α→B5) (μ:α→Nat) (C:α→Prop) (a₀:α) (hC:C a₀) (l:Le S (St a₀))
  (round:∀a,C a→JR P r c (St a) (TG (fun S'=>∃a',μ a' < μ a∧C a'∧Le S' (St a')) Q)):JR P r (.loop c) S Q:=by
 refine XQ (fun m S=>∃a,m=μ a∧C a∧S=St a) (m:=μ a₀) l ⟨a₀,O,hC,O⟩ ?_;rintro m S ⟨a,rfl,hc,rfl⟩;refine(round a hc).mono ?_;intro e S' h;cases e with
 | normal =>
  obtain⟨a',h1,h2,h3⟩:=h;exact⟨μ a',St a',h1,h3,a',O,h2,O⟩
 | exit id=>exact h
 | ret=>exact h
 | panic v=>exact h
abbrev wr (n:Int):Int:=IntKind.i64.wrap n
section
variable {P:Program}{dst:Option Tmp}{ty:TypeId}{pos:String}{aft:Array Edge}{g:Option (Nat×Bool)}{ρ:Operand→AV}{H:List BR}{x y z:Operand}{v:AV}
theorem ES {m n:Int}{T U:TypeId}(hx:ρ x= .p (.int .i64 m)) (hy:ρ y= .p (.int .i64 n)):D4 P ⟨dst,.binOp .add T x y U,ty,pos,aft,g⟩ ρ H (.p (.int .i64 (wr (m+n)))) H :=
 Ce fun F w E hH hE=>by
  have e1:=hE x Aj;have e2:=hE y Aj;rw[hx] at e1;rw[hy] at e2;simp only[CW,Cb] at e1 e2;exact⟨.int .i64 (wr (m+n)),by simp[execOp,Sem.run_bind,Ih,e1,e2,binOp,Op.intArith],by simp[CW,Cb]⟩
theorem JW {m n:Int}{T U:TypeId}(hx:ρ x= .p (.int .i64 m)) (hy:ρ y= .p (.int .i64 n)):D4 P ⟨dst,.binOp .sub T x y U,ty,pos,aft,g⟩ ρ H (.p (.int .i64 (wr (m - n)))) H :=
 Ce fun F w E hH hE=>by
  have e1:=hE x Aj;have e2:=hE y Aj;rw[hx] at e1;rw[hy] at e2;simp only[CW,Cb] at e1 e2;exact⟨.int .i64 (wr (m - n)),by simp[execOp,Sem.run_bind,Ih,e1,e2,binOp,Op.intArith],by simp[CW,Cb]⟩
end
def qX (R:AV→Prop):Eg→List BR→Prop
 | .val v,H'=>R v∧H'=[]
 | .panic _,_=>False
abbrev GO (P:Program) (f:FuncId) (args:List AV) (R:AV→Prop):Prop:=B2 P f args [] (qX R)
theorem GO.of {P:Program}{f:FuncId}{args:List AV}{v:AV}{R:AV→Prop}(h:Ep P f args v) (hR:R v):GO P f args R :=
 B2.mono h fun r H hr=>by
  cases r with
  | val v'=>obtain⟨rfl,rfl⟩:=hr;exact⟨hR,rfl⟩
  | panic v'=>exact hr
def Pz (R:AV→Prop) (H:List BR):Eg→List BR→Prop
 | .val v,H'=>R v∧H'=H
 | .panic _,_=>False
section
variable {P:Program}{r:Option Nat}{ops:Array Oper}{Q:DC→B5→Prop}{k:Nat}{n:Nat}{τ:Nat→AV}{H H':List BR}{D:List Ee}{dst:Option Tmp}{op:Op}{ty:TypeId}{pos:String}{aft:Array Edge}{g:Option (Nat×Bool)}{v:AV}
theorem CO {c:Call}{f:Operand}{fid:FuncId}{ρ:Operand→AV}{A:List AV}{R:AV→Prop}(hc:c.callee= .value f) (hf:ρ f= .p (.fn fid)) (h:GO P fid A R) (hA:c.args.toList.map ρ=A∨(c.args.toList.map ρ).map norm=A) :
  Dd P ⟨dst,.call c,ty,pos,aft,g⟩ ρ H (Pz R H):=by
 refine(GV (H:=H) (Hs:=[]) (Hf:=H) (first:=[]) (caps:=[]) hc (.inl ⟨hf,O,O⟩) (A:=A) Ay h (by simpa using hA)).mono ?_;rintro r H' ⟨Hs',h1,rfl⟩;cases r with
 | val v'=>obtain⟨h1,rfl⟩:=h1;exact⟨h1,rfl⟩
 | panic v'=>exact h1
theorem D2 {R:AV→Prop}(ho:ops[k]?=some ⟨dst,op,ty,pos,aft,none⟩) (hd:Gv dst n=true) (h:Dd P ⟨dst,op,ty,pos,aft,none⟩ (ev τ) H (Pz R H))
  (next:∀v,R v→AL P r ops (k+1) ⟨n,put τ dst v,H,D⟩ Q):AL P r ops k ⟨n,τ,H,D⟩ Q :=
 GQ (S:=⟨n,τ,H,D⟩) ho Aq (I2 hd) h (fun v H' ⟨h1,h2⟩=>by subst h2;exact next v h1) (fun _ _ h=>h.elim)
theorem IW {R:AV→Prop}{j d:Nat}{want:Bool}(ho:ops[k]?=some ⟨dst,op,ty,pos,aft,some (j,want)⟩) (hd:Gv dst n=true) (hj:(ops[j]?).bind (·.dst)=some d) (hb:τ d= .p (.bool want)) (h:Dd P ⟨dst,op,ty,pos,aft,some (j,want)⟩ (ev τ) H (Pz R H))
  (next:∀v,R v→AL P r ops (k+1) ⟨n,put τ dst v,H,D⟩ Q):AL P r ops k ⟨n,τ,H,D⟩ Q :=
 GQ (S:=⟨n,τ,H,D⟩) ho (by simp only[DB];exact⟨d,hj,hb⟩) (I2 hd) h (fun v H' ⟨h1,h2⟩=>by subst h2;exact next v h1) (fun _ _ h=>h.elim)
end
section
variable {P:Program}{ops:Array Oper}{n:Nat}{τ₀:Nat→AV}{D:List Ee}{Q:DC→B5→Prop}{opn:Nat→Bool}{k:Nat}{τ:Nat→AV}{H:List BR}{rd:XW}{ef:Va}{effs:List Bool}{fx:List (Nat×Sp)}{dst:Option Tmp}{op:Op}{ty:TypeId}{pos:String}{aft:Array Edge}
theorem KF {R:AV→Prop}(fx':List (Nat×Sp)) (ho:ops[k]?=some ⟨dst,op,ty,pos,aft,none⟩) (hn:opn k=true) (h:Dd P ⟨dst,op,ty,pos,aft,none⟩ (ev τ) H (Pz R H)) (haft:FW ops k (fx'.map (·.1))=true) (hne:∃v,R v) (owe:Ke ops k H H rd)
  (next:∀v,R v→Hp k (.eff v H) fx∧Dr P ops n τ₀ D Q opn (k+1) (put τ dst v) H rd ((k,H,H)::ef) (true::effs) (fx'++fx)):Dr P ops n τ₀ D Q opn k τ H rd ef effs fx :=
 N3 fx' ho hn h haft (let ⟨v,hv⟩:=hne;⟨v,H,hv,rfl⟩) (fun _ _ h=>h.elim) (fun v H' ⟨h1,h2⟩=>by subst h2;exact⟨owe,next v h1⟩)
theorem jW {R:AV→Prop}{j d:Nat}{want:Bool}(fx':List (Nat×Sp)) (ho:ops[k]?=some ⟨dst,op,ty,pos,aft,some (j,want)⟩) (hn:opn k=true) (hj:(ops[j]?).bind (·.dst)=some d) (hb:τ d= .p (.bool want)) (h:Dd P ⟨dst,op,ty,pos,aft,some (j,want)⟩ (ev τ) H (Pz R H)) (haft:FW ops k (fx'.map (·.1))=true) (hne:∃v,R v) (owe:Ke ops k H H rd)
  (next:∀v,R v→Hp k (.eff v H) fx∧Dr P ops n τ₀ D Q opn (k+1) (put τ dst v) H rd ((k,H,H)::ef) (true::effs) (fx'++fx)):Dr P ops n τ₀ D Q opn k τ H rd ef effs fx :=
 .opn (Pz R H) fx' ho hn ⟨d,hj,hb⟩ h haft (let ⟨v,hv⟩:=hne;⟨v,H,hv,rfl⟩) (fun v H' ⟨_,h2⟩=>by subst h2;exact owe) (fun v H' ⟨h1,h2⟩=>by subst h2;exact(next v h1).1) (fun v H' ⟨h1,h2⟩=>by subst h2;exact(next v h1).2) (fun _ _ h=>h.elim)
end
theorem Be {P:Program}{r:Option Nat}{c:Code}{Q:DC→B5→Prop}{n:Nat}{τ:Nat→AV}{H:List BR}{D:List Ee}(live:List Nat) (d:Nat) (R:AV→Prop) (h:JR P r c ⟨n,τ,H,D⟩ (TG (fun S'=>S'.n=n∧S'.D=D∧H.Sublist S'.H∧R (S'.τ d)∧lh S'.τ τ live) Q))
  (next:∀x,R x→Q .normal ⟨n,mk ((d,x)::live.map fun t=>(t,τ t)),H,D⟩):JR P r c ⟨n,τ,H,D⟩ Q:=by
 intro F a w hs;refine wpIn_mono (h F a w hs) ?_;rintro e a' w' ⟨e',S',F',hq,he,hs',ht⟩;cases e' with
 | normal =>
  obtain⟨n',τ',H',D'⟩:=S';obtain⟨h1,h3,h2,h4,h5⟩:=hq;simp only at h1 h2 h3 h4 h5;subst h1;subst h3;have l:Le ⟨n',τ',H',D'⟩ ⟨n',mk ((d,τ' d)::live.map fun t=>(t,τ t)),H,D'⟩:=EM ⟨rfl,P5 h5⟩ h2;exact⟨.normal,_,F',next _ h4,he,hs'.le l,ht.sublist h2⟩
 | exit id=>exact⟨.exit id,S',F',hq,he,hs',ht⟩
 | ret=>exact⟨.ret,S',F',hq,he,hs',ht⟩
 | panic v=>exact⟨.panic v,S',F',hq,he,hs',ht⟩
def Gm (v:AV):Prop:=∃b:Bool,v= .p (.bool b)
def Z1 (v:AV):Prop:=∃e:Int,v= .p (.int .i64 e)
end Go.Abs
namespace Go.Eu
open Go.Abs
noncomputable def Nk {α:Type}(a b:α):Bool:= @decide (a=b) (Classical.propDecidable _)
theorem Gd {α:Type}{a b:α}(h:a=b):Nk a b=true:=by simp[Nk,h]
theorem H8 {α:Type}{a b:α}(h:a≠b):Nk a b=false:=by simp[Nk,h]
theorem IV {α:Type}{a b:α}:Nk a b=true↔a=b:=by simp[Nk]
abbrev LV (l:Ci):AV:= .agg ((B9 l).map .p)
abbrev nL (ts:List Tm):AV:= .p (.lst (BN ts))
abbrev qS (ls:List Ci):AV:= .p (.lst (ls.map B9))
theorem Ct {ts:List CS}{i:Nat}{t:CS}(h:ts[i]?=some t):(ts.map ED)[i]?=some (ED t):=by simp[h]
theorem GD {ts:List Ci}{i:Nat}{t:Ci}(h:ts[i]?=some t):(ts.map B9)[i]?=some (B9 t):=by simp[h]
def agree {α:Type}(a b:List α) (i:Nat):Prop:=a.take i=b.take i
theorem NC {α:Type}(a b:List α):agree a b 0:=by simp[agree]
theorem No {α:Type}{a b:List α}{i:Nat}{x:α}(h:agree a b i) (ha:a[i]?=some x) (hb:b[i]?=some x):agree a b (i+1):=by
 unfold agree at *;rw[List.take_add_one,List.take_add_one,ha,hb,h]
theorem Pp {α:Type}{a b:List α}{n:Nat}(h:agree a b n) (ha:a.length=n) (hb:b.length=n):a=b:=by
 unfold agree at h
 rwa [List.take_of_length_le Ax,List.take_of_length_le Ax] at h
theorem BE {α:Type}{l:List α}{i:Nat}(h:i<l.length):∃x,l[i]?=some x:=⟨_,List.getElem?_eq_getElem h⟩
abbrev Dq:Nat:=1099511627776
def JB (n:Int):Prop:= -9223372036854775808≤n∧n≤9223372036854775807
structure M6 (l:Ci):Prop where
 vars:l.vars.length<Dq
 c:JB l.const
 v:∀v∈l.vars,JB v.index∧JB v.plus
mutual
def Nd:Tm→Prop
 | .mk k i n ls ks=>n.size<Dq∧ls.length<Dq∧(∀l∈ls,M6 l)∧ks.length<Dq∧Lx ks∧JB k∧JB i
def Lx:List Tm→Prop
 | []=>True
 | t::ts=>Nd t∧Lx ts
end
theorem Df:∀{ts:List Tm}{i:Nat}{t:Tm},Lx ts→ts[i]?=some t→Nd t
 | [],i,t,_,h=>by simp at h
 | a::ts,0,t,hn,h=>by simp at h;subst h;exact hn.1
 | a::ts,i+1,t,hn,h=>by simp at h;exact Df hn.2 h
mutual
def depth:Tm→Nat
 | .mk _ _ _ _ ks=>I4 ks+1
def I4:List Tm→Nat
 | []=>0
 | t::ts=>max (depth t) (I4 ts)
end
mutual
theorem IT:∀t:Tm,depth t≤size t
 | .mk _ _ _ _ ks=>by simp only[depth,size];have:=LX ks;omega
theorem LX:∀ts:List Tm,I4 ts≤Bl ts
 | []=>by simp[I4]
 | t::ts=>by simp only[I4,Bl];have:=IT t;have:=LX ts;omega
end
end Go.Eu
namespace Go.Eu
theorem Nw (bs : ByteArray) : ∀ (d i : Nat) (r : List UInt8), bs.size - i = d → ByteArray.toList.loop bs i r = r.reverse ++ bs.data.toList.drop i := by
 intro d
 induction d with
 | zero =>
  intro i r h
  unfold ByteArray.toList.loop
  have : ¬ i < bs.size := by omega
  simp only [this, if_false]
  rw [List.drop_eq_nil_of_le (by have : bs.data.size = bs.size := rfl; simp; omega)]; simp
 | succ d ih =>
  intro i r h
  unfold ByteArray.toList.loop
  have hi : i < bs.size := by omega
  simp only [hi, if_true]
  rw [ih (i + 1) _ Ax]
  have hlt : i < bs.data.toList.length := by have : bs.data.size = bs.size := rfl; simp; omega
  rw [List.drop_eq_getElem_cons hlt]
  have : bs.get! i = bs.data.toList[i] := by
   have h2 : i < bs.data.size := by simpa using hlt
   show bs.data[i]! = _
   rw [getElem!_pos bs.data i h2]; simp
  simp [this]
theorem Ov (bs:ByteArray):bs.toList=bs.data.toList:=by
 unfold ByteArray.toList;rw[Nw bs _ 0 [] rfl];simp
theorem G7 {a b:ByteArray}(h:a.toList=b.toList):a=b:=by
 rw[Ov,Ov] at h;cases a;cases b;simp at h;congr
end Go.Eu
namespace Go.Eu
open Go.Abs
mutual
def Es:Tm→Int→Int
 | .mk _ _ _ _ ks,most=>Eo ks most 0
def Eo:List Tm→Int→Int→Int
 | [],_,n=>n
 | t::ts,most,n=>if n > most then n else Eo ts most (wr (n+wr (1+Es t (wr (most - n)))))
end
theorem UG {l:List Tm}{i:Nat}{t:Tm}{most n:Int}(h:l[i]?=some t):Eo (l.drop i) most n=if n > most then n else Eo (l.drop (i+1)) most (wr (n+wr (1+Es t (wr (most - n))))):=by
 have hlt:i<l.length:=(List.getElem?_eq_some_iff.1 h).1;rw[List.drop_eq_getElem_cons hlt];have:l[i]=t:=by simpa [List.getElem?_eq_getElem hlt] using h
 rw[this,Eo]
end Go.Eu
namespace Go.Eu
def arity (k:Int):Int:=if k=4∨k=5∨k=6∨k=7 then 2 else if k=8∨k=11 then 3 else if k=9∨k=10 then 1 else 0
def below (k i:Int):Int:=if ((i==1&&(k==5||k==6||k==7))||(i==2&&k==11))=true then 1 else 0
def X9:Tm→Prop
 | .mk kd _ _ _ ks=>0≤kd∧kd<13∧(ks.length:Int)=arity kd
mutual
def wf (vars metas:Int):Int→Tm→Prop
 | d,.mk kd ix _ _ ks=>0≤kd∧kd<13∧(ks.length:Int)=arity kd∧(kd=0→0≤ix∧ix - d<vars)∧(kd=12→0≤ix∧ix<metas)∧jH vars metas kd d 0 ks
def jH (vars metas:Int):Int→Int→Nat→List Tm→Prop
 | _,_,_,[]=>True
 | kd,d,i,t::ts=>wf vars metas (d+below kd i) t∧jH vars metas kd d (i+1) ts
end
theorem Ku {vars metas kd d:Int}:∀{ks:List Tm}{i:Nat},(∀j t,ks[j]?=some t→wf vars metas (d+below kd ((i+j:Nat):Int)) t)→jH vars metas kd d i ks
 | [],i,_=>by simp[jH]
 | t::ts,i,h=>by
  simp only[jH];exact⟨by have:=h 0 t rfl;simpa using this,Ku fun j t' ht=>by have:=h (j+1) t' (by simpa using ht);rw[show i+1+j=i+(j+1) by omega];exact this⟩
theorem DF (k i:Int):0≤below k i∧below k i≤1:=by unfold below;split<;>omega
theorem C9 {α:Type}{l:List α}{p:Nat→α→Prop}{i:Nat}{x:α}(h:∀j,j<i→∀t,l[j]?=some t→p j t) (hx:l[i]?=some x) (hp:p i x):∀j,j<i+1→∀t,l[j]?=some t→p j t:=by
 intro j hj t ht;rcases Nat.lt_or_ge j i with h' | h'
 ·exact h j h' t ht
 have e:j=i:=by omega
 subst e;rw[hx] at ht;injection ht with ht;subst ht;exact hp
end Go.Eu
namespace Go.Abs
section
variable {α:Type}
def P3 (is:List Nat):Nat→List α→List α
 | _,[]=>[]
 | k,a::l=>bif is.any (Nat.beq k ·) then a::P3 is (k+1) l else P3 is (k+1) l
theorem Pc (is:List Nat):∀(k:Nat) (l:List α),(P3 is k l).Sublist l
 | _,[]=>List.Sublist.refl _
 | k,a::l=>by
  simp only[P3];cases is.any (Nat.beq k ·)
  ·exact(Pc is (k+1) l).cons _
  exact(Pc is (k+1) l).cons_cons _
theorem CC {is:List Nat}{l l':List α}(h:P3 is 0 l=l'):l'.Sublist l:=h▸Pc is 0 l
def Fj (H:List α):List Nat→List α→Prop
 | [],xs=>xs=[]
 | i::is,xs=>∃x xs',xs=x::xs'∧H[i]?=some x∧Fj H is xs'
def Lc (H:List α):List Nat→List α→List α
 | i::is,x::xs=>Lc (H.set i x) is xs
 | _,_=>H
def DN (is:List Nat):Nat→List α→List α
 | _,[]=>[]
 | k,a::l=>if k∈is then DN is (k+1) l else a::DN is (k+1) l
theorem QM:∀(k:Nat) (l:List α),DN [] k l=l
 | _,[]=>rfl
 | k,a::l=>by simp[DN,QM (k+1) l]
theorem QI {is:List Nat}{j:Nat}:∀(k:Nat) (l:List α),j<k→DN (j::is) k l=DN is k l
 | _,[],_=>rfl
 | k,a::l,h=>by
  have:k≠j:=by omega
  have ih:=QI (is:=is) (j:=j) (k+1) l Ax;simp[DN,this,ih]
theorem OZ {is:List Nat}{x:α}:∀(l:List α) (k i:Nat),l[i]?=some x→(k+i) ∉ is→(DN is k l).Perm (x::DN ((k+i)::is) k l)
 | [],k,i,h,_=>by simp at h
 | a::l,k,0,h,hn=>by
  simp at h hn;subst h;simp[DN,hn,QI (k+1) l (Nat.lt_succ_self k)]
 | a::l,k,i+1,h,hn=>by
  simp at h;have ih:=OZ l (k+1) i h (by rw[show k+1+i=k+(i+1) by omega];exact hn);rw[show k+1+i=k+(i+1) by omega] at ih;have hk:k≠k+(i+1):=by omega
  simp only[DN,List.mem_cons,hk,false_or];split
  ·exact ih
  exact(ih.cons a).trans (.swap _ _ _)
theorem Di {H:List α}:∀{is:List Nat}{xs:List α},is.Nodup→Fj H is xs→H.Perm (xs++DN is 0 H)
 | [],xs,_,h=>by simp only[Fj] at h;subst h;simp[QM]
 | i::is,xs,hn,h=>by
  obtain⟨x,xs',rfl,hx,hr⟩:=h;have hn':=List.nodup_cons.1 hn;have ih:=Di hn'.2 hr;have:=OZ (is:=is) H 0 i hx (by simpa using hn'.1);simp only[Nat.zero_add] at this;exact ih.trans (((List.Perm.refl xs').append this).trans List.perm_middle)
theorem QG {is:List Nat}{y:α}:∀(l:List α) (k i:Nat),(k+i)∈is→DN is k (l.set i y)=DN is k l
 | [],k,i,_=>by simp
 | a::l,k,0,h=>by simp at h;simp[DN,h]
 | a::l,k,i+1,h=>by
  have:=QG (y:=y) l (k+1) i (by rw[show k+1+i=k+(i+1) by omega];exact h);simp only[List.set_cons_succ,DN,this]
theorem SP {i:Nat}{y:α}:∀{is:List Nat}{xs H:List α},i ∉ is→Fj H is xs→Fj (H.set i y) is xs
 | [],xs,H,_,h=>h
 | j::is,xs,H,hn,h=>by
  obtain⟨x,xs',rfl,hx,hr⟩:=h;simp at hn;exact⟨x,xs',O,by rw[List.getElem?_set_ne hn.1];exact hx,SP hn.2 hr⟩
theorem S4:∀{is:List Nat}{xs xs' H:List α},is.Nodup→Fj H is xs→xs'.length=xs.length→Fj (Lc H is xs') is xs'∧(∀ks k,(∀i∈is,k+i∈ks)→DN ks k (Lc H is xs')=DN ks k H)∧∀j,j ∉ is→(Lc H is xs')[j]?=H[j]?
 | [],xs,xs',H,_,h,hl=>by
  simp only[Fj] at h;subst h;have:xs'=[]:=by simpa using hl
  subst this;exact⟨O,fun _ _ _=>O,fun _ _=>O⟩
 | i::is,xs,xs',H,hn,h,hl=>by
  obtain⟨x,xr,rfl,hx,hr⟩:=h;have hn':=List.nodup_cons.1 hn;cases xs' with
  | nil=>simp at hl
  | cons y ys =>
   have hlt:i<H.length:=(List.getElem?_eq_some_iff.1 hx).1;obtain⟨h1,h2,h3⟩:=S4 (H:=H.set i y) hn'.2 (SP hn'.1 hr) (by simpa using hl);refine⟨⟨y,ys,O,by rw[Lc,h3 i hn'.1];simp[hlt],h1⟩,fun ks k hk=>?_,fun j hj=>?_⟩
   ·rw[Lc,h2 ks k (fun q hq=>hk q (by simp[hq])),QG _ _ _ (hk i Ay)]
   simp at hj;rw[Lc,h3 j hj.2,List.getElem?_set_ne (fun e=>hj.1 e.symm)]
theorem Mp {is:List Nat}{xs xs' H:List α}(hn:is.Nodup) (h:Fj H is xs) (hl:xs'.length=xs.length):(Lc H is xs').Perm (xs'++DN is 0 H):=by
 obtain⟨h1,h2,_⟩:=S4 hn h hl;have:=Di hn h1
 rwa [h2 is 0 (fun i hi=>by simpa using hi)] at this
end
def kg (τ:Nat→AV) (x:AV):List Nat→Prop
 | []=>True
 | t::r=>τ t=x∧kg τ x r
theorem Ds {τ:Nat→AV}{x:AV}:∀{ts:List Nat},kg τ x ts→∀t∈ts,τ t=x
 | [],_,t,h=>by simp at h
 | a::r,h,t,ht=>by
  rcases List.mem_cons.1 ht with rfl | ht
  ·exact h.1
  exact Ds h.2 t ht
section
variable {P:Program}{S:B5}{a T n b i:Nat}{cs:List AV}{v:AV}
theorem BI (hT:EP P T=some (true,n)) (ha:S.τ a= .ptr b 0) (hi:S.H[i]?=some (.box b cs)) (hn:cs.length=n):jU P S (.cell a T) (.agg cs):=by
 obtain⟨d,h1,h2,h3⟩:=Fo hT;exact⟨b,cs,i,ha,hi,.inl ⟨d,h1,h2,by rw[h3,hn],rfl⟩⟩
theorem G1 (hT:EP P T=some (false,n)) (ha:S.τ a= .ptr b 0) (hi:S.H[i]?=some (.box b [v])):jU P S (.cell a T) v:=by
 obtain⟨d,h1,h2,h3⟩:=Fo hT;exact⟨b,[v],i,ha,hi,.inr ⟨d,h1,h2,O⟩⟩
end
section
variable {P:Program}{dst:Option Tmp}{ty:TypeId}{pos:String}{aft:Array Edge}{g:Option (Nat×Bool)}{ρ:Operand→AV}{H Hs Hs':List BR}{x y z:Operand}{v:AV}{c:Call}{f:Operand}{fid:FuncId}{first caps A:List AV}
theorem Dd.permD {o:Oper}{H H' H'':List BR}(h:D4 P o ρ H v H') (hp:H'.Perm H''):D4 P o ρ H v H'':=by
 intro r F S a w hs hH hρ hd;have:=h r F S a w hs hH hρ hd;refine MQ this ?_ ?_
 ·rintro a' w' ⟨v',H1,F',⟨rfl,rfl⟩,hs',ht⟩;exact⟨v',H'',F',⟨O,O⟩,⟨hs'.size,hs'.tmp,hs'.heap.perm hp,hs'.defs⟩,{ ht with keys:=fun o ho=>ht.keys o (hp.mem_iff.2 ho) }⟩
 rintro e a' w' ⟨v',H1,F',u,h,_⟩;exact h.elim
theorem CF (is:List Nat) (hc:c.callee= .value f) (hf:(ρ f= .p (.fn fid)∧first=[]∧caps=[])∨ρ f= .fn (.func fid) first caps) (h:B2 P fid A Hs (Gj v Hs')) (hg:Fj H is Hs) (hn:is.Nodup) (hl:Hs'.length=Hs.length) (hA:first++c.args.toList.map ρ++caps=A∨(first++c.args.toList.map ρ++caps).map norm=A) :
  D4 P ⟨dst,.call c,ty,pos,aft,g⟩ ρ H v (Lc H is Hs') :=
 Dd.permD (js hc hf (Di hn hg) h hA) (Mp hn hg hl).symm
theorem jf (hc:c.callee= .value f) (hf:ρ f= .fn (.func fid) first caps) (h:Ep P fid A v) (hA:first++c.args.toList.map ρ++caps=A∨(first++c.args.toList.map ρ++caps).map norm=A) :
  D4 P ⟨dst,.call c,ty,pos,aft,g⟩ ρ H v H:=by
 refine(GV (H:=H) (Hs:=[]) (Hf:=H) hc (.inr hf) (A:=A) Ay h hA).mono ?_;rintro r H' ⟨Hs',h1,rfl⟩;cases r with
 | val v'=>obtain⟨rfl,rfl⟩:=h1;exact⟨rfl,rfl⟩
 | panic v'=>exact h1
theorem CE {T T2 e e2:TypeId}{sz bytes n2 n3 c i n:Nat}{o:Option Nat}{rows rows' rows2:List (List PV)}{zv:Value}(hT:F9 P T=some (e,sz,bytes)) (hT2:F9 P T2=some (e2,n2,n3)) (hz:zeroOf P e=some zv) (hzs:zv.cells.size=sz) (hb0:(Nat.blt 0 sz&&Nat.blt 0 bytes)=true)
  (hx:ρ x= .vs o n c) (hn:n=rows.length) (hi:H[i]?=some (.vec o sz rows c)) (hy:norm (ρ y)= .p (.lst rows')) (hsol:∀r∈rows',EZ sz r) (hroom:2*(rows.length+rows'.length)*bytes≤281474976710656) (h2:rows++rows'=rows2) :
  Dd P ⟨dst,.call { callee:= .builtin .append,args:=#[x,y],argTypes:=#[T,T2] },ty,pos,aft,g⟩ ρ H (OW i sz rows2 H):=by
 subst h2;exact Q6 hT hT2 hz hzs hb0 hx hn hi hy hsol hroom
theorem Uh {F:Nat→Prop}{w:World}{u:Value}(h:CW F w (.p .nils) u):CW F w (.vs none 0 0) u:=by
 simp only[CW,Cb] at *;exact⟨Az,Az,none,h⟩
theorem Yl {α : Type} : ∀ {us cs : List α}, us.length = cs.length → splice cs 0 us = us := by
 have key : ∀ (us : List α) (pre cs : List α), us.length = cs.length → splice (pre ++ cs) pre.length us = pre ++ us := by
  intro us
  induction us with
  | nil => intro pre cs h; have : cs = [] := by simpa using h.symm
           subst this; simp [splice]
  | cons u us ih =>
   intro pre cs h
   cases cs with
   | nil => simp at h
   | cons c cs =>
    simp only [splice]
    have := ih (pre ++ [u]) cs (by simpa using h)
    have e : (pre ++ c :: cs).set pre.length u = pre ++ [u] ++ cs := by simp
    rw [e]
    simpa using this
 intro us cs h
 exact key us [] cs h
theorem Cq {T:TypeId}{bl:Bool}{n b i:Nat}{cs us:List AV}(hT:EP P T=some (bl,n+1)) (hx:ρ x= .ptr b 0) (hi:H[i]?=some (.box b cs)) (hy:Er (ρ y)=some us) (hn:us.length=n+1)
  (ho:cs.length=n+1) (h1:us.all one=true):D4 P ⟨dst,.store T x y,ty,pos,aft,g⟩ ρ H (.p .any) (H.set i (.box b us)):=by
 have:=J9 (P:=P) (dst:=dst) (ty:=ty) (pos:=pos) (aft:=aft) (g:=g) hT hx hi hy hn (by rw[ho];simp) h1
 rwa [Yl (by rw[hn,ho])] at this
theorem Dj {T:TypeId}{bl:Bool}{b i j sz c:Nat}{rows rows2:List (List PV)}{us:List AV}{r:List PV}(hT:EP P T=some (bl,sz)) (hpos:Nat.blt 0 sz=true) (hx:ρ x= .ptr b (j*sz)) (hi:H[i]?=some (.vec (some b) sz rows c)) (hj:j<rows.length) (hy:Er (ρ y)=some us) (hp:Gp (us.map dn)=some r) (hrl:r.length=sz) (h1:us.all one=true) (h2:rows.set j r=rows2) :
  D4 P ⟨dst,.store T x y,ty,pos,aft,g⟩ ρ H (.p .any) (H.set i (.vec (some b) sz rows2 c)):=by
 subst h2;exact Si hT hpos hx hi hj hy hp hrl h1
theorem L7 {T e:TypeId}{sz bytes:Nat}{m:Int}{zs:List Value}{zv:Value}{zr:List PV}{rows2:List (List PV)}(hT:F9 P T=some (e,sz,bytes)) (hz:zeroOf P e=some zv) (hzs:zv.cells=⟨zs⟩) (hsz:zs.length=sz) (hpos:0<sz) (hp:Gp ((zs.map G4).map dn)=some zr)
  (hx:ρ x= .p (.int .i64 m)) (hy:ρ y= .p (.int .i64 m)) (h0:0≤m) (hm:bytes*m≤281474976710656) (hm2:m≤9223372036854775807) (h2:List.replicate m.toNat zr=rows2) :
  Dd P ⟨dst,.makeSlice T x y,ty,pos,aft,g⟩ ρ H (MM sz rows2 H):=by
 subst h2;exact Se hT hz hzs hsz hpos hp hx hy h0 hm hm2
theorem Cc {T e:TypeId}{sz bytes lo hi:Nat}{rows rows2:List (List PV)}{l h:Option Operand}(hT:F9 P T=some (e,sz,bytes)) (hx:ρ x= .p (.lst rows)) (hr:∀r∈rows,r.length=sz)
  (hl:match l with | none=>lo=0 | some y=>∃k,ρ y= .p (.int k lo)) (hh:match h with | none=>hi=rows.length | some y=>∃k,ρ y= .p (.int k hi)) (h1:lo≤hi) (h2:hi≤rows.length) (h3:(rows.take hi).drop lo=rows2) :
  D4 P ⟨dst,.slice T x l h none,ty,pos,aft,g⟩ ρ H (.p (.lst rows2)) H:=by
 subst h3;exact aN hT hx hr hl hh h1 h2
end
section
variable {P:Program}{r:Option Nat}{ops:Array Oper}{Q:DC→B5→Prop}{k:Nat}{n:Nat}{τ:Nat→AV}{H H':List BR}{D:List Ee}{dst:Option Tmp}{op:Op}{ty:TypeId}{pos:String}{aft:Array Edge}{v:AV}
theorem mQ (ho:ops[k]?=some ⟨dst,op,ty,pos,aft,none⟩) (hd:Gv dst n=true) (h:Dd P ⟨dst,op,ty,pos,aft,none⟩ (ev τ) H (eV H))
  (next:∀b,AL P r ops (k+1) ⟨n,put τ dst (.map b),.map b (Ea [])::H,D⟩ Q):AL P r ops k ⟨n,τ,H,D⟩ Q :=
 GQ (S:=⟨n,τ,H,D⟩) ho Aq (I2 hd) h (fun v H' ⟨b,h1,h2⟩=>by subst h1;subst h2;exact next b) (fun _ _ h=>h.elim)
end
theorem leH {is:List Nat}{H H1 H':List BR}(h:P3 is 0 H=H1) (w:GH H1 H'):ki H H':=⟨H1,CC h,w⟩
theorem Dv {x y:AV}(h:norm x=y):R1 x y:=fun _ _ _ hr=>h▸hr.norm
theorem DJ:GH [] []:=rfl
theorem wl {o o':BR}{l l':List BR}(h:Lw o o') (r:GH l l'):GH (o::l) (o'::l'):=⟨o',l',rfl,h,r⟩
theorem on {b:Nat}{cs cs':List AV}(h:cs.map dn=cs'):Lw (.box b cs) (.box b cs'):=⟨rfl,fun F w hr=>by
 obtain⟨vs,T,h1,h2⟩:=hr;exact⟨vs,T,h1,h▸Kf h2⟩⟩
theorem Bd {n:Nat}{τ:Nat→AV}{H:List BR}{D:List Ee}{i b:Nat}{cs:List AV}(hi:H[i]?=some (.box b cs)):Io ⟨n,τ,H,D⟩ ⟨n,τ,H.set i (.box b (cs.map dn)),D⟩:=by
 intro F a w hs;refine⟨F,⟨hs.size,hs.tmp,?_,hs.defs⟩,?_⟩
 ·have hk:=GM (x':= .box b (cs.map dn)) hi rfl;refine⟨fun o ho c hc=>?_,by show List.Nodup _;rw[hk];exact hs.heap.nodup,fun o ho=>?_,hs.heap.bd⟩
  ·rcases Dx ho with rfl | ⟨j,_,hj⟩
   ·exact hs.heap.sub _ (List.mem_of_getElem? hi) c hc
   exact hs.heap.sub _ (List.mem_of_getElem? hj) c hc
  rcases Dx ho with rfl | ⟨j,_,hj⟩
  ·exact(on O).2 F w (hs.heap.obj _ (List.mem_of_getElem? hi))
  exact hs.heap.obj _ (List.mem_of_getElem? hj)
 refine { Trans.refl (F:=F) (H:=H) (w:=w) with keys:=fun o ho c hc=>?_ };rcases Dx ho with rfl | ⟨j,_,hj⟩
 ·exact .inl ⟨_,List.mem_of_getElem? hi,hc⟩
 exact .inl ⟨_,List.mem_of_getElem? hj,hc⟩
theorem EJ {n:Nat}{τ:Nat→AV}{H:List BR}{D:List Ee}(t:Nat):Io ⟨n,τ,H,D⟩ ⟨n,put τ (some t) (norm (τ t)),H,D⟩:=R5 fun _ _ _ h=>h.norm
theorem ob {b:Nat}{cs cs':List AV}(h:cs=cs'):Lw (.box b cs) (.box b cs'):=oe (by rw[h])
theorem om {b:Nat}{l l':List (PV×AV)}(h:l=l'):Lw (.map b l) (.map b l'):=oe (by rw[h])
def bh (mkv:AV→AV) (sz:Nat) (rows:List (List PV)):Eg→List BR→Prop
 | .val v,H'=>∃o c,v=mkv (.vs o rows.length c)∧H'=[.vec o sz rows c]
 | .panic _,_=>False
section
variable {P:Program}{r:Option Nat}{ops:Array Oper}{Q:DC→B5→Prop}{k:Nat}{n:Nat}{τ:Nat→AV}{H H':List BR}{D:List Ee}{dst:Option Tmp}{op:Op}{ty:TypeId}{pos:String}{aft:Array Edge}{v:AV}
theorem NO {c:Call}{f:Operand}{fid:FuncId}{first caps:List AV}{A:List AV}{mkv:AV→AV}{sz:Nat}{rows:List (List PV)}
  (ho:ops[k]?=some ⟨dst,.call c,ty,pos,aft,none⟩) (hd:Gv dst n=true)
  (hc:c.callee= .value f) (hf:(ev τ f= .p (.fn fid)∧first=[]∧caps=[])∨ev τ f= .fn (.func fid) first caps) (h:B2 P fid A [] (bh mkv sz rows)) (hA:first++c.args.toList.map (ev τ)++caps=A∨(first++c.args.toList.map (ev τ)++caps).map norm=A)
  (next:∀o cp,AL P r ops (k+1) ⟨n,put τ dst (mkv (.vs o rows.length cp)),.vec o sz rows cp::H,D⟩ Q):AL P r ops k ⟨n,τ,H,D⟩ Q :=
 JK ho hd hc hf (Hs:=[]) (Hf:=H) Ay h hA (fun v H' ⟨o,cp,h1,h2⟩=>by subst h1;subst h2;exact next o cp) (fun _ _ h=>h.elim)
end
theorem Xu {P:Program}{f:FuncId}{args:List AV}{pre post:List AV}{sz:Nat}{rows:List (List PV)}(h:B2 P f args [] (bh (fun v=> .tup (pre++v::post)) sz rows)) (hb:∀x∈pre++post,∀F F' w v,Dl F w F' w→CW F w x v→CW F' w x v) :
  Ep P f args (.tup (pre++ .p (.lst rows)::post)):=by
 refine⟨h.1,fun F w vs hH ha=>(h.2 F w vs hH ha).mono ?_⟩;rintro e w' ⟨r,H',F',hR,he,hH',ht⟩;cases r with
 | panic v=>exact hR.elim
 | val v =>
  obtain⟨o,c,rfl,rfl⟩:=hR;obtain⟨u,rfl,hu⟩:=he;have hbd:∀b,o=some b→b<w'.heap.size:=fun b hb=>hH'.bd b (hH'.sub _ (List.mem_cons_self ..) b (by rw[←hb];rfl));have st:Dl F' w' (fun b=>F' b∧o≠some b) w':=⟨Nat.le_refl _,fun _ _ _=>rfl,fun _ h _ h'=>h h'.1⟩;have hob:=hH'.obj _ (List.mem_cons_self ..);refine⟨.val (.tup (pre++ .p (.lst rows)::post)),[],fun b=>F' b∧o≠some b,⟨O,O⟩,⟨u,O,?_⟩,?_,?_⟩
  ·simp only[CW] at hu ⊢;obtain⟨us,hus,hr⟩:=hu;refine⟨us,hus,?_⟩;have key:∀(pre:List AV) (us:List Value),(∀x∈pre++post,∀F F' w v,Dl F w F' w→CW F w x v→CW F' w x v)→CB F' w' (pre++ .vs o rows.length c::post) us→CB (fun b=>F' b∧o≠some b) w' (pre++ .p (.lst rows)::post) us:=by
    intro pre
    induction pre with
    | nil =>
     intro us hb hr;simp only[List.nil_append,CB] at hr ⊢;obtain⟨u,us',rfl,h1,h2⟩:=hr;refine⟨u,us',O,Kl hbd hob h1 _ st (fun b hb h=>h.2 hb),?_⟩;exact CB.mono st _ _ h2
    | cons x pre ih =>
     intro us hb hr;simp only[List.cons_append,CB] at hr ⊢;obtain⟨u,us',rfl,h1,h2⟩:=hr;exact⟨u,us',rfl,hb x Ay _ _ _ _ st h1,ih us' (fun y hy=>hb y (by simp at hy ⊢;rcases hy with h | h<;>simp[h])) h2⟩
   exact key pre us hb hr
  ·exact⟨fun _ h=>by simp at h,by simp,fun _ h=>by simp at h,fun b hb=>hH'.bd b hb.1⟩
  refine⟨ht.size,fun b hb hn=>ht.same b hb hn,fun b hb hn=>⟨ht.keep b hb hn,?_⟩,fun b hb=>ht.fresh b hb.1,fun _ h=>by simp at h,ht.os,ht.out,ht.tape⟩;intro ho;subst ho;have:=hH.bd b hb;rcases ht.keys _ (List.mem_cons_self ..) b rfl with ⟨o',ho',_⟩ | h
  ·simp at ho'
  omega
theorem V9 (c:AV) (F F':Nat→Prop) (w:World) (v:Value) (st:Dl F w F' w) (h:CW F w c v):CW F' w c v:=CW.mono st _ _ h
def GP:List AV→List AV→Prop
 | [],ys=>ys=[]
 | x::xs,ys=>∃y ys',ys=y::ys'∧R1 x y∧GP xs ys'
theorem FM:GP [] []:=rfl
theorem aw {x y:AV}{xs ys:List AV}(h:R1 x y) (r:GP xs ys):GP (x::xs) (y::ys):=⟨y,ys,rfl,h,r⟩
theorem Pf {F:Nat→Prop}{w:World}:∀{xs ys:List AV}{vs:List Value},GP xs ys→CB F w xs vs→CB F w ys vs
 | [],ys,vs,h,hr=>by simp only[GP] at h;subst h;exact hr
 | x::xs,ys,vs,h,hr=>by
  obtain⟨y,ys',rfl,h1,h2⟩:=h;simp only[CB] at hr ⊢;obtain⟨u,us,rfl,r1,r2⟩:=hr;exact⟨u,us,O,h1 F w u r1,Pf h2 r2⟩
theorem JN:R1 (.p .nils) (.vs none 0 0):=fun _ _ _ h=>Uh h
theorem B2.args {P:Program}{f:FuncId}{args A:List AV}{H:List BR}{R:Eg→List BR→Prop}(h:B2 P f A H R) (hA:GP args A):B2 P f args H R :=
 ⟨h.1,fun F w vs hH ha=>h.2 F w vs hH (Pf hA ha)⟩
section
variable {P:Program}{r:Option Nat}{ops:Array Oper}{Q:DC→B5→Prop}{k:Nat}{n:Nat}{τ:Nat→AV}{H Hs:List BR}{D:List Ee}{dst:Option Tmp}{op:Op}{ty:TypeId}{pos:String}{aft:Array Edge}{v:AV}{c:Call}{f:Operand}{fid:FuncId}{first caps A:List AV}{R:Eg→List BR→Prop}
theorem Te {S:B5}{H':List BR}(hp:S.H.Perm H'):Io S ⟨S.n,S.τ,H',S.D⟩:=fun F a w hs =>
 ⟨F,⟨hs.size,hs.tmp,hs.heap.perm hp,hs.defs⟩,{ Trans.refl (F:=F) (H:=S.H) (w:=w) with keys:=fun o ho b hb=> .inl ⟨o,hp.mem_iff.2 ho,hb⟩ }⟩
theorem cZ (is:List Nat) (ho:ops[k]?=some ⟨dst,.call c,ty,pos,aft,none⟩) (hd:Gv dst n=true)
  (hc:c.callee= .value f) (hf:(ev τ f= .p (.fn fid)∧first=[]∧caps=[])∨ev τ f= .fn (.func fid) first caps) (h:B2 P fid A Hs R) (hg:Fj H is Hs) (hn:is.Nodup) (hA:GP (first++c.args.toList.map (ev τ)++caps) A)
  (next:∀v Hs',R (.val v) Hs'→Hs'.length=Hs.length∧AL P r ops (k+1) ⟨n,put τ dst v,Lc H is Hs',D⟩ Q) (pan:∀v Hs',R (.panic v) Hs'→Q (.panic v) ⟨n,τ,Hs'++DN is 0 H,D⟩):AL P r ops k ⟨n,τ,H,D⟩ Q :=
 JK ho hd hc hf (Di hn hg) (h.args hA) (.inl rfl) (fun v H' hR=>by
  obtain⟨hl,hn'⟩:=next v H' hR;exact Bx (Te (S:=⟨n,put τ dst v,H'++DN is 0 H,D⟩) (Mp hn hg hl).symm) hn') pan
theorem dk (is:List Nat) (ho:ops[k]?=some ⟨dst,.call c,ty,pos,aft,none⟩) (hd:Gv dst n=true)
  (hc:c.callee= .value f) (hf:(ev τ f= .p (.fn fid)∧first=[]∧caps=[])∨ev τ f= .fn (.func fid) first caps) (h:B2 P fid A Hs R) (hg:Fj H is Hs) (hn:is.Nodup) (hA:GP (first++c.args.toList.map (ev τ)++caps) A)
  (next:∀v Hs',R (.val v) Hs'→AL P r ops (k+1) ⟨n,put τ dst v,Hs'++DN is 0 H,D⟩ Q) (pan:∀v Hs',R (.panic v) Hs'→Q (.panic v) ⟨n,τ,Hs'++DN is 0 H,D⟩):AL P r ops k ⟨n,τ,H,D⟩ Q :=
 JK ho hd hc hf (Di hn hg) (h.args hA) (.inl rfl) next pan
theorem IB {sz:Nat}:Io ⟨n,τ,H,D⟩ ⟨n,τ,.vec none sz [] 0::H,D⟩:=by
 intro F a w hs;have hH:HRel F (.vec none sz [] 0::H) w:=⟨fun o ho b hb=>by
   rcases List.mem_cons.1 ho with rfl | ho
   ·cases hb
   ·exact hs.heap.sub o ho b hb,by simpa [List.filterMap_cons,BR.key] using hs.heap.nodup,fun o ho=>by
   rcases List.mem_cons.1 ho with rfl | ho
   ·exact⟨O,O⟩
   exact hs.heap.obj o ho,hs.heap.bd⟩
 exact⟨F,⟨hs.size,hs.tmp,hH,hs.defs⟩,⟨Nat.le_refl _,fun _ _ _=>O,fun _ h _=>h,fun _ h=> .inl h,fun o ho b hb=>by
   rcases List.mem_cons.1 ho with rfl | ho
   ·cases hb
   exact .inl ⟨o,ho,hb⟩,O,O,O⟩⟩
end
section
variable {P:Program}{r:Option Nat}{ops:Array Oper}{Q:DC→B5→Prop}{k:Nat}{n:Nat}{τ:Nat→AV}{H:List BR}{D:List Ee}{o:Option Nat}{sz cp i:Nat}{rows:List (List PV)}
theorem Vw {F:Nat→Prop}{w:World}{a:Act}(hs:Dy F ⟨n,τ,H,D⟩ a w) (hi:H[i]?=some (.vec o sz rows cp)) (hne:0<rows.length):∃b,o=some b:=by
 have:=hs.heap.obj _ (List.mem_of_getElem? hi);cases o with
 | none=>obtain⟨h,_⟩:=this;simp[h] at hne
 | some b=>exact⟨b,rfl⟩
theorem Ju (hi:H[i]?=some (.vec o sz rows cp)) (hne:0<rows.length) (next:∀b,o=some b→AL P r ops k ⟨n,τ,H,D⟩ Q):AL P r ops k ⟨n,τ,H,D⟩ Q:=fun F a w hs=>by
 obtain⟨b,hb⟩:=Vw hs hi hne;exact next b hb F a w hs
theorem Ib {c:Code}(hi:H[i]?=some (.vec o sz rows cp)) (hne:0<rows.length) (next:∀b,o=some b→JR P r c ⟨n,τ,H,D⟩ Q):JR P r c ⟨n,τ,H,D⟩ Q:=fun F a w hs=>by
 obtain⟨b,hb⟩:=Vw hs hi hne;exact next b hb F a w hs
end
section
variable {P:Program}{dst:Option Tmp}{ty:TypeId}{pos:String}{aft:Array Edge}{g:Option (Nat×Bool)}{ρ:Operand→AV}{H:List BR}
theorem BT {a:Operand}{T e:TypeId}{n n1 n2:Nat}{rows:List (List PV)}(hT:F9 P T=some (e,n1,n2)) (hx:ρ a= .p (.lst rows)) (hn:rows.length=n) :
  D4 P ⟨dst,.call { callee:= .builtin .len,args:=#[a],argTypes:=#[T] },ty,pos,aft,g⟩ ρ H (.p (.int .i64 n)) H:=NZ hT (.inl ⟨rows,hx,hn⟩)
theorem Jf {a:Operand}{T e:TypeId}{m n n1 n2 c:Nat}{o:Option Nat}(hT:F9 P T=some (e,n1,n2)) (hx:ρ a= .vs o m c) (hn:m=n) :
  D4 P ⟨dst,.call { callee:= .builtin .len,args:=#[a],argTypes:=#[T] },ty,pos,aft,g⟩ ρ H (.p (.int .i64 n)) H:=NZ hT (.inr (.inl ⟨o,c,by rw[hx,hn]⟩))
end
section
variable {P:Program}{dst:Option Tmp}{ty:TypeId}{pos:String}{aft:Array Edge}{g:Option (Nat×Bool)}{ρ:Operand→AV}{H:List BR}{x y:Operand}
theorem XF {m n:Int}{T U:TypeId}(hx:ρ x= .p (.int .i64 m)) (hy:ρ y= .p (.int .i64 n)):D4 P ⟨dst,.binOp .mul T x y U,ty,pos,aft,g⟩ ρ H (.p (.int .i64 (wr (m*n)))) H :=
 Ce fun F w E hH hE=>by
  have e1:=hE x Aj;have e2:=hE y Aj;rw[hx] at e1;rw[hy] at e2;simp only[CW,Cb] at e1 e2;exact⟨.int .i64 (wr (m*n)),by simp[execOp,Sem.run_bind,Ih,e1,e2,binOp,Op.intArith],by simp[CW,Cb]⟩
end
section
variable {P:Program}{ops:Array Oper}{n:Nat}{τ₀:Nat→AV}{D:List Ee}{Q:DC→B5→Prop}{opn:Nat→Bool}{k:Nat}{τ:Nat→AV}{H:List BR}{rd:XW}{ef:Va}{effs:List Bool}{fx:List (Nat×Sp)}{dst:Option Tmp}{ty:TypeId}{pos:String}{aft:Array Edge}{c:Call}{f:Operand}{fid:FuncId}{first caps A:List AV}{mkv:AV→AV}{sz:Nat}{rows:List (List PV)}
theorem lg (fx':List (Nat×Sp)) (ho:ops[k]?=some ⟨dst,.call c,ty,pos,aft,none⟩) (hn:opn k=true)
  (hc:c.callee= .value f) (hf:(ev τ f= .p (.fn fid)∧first=[]∧caps=[])∨ev τ f= .fn (.func fid) first caps) (h:B2 P fid A [] (bh mkv sz rows)) (hA:first++c.args.toList.map (ev τ)++caps=A∨(first++c.args.toList.map (ev τ)++caps).map norm=A) (haft:FW ops k (fx'.map (·.1))=true)
  (next:∀o cp,Ke ops k H (.vec o sz rows cp::H) rd∧Hp k (.eff (mkv (.vs o rows.length cp)) (.vec o sz rows cp::H)) fx∧Dr P ops n τ₀ D Q opn (k+1) (put τ dst (mkv (.vs o rows.length cp))) (.vec o sz rows cp::H) rd ((k,H,.vec o sz rows cp::H)::ef) (true::effs) (fx'++fx)):Dr P ops n τ₀ D Q opn k τ H rd ef effs fx :=
 N3 fx' ho hn (GV (H:=H) (Hs:=[]) (Hf:=H) hc hf Ay h hA) haft ⟨_,_,_,⟨none,0,rfl,rfl⟩,rfl⟩ (fun v H' ⟨_,h,_⟩=>h.elim) (fun v H' ⟨Hs',⟨o,cp,h1,h2⟩,h3⟩=>by subst h1;subst h2;subst h3;exact next o cp)
end
section
variable {P:Program}{dst:Option Tmp}{ty:TypeId}{pos:String}{aft:Array Edge}{g:Option (Nat×Bool)}{ρ:Operand→AV}{H Hs Hs':List BR}{v:AV}{c:Call}{f:Operand}{fid:FuncId}{first caps A:List AV}
theorem GR (hc:c.callee= .value f) (hf:ρ f= .p (.fn fid)) (h:Ep P fid A v) (hA:GP (c.args.toList.map ρ) A):D4 P ⟨dst,.call c,ty,pos,aft,g⟩ ρ H v H:=BL hc hf (h.args hA) rfl
end
end Go.Abs
namespace Go.Eu
open Go.Abs
structure Mv where
 type:Tm
 known:Bool
 value:Tm
 cls:Bool
 deriving Inhabited
def FT (n:Int):List PV:=[I n]
def Gx (s:ByteArray):List PV:=[.str s]
def uD (b:Bool):List PV:=[.bool b]
def m4 (m:Mv):List PV:=Bb m.type++(.bool m.known::(Bb m.value++[.bool m.cls]))
theorem Jh {ts:List Int}{i:Nat}{t:Int}(h:ts[i]?=some t):(ts.map FT)[i]?=some (FT t):=by simp[h]
theorem Ol {ts:List ByteArray}{i:Nat}{t:ByteArray}(h:ts[i]?=some t):(ts.map Gx)[i]?=some (Gx t):=by simp[h]
abbrev MV (m:Mv):AV:= .agg ((m4 m).map .p)
abbrev ue (l:List Mv):AV:= .p (.lst (l.map m4))
abbrev uh (l:List Int):AV:= .p (.lst (l.map FT))
def qj (sz:Nat) {α:Type}(f:α→List PV):Prop:=∀a,EZ sz (f a)
theorem Gh {α:Type}{sz:Nat}{f:α→List PV}(h:∀a,EZ sz (f a)) (l:List α):∀r∈l.map f,EZ sz r:=by
 intro r hr;obtain⟨a,_,rfl⟩:=List.mem_map.1 hr;exact h a
theorem K1 (t:Tm):EZ 5 (Bb t):=by
 obtain⟨k,i,n,l,s⟩:=t;refine⟨O,?_⟩;intro c hc;simp[Bb] at hc;rcases hc with rfl | rfl | rfl | rfl | rfl<;>simp
theorem B1 (l:List Tm):∀r∈BN l,EZ 5 r:=by rw[Eh];exact Gh K1 l
theorem JM (l:List Int):∀r∈l.map FT,EZ 1 r:=Gh (f:=FT) (fun a=>⟨rfl,by simp[FT]⟩) l
theorem Kb (l:List ByteArray):∀r∈l.map Gx,EZ 1 r:=Gh (f:=Gx) (fun a=>⟨rfl,by simp[Gx]⟩) l
theorem Gb (l:List CS):∀r∈l.map ED,EZ 2 r:=Gh (f:=ED) (fun a=>⟨rfl,by simp[ED]⟩) l
theorem Mj (l:List Ci):∀r∈l.map B9,EZ 2 r:=Gh (f:=B9) (fun a=>⟨rfl,by simp[B9]⟩) l
theorem CM {sz:Nat}{rows:List (List PV)}(h:∀r∈rows,EZ sz r):∀r∈rows,r.length=sz:=fun r hr=>(h r hr).1
theorem Hk (a b:List Tm):BN a++BN b=BN (a++b):=by simp[Eh]
theorem FX {α:Type}{f:α→List PV}(a b:List α):a.map f++b.map f=(a++b).map f:=by simp
theorem Ow (l:List Tm) (j:Nat) (x:Tm):(BN l).set j (Bb x)=BN (l.set j x):=by simp[Eh,List.map_set]
theorem cc {α:Type}{f:α→List PV}(l:List α) (j:Nat) (x:α):(l.map f).set j (f x)=(l.set j x).map f:=by simp[List.map_set]
theorem mz (n:Nat) (x:Tm):List.replicate n (Bb x)=BN (List.replicate n x):=by simp[Eh]
theorem lS {α:Type}{f:α→List PV}(n:Nat) (x:α):List.replicate n (f x)=(List.replicate n x).map f:=by simp
theorem M1 (l:List Tm) (hi:Nat):((BN l).take hi).drop 0=BN (l.take hi):=by simp[Eh,List.map_take]
theorem YC {α:Type}{f:α→List PV}(l:List α) (hi:Nat):((l.map f).take hi).drop 0=(l.take hi).map f:=by simp[List.map_take]
theorem I6 (l:List Tm) (lo:Nat):((BN l).take (BN l).length).drop lo=BN (l.drop lo):=by rw[List.take_length];simp[Eh,List.map_drop]
theorem eX {α:Type}{f:α→List PV}(l:List α) (lo:Nat):((l.map f).take (l.map f).length).drop lo=(l.drop lo).map f:=by rw[List.take_length,List.map_drop]
theorem cN (l:List Tm) (lo hi:Nat):((BN l).take hi).drop lo=BN ((l.take hi).drop lo):=by simp[Eh,List.map_take,List.map_drop]
theorem HU {sz:Nat}{r:List PV}(h:EZ sz r):(r.map AV.p).all one=true:=by
 simp only[List.all_eq_true];intro x hx;obtain⟨c,hc,rfl⟩:=List.mem_map.1 hx;have:=h.2 c hc;cases c<;>simp_all [one]
theorem FD (t:Tm):((Bb t).map AV.p).all one=true:=HU (K1 t)
theorem gj {r:List PV}(h:∀c∈r,c≠ .nils):(r.map AV.p).map dn=r.map .p:=by
 induction r with
 | nil=>rfl
 | cons c r ih =>
  simp only[List.map_cons];rw[ih fun d hd=>h d (by simp[hd])];have:=h c Ay;cases c<;>simp_all [dn]
theorem Ht (t:Tm):Gp (((Bb t).map AV.p).map dn)=some (Bb t):=by obtain⟨k,i,n,l,s⟩:=t;rfl
end Go.Eu
namespace Go.Eu
def UW (f a:Tm):Tm:= .mk 4 0 ⟨#[]⟩ [] [f,a]
def apply (f:Tm) (xs:List Tm):Tm:=xs.foldl UW f
theorem RV {f:Tm}{xs:List Tm}{i:Nat}{x:Tm}(h:xs[i]?=some x):apply f (xs.take (i+1))=UW (apply f (xs.take i)) x:=by
 simp[apply,List.take_add_one,h]
def BH:Tm→Tm×List Tm
 | .mk k i n l [f,a]=>if k=4 then ((BH f).1,(BH f).2++[a]) else (.mk k i n l [f,a],[])
 | t=>(t,[])
theorem Rk {k i:Int}{n:ByteArray}{l:List Ci}{ts:List Tm}(h:k≠4∨((ts.length:Nat):Int)≠2):BH (.mk k i n l ts)=(.mk k i n l ts,[]):=by
 unfold BH;split
 ·rename_i k' i' n' l' f a e;injection e with e1 e2 e3 e4 e5;subst e1 e2 e3 e4 e5;simp at h;rw[if_neg h]
 rfl
theorem Tl {k i:Int}{n:ByteArray}{l:List Ci}{ts:List Tm}{x y:Tm}(h:k=4∧((ts.length:Nat):Int)=2) (hx:ts[0]?=some x) (hy:ts[1]?=some y):BH (.mk k i n l ts)=((BH x).1,(BH x).2++[y]):=by
 obtain⟨rfl,h2⟩:=h
 match ts,h2,hx,hy with
 | [a,b],_,hx,hy =>
  simp at hx hy;subst hx hy;simp[BH]
theorem eZ {ts:List Tm}{x y:Tm}(h:((ts.length:Nat):Int)=2) (hx:ts[0]?=some x) (hy:ts[1]?=some y):ts=[x,y]:=by
 match ts,h,hx,hy with
 | [a,b],_,hx,hy =>
  simp at hx hy;subst hx hy;rfl
theorem I0:∀(t:Tm),size (BH t).1+Bl (BH t).2+(BH t).2.length=size t
 | .mk k i n l [f,a]=>by
  unfold BH;split
  ·have:=I0 f;simp[size,Bl] at this ⊢;have e:∀(xs:List Tm) (y:Tm),Bl (xs++[y])=Bl xs+size y:=by
    intro xs y
    induction xs with
    | nil=>simp[Bl]
    | cons z zs ih=>simp[Bl,ih];omega
   rw[e];omega
  ·simp[Bl]
 | .mk k i n l []=>by simp[BH,Bl]
 | .mk k i n l [_]=>by simp[BH,Bl]
 | .mk k i n l (_::_::_::_)=>by simp[BH,Bl]
theorem PN (t:Tm):(BH t).2.length<size t:=by
 have:=I0 t;have:=size_pos (BH t).1;omega
def Xp (k:Int) (xs:List Tm) (t:Tm):Tm:=xs.foldr (fun a t=> .mk k 0 ⟨#[]⟩ [] [a,t]) t
theorem sd:(∀(p:Prop) [Decidable p],(decide p=true)=p)∧(∀{p:Prop} [Decidable p],decide p=false↔¬p)∧(∀{α:Type} [BEq α] [LawfulBEq α] {a b:α},(a==b)=true↔a=b)∧(∀{α:Type} [BEq α] [LawfulBEq α] {a b:α},(a !=b)=true↔a≠b)∧(∀{α:Type} [BEq α] [LawfulBEq α] {a b:α},(a==b)=false↔a≠b)∧(∀{α:Type} [BEq α] [LawfulBEq α] {a b:α},(a !=b)=false↔a=b)∧(∀{α:Type}(a b:α),(a≠b)=¬(a=b))∧(∀{α:Type} [LT α] {x y:α},x > y↔y<x)∧(∀{α:Type} [LE α] {x y:α},x≥y↔y≤x)∧(∀(b:Bool),(¬(b=true))=(b=false))∧(∀(b:Bool),(¬(b=false))=(b=true))∧(∀(b:Bool),((!b)=true)=(b=false))∧(∀(b:Bool),((!b)=false)=(b=true))∧(∀{a b:Int},¬a<b↔b≤a)∧(∀{a b:Int},¬a≤b↔b<a) :=
 ⟨fun _=>decide_eq_true_eq,decide_eq_false_iff_not,beq_iff_eq,bne_iff_ne,beq_eq_false_iff_ne,bne_eq_false_iff_eq,ne_eq,gt_iff_lt,ge_iff_le,Bool.not_eq_true,Bool.not_eq_false,fun b=>by cases b<;>simp,fun b=>by cases b<;>simp,Int.not_lt,Int.not_le⟩
theorem se:(∀(ts:List Tm),(BN ts).length=ts.length)∧(∀{α β:Type}{ays:List α}{f:α→β},(ays.map f).length=ays.length)∧(∀{α:Type}{n:Nat}{a:α},(List.replicate n a).length=n)∧(∀(a b:Bool),((a||b)=true)=(a=true∨b=true))∧(∀(a b:Bool),((a&&b)=true)=(a=true∧b=true))∧(∀{x y:Bool},(x||y)=false↔x=false∧y=false)∧(∀{x y:Bool},(x&&y)=false↔x=true→y=false) :=
 ⟨Bc,List.length_map _,List.length_replicate,Bool.or_eq_true,Bool.and_eq_true,Bool.or_eq_false_iff,Bool.and_eq_false_imp⟩
end Go.Eu
namespace Go.Eu
open Go.Abs
def Pr (i:Int):Tm:= .mk 0 i ⟨#[]⟩ [] []
def Bp:Tm:= .mk 0 0 ⟨#[]⟩ [] []
def Gn (er e:Int):Int:=if er=0 then e else er
def Nc (er i:Int):Int:=if i > 65535 then Gn er 24 else er
mutual
def E6:Tm→Int
 | .mk _ _ _ _ ks=>K7 1 ks
def K7:Int→List Tm→Int
 | n,[]=>n
 | n,t::ts=>K7 (wr (n+E6 t)) ts
end
mutual
def En:Tm→Int
 | .mk _ _ _ _ ks=>wr (HJ 0 ks+1)
def HJ:Int→List Tm→Int
 | n,[]=>n
 | n,t::ts=>HJ (max n (En t)) ts
end
mutual
def Cs (b fr:Int):Int→Int→Tm→Tm×Int
 | d,er,.mk k i n l ks =>
  if k=0 then
   (if i<wr (fr+d) then (.mk k i n l ks,er)
    else if wr (i+b)<wr (fr+d) then (.mk k i n l ks,Gn er 24)
    else (Pr (wr (i+b)),Nc er (wr (i+b))))
  else ((.mk k i n l (DR b fr k d 0 er ks).1),(DR b fr k d 0 er ks).2)
def DR (b fr k:Int):Int→Nat→Int→List Tm→List Tm×Int
 | d,j,er,[]=>([],er)
 | d,j,er,t::ts=>((Cs b fr (d+below k j) er t).1::(DR b fr k d (j+1) (Cs b fr (d+below k j) er t).2 ts).1,(DR b fr k d (j+1) (Cs b fr (d+below k j) er t).2 ts).2)
end
mutual
def CR (vs:List Tm):Int→Int→Int→Tm→Tm×Int×Int
 | d,er,nd,.mk k i n l ks =>
  if nd > 4096 then (.mk k i n l ks,er,nd)
  else if k=0∧i≥d∧i - d<(vs.length:Int) then
   ((Cs d 0 0 er (vs.getD (i - d).toNat Bp)).1,(Cs d 0 0 er (vs.getD (i - d).toNat Bp)).2,wr (nd+E6 (vs.getD (i - d).toNat Bp)))
  else if k=0 then
   (if i≥d then (Pr (wr (i - vs.length)),Nc er (wr (i - vs.length)),wr (nd+1)) else (.mk k i n l ks,er,wr (nd+1)))
  else ((.mk k i n l (Cp vs k d 0 er (wr (nd+1)) ks).1),(Cp vs k d 0 er (wr (nd+1)) ks).2)
def Cp (vs:List Tm) (k:Int):Int→Nat→Int→Int→List Tm→List Tm×Int×Int
 | d,j,er,nd,[]=>([],er,nd)
 | d,j,er,nd,t::ts=>((CR vs (d+below k j) er nd t).1::(Cp vs k d (j+1) (CR vs (d+below k j) er nd t).2.1 (CR vs (d+below k j) er nd t).2.2 ts).1,
   (Cp vs k d (j+1) (CR vs (d+below k j) er nd t).2.1 (CR vs (d+below k j) er nd t).2.2 ts).2)
end
def CT (t:Tm) (vs:List Tm) (d:Int):Tm×Int :=
 if (CR vs (min d 65536) 0 0 t).2.2 > 4096 then (Bp,5)
 else if (CR vs (min d 65536) 0 0 t).2.1≠0 then (Bp,(CR vs (min d 65536) 0 0 t).2.1)
 else if En (CR vs (min d 65536) 0 0 t).1 > 200 then (Bp,7)
 else ((CR vs (min d 65536) 0 0 t).1,0)
structure EK where
 steps:Int
 nodes:Int
 forms:Int
 limit:Int
 over:Bool
 deriving Inhabited
def He (c:EK):List PV:=[I c.steps,I c.nodes,I c.forms,I c.limit,.bool c.over]
def EK.form (c:EK) (t:Tm) (e:Int):EK :=
 { c with forms:=wr (c.forms+E6 t),over:=c.over||(e !=0||decide (c.steps > c.limit)||decide (c.nodes > wr (2*c.limit))||decide (wr (c.forms+E6 t) > wr (40*c.limit))||decide (E6 t > 2000)||decide (En t > 95)) }
def EK.sized (c:EK) (t:Tm):EK:={ c with over:=c.over||(decide (E6 t > 2000)||decide (En t > 95)) }
def LZ:EK:=⟨0,0,0,1000,false⟩
end Go.Eu
namespace Go.Eu
theorem Cu {α:Type}{l:List α}{i:Nat}{x:α}(h:l[i]?=some x):l.drop i=x::l.drop (i+1):=by
 have hlt:=(List.getElem?_eq_some_iff.1 h).1;have e:l[i]=x:=(List.getElem?_eq_some_iff.1 h).2;rw[List.drop_eq_getElem_cons hlt,e]
theorem Oq {α:Type}{l:List α}{i:Nat}{x d:α}(h:l[i]?=some x):l.getD i d=x:=by simp[List.getD,h]
end Go.Eu
namespace Go.Eu
open Go.Abs
theorem YI (n:Int):JB (wr n):=by
 unfold JB wr IntKind.wrap;have:IntKind.i64.min= -9223372036854775808:=rfl;have:IntKind.i64.max=9223372036854775807:=rfl;simp[IntKind.signed,IntKind.bits];omega
theorem gK (i:Int):Nd (Pr (wr i)):=by
 have:=YI i;exact⟨by decide,by decide,by simp,by decide,trivial,⟨by decide,by decide⟩,this⟩
theorem Qp:Nd Bp:=⟨by decide,by decide,by simp,by decide,trivial,⟨by decide,by decide⟩,⟨by decide,by decide⟩⟩
mutual
theorem Tu (b fr:Int):∀(t:Tm) (d er:Int),Nd t→Nd (Cs b fr d er t).1
 | .mk k i n l ks,d,er,h=>by
  unfold Cs;split
  ·split
   ·exact h
   split
   ·exact h
   exact gK _
  simp only[Nd] at h ⊢;obtain⟨h1,h2,h3,h4,h5,h6⟩:=h;obtain⟨e1,e2⟩:=R8 b fr k ks d 0 er h5;exact⟨h1,h2,h3,by rw[e1];exact h4,e2,h6⟩
theorem R8 (b fr k:Int):∀(ts:List Tm) (d:Int) (j:Nat) (er:Int),Lx ts→(DR b fr k d j er ts).1.length=ts.length∧Lx (DR b fr k d j er ts).1
 | [],d,j,er,h=>by simp[DR,Lx]
 | t::ts,d,j,er,h=>by
  simp only[DR,Lx,List.length_cons] at *;have:=Tu b fr t (d+below k j) er h.1;obtain⟨e1,e2⟩:=R8 b fr k ts d (j+1) (Cs b fr (d+below k j) er t).2 h.2;exact⟨by rw[e1],this,e2⟩
end
theorem ct {vs:List Tm}(h:Lx vs) (i:Nat):Nd (vs.getD i Bp):=by
 cases e:vs[i]? with
 | none=>simp[List.getD,e];exact Qp
 | some x=>rw[Oq e];exact Df h e
mutual
theorem Ph:∀(t:Tm) (vs:List Tm) (d er nd:Int),Nd t→Lx vs→Nd (CR vs d er nd t).1
 | .mk k i n l ks,vs,d,er,nd,h,hv=>by
  unfold CR;split
  ·exact h
  split
  ·exact Tu _ _ _ _ _ (ct hv _)
  split
  ·split
   ·exact gK _
   exact h
  simp only[Nd] at h ⊢;obtain⟨h1,h2,h3,h4,h5,h6⟩:=h;obtain⟨e1,e2⟩:=RK ks vs k d 0 er (wr (nd+1)) h5 hv;exact⟨h1,h2,h3,by rw[e1];exact h4,e2,h6⟩
theorem RK:∀(ts:List Tm) (vs:List Tm) (k d:Int) (j:Nat) (er nd:Int),Lx ts→Lx vs→(Cp vs k d j er nd ts).1.length=ts.length∧Lx (Cp vs k d j er nd ts).1
 | [],vs,k,d,j,er,nd,h,hv=>by simp[Cp,Lx]
 | t::ts,vs,k,d,j,er,nd,h,hv=>by
  simp only[Cp,Lx,List.length_cons] at *;have:=Ph t vs (d+below k j) er nd h.1 hv;obtain⟨e1,e2⟩:=RK ts vs k d (j+1) (CR vs (d+below k j) er nd t).2.1 (CR vs (d+below k j) er nd t).2.2 h.2 hv;exact⟨by rw[e1],this,e2⟩
end
theorem aP (t:Tm) (vs:List Tm) (d:Int) (h:Nd t) (hv:Lx vs):Nd (CT t vs d).1:=by
 unfold CT;split
 ·exact Qp
 split
 ·exact Qp
 split
 ·exact Qp
 exact Ph t vs _ _ _ h hv
theorem IA {o:Option Nat}{c:Nat}(l:List Tm) {l':List Tm}(h:l=l'):AV.vs o (BN l).length c= .vs o (BN l').length c:=by rw[h]
theorem FI {α:Type}{f:α→List PV}{o:Option Nat}{c:Nat}(l:List α) {l':List α}(h:l=l'):AV.vs o (l.map f).length c= .vs o (l'.map f).length c:=by rw[h]
theorem HR {o:Option Nat}{sz c:Nat}(l:List Tm) {l':List Tm}(h:l=l'):Lw (.vec o sz (BN l) c) (.vec o sz (BN l') c):=oe (by rw[h])
theorem Ei {α:Type}{f:α→List PV}{o:Option Nat}{sz c:Nat}(l:List α) {l':List α}(h:l=l'):Lw (.vec o sz (l.map f) c) (.vec o sz (l'.map f) c):=oe (by rw[h])
theorem Cn {o:Option Nat}{c:Nat}(l:List Tm) {l':List Tm}(h:l.length=l'.length):AV.vs o (BN l).length c= .vs o (BN l').length c:=by rw[Bc,Bc,h]
theorem UA {α:Type}{f:α→List PV}{o:Option Nat}{c:Nat}(l:List α) {l':List α}(h:l.length=l'.length):AV.vs o (l.map f).length c= .vs o (l'.map f).length c:=by rw[List.length_map,List.length_map,h]
mutual
def YL:List Int→Tm→List Int
 | l,.mk k i _ _ ks=>if k=12 then (if i∈l then l else Ul (l++[i]) ks) else Ul l ks
def Ul:List Int→List Tm→List Int
 | l,[]=>l
 | l,t::ts=>Ul (YL l t) ts
end
def ug (l:List Int) (n:Int):Bool:=decide (n∈l)
def eh (fr:Int):Nat→Nat→List Tm
 | _,0=>[]
 | m,k+1=>Pr (fr+(m+k:Nat))::eh fr m k
def qL (n fr:Int):List Tm:=if n<1∨n > 4096∨fr<0 then [] else eh fr 0 n.toNat
def qD:List Int→List Tm→Option (List Int)
 | l,[]=>some l
 | l,.mk k i _ _ _::ts=>if k≠0∨i∈l then none else qD (l++[i]) ts
def uM (t:Tm):Int×List Int×Bool :=
 if (BH t).1.kind≠12 then (0,[],false)
 else match qD [] (BH t).2 with
  | none=>(0,[],false)
  | some l=>((BH t).1.index,l,true)
def tc (ms:List Mv) (ctx:List Tm) (t:Tm) (cls:Bool):List Mv×Tm×Int :=
 if ms.length≥2000 then ([],Bp,6)
 else if E6 (Xp 6 ctx t) > 4096 then ([],Bp,5)
 else if En (Xp 6 ctx t) > 200 then ([],Bp,7)
 else (ms++[⟨Xp 6 ctx t,false,Bp,cls⟩],apply (.mk 12 ms.length ⟨#[]⟩ [] []) (qL ctx.length 0),0)
end Go.Eu
namespace Go.Eu
end Go.Eu
namespace Go.Eu
open Go.Abs
theorem Ej {n:Int}(h:JB n):wr n=n:=UQ (k:= .i64) h.1 h.2
mutual
theorem S8 (B:Int) (hB:B≤4611686018427387904):∀(t:Tm),(size t:Int)<B→E6 t=size t
 | .mk k i n l ks,h=>by
  have h':(1:Int)+Bl ks<B:=by rw[size] at h;omega
  show K7 1 ks=_;rw[RF B hB ks 1 Ax h',size];omega
theorem RF (B:Int) (hB:B≤4611686018427387904):∀(ts:List Tm) (n:Int),0≤n→n+Bl ts<B→K7 n ts=n+Bl ts
 | [],n,_,_=>by simp[K7,Bl]
 | t::ts,n,h0,h=>by
  simp only[Bl,K7] at *;rw[S8 B hB t (by have:=size_pos t;omega),Ej ⟨by omega,by omega⟩,RF B hB ts (n+size t) Ax Ax];omega
end
mutual
theorem SI (B:Int) (hB:B≤4611686018427387904):∀(t:Tm),(depth t:Int)<B→En t=depth t
 | .mk k i n l ks,h=>by
  have h':(I4 ks:Int)<B:=by rw[depth] at h;omega
  show wr (HJ 0 ks+1)=_;rw[QL B hB ks 0 Ax Ax h',Ej ⟨by omega,by omega⟩,depth];omega
theorem QL (B:Int) (hB:B≤4611686018427387904):∀(ts:List Tm) (n:Int),0≤n→n<B→(I4 ts:Int)<B→HJ n ts=max n (I4 ts)
 | [],n,_,_,_=>by simp[HJ,I4];omega
 | t::ts,n,h0,h1,h=>by
  simp only[I4,HJ] at *;rw[SI B hB t Ax,QL B hB ts _ Ax Ax Ax];omega
end
theorem L0 {t:Tm}(h:(size t:Int)<4611686018427387904):E6 t=size t:=S8 _ (Int.le_refl _) t h
theorem TD {t:Tm}(h:(size t:Int)<4611686018427387904):En t=depth t:=SI _ (Int.le_refl _) t (by have:=IT t;omega)
mutual
def Wt:Tm→Prop
 | .mk k i _ _ ks=>(ks.length:Int)=arity k∧(k=12→0≤i)∧Np ks
def Np:List Tm→Prop
 | []=>True
 | t::ts=>Wt t∧Np ts
end
theorem Qt:∀{ts:List Tm}{i:Nat}{t:Tm},Np ts→ts[i]?=some t→Wt t
 | [],i,t,_,h=>by simp at h
 | a::ts,0,t,hn,h=>by simp at h;subst h;exact hn.1
 | a::ts,i+1,t,hn,h=>by simp at h;exact Qt hn.2 h
theorem JG (a b:List Tm):Bl (a++b)=Bl a+Bl b:=by
 induction a with
 | nil=>simp[Bl]
 | cons x a ih=>simp[Bl,ih];omega
mutual
theorem kl {vars metas:Int}:∀(t:Tm) (d:Int),wf vars metas d t→Wt t
 | .mk k i n l ks,d,h=>by
  simp only[wf,Wt] at *;exact⟨h.2.2.1,fun e=>(h.2.2.2.2.1 e).1,gA ks k d 0 h.2.2.2.2.2⟩
theorem gA {vars metas:Int}:∀(ts:List Tm) (k d:Int) (j:Nat),jH vars metas k d j ts→Np ts
 | [],k,d,j,h=>trivial
 | t::ts,k,d,j,h=>by
  simp only[jH,Np] at *;exact⟨kl t _ h.1,gA ts k d (j+1) h.2⟩
end
theorem eS (i:Int):Wt (Pr i):=⟨by simp[arity],by simp,trivial⟩
theorem QY:Wt Bp:=⟨by simp[arity],by simp,trivial⟩
mutual
theorem S5 (b fr:Int):∀(t:Tm) (d er:Int),Wt t→Wt (Cs b fr d er t).1
 | .mk k i n l ks,d,er,h=>by
  unfold Cs;split
  ·split
   ·exact h
   split
   ·exact h
   exact eS _
  simp only[Wt] at h ⊢;obtain⟨e1,e2⟩:=SQ b fr k ks d 0 er h.2.2;exact⟨by rw[e1];exact h.1,h.2.1,e2⟩
theorem SQ (b fr k:Int):∀(ts:List Tm) (d:Int) (j:Nat) (er:Int),Np ts→(DR b fr k d j er ts).1.length=ts.length∧Np (DR b fr k d j er ts).1
 | [],d,j,er,h=>by simp[DR,Np]
 | t::ts,d,j,er,h=>by
  simp only[DR,Np,List.length_cons] at *;have:=S5 b fr t (d+below k j) er h.1;obtain⟨e1,e2⟩:=SQ b fr k ts d (j+1) (Cs b fr (d+below k j) er t).2 h.2;exact⟨by rw[e1],this,e2⟩
end
theorem dI {vs:List Tm}(h:Np vs) (i:Nat):Wt (vs.getD i Bp):=by
 cases e:vs[i]? with
 | none=>simp[List.getD,e];exact QY
 | some x=>rw[Oq e];exact Qt h e
mutual
theorem TZ:∀(t:Tm) (vs:List Tm) (d er nd:Int),Wt t→Np vs→Wt (CR vs d er nd t).1
 | .mk k i n l ks,vs,d,er,nd,h,hv=>by
  unfold CR;split
  ·exact h
  split
  ·exact S5 _ _ _ _ _ (dI hv _)
  split
  ·split
   ·exact eS _
   exact h
  simp only[Wt] at h ⊢;obtain⟨e1,e2⟩:=R4 ks vs k d 0 er (wr (nd+1)) h.2.2 hv;exact⟨by rw[e1];exact h.1,h.2.1,e2⟩
theorem R4:∀(ts:List Tm) (vs:List Tm) (k d:Int) (j:Nat) (er nd:Int),Np ts→Np vs→(Cp vs k d j er nd ts).1.length=ts.length∧Np (Cp vs k d j er nd ts).1
 | [],vs,k,d,j,er,nd,h,hv=>by simp[Cp,Np]
 | t::ts,vs,k,d,j,er,nd,h,hv=>by
  simp only[Cp,Np,List.length_cons] at *;have:=TZ t vs (d+below k j) er nd h.1 hv;obtain⟨e1,e2⟩:=R4 ts vs k d (j+1) (CR vs (d+below k j) er nd t).2.1 (CR vs (d+below k j) er nd t).2.2 h.2 hv;exact⟨by rw[e1],this,e2⟩
end
theorem bK (t:Tm) (vs:List Tm) (d:Int) (h:Wt t) (hv:Np vs):Wt (CT t vs d).1:=by
 unfold CT;split
 ·exact QY
 split
 ·exact QY
 split
 ·exact QY
 exact TZ t vs _ _ _ h hv
mutual
theorem Px (b fr:Int):∀(t:Tm) (d er:Int),t.kind=0∧t.kids=[]∨Wt t→size (Cs b fr d er t).1=size t
 | .mk k i n l ks,d,er,h=>by
  unfold Cs;split
  ·rename_i hk;split
   ·rfl
   split
   ·rfl
   have:ks=[]:=by
    rcases h with h | h
    ·exact h.2
    have:=h.1;subst hk;simp[arity] at this;exact this
   subst this;simp[Pr,size,Bl]
  rename_i hk;have hw:Np ks:=by
   rcases h with h | h
   ·exact absurd h.1 hk
   exact h.2.2
  simp only[size];rw[Ob b fr k ks d 0 er hw]
theorem Ob (b fr k:Int):∀(ts:List Tm) (d:Int) (j:Nat) (er:Int),Np ts→Bl (DR b fr k d j er ts).1=Bl ts
 | [],d,j,er,h=>by simp[DR]
 | t::ts,d,j,er,h=>by
  simp only[DR,Bl];rw[Px b fr t _ _ (.inr h.1),Ob b fr k ts _ _ _ h.2]
end
mutual
theorem J1 (V:Int) (hV:1≤V) (hV2:V≤2305843009213693952):∀(t:Tm) (vs:List Tm) (d er nd:Int),Wt t→Np vs→(∀x∈vs,(size x:Int)≤V)→0≤nd→nd≤4096+V →
  nd≤(CR vs d er nd t).2.2∧(CR vs d er nd t).2.2≤4096+V∧((CR vs d er nd t).2.2≤4096→(size (CR vs d er nd t).1:Int)=(CR vs d er nd t).2.2 - nd)
 | .mk k i n l ks,vs,d,er,nd,h,hv,hs,h0,h1=>by
  have hk0:k=0→ks=[]:=by
   intro e;have:=h.1;subst e;simp[arity] at this;exact this
  unfold CR;split
  ·exact⟨by simp,h1,by simp;omega⟩
  split
  ·rename_i hc;have hlt:(i - d).toNat<vs.length:=by omega
   obtain⟨x,hx⟩:=BE hlt;have hxs:=hs x (List.mem_of_getElem? hx);rw[Oq hx,Px _ _ _ _ _ (.inr (Qt hv hx)),L0 Ax,Ej ⟨by omega,by omega⟩];simp only;exact⟨by omega,by omega,by omega⟩
  split
  ·rename_i hk;have hk:=hk0 hk;subst hk;split
   ·simp only[Pr,size,Bl];rw[Ej ⟨by omega,by omega⟩];exact⟨by omega,by omega,by omega⟩
   simp only[size,Bl];rw[Ej ⟨by omega,by omega⟩];exact⟨by omega,by omega,by omega⟩
  rw[Ej (n:=nd+1) ⟨by omega,by omega⟩];obtain⟨e1,e2,e3⟩:=Kw V hV hV2 ks vs k d 0 er (nd+1) h.2.2 hv hs Ax Ax;simp only[size];exact⟨by omega,e2,fun q=>by have:=e3 q;omega⟩
theorem Kw (V:Int) (hV:1≤V) (hV2:V≤2305843009213693952):∀(ts:List Tm) (vs:List Tm) (k d:Int) (j:Nat) (er nd:Int),Np ts→Np vs→(∀x∈vs,(size x:Int)≤V)→0≤nd→nd≤4096+V →
  nd≤(Cp vs k d j er nd ts).2.2∧(Cp vs k d j er nd ts).2.2≤4096+V∧((Cp vs k d j er nd ts).2.2≤4096→(Bl (Cp vs k d j er nd ts).1:Int)=(Cp vs k d j er nd ts).2.2 - nd)
 | [],vs,k,d,j,er,nd,h,hv,hs,h0,h1=>by simp only[Cp,Bl];exact⟨by omega,h1,by omega⟩
 | t::ts,vs,k,d,j,er,nd,h,hv,hs,h0,h1=>by
  obtain⟨e1,e2,e3⟩:=J1 V hV hV2 t vs (d+below k j) er nd h.1 hv hs h0 h1;obtain⟨f1,f2,f3⟩:=Kw V hV hV2 ts vs k d (j+1) (CR vs (d+below k j) er nd t).2.1 (CR vs (d+below k j) er nd t).2.2 h.2 hv hs Ax e2;simp only[Cp,Bl];exact⟨by omega,f2,fun q=>by have:=f3 q;have:=e3 Ax;omega⟩
end
theorem V5 (t:Tm) (vs:List Tm) (d:Int) (h:Wt t) (hv:Np vs) (hs:∀x∈vs,(size x:Int)≤2305843009213693952):size (CT t vs d).1≤4096:=by
 have hz:size Bp≤4096:=by simp[Bp,size,Bl]
 obtain⟨e1,e2,e3⟩:=J1 2305843009213693952 Ax Ax t vs (min d 65536) 0 0 h hv hs Ax Ax;unfold CT;split
 ·exact hz
 rename_i hn;have:=e3 Ax;split
 ·exact hz
 split
 ·exact hz
 simp only;omega
def known (ms:List Mv) (t:Tm):Bool :=
 match t with
 | .mk k i _ _ _=>k==12&&(decide (i<ms.length)&&(match ms[i.toNat]? with | some m=>m.known | none=>false))
def valueOf (ms:List Mv) (i:Int):Tm:=match ms[i.toNat]? with | some m=>m.value | none=>Bp
def P7 (F:EK→Tm→Tm×Int×EK):EK→List Tm→List Tm×Int×EK
 | c,[]=>([],0,c)
 | c,t::ts=>if (F c t).2.1≠0 then ([],(F c t).2.1,(F c t).2.2)
  else if (P7 F (F c t).2.2 ts).2.1≠0 then ([],(P7 F (F c t).2.2 ts).2.1,(P7 F (F c t).2.2 ts).2.2)
  else ((F c t).1::(P7 F (F c t).2.2 ts).1,0,(P7 F (F c t).2.2 ts).2.2)
def s7 (l:List Tm) (q:List Tm×Int×EK):List Tm×Int×EK:=if q.2.1≠0 then ([],q.2.1,q.2.2) else (l++q.1,0,q.2.2)
def kb:EK→Tm→List Tm→EK×Tm×List Tm
 | c,v,[]=>(c,v,[])
 | c,v,a::l=>if v.kind=5∧c.over=false then kb (c.form (CT (v.kids.getD 1 Bp) [a] 0).1 (CT (v.kids.getD 1 Bp) [a] 0).2) (CT (v.kids.getD 1 Bp) [a] 0).1 l else (c,v,a::l)
def MG:Tm→List Tm→Tm
 | .mk k i n l _,ks=> .mk k i n l ks
def MK (ms:List Mv):Nat→List Int→EK→Tm→Tm×Int×EK
 | 0,ab,c,t=>(Bp,11,c)
 | n+1,ab,c,t =>
  if c.over=true then (Bp,11,c)
  else if known ms (BH t).1=false then
   (let q:=P7 (MK ms n ab) c (BH t).1.kids
    if q.2.1≠0 then (Bp,q.2.1,q.2.2)
    else
     (let r:=P7 (MK ms n ab) q.2.2 (BH t).2
      if r.2.1≠0 then (Bp,r.2.1,r.2.2)
      else (apply (MG (BH t).1 q.1) r.1,0,r.2.2.sized (apply (MG (BH t).1 q.1) r.1))))
  else if (BH t).1.index∈ab then (Bp,22,c)
  else
   (let v:=MK ms n (ab++[(BH t).1.index]) c (valueOf ms (BH t).1.index)
    if v.2.1≠0 then (Bp,v.2.1,v.2.2)
    else
     (let r:=P7 (MK ms n ab) (v.2.2.form v.1 0) (BH t).2
      if r.2.1≠0 then (Bp,r.2.1,r.2.2)
      else
       (let b:=kb r.2.2 v.1 r.1
        (apply b.2.1 b.2.2,0,b.1.form (apply b.2.1 b.2.2) 0))))
def free (ms:List Mv) (ab:List Int):Nat:=((List.range ms.length).filter fun i:Nat=> !decide ((i:Int)∈ab)).length
def Mb (S:Nat):Nat→Nat
 | 0=>0
 | k+1=>S*(Mb S k+2)+4096+Mb S k
def uJ (S:Nat) (ms:List Mv):Prop:=∀m∈ms,Nd m.value∧Wt m.value∧size m.value≤S
structure s9 (M:Nat) (s:Nat) (r:Tm):Prop where
 nd:Nd r
 wt:Wt r
 size:size r≤s*M
theorem LK {α:Type}{l:List α}{x:α}(h:x∈l):∃i:Nat,l[i]?=some x:=by
 obtain⟨i,hi,he⟩:=List.mem_iff_getElem.1 h;exact⟨i,by rw[List.getElem?_eq_getElem hi,he]⟩
section
variable {ms:List Mv}{n:Nat}{ab:List Int}{c:EK}{t:Tm}{zk zi:Int}{zn:ByteArray}{zl:List Ci}{zs:List Tm}
end
end Go.Eu
namespace Go.Eu
theorem Gi {l:List Tm}{x:Tm}(h:x∈l):size x≤Bl l:=by
 obtain⟨i,hi⟩:=LK h;exact Co hi
def cW (ms:List Mv) (n:Nat) (c:EK) (t:Tm):Tm×Int×EK :=
 ((MK ms n [] c t).1,(MK ms n [] c t).2.1,if (MK ms n [] c t).2.1=0 then (MK ms n [] c t).2.2.form (MK ms n [] c t).1 0 else (MK ms n [] c t).2.2)
def uQ (ms:List Mv) (n:Nat) (c:EK) (t:Tm):List Int×Int :=
 if (cW ms n c t).2.1=0 then (YL [] (cW ms n c t).1,0) else ([],(cW ms n c t).2.1)
end Go.Eu
namespace Go.Abs
section
variable {P:Program}{r:Option Nat}{ops:Array Oper}{Q:DC→B5→Prop}{k:Nat}{n:Nat}{τ:Nat→AV}{T:List BR}{D:List Ee}{dst:Option Tmp}{op:Op}{ty:TypeId}{pos:String}{aft:Array Edge}{v:AV}{c:Call}{f:Operand}{fid:FuncId}{first caps A:List AV}{R:Eg→List BR→Prop}
theorem Lo {H H':List BR}(hp:H.Perm H') (h:AL P r ops k ⟨n,τ,H',D⟩ Q):AL P r ops k ⟨n,τ,H,D⟩ Q:=Bx (Te (S:=⟨n,τ,H,D⟩) hp) h
theorem JP (fr:List BR) {l:Nat}(ho:ops[k]?=some ⟨dst,.call c,ty,pos,aft,none⟩) (hd:Gv dst n=true)
  (hc:c.callee= .value f) (hf:ev τ f= .fn (.yield l) [] []) (h:MB P l A T R) (hA:c.args.toList.map (ev τ)=A)
  (next:∀v T',R (.val v) T'→AL P r ops (k+1) ⟨n,put τ dst v,fr++T',D⟩ Q) (pan:∀v T',R (.panic v) T'→Q (.panic v) ⟨n,τ,T'++fr,D⟩):AL P r ops k ⟨n,τ,fr++T,D⟩ Q :=
 GQ (S:=⟨n,τ,fr++T,D⟩) ho Aq (I2 hd) (aE hc hf List.perm_append_comm h hA) (fun v H' ⟨Hs',h1,h2⟩=>by subst h2;exact Lo List.perm_append_comm (next v Hs' h1)) (fun v H' ⟨Hs',h1,h2⟩=>by subst h2;exact pan v Hs' h1)
theorem IZ (fr:List BR) (ho:ops[k]?=some ⟨dst,.call c,ty,pos,aft,none⟩) (hd:Gv dst n=true)
  (hc:c.callee= .value f) (hf:(ev τ f= .p (.fn fid)∧first=[]∧caps=[])∨ev τ f= .fn (.func fid) first caps) (h:B2 P fid A T R) (hA:GP (first++c.args.toList.map (ev τ)++caps) A)
  (next:∀v T',R (.val v) T'→AL P r ops (k+1) ⟨n,put τ dst v,fr++T',D⟩ Q) (pan:∀v T',R (.panic v) T'→Q (.panic v) ⟨n,τ,T'++fr,D⟩):AL P r ops k ⟨n,τ,fr++T,D⟩ Q :=
 JK ho hd hc hf List.perm_append_comm (h.args hA) (.inl rfl) (fun v H' h1=>Lo List.perm_append_comm (next v H' h1)) pan
end
theorem GH.append:∀{l l':List BR}{T:List BR},GH l l'→GH (l++T) (l'++T)
 | [],l',T,h=>by simp only[GH] at h;subst h;exact GH.refl T
 | o::l,l',T,h=>by
  obtain⟨o',r',rfl,h1,h2⟩:=h;exact⟨o',r'++T,O,h1,GH.append h2⟩
theorem Zx (is:List Nat) (l:List BR) {l1 l' T:List BR}(h:P3 is 0 l=l1) (w:GH l1 l'):ki (l++T) (l'++T):=⟨l1++T,(CC h).append_right T,w.append⟩
theorem G2 (is:List Nat) (l:List BR) {l1 T:List BR}(h:P3 is 0 l=l1):(l1++T).Sublist (l++T):=(CC h).append_right T
def uC (b:Bool) (H':List BR):Eg→List BR→Prop
 | .val v,H''=>v= .p (.bool b)∧H''=H'
 | .panic _,_=>False
theorem Cj {n:Nat}{τ:Nat→AV}{H:List BR}{D:List Ee}{t:Nat}{x:AV}(h:τ t=x):Io ⟨n,τ,H,D⟩ ⟨n,put τ (some t) x,H,D⟩:=R5 fun _ _ _ hr=>h▸hr
section
variable {P:Program}{dst:Option Tmp}{ty:TypeId}{pos:String}{aft:Array Edge}{g:Option (Nat×Bool)}{ρ:Operand→AV}{H:List BR}{x y:Operand}
theorem Uf {e:TypeId}{bl:Bool}{sz:Nat}(ht:EP P e=some (bl,sz)):∃inf,P.info? e=some inf∧inf.size=sz:=by
 obtain⟨d,_,_,h⟩:=Fo ht;cases hi:P.info? e with
 | none=>simp[hi] at h
 | some inf=>simp[hi] at h;exact⟨inf,rfl,h⟩
theorem Rl {T e:TypeId}{bl:Bool}{len sz b o:Nat}{k:IntKind}{i:Int}(hu:P.underlying T=some (.array len e)) (ht:EP P e=some (bl,sz)) (hx:ρ x= .ptr b o) (hy:ρ y= .p (.int k i)) (h0:0≤i) (hn:i<len) :
  D4 P ⟨dst,.indexAddr T x y,ty,pos,aft,g⟩ ρ H (.ptr b (o+i.toNat*sz)) H:=by
 obtain⟨inf,h1,h2⟩:=Uf ht;exact Sw hu h1 h2 hx hy h0 hn
theorem Ef {T e:TypeId}{bl:Bool}{len sz:Nat}{parts:Array (Nat×Operand)}{z:Value}{cs:List AV}(hu:P.underlying T=some (.array len e)) (ht:EP P e=some (bl,sz)) (hz:zeroOf P T=some z)
  (hc:F3 (fun i=>some (i*sz,sz)) (z.cells.toList.map G4) (parts.toList.map fun p=>(p.1,ρ p.2))=some cs):D4 P ⟨dst,.build T parts,ty,pos,aft,g⟩ ρ H (.agg cs) H:=by
 obtain⟨inf,h1,h2⟩:=Uf ht;subst h2;exact Sf hu h1 hz hc
end
theorem RP {P:Program}{g:Operand}{ps:Array Tmp}{assign body:Code}{S:B5}{Q:DC→B5→Prop}{fid:FuncId}{first caps:List AV}
  (hg:(ev S.τ g= .p (.fn fid)∧first=[]∧caps=[])∨ev S.τ g= .fn (.func fid) first caps)
  (h:∀d l (L:OK),L=⟨.ready,none,S.n,S.τ,ps,assign,body⟩→∃Hs Hf,(BR.loop l L:: .dfr d::S.H).Perm (Hs++Hf) ∧
   B2 P fid (first++[.fn (.yield l) [] []]++caps) Hs (fun r H'=>Uc P l d S Q r (H'++Hf))) :
  JR P none (.rangeFunc g ps assign body) S Q:=aW hg fun d l=>h d l _ rfl
def uT (H':List BR):Eg→List BR→Prop
 | .val v,H''=>v= .tup []∧H''=H'
 | .panic _,_=>False
def V7 (v:AV) (C:List BR→Prop):Eg→List BR→Prop
 | .val v',H'=>v'=v∧C H'
 | .panic _,_=>False
section
variable {P:Program}{n:Nat}{τ:Nat→AV}{H:List BR}{D:List Ee}
theorem YR {b:Nat}{cs cs':List AV}(h:GP cs cs'):Lw (.box b cs) (.box b cs'):=⟨rfl,fun F w hr=>by
 obtain⟨vs,T,h1,h2⟩:=hr;exact⟨vs,T,h1,Pf h h2⟩⟩
theorem IH {i:Nat}{o o':BR}(hi:H[i]?=some o) (hw:Lw o o'):Io ⟨n,τ,H,D⟩ ⟨n,τ,H.set i o',D⟩:=by
 intro F a w hs;refine⟨F,⟨hs.size,hs.tmp,?_,hs.defs⟩,?_⟩
 ·have hk:=GM (x':=o') hi hw.1;refine⟨fun x hx c hc=>?_,by show List.Nodup _;rw[hk];exact hs.heap.nodup,fun x hx=>?_,hs.heap.bd⟩
  ·rcases Dx hx with rfl | ⟨j,_,hj⟩
   ·exact hs.heap.sub _ (List.mem_of_getElem? hi) c (by rw[←hw.1];exact hc)
   exact hs.heap.sub _ (List.mem_of_getElem? hj) c hc
  rcases Dx hx with rfl | ⟨j,_,hj⟩
  ·exact hw.2 F w (hs.heap.obj _ (List.mem_of_getElem? hi))
  exact hs.heap.obj _ (List.mem_of_getElem? hj)
 refine { Trans.refl (F:=F) (H:=H) (w:=w) with keys:=fun x hx c hc=>?_ };rcases Dx hx with rfl | ⟨j,_,hj⟩
 ·exact .inl ⟨_,List.mem_of_getElem? hi,by rw[←hw.1];exact hc⟩
 exact .inl ⟨_,List.mem_of_getElem? hj,hc⟩
end
section
variable {P:Program}{dst:Option Tmp}{ty:TypeId}{pos:String}{aft:Array Edge}{g:Option (Nat×Bool)}{ρ:Operand→AV}{H:List BR}{x y:Operand}
theorem Wq {T e:TypeId}{b i:Nat}{l:List (Int×AV)}{k:Int}{zv:Value}{za v:AV}(hT:mapOf P T=some e) (hz:zeroOf P e=some zv) (hza:∀F w,CW F w za zv) (hx:ρ x= .map b) (hy:ρ y= .p (.int .i64 k)) (hi:H[i]?=some (.map b (Ea l))) (hv:(J8 k l).getD za=v) :
  D4 P ⟨dst,.lookup T x y false,ty,pos,aft,g⟩ ρ H v H:=by subst hv;exact Xi hT hz hza hx hy hi
theorem Sc {T e:TypeId}{b i:Nat}{l:List (Int×AV)}{k:Int}{zv:Value}{za v:AV}{ok:Bool}(hT:mapOf P T=some e) (hz:zeroOf P e=some zv) (hza:∀F w,CW F w za zv) (hx:ρ x= .map b) (hy:ρ y= .p (.int .i64 k)) (hi:H[i]?=some (.map b (Ea l))) (hv:(J8 k l).getD za=v) (hok:(J8 k l).isSome=ok) :
  D4 P ⟨dst,.lookup T x y true,ty,pos,aft,g⟩ ρ H (.tup [v,.p (.bool ok)]) H:=by subst hv;subst hok;exact VP hT hz hza hx hy hi
end
section
variable {P:Program}{dst:Option Tmp}{ty:TypeId}{pos:String}{aft:Array Edge}{g:Option (Nat×Bool)}{ρ:Operand→AV}{H:List BR}{x y:Operand}
theorem LN {T e:TypeId}{sz bytes:Nat}(hT:F9 P T=some (e,sz,bytes)) :
  Dd P ⟨dst,.buildSlice T 0 #[],ty,pos,aft,g⟩ ρ H (MM sz [] H) :=
 Hc fun F w E hH hE=>by
  obtain⟨hu,i,hi,hs,hby⟩:=Fu hT;obtain⟨v,H',F',h1,h2,h3,h4⟩:=N8 (F:=F) (w:=w) (sz:=sz) (c:=0) (rows:=[]) (vs:=[]) (T:=e) (H:=H) hH Ay (by simp[CB]) Ay Ay;refine⟨_,_,v,H',F',?_,h1,h2,h3,h4⟩;have hszr:(sizeOf e).run P w= .ok sz w:=by simp[sizeOf,typeInfo,hi,hs]
  simp only[execOp,Instr.buildSlice,Sem.run_bind,run_underlying hu,Result.andThen_ok,hszr];rw[if_neg Ax];simp only[Sem.run_pure,Result.andThen_ok,Sem.run_bind,pure_bind,Nat.zero_mul,if_true];have e0:(Array.map (fun x=>(#[]:Array Value)[x % (#[]:Array Value).size]!) (Array.range 0))=(⟨[]⟩:Array Value):=by simp
  rw[e0];simp only[Array.map_empty,Instr.fill,newRow,newObj,Sem.run_bind,Sem.run,Result.andThen,Sem.run_pure];rfl
end
section
variable {P:Program}{dst:Option Tmp}{ty:TypeId}{pos:String}{aft:Array Edge}{g:Option (Nat×Bool)}{ρ:Operand→AV}{H:List BR}{x y:Operand}
theorem M3 {T U e:TypeId}{n1 n2:Nat}{rows:List (List PV)}(hT:F9 P T=some (e,n1,n2)) (hx:ρ x= .p (.lst rows)) (hy:ρ y= .p .nils):Dd P ⟨dst,.binOp .eql T x y U,ty,pos,aft,g⟩ ρ H (Pz (fun v=>∃b:Bool,v= .p (.bool b)∧(b=true→rows=[])) H) :=
 (Us (Fu hT).1 hx hy).mono fun r H' h=>by cases r<;>exact h
end
section
variable {P:Program}{r:Option Nat}{ops:Array Oper}{Q:DC→B5→Prop}{k:Nat}{n:Nat}{τ:Nat→AV}{H:List BR}{D:List Ee}{dst:Option Tmp}{ty:TypeId}{pos:String}{aft:Array Edge}{v:AV}{c:Call}{f:Operand}{fid:FuncId}{first caps A:List AV}
theorem Ot (ho:ops[k]?=some ⟨dst,.call c,ty,pos,aft,none⟩) (hd:Gv dst n=true) (hc:c.callee= .value f) (hf:(ev τ f= .p (.fn fid)∧first=[]∧caps=[])∨ev τ f= .fn (.func fid) first caps) (h:B2 P fid A [] (VE v [])) (hA:GP (first++c.args.toList.map (ev τ)++caps) A) (pan:Q (.panic v) ⟨n,τ,H,D⟩):AL P r ops k ⟨n,τ,H,D⟩ Q :=
 JK ho hd hc hf (Hs:=[]) (Hf:=H) Ay (h.args hA) (.inl rfl) (fun _ _ h=>h.elim) (fun v' H' ⟨h1,h2⟩=>by subst h1;subst h2;exact pan)
end
end Go.Abs
namespace Go.Eu
open Go.Abs
def Jq (k:Int):Int:=if k=5∨k=6∨k=7 then 1 else if k=11 then 2 else -1
theorem WG {k:Int}{i:Int}(h:i=Jq k) (hi:0≤i):below k i=1:=by
 unfold Jq at h;unfold below;split at h
 ·rename_i hk;subst h;rcases hk with rfl | rfl | rfl<;>simp
 split at h
 ·rename_i hk;subst h;subst hk;simp
 omega
theorem S6 {k:Int}{i:Int}(h:i≠Jq k):below k i=0:=by
 unfold Jq at h;unfold below;rw[if_neg];simp only[Bool.or_eq_true,Bool.and_eq_true,beq_iff_eq];intro hc;apply h;rcases hc with ⟨h1,h2⟩ | ⟨h1,h2⟩
 ·rw[if_pos (by rcases h2 with (h | h) | h<;>simp[h]),h1]
 rw[if_neg Ax,if_pos h2,h1]
theorem Vs {k:Int}(h:¬(0≤k∧k<13)):Jq k= -1:=by
 unfold Jq;rw[if_neg Ax,if_neg Ax]
section
variable {σ:Type}
mutual
def Et (st:σ→Int→Tm→σ×Bool):Tm→Int→σ→σ×Bool
 | .mk k i n l ks,d,s=>if (st s d (.mk k i n l ks)).2=false then ((st s d (.mk k i n l ks)).1,false) else Ev st k d 0 (st s d (.mk k i n l ks)).1 ks
def Ev (st:σ→Int→Tm→σ×Bool) (k d:Int):Nat→σ→List Tm→σ×Bool
 | _,s,[]=>(s,true)
 | j,s,t::ts=>if (Et st t (d+below k j) s).2=false then ((Et st t (d+below k j) s).1,false) else Ev st k d (j+1) (Et st t (d+below k j) s).1 ts
end
end
def PF (ix nm:Bool) (lv ks bl:Int):List AV:=[.p (.bool ix),.p (.bool nm),.p (I lv),.p (I ks),.p (I bl)]
def Pv:List AV:=[PF true false 0 0 (-1),PF false false 0 0 (-1),PF false false 1 0 (-1),PF false true (-1) 0 (-1),PF false false 0 2 (-1),PF false false 0 2 1,PF false false 0 2 1,PF false false 0 2 1,PF false false 0 3 (-1),PF false false 0 1 (-1),PF false false 0 1 (-1),PF false false 0 3 2,PF true false 0 0 (-1)].flatten
theorem dY {k:Int}(h:0≤k∧k<13):Pv[0+k.toNat*5+4]?=some (.p (I (Jq k))):=by
 have:k=0∨k=1∨k=2∨k=3∨k=4∨k=5∨k=6∨k=7∨k=8∨k=9∨k=10∨k=11∨k=12:=by omega
 rcases this with rfl | rfl | rfl | rfl | rfl | rfl | rfl | rfl | rfl | rfl | rfl | rfl | rfl<;>rfl
section
variable {σ:Type}{st:σ→Int→Tm→σ×Bool}{Inv:Nat→σ→Prop}
theorem WU {t:Tm}{d:Int}{s:σ}(h:(st s d t).2=false):Et st t d s=((st s d t).1,false):=by
 obtain⟨k,i,n,l,ks⟩:=t;rw[Et,if_pos h]
theorem H7 {k i:Int}{n:ByteArray}{l:List Ci}{ks:List Tm}{d:Int}{s:σ}(h:(st s d (.mk k i n l ks)).2=true):Et st (.mk k i n l ks) d s=Ev st k d 0 (st s d (.mk k i n l ks)).1 ks:=by
 rw[Et,if_neg (by simp[h])]
theorem JI {k d:Int}{ts:List Tm}{i:Nat}{x:Tm}{s:σ}(hx:ts[i]?=some x) (h:(Et st x (d+below k i) s).2=false):Ev st k d i s (ts.drop i)=((Et st x (d+below k i) s).1,false):=by
 rw[Cu hx,Ev,if_pos h]
theorem Kn {k d:Int}{ts:List Tm}{i:Nat}{x:Tm}{s:σ}(hx:ts[i]?=some x) (h:(Et st x (d+below k i) s).2=true):Ev st k d i s (ts.drop i)=Ev st k d (i+1) (Et st x (d+below k i) s).1 (ts.drop (i+1)):=by
 rw[Cu hx,Ev,if_neg (by simp[h])]
mutual
theorem Ja (hI:∀m s d t,Inv (m+1) s→Inv m (st s d t).1):∀(t:Tm) (d:Int) (s:σ) (m:Nat),Inv (m+size t) s→(Et st t d s).2=true→Inv m (Et st t d s).1
 | .mk k i n l ks,d,s,m,h,hv=>by
  rw[size,show m+(1+Bl ks)=(m+Bl ks)+1 by omega] at h;have h1:=hI _ _ d (.mk k i n l ks) h;rw[Et] at hv ⊢;split at hv
  ·cases hv
  rename_i hc;rw[if_neg hc];exact P1 hI ks k d 0 _ m h1 hv
theorem P1 (hI:∀m s d t,Inv (m+1) s→Inv m (st s d t).1):∀(ts:List Tm) (k d:Int) (j:Nat) (s:σ) (m:Nat),Inv (m+Bl ts) s→(Ev st k d j s ts).2=true→Inv m (Ev st k d j s ts).1
 | [],k,d,j,s,m,h,hv=>by simpa [Ev,Bl] using h
 | t::ts,k,d,j,s,m,h,hv=>by
  rw[Bl,show m+(size t+Bl ts)=(m+Bl ts)+size t by omega] at h;rw[Ev] at hv ⊢;split at hv
  ·cases hv
  rename_i hc;rw[if_neg hc];have:=Ja hI t (d+below k j) s _ h (by simpa using hc);exact P1 hI ts k d (j+1) _ m this hv
end
end
def Yf (s:Int) (d:Int) (t:Tm):Int×Bool:=(wr (s+1),true)
mutual
theorem Wa (B:Int) (hB:B≤4611686018427387904):∀(t:Tm) (d s:Int),0≤s→s+size t<B→Et Yf t d s=(s+size t,true)
 | .mk k i n l ks,d,s,h0,h=>by
  rw[size] at h ⊢;rw[H7 rfl];simp only[Yf];rw[Ej ⟨by omega,by omega⟩,TM B hB ks k d 0 (s+1) Ax Ax];congr 1;omega
theorem TM (B:Int) (hB:B≤4611686018427387904):∀(ts:List Tm) (k d:Int) (j:Nat) (s:Int),0≤s→s+Bl ts<B→Ev Yf k d j s ts=(s+Bl ts,true)
 | [],k,d,j,s,h0,h=>by simp[Ev,Bl]
 | t::ts,k,d,j,s,h0,h=>by
  rw[Bl] at h ⊢;rw[Ev,Wa B hB t _ s h0 Ax];simp only;rw[if_neg Ay,TM B hB ts k d (j+1) (s+size t) Ax Ax];congr 1;omega
end
def th (s:List Int) (d:Int):Tm→List Int×Bool
 | .mk k i _ _ _=>(if k=12∧i ∉ s then s++[i] else s,true)
def uc (s:List Int):List (Int×AV):=s.map fun i=>(i,.p (.bool true))
def Vg (xs ys:List Tm) (i:Nat):Prop:=ys.length=xs.length∧∀k,k<xs.length→ys[k]?=if k<i∨xs.length - 1 - k<i then xs[xs.length - 1 - k]? else xs[k]?
theorem YE (xs:List Tm):Vg xs xs 0:=⟨rfl,fun k hk=>by rw[if_neg Ax]⟩
theorem X3 {xs ys:List Tm}{i:Nat}{a b:Tm}(h:Vg xs ys i) (hi:i<xs.length - 1 - i) (ha:ys[i]?=some a) (hb:ys[xs.length - 1 - i]?=some b):Vg xs ((ys.set i b).set (xs.length - 1 - i) a) (i+1):=by
 obtain⟨hl,h⟩:=h;refine⟨by simp[hl],fun k hk=>?_⟩;have e1:=h i Ax;rw[if_neg Ax,ha] at e1;have e2:=h (xs.length - 1 - i) Ax;rw[if_neg Ax,hb] at e2;by_cases k1:k=xs.length - 1 - i
 ·subst k1;rw[if_pos Ax,List.getElem?_set_self Ar,e1];congr 1;omega
 rw[List.getElem?_set_ne (fun e=>k1 e.symm)];by_cases k2:k=i
 ·subst k2;rw[if_pos Ax,List.getElem?_set_self Ax,e2]
 rw[List.getElem?_set_ne (fun e=>k2 e.symm),h k hk];by_cases k3:k<i∨xs.length - 1 - k<i
 ·rw[if_pos k3,if_pos Ax]
 rw[if_neg k3,if_neg Ax]
theorem X6 {xs ys:List Tm}{i:Nat}(h:Vg xs ys i) (hi:xs.length - 1 - i≤i):ys=xs.reverse:=by
 obtain⟨hl,h⟩:=h;apply List.ext_getElem?;intro k;by_cases hk:k<xs.length
 ·rw[h k hk,List.getElem?_reverse hk];by_cases k3:k<i∨xs.length - 1 - k<i
  ·rw[if_pos k3]
  rw[if_neg k3];congr 1;omega
 rw[List.getElem?_eq_none Ax,List.getElem?_eq_none Ar]
def tY (f:Int) (n i:Nat):List Tm:=(eh f 0 n).take i++List.replicate (n - i) Bp
def mC (t:Tm):Bool:=decide ((size t:Int) > 4096)||decide (En t > 200)
def uY {σ:Type}(st:σ→Int→Tm→σ) (xs:List Tm):Nat→σ→σ
 | 0,s=>s
 | m+1,s=>uY st xs m (st s m (xs.getD m Bp))
def qq (k:Int) (t:Tm) (i:Int) (a:Tm):Tm:= .mk k 0 ⟨#[]⟩ [] [a,t]
end Go.Eu
namespace Go.Abs
def eY (mkv:Nat→AV) (cs:List AV):Eg→List BR→Prop
 | .val v,H'=>∃b,v=mkv b∧H'=[.box b cs]
 | .panic _,_=>False
section
variable {P:Program}{ops:Array Oper}{n:Nat}{τ₀ τ:Nat→AV}{D:List Ee}{Q:DC→B5→Prop}{opn:Nat→Bool}{k:Nat}{H:List BR}{dst:Option Tmp}{ty:TypeId}{pos:String}{aft:Array Edge}{c:Call}{f:Operand}{fid:FuncId}{first caps A:List AV}{mkv:Nat→AV}{cs:List AV}
theorem Y8 {rd ef effs fx}(fx':List (Nat×Sp)) (ho:ops[k]?=some ⟨dst,.call c,ty,pos,aft,none⟩) (hn:opn k=true)
  (hc:c.callee= .value f) (hf:(ev τ f= .p (.fn fid)∧first=[]∧caps=[])∨ev τ f= .fn (.func fid) first caps) (h:B2 P fid A [] (eY mkv cs)) (hA:first++c.args.toList.map (ev τ)++caps=A∨(first++c.args.toList.map (ev τ)++caps).map norm=A) (haft:FW ops k (fx'.map (·.1))=true)
  (next:∀b,Ke ops k H (.box b cs::H) rd∧Hp k (.eff (mkv b) (.box b cs::H)) fx∧Dr P ops n τ₀ D Q opn (k+1) (put τ dst (mkv b)) (.box b cs::H) rd ((k,H,.box b cs::H)::ef) (true::effs) (fx'++fx)):Dr P ops n τ₀ D Q opn k τ H rd ef effs fx :=
 N3 fx' ho hn (GV (H:=H) (Hs:=[]) (Hf:=H) hc hf Ay h hA) haft ⟨_,_,_,⟨0,rfl,rfl⟩,rfl⟩ (fun v H' ⟨_,h,_⟩=>h.elim) (fun v H' ⟨Hs',⟨b,h1,h2⟩,h3⟩=>by subst h1;subst h2;subst h3;exact next b)
theorem Y2 {r:Option Nat}(ho:ops[k]?=some ⟨dst,.call c,ty,pos,aft,none⟩) (hd:Gv dst n=true)
  (hc:c.callee= .value f) (hf:(ev τ f= .p (.fn fid)∧first=[]∧caps=[])∨ev τ f= .fn (.func fid) first caps) (h:B2 P fid A [] (eY mkv cs)) (hA:GP (first++c.args.toList.map (ev τ)++caps) A)
  (next:∀b,AL P r ops (k+1) ⟨n,put τ dst (mkv b),.box b cs::H,D⟩ Q):AL P r ops k ⟨n,τ,H,D⟩ Q :=
 JK ho hd hc hf (Hs:=[]) (Hf:=H) Ay (h.args hA) (.inl rfl) (fun v Hs' ⟨b,h1,h2⟩=>by subst h1;subst h2;exact next b) (fun _ _ h=>h.elim)
end
def Kq {α:Type}(mkv:α→AV) (mkp:Int→AV) (C:α→List BR→Prop) (x:Except Int α):Eg→List BR→Prop
 | .val v,H'=>∃a,x= .ok a∧v=mkv a∧C a H'
 | .panic v,_=>∃e,x= .error e∧v=mkp e
theorem Dd.permR {P:Program}{ρ:Operand→AV}{o:Oper}{H:List BR}{R R':Eg→List BR→Prop}(h:Dd P o ρ H R) (hp:∀r H1,R r H1→∃H2,H1.Perm H2∧R' r H2):Dd P o ρ H R':=by
 intro r F S a w hs hH hρ hd;have:=h r F S a w hs hH hρ hd;refine MQ this ?_ ?_
 ·rintro a' w' ⟨v',H1,F',hR,hs',ht⟩;obtain⟨H2,hp,hR'⟩:=hp _ _ hR;exact⟨v',H2,F',hR',⟨hs'.size,hs'.tmp,hs'.heap.perm hp,hs'.defs⟩,{ ht with keys:=fun o ho=>ht.keys o (hp.mem_iff.2 ho) }⟩
 rintro e a' w' ⟨v',H1,F',u,hR,h1,h2,hs',ht⟩;obtain⟨H2,hp,hR'⟩:=hp _ _ hR;exact⟨v',H2,F',u,hR',h1,h2,⟨hs'.size,hs'.tmp,hs'.heap.perm hp,hs'.defs⟩,{ ht with keys:=fun o ho=>ht.keys o (hp.mem_iff.2 ho) }⟩
section
variable {P:Program}{ops:Array Oper}{n:Nat}{τ₀ τ:Nat→AV}{D:List Ee}{Q:DC→B5→Prop}{opn:Nat→Bool}{k:Nat}{T:List BR}{dst:Option Tmp}{ty:TypeId}{pos:String}{aft:Array Edge}{c:Call}{f:Operand}{fid:FuncId}{first caps A:List AV}
 {α:Type} {mkv:α→AV} {mkp:Int→AV} {C:α→List BR→Prop} {x:Except Int α}
theorem kS {r:Option Nat}(fr:List BR) (ho:ops[k]?=some ⟨dst,.call c,ty,pos,aft,none⟩) (hd:Gv dst n=true)
  (hc:c.callee= .value f) (hf:(ev τ f= .p (.fn fid)∧first=[]∧caps=[])∨ev τ f= .fn (.func fid) first caps) (h:B2 P fid A T (Kq mkv mkp C x)) (hA:GP (first++c.args.toList.map (ev τ)++caps) A)
  (next:∀a T',x= .ok a→C a T'→AL P r ops (k+1) ⟨n,put τ dst (mkv a),fr++T',D⟩ Q) (pan:∀e T',x= .error e→Q (.panic (mkp e)) ⟨n,τ,T'++fr,D⟩):AL P r ops k ⟨n,τ,fr++T,D⟩ Q :=
 IZ fr ho hd hc hf h hA (fun v T' ⟨a,h1,h2,h3⟩=>by subst h2;exact next a T' h1 h3) (fun v T' ⟨e,h1,h2⟩=>by subst h2;exact pan e T' h1)
theorem mj {rd ef effs fx}(fr:List BR) (ho:ops[k]?=some ⟨dst,.call c,ty,pos,aft,none⟩) (hn:opn k=true)
  (hc:c.callee= .value f) (hf:(ev τ f= .p (.fn fid)∧first=[]∧caps=[])∨ev τ f= .fn (.func fid) first caps) (h:B2 P fid A T (Kq mkv mkp C x)) (hA:GP (first++c.args.toList.map (ev τ)++caps) A) (haft:FW ops k []=true) (chk:Ng ops n (true::effs).reverse=true) (hfx:NG k fx=true) (owe:Ke ops k (fr++T) (fr++T) rd)
  (next:∀a T',x= .ok a→C a T'→Ke ops k (fr++T) (fr++T') rd∧Hp k (.eff (mkv a) (fr++T')) fx∧Dr P ops n τ₀ D Q opn (k+1) (put τ dst (mkv a)) (fr++T') rd ((k,fr++T,fr++T')::ef) (true::effs) fx)
  (pan:∀e,x= .error e→∀τ' T',(∀t,(∀(k:Nat) o,ops[k]?=some o→o.dst≠some t)→τ' t=τ₀ t)→Q (.panic (mkp e)) ⟨n,τ',T'++fr,D⟩):Dr P ops n τ₀ D Q opn k τ (fr++T) rd ef effs fx:=by
 have hop:Dd P ⟨dst,.call c,ty,pos,aft,none⟩ (ev τ) (fr++T) (fun r H'=>∃T',Kq mkv mkp C x r T'∧(match r with | .val _=>H'=fr++T' | .panic _=>H'=T'++fr)):=by
  refine Dd.permR (GV (H:=fr++T) (Hs:=T) (Hf:=fr) hc hf List.perm_append_comm (h.args hA) (.inl O)) ?_;rintro r H1 ⟨T',hR,rfl⟩;cases r with
  | val v=>exact⟨fr++T',List.perm_append_comm,T',hR,rfl⟩
  | panic v=>exact⟨T'++fr,List.Perm.refl _,T',hR,rfl⟩
 by_cases hx:∃a T',x= .ok a∧C a T'
 ·obtain⟨a,T',hx,hC⟩:=hx;refine Dr.opn _ [] ho hn Az hop haft ⟨mkv a,_,T',⟨a,hx,O,hC⟩,O⟩ ?_ ?_ ?_ ?_
  ·rintro v H' ⟨T',⟨a',h1,h2,h3⟩,rfl⟩;exact(next a' T' h1 h3).1
  ·rintro v H' ⟨T',⟨a',h1,h2,h3⟩,rfl⟩;subst h2;exact(next a' T' h1 h3).2.1
  ·rintro v H' ⟨T',⟨a',h1,h2,h3⟩,rfl⟩;subst h2;exact(next a' T' h1 h3).2.2
  rintro v H' ⟨T',⟨e,h1,h2⟩,rfl⟩ τ' hτ;subst h2;exact pan e h1 τ' T' hτ
 refine Dr.pan _ ho hn Az hop haft chk hfx ?_ owe ?_
 ·rintro v H' ⟨T',⟨a',h1,h2,h3⟩,rfl⟩;exact hx ⟨a',T',h1,h3⟩
 rintro v H' ⟨T',⟨e,h1,h2⟩,rfl⟩ τ' hτ;subst h2;exact pan e h1 τ' T' hτ
end
section
variable {P:Program}{ops:Array Oper}{n:Nat}{τ₀ τ:Nat→AV}{D:List Ee}{Q:DC→B5→Prop}{opn:Nat→Bool}{k:Nat}{H Hs:List BR}{dst:Option Tmp}{ty:TypeId}{pos:String}{aft:Array Edge}{c:Call}{f:Operand}{fid:FuncId}{first caps A:List AV}
 {α:Type} {mkv:α→AV} {mkp:Int→AV} {C:α→List BR→Prop} {x:Except Int α}
theorem D6 {r:Option Nat}(is:List Nat) (ho:ops[k]?=some ⟨dst,.call c,ty,pos,aft,none⟩) (hd:Gv dst n=true)
  (hc:c.callee= .value f) (hf:(ev τ f= .p (.fn fid)∧first=[]∧caps=[])∨ev τ f= .fn (.func fid) first caps) (h:B2 P fid A Hs (Kq mkv mkp C x)) (hg:Fj H is Hs) (hn:is.Nodup) (hA:GP (first++c.args.toList.map (ev τ)++caps) A)
  (hl:∀a T',C a T'→T'.length=Hs.length)
  (next:∀a T',x= .ok a→C a T'→AL P r ops (k+1) ⟨n,put τ dst (mkv a),Lc H is T',D⟩ Q) (pan:∀e H',x= .error e→Q (.panic (mkp e)) ⟨n,τ,H'++DN is 0 H,D⟩):AL P r ops k ⟨n,τ,H,D⟩ Q :=
 cZ is ho hd hc hf h hg hn hA (fun v T' ⟨a,h1,h2,h3⟩=>by subst h2;exact⟨hl a T' h3,next a T' h1 h3⟩) (fun v T' ⟨e,h1,h2⟩=>by subst h2;exact pan e T' h1)
theorem O7 {rd ef effs fx}(is:List Nat) (ho:ops[k]?=some ⟨dst,.call c,ty,pos,aft,none⟩) (hn:opn k=true)
  (hc:c.callee= .value f) (hf:(ev τ f= .p (.fn fid)∧first=[]∧caps=[])∨ev τ f= .fn (.func fid) first caps) (h:B2 P fid A Hs (Kq mkv mkp C x)) (hg:Fj H is Hs) (hnd:is.Nodup) (hA:GP (first++c.args.toList.map (ev τ)++caps) A)
  (hl:∀a T',C a T'→T'.length=Hs.length) (haft:FW ops k []=true) (chk:Ng ops n (true::effs).reverse=true) (hfx:NG k fx=true) (owe:Ke ops k H H rd)
  (next:∀a T',x= .ok a→C a T'→Ke ops k H (Lc H is T') rd∧Hp k (.eff (mkv a) (Lc H is T')) fx∧Dr P ops n τ₀ D Q opn (k+1) (put τ dst (mkv a)) (Lc H is T') rd ((k,H,Lc H is T')::ef) (true::effs) fx)
  (pan:∀e,x= .error e→∀τ' H',(∀t,(∀(k:Nat) o,ops[k]?=some o→o.dst≠some t)→τ' t=τ₀ t)→Q (.panic (mkp e)) ⟨n,τ',H'++DN is 0 H,D⟩):Dr P ops n τ₀ D Q opn k τ H rd ef effs fx:=by
 have hop:Dd P ⟨dst,.call c,ty,pos,aft,none⟩ (ev τ) H (fun r H'=>∃T',Kq mkv mkp C x r T'∧(match r with | .val _=>H'=Lc H is T' | .panic _=>H'=T'++DN is 0 H)):=by
  refine Dd.permR (GV hc hf (Di hnd hg) (h.args hA) (.inl O)) ?_;rintro r H1 ⟨T',hR,rfl⟩;cases r with
  | val v=>obtain⟨a,h1,h2,h3⟩:=hR;exact⟨_,(Mp hnd hg (hl a T' h3)).symm,T',⟨a,h1,h2,h3⟩,rfl⟩
  | panic v=>exact⟨_,List.Perm.refl _,T',hR,rfl⟩
 by_cases hx:∃a T',x= .ok a∧C a T'
 ·obtain⟨a,T',hx,hC⟩:=hx;refine Dr.opn _ [] ho hn Az hop haft ⟨mkv a,_,T',⟨a,hx,O,hC⟩,O⟩ ?_ ?_ ?_ ?_
  ·rintro v H' ⟨T',⟨a',h1,h2,h3⟩,rfl⟩;exact(next a' T' h1 h3).1
  ·rintro v H' ⟨T',⟨a',h1,h2,h3⟩,rfl⟩;subst h2;exact(next a' T' h1 h3).2.1
  ·rintro v H' ⟨T',⟨a',h1,h2,h3⟩,rfl⟩;subst h2;exact(next a' T' h1 h3).2.2
  rintro v H' ⟨T',⟨e,h1,h2⟩,rfl⟩ τ' hτ;subst h2;exact pan e h1 τ' T' hτ
 refine Dr.pan _ ho hn Az hop haft chk hfx ?_ owe ?_
 ·rintro v H' ⟨T',⟨a',h1,h2,h3⟩,rfl⟩;exact hx ⟨a',T',h1,h3⟩
 rintro v H' ⟨T',⟨e,h1,h2⟩,rfl⟩ τ' hτ;subst h2;exact pan e h1 τ' T' hτ
end
theorem Dg:∀xs:List AV,GP xs xs
 | []=>FM
 | x::xs=>aw (we rfl) (Dg xs)
def pe (ops:Array Oper) (t:Nat):Bool:=ops.toList.all fun o=>match o.dst with | some u=> !(Nat.beq u t) | none=>true
theorem Rs {ops:Array Oper}{t:Nat}(h:pe ops t=true) (k:Nat) (o:Oper) (ho:ops[k]?=some o):o.dst≠some t:=by
 intro e;have hm:o∈ops.toList:=by
  rw[←Array.getElem?_toList] at ho;exact List.mem_of_getElem? ho
 have:=List.all_eq_true.1 h o hm;simp[e] at this
theorem Mq {L Hs:List BR}{is:List Nat}(X:List BR) (hn:is.Nodup) (hg:Fj L is Hs):(X++L).Perm (Hs++(X++DN is 0 L)):=by
 have h:=(Di hn hg).append_left X;refine h.trans ?_;rw[←List.append_assoc,←List.append_assoc];exact List.perm_append_comm.append_right _
theorem E3.eq {P:Program}{f:FuncId}{caps:List AV}{m:M0}{H X:List BR}{R:List BR→Prop}(h:E3 P f caps m H (fun H'=>H'=X)) (hq:R X):E3 P f caps m H R:=by
 refine⟨h.1,fun F w vs u hH hr hm=>?_⟩;refine(h.2 F w vs u hH hr hm).mono ?_;rintro e u' w' ⟨v,H',F',h1,h2,rfl,h3,h4⟩;exact⟨v,_,F',h1,h2,hq,h3,h4⟩
end Go.Abs
namespace Go.Eu
open Go.Abs
mutual
def Vp:Tm→Prop
 | .mk k i _ _ ks=>(k=0→0≤i∧i<1099511627776)∧Tk ks
def Tk:List Tm→Prop
 | []=>True
 | t::ts=>Vp t∧Tk ts
end
theorem MW:∀{ts:List Tm}{i:Nat}{t:Tm},Tk ts→ts[i]?=some t→Vp t
 | [],i,t,_,h=>by simp at h
 | a::ts,0,t,hn,h=>by simp at h;subst h;exact hn.1
 | a::ts,i+1,t,hn,h=>by simp at h;exact MW hn.2 h
def Pt:Tm→Tm
 | .mk k i n l _=> .mk k i n l []
def Iv (i:Int):Except Int Tm:=if i > 65535 then .error 24 else .ok (Pr i)
def W0 (n m:Int):Except Int Int:=if wr (n+m) > 4096 then .error 5 else .ok (wr (n+m))
def Zw (b fr:Int) (t:Tm) (d:Int):Except Int Tm :=
 if t.index - d<fr then .ok (Pt t) else if b<0∧t.index - d<fr - b then .error 24 else Iv (t.index+b)
def NB {α β:Type}(f:α→β):Except Int α→Except Int β
 | .error e=> .error e
 | .ok x=> .ok (f x)
def Dw {α β:Type}(x:Except Int α) (f:α→Except Int β):Except Int β :=
 match x with
 | .error e=> .error e
 | .ok x=>f x
def KT (rep:Tm→Int→Except Int Tm) (s:Unit) (t:Tm) (d:Int):Except Int ((Tm×Bool)×Unit) :=
 if t.kind=0 then NB (fun x=>((x,true),())) (rep t d) else .ok ((Pt t,false),())
mutual
def EI {σ:Type}(vis:σ→Tm→Int→Except Int ((Tm×Bool)×σ)):Tm→Int→σ→Except Int (Tm×σ)
 | .mk k i n l ks,d,s=>Dw (vis s (.mk k i n l ks) d) fun r =>
   if r.1.2=true then .ok (r.1.1,r.2) else Dw (EA vis k 0 ks d r.2) fun q=> .ok (MG r.1.1 q.1,q.2)
def EA {σ:Type}(vis:σ→Tm→Int→Except Int ((Tm×Bool)×σ)) (k:Int):Nat→List Tm→Int→σ→Except Int (List Tm×σ)
 | _,[],_,s=> .ok ([],s)
 | j,t::ts,d,s=>Dw (EI vis t (d+below k j) s) fun r=>Dw (EA vis k (j+1) ts d r.2) fun q=> .ok (r.1::q.1,q.2)
end
section
variable {σ:Type}{vis:σ→Tm→Int→Except Int ((Tm×Bool)×σ)}
theorem GY {t:Tm}{d:Int}{s q:σ}{o:Tm}(h:vis s t d= .ok ((o,true),q)):EI vis t d s= .ok (o,q):=by
 obtain⟨k,i,n,l,ks⟩:=t;simp[EI,h,Dw]
theorem IC {t:Tm}{d e:Int}{s:σ}(h:vis s t d= .error e):EI vis t d s= .error e:=by
 obtain⟨k,i,n,l,ks⟩:=t;simp[EI,h,Dw]
theorem Im {k i d:Int}{n:ByteArray}{l:List Ci}{ks:List Tm}{s q q':σ}{o:Tm}{ys:List Tm}(h:vis s (.mk k i n l ks) d= .ok ((o,false),q)) (hk:EA vis k 0 ks d q= .ok (ys,q')):EI vis (.mk k i n l ks) d s= .ok (MG o ys,q'):=by
 simp[EI,h,Dw,hk]
theorem Jr {k i d e:Int}{n:ByteArray}{l:List Ci}{ks:List Tm}{s q:σ}{o:Tm}(h:vis s (.mk k i n l ks) d= .ok ((o,false),q)) (hk:EA vis k 0 ks d q= .error e):EI vis (.mk k i n l ks) d s= .error e:=by
 simp[EI,h,Dw,hk]
def R9 (vis:σ→Tm→Int→Except Int ((Tm×Bool)×σ)) (k:Int) (ts:List Tm) (d:Int) (q0:σ) (i:Nat) (ys:List Tm) (q:σ):Prop :=
 ys.length=i∧EA vis k 0 ts d q0=Dw (EA vis k i (ts.drop i) d q) fun r=> .ok (ys++r.1,r.2)
theorem R9.zero (k:Int) (ts:List Tm) (d:Int) (q0:σ):R9 vis k ts d q0 0 [] q0:=by
 refine⟨O,?_⟩;simp only[List.drop_zero,List.nil_append];cases EA vis k 0 ts d q0<;>rfl
theorem R9.err {k d e:Int}{ts ys:List Tm}{q0 q:σ}{i:Nat}{x:Tm}(h:R9 vis k ts d q0 i ys q) (hx:ts[i]?=some x) (hb:EI vis x (d+below k i) q= .error e):EA vis k 0 ts d q0= .error e:=by
 rw[h.2,Cu hx,EA,hb];rfl
theorem R9.succ {k d:Int}{ts ys:List Tm}{q0 q q':σ}{i:Nat}{x y:Tm}(h:R9 vis k ts d q0 i ys q) (hx:ts[i]?=some x) (hb:EI vis x (d+below k i) q= .ok (y,q')):R9 vis k ts d q0 (i+1) (ys++[y]) q':=by
 refine⟨by simp[h.1],?_⟩;rw[h.2,Cu hx,EA,hb];simp only[Dw];cases EA vis k (i+1) (ts.drop (i+1)) d q'<;>simp
theorem R9.fin {k d:Int}{ts ys:List Tm}{q0 q:σ}{i:Nat}(h:R9 vis k ts d q0 i ys q) (hi:ts.length≤i):EA vis k 0 ts d q0= .ok (ys,q):=by
 rw[h.2,List.drop_eq_nil_of_le hi,EA];simp[Dw]
end
theorem fJ {ys:List Tm}{i m:Nat}{x:Tm}(h:ys.length=i) (hm:0<m):(ys++List.replicate m Bp).set i x=(ys++[x])++List.replicate (m - 1) Bp:=by
 subst h;cases m with
 | zero=>omega
 | succ m=>simp[List.replicate_succ]
section
variable {b fr d k i:Int}{n:ByteArray}{l:List Ci}{ks:List Tm}
theorem Zb (h:i - d<fr):Zw b fr (.mk k i n l ks) d= .ok (.mk k i n l []):=by simp[Zw,Tm.index,Pt,h]
theorem iB (h:¬i - d<fr) (h2:b<0) (h3:i - d<fr - b):Zw b fr (.mk k i n l ks) d= .error 24:=by unfold Zw;exact(if_neg h).trans (if_pos ⟨h2,h3⟩)
theorem YG (h:¬i - d<fr) (h2:¬(b<0∧i - d<fr - b)):Zw b fr (.mk k i n l ks) d=Iv (i+b):=by unfold Zw;exact(if_neg h).trans (if_neg h2)
variable {rep:Tm→Int→Except Int Tm}{s:Unit}
theorem Oe {e:Int}(h:k=0) (hr:rep (.mk k i n l ks) d= .error e):KT rep s (.mk k i n l ks) d= .error e:=by unfold KT;exact(if_pos h).trans (by rw[hr];rfl)
theorem Me {x:Tm}(h:k=0) (hr:rep (.mk k i n l ks) d= .ok x):KT rep s (.mk k i n l ks) d= .ok ((x,true),()):=by unfold KT;exact(if_pos h).trans (by rw[hr];rfl)
theorem OO (h:k≠0):KT rep s (.mk k i n l ks) d= .ok ((.mk k i n l [],false),()):=by unfold KT;exact(if_neg h).trans rfl
end
def LH (b fr:Int) (t:Tm):Except Int Tm:=NB Prod.fst (EI (KT (Zw b fr)) t 0 ())
theorem RN {α β:Type}{f:α→β}{x:Except Int α}{a:α}(h:x= .ok a):NB f x= .ok (f a):=by rw[h];rfl
theorem O6 {α β:Type}{f:α→β}{x:Except Int α}{e:Int}(h:x= .error e):NB f x= .error e:=by rw[h];rfl
def Jj (vs:List Tm) (dp ti d:Int):Int:=if 0≤wr (wr (ti - d) - dp)∧wr (wr (ti - d) - dp)<(vs.length:Int) then wr (wr (ti - d) - dp) else -1
theorem eQ {vs:List Tm}{dp ti d:Int}(h1:0≤wr (wr (ti - d) - dp)) (h2:wr (wr (ti - d) - dp)<(vs.length:Int)):Jj vs dp ti d=wr (wr (ti - d) - dp):=if_pos ⟨h1,h2⟩
theorem jh {vs:List Tm}{dp ti d:Int}(h:¬(0≤wr (wr (ti - d) - dp)∧wr (wr (ti - d) - dp)<(vs.length:Int))):Jj vs dp ti d= -1:=if_neg h
theorem U1 {vs:List Tm}{dp ti d:Int}(h:0≤Jj vs dp ti d):Jj vs dp ti d<(vs.length:Int):=by
 unfold Jj at *;split<;>omega
def UZ (vs:List Tm) (sz:List Int) (dp:Int) (t:Tm) (d:Int):Int :=
 if t.kind=0∧0≤Jj vs dp t.index d then sz.getD (Jj vs dp t.index d).toNat 0 else 1
def RB (vs:List Tm) (sz:List Int) (dp:Int) (n:Int) (t:Tm) (d:Int):Except Int ((Tm×Bool)×Int) :=
 NB (fun m=>((Bp,decide (t.kind=0)),m)) (W0 n (UZ vs sz dp t d))
def LL (vs:List Tm) (dp:Int) (t:Tm) (d:Int):Except Int Tm :=
 if 0≤Jj vs dp t.index d then LH (wr (dp+d)) 0 (vs.getD (Jj vs dp t.index d).toNat Bp)
 else if wr (t.index - d)<dp then .ok (Pt t) else Iv (wr (t.index - vs.length))
def KC (vs:List Tm) (dp:Int) (t:Tm):Except Int Tm :=
 Dw (EI (RB vs (vs.map fun v=>(size v:Int)) dp) t 0 0) fun _=>NB Prod.fst (EI (KT (LL vs dp)) t 0 ())
def GK (t:Tm) (vs:List Tm) (dp:Int):Tm×Int :=
 match KC vs dp t with
 | .error e=>(Bp,e)
 | .ok x=>if En x > 200 then (Bp,7) else (x,0)
section
variable {vs:List Tm}{sz:List Int}{dp n d k i r m e:Int}{nm:ByteArray}{l:List Ci}{ks:List Tm}
theorem Qc (hm:UZ vs sz dp (.mk k i nm l ks) d=m) (hz:W0 n m= .ok r):RB vs sz dp n (.mk k i nm l ks) d= .ok ((Bp,decide (k=0)),r):=by
 subst hm;exact RN hz
theorem Og (hm:UZ vs sz dp (.mk k i nm l ks) d=m) (hz:W0 n m= .error e):RB vs sz dp n (.mk k i nm l ks) d= .error e:=by
 subst hm;exact O6 hz
theorem SX (h:k=0∧0≤Jj vs dp i d) (hx:sz[(Jj vs dp i d).toNat]?=some m):UZ vs sz dp (.mk k i nm l ks) d=m:=by
 unfold UZ;refine(if_pos h).trans ?_;rw[List.getD_eq_getElem?_getD];exact(congrArg (fun o=>Option.getD o 0) hx)
theorem Qq (h:¬(k=0∧0≤Jj vs dp i d)):UZ vs sz dp (.mk k i nm l ks) d=1:=by
 unfold UZ;exact if_neg h
theorem R0 {v:Tm}(h:0≤Jj vs dp i d) (hx:vs[(Jj vs dp i d).toNat]?=some v):LL vs dp (.mk k i nm l ks) d=LH (wr (dp+d)) 0 v:=by
 unfold LL;refine(if_pos h).trans ?_;rw[List.getD_eq_getElem?_getD];exact(congrArg (fun o=>LH (wr (dp+d)) 0 (Option.getD o Bp)) hx)
theorem Wj (h:¬0≤Jj vs dp i d) (h2:wr (i - d)<dp):LL vs dp (.mk k i nm l ks) d= .ok (.mk k i nm l []):=by
 unfold LL;exact(if_neg h).trans ((if_pos h2).trans rfl)
theorem VJ (h:¬0≤Jj vs dp i d) (h2:¬wr (i - d)<dp):LL vs dp (.mk k i nm l ks) d=Iv (wr (i - vs.length)):=by
 unfold LL;exact(if_neg h).trans (if_neg h2)
end
theorem JH {t:Tm}{vs:List Tm}{dp e:Int}(h:KC vs dp t= .error e):GK t vs dp=(Bp,e):=by unfold GK;rw[h]
theorem QJ {t x:Tm}{vs:List Tm}{dp:Int}(h:KC vs dp t= .ok x) (hd:En x > 200):GK t vs dp=(Bp,7):=by unfold GK;rw[h];exact if_pos hd
theorem TC {t x:Tm}{vs:List Tm}{dp:Int}(h:KC vs dp t= .ok x) (hd:¬En x > 200):GK t vs dp=(x,0):=by unfold GK;rw[h];exact if_neg hd
theorem Ma {t x:Tm}{vs:List Tm}{dp:Int}{a:Tm×Int}{b:Unit}(h1:EI (RB vs (vs.map fun v=>(size v:Int)) dp) t 0 0= .ok a) (h2:EI (KT (LL vs dp)) t 0 ()= .ok (x,b)):KC vs dp t= .ok x:=by
 unfold KC;rw[h1];exact RN h2
theorem QB {t:Tm}{vs:List Tm}{dp e:Int}(h1:EI (RB vs (vs.map fun v=>(size v:Int)) dp) t 0 0= .error e):KC vs dp t= .error e:=by
 unfold KC;rw[h1];rfl
theorem QD {t:Tm}{vs:List Tm}{dp e:Int}{a:Tm×Int}(h1:EI (RB vs (vs.map fun v=>(size v:Int)) dp) t 0 0= .ok a) (h2:EI (KT (LL vs dp)) t 0 ()= .error e):KC vs dp t= .error e:=by
 unfold KC;rw[h1];exact O6 h2
theorem Xa:∀{ts:List Tm},(∀t∈ts,Nd t)→Lx ts
 | [],_=>trivial
 | t::ts,h=>⟨h t Ay,Xa fun x hx=>h x (by simp[hx])⟩
section
variable {σ:Type}{vis:σ→Tm→Int→Except Int ((Tm×Bool)×σ)}
mutual
theorem PZ (hv:∀s t d r,Nd t→Vp t→vis s t d= .ok r→Nd r.1.1):∀(t:Tm) (d:Int) (s:σ) (r:Tm×σ),Nd t→Vp t→EI vis t d s= .ok r→Nd r.1
 | .mk k i n l ks,d,s,r,h1,h2,h=>by
  unfold EI Dw at h;split at h
  ·cases h
  rename_i r1 hr;have hn:=hv _ _ _ _ h1 h2 hr;simp only at h;split at h
  ·injection h with h;subst h;exact hn
  split at h
  ·cases h
  rename_i q hq;injection h with h;subst h;obtain⟨g1,g2⟩:=Qx hv ks k 0 d r1.2 q h1.2.2.2.2.1 h2.2 hq;obtain⟨⟨o,dn⟩,q1⟩:=r1;obtain⟨ok,oi,on,ol,os⟩:=o;exact⟨hn.1,hn.2.1,hn.2.2.1,by rw[g2];exact h1.2.2.2.1,g1,hn.2.2.2.2.2⟩
theorem Qx (hv:∀s t d r,Nd t→Vp t→vis s t d= .ok r→Nd r.1.1):∀(ts:List Tm) (k:Int) (j:Nat) (d:Int) (s:σ) (r:List Tm×σ),Lx ts→Tk ts→EA vis k j ts d s= .ok r→Lx r.1∧r.1.length=ts.length
 | [],k,j,d,s,r,h1,h2,h=>by
  unfold EA at h;injection h with h;subst h;exact⟨trivial,rfl⟩
 | t::ts,k,j,d,s,r,h1,h2,h=>by
  unfold EA Dw at h;split at h
  ·cases h
  rename_i r1 hr;simp only at h;split at h
  ·cases h
  rename_i q hq;injection h with h;subst h;obtain⟨g1,g2⟩:=Qx hv ts k (j+1) d r1.2 q h1.2 h2.2 hq;exact⟨⟨PZ hv t _ _ _ h1.1 h2.1 hr,g1⟩,by simp[g2]⟩
end
end
theorem Qw {t:Tm}(h:Nd t):Nd (Pt t):=by
 obtain⟨k,i,n,l,ks⟩:=t;exact⟨h.1,h.2.1,h.2.2.1,by decide,trivial,h.2.2.2.2.2⟩
theorem Vu {i:Int}{x:Tm}(hi: -9223372036854775808≤i) (h:Iv i= .ok x):Nd x:=by
 unfold Iv at h;split at h
 ·cases h
 injection h with h;subst h;exact⟨by decide,by decide,by simp,by decide,trivial,⟨by decide,by decide⟩,⟨hi,by omega⟩⟩
theorem ZW {rep:Tm→Int→Except Int Tm}(hr:∀t d x,Nd t→Vp t→t.kind=0→rep t d= .ok x→Nd x):∀(s:Unit) (t:Tm) (d:Int) (r:(Tm×Bool)×Unit),Nd t→Vp t→KT rep s t d= .ok r→Nd r.1.1:=by
 intro s t d r h1 h2 h;unfold KT at h;split at h
 ·rename_i hk;unfold NB at h;split at h
  ·cases h
  rename_i x hx;injection h with h;subst h;exact hr t d x h1 h2 hk hx
 injection h with h;subst h;exact Qw h1
theorem aR {b fr:Int}{t x:Tm}(hb:JB b) (h1:Nd t) (h2:Vp t) (h:LH b fr t= .ok x):Nd x:=by
 unfold LH NB at h;split at h
 ·cases h
 rename_i r hr;injection h with h;subst h;refine PZ (ZW ?_) t 0 () r h1 h2 hr;intro t d x g1 g2 g3 g;obtain⟨k,i,n,l,ks⟩:=t;have hi:=g2.1 g3;unfold Zw at g;split at g
 ·injection g with g;subst g;exact Qw g1
 split at g
 ·cases g
 exact Vu (by have:=hb.1;simp only[Tm.index];omega) g
theorem jB {vs:List Tm}{dp:Int}{t x:Tm}{u:Unit}(hv:Lx vs) (hp:Tk vs) (h1:Nd t) (h2:Vp t) (h:EI (KT (LL vs dp)) t 0 ()= .ok (x,u)):Nd x:=by
 refine PZ (ZW ?_) t 0 () (x,u) h1 h2 h;intro t d x g1 g2 g3 g;unfold LL at g;split at g
 ·rename_i h0;have hl:=U1 h0;obtain⟨v,hx⟩:=BE (l:=vs) (i:=(Jj vs dp t.index d).toNat) Ax;rw[List.getD_eq_getElem?_getD,hx] at g;exact aR (YI _) (Df hv hx) (MW hp hx) g
 split at g
 ·injection g with g;subst g;exact Qw g1
 exact Vu (YI _).1 g
theorem lE {vs:List Tm}{i:Nat}{x:Tm}(hx:vs[i]?=some x):(((vs.take i).map fun v=>(size v:Int))++List.replicate (vs.length - i) 0).set i (size x:Int)=((vs.take (i+1)).map fun v=>(size v:Int))++List.replicate (vs.length - (i+1)) 0:=by
 have hi:i<vs.length:=by
  rcases Nat.lt_or_ge i vs.length with h | h
  ·exact h
  rw[List.getElem?_eq_none h] at hx;cases hx
 obtain⟨m,hm⟩:∃m,vs.length - i=m+1:=⟨vs.length - i - 1,by omega⟩;have hl:((vs.take i).map fun v=>(size v:Int)).length=i:=by simp;omega
 rw[List.take_add_one,hx,hm,show vs.length - (i+1)=m by omega,List.replicate_succ,List.set_append_right _ _ Ax,hl];simp
theorem mc {vs:List Tm}{i:Nat}(h:vs.length≤i):((vs.take i).map fun v=>(size v:Int))++List.replicate (vs.length - i) 0=vs.map fun v=>(size v:Int):=by
 rw[List.take_of_length_le h,show vs.length - i=0 by omega];simp
theorem Yx {k i:Int}{n:ByteArray}{l:List Ci}{ks:List Tm}(h:Wt (.mk k i n l ks)) (hk:k=0):ks=[]:=by
 have:=h.1;subst hk;cases ks with
 | nil=>rfl
 | cons a b=>simp[arity] at this;omega
def Fq (x:Tm×Int):Except Int (Tm×Unit):=if x.2=0 then .ok (x.1,()) else .error x.2
def HI (x:List Tm×Int):Except Int (List Tm×Unit):=if x.2=0 then .ok (x.1,()) else .error x.2
theorem Wb {er e:Int}(h:er≠0):Gn er e=er:=by unfold Gn;rw[if_neg h]
theorem Zp {er i:Int}(h:er≠0):Nc er i=er:=by unfold Nc;split<;>simp[Wb h]
mutual
theorem Ty (b fr:Int):∀(t:Tm) (d er:Int),er≠0→(Cs b fr d er t).2=er
 | .mk k i n l ks,d,er,h=>by
  unfold Cs;split
  ·split
   ·rfl
   split
   ·exact Wb h
   exact Zp h
  exact K6 b fr k ks d 0 er h
theorem K6 (b fr k:Int):∀(ts:List Tm) (d:Int) (j:Nat) (er:Int),er≠0→(DR b fr k d j er ts).2=er
 | [],d,j,er,h=>rfl
 | t::ts,d,j,er,h=>by
  unfold DR;simp only;rw[Ty b fr t _ er h];exact K6 b fr k ts d (j+1) er h
end
mutual
theorem Th (b:Int) (hb:0≤b) (hb2:b<4398046511104):∀(t:Tm) (d:Int),Wt t→Vp t→0≤d→d+size t<2199023255552→EI (KT (Zw b 0)) t d ()=Fq (Cs b 0 d 0 t)
 | .mk k i n l ks,d,h1,h2,h3,h4=>by
  by_cases hk:k=0
  ·have hks:=Yx h1 hk;have hi:=h2.1 hk;have e1:wr (0+d)=d:=by rw[Int.zero_add];exact Ej (by unfold JB;omega)
   have e2:wr (i+b)=i+b:=Ej (by unfold JB;omega);by_cases hlo:i - d<0
   ·rw[GY (Me hk (Zb hlo))];unfold Cs;rw[if_pos hk,e1,if_pos Ax];subst hks;rfl
   have hsh:Zw b 0 (.mk k i n l ks) d=Iv (i+b):=YG hlo Ax;unfold Cs;rw[if_pos hk,e1,if_neg Ax,e2,if_neg Ax];by_cases hbig:i+b > 65535
   ·rw[IC (Oe hk (hsh.trans (if_pos hbig)))];unfold Fq Nc Gn;simp[hbig]
   rw[GY (Me hk (hsh.trans (if_neg hbig)))];unfold Fq Nc;simp[hbig]
  have hs:d+Bl ks<2199023255551:=by simp only[size] at h4;omega
  have hL:=Rn b hb hb2 k ks d 0 h1.2.2 h2.2 h3 hs;unfold Cs;rw[if_neg hk];unfold HI at hL;unfold Fq;by_cases he:(DR b 0 k d 0 0 ks).2=0
  ·rw[if_pos he] at hL;rw[if_pos he];exact Im (OO hk) hL
  rw[if_neg he] at hL;rw[if_neg he];exact Jr (OO hk) hL
theorem Rn (b:Int) (hb:0≤b) (hb2:b<4398046511104) (k:Int):∀(ts:List Tm) (d:Int) (j:Nat),Np ts→Tk ts→0≤d→d+Bl ts<2199023255551→EA (KT (Zw b 0)) k j ts d ()=HI (DR b 0 k d j 0 ts)
 | [],d,j,h1,h2,h3,h4=>rfl
 | t::ts,d,j,h1,h2,h3,h4=>by
  have hbl:=DF k j;simp only[Bl] at h4;have hT:=Th b hb hb2 t (d+below k j) h1.1 h2.1 Ax Ax;have hL:=Rn b hb hb2 k ts d (j+1) h1.2 h2.2 h3 Ax;unfold EA DR;rw[hT];unfold Fq HI Dw;by_cases he:(Cs b 0 (d+below k j) 0 t).2=0
  ·rw[if_pos he];simp only;rw[hL,he];unfold HI;by_cases hq:(DR b 0 k d (j+1) 0 ts).2=0
   ·rw[if_pos hq,if_pos hq]
   rw[if_neg hq,if_neg hq]
  rw[if_neg he];simp only;rw[K6 b 0 k ts d (j+1) _ he,if_neg he]
end
theorem bY {b:Int}{v:Tm}(hb:0≤b) (hb2:b<4398046511104) (h1:Wt v) (h2:Vp v) (h3:size v<1099511627776):LH b 0 v=if (Cs b 0 0 0 v).2=0 then .ok (Cs b 0 0 0 v).1 else .error (Cs b 0 0 0 v).2:=by
 unfold LH;rw[Th b hb hb2 v 0 h1 h2 Ax Ax];unfold Fq;split<;>rfl
section
variable {vs:List Tm}{d er nd k i:Int}{n:ByteArray}{l:List Ci}{ks:List Tm}
theorem Ni {t:Tm}(h:nd > 4096):CR vs d er nd t=(t,er,nd):=by
 obtain⟨k,i,n,l,ks⟩:=t;unfold CR;rw[if_pos h]
theorem Jy (h:nd > 4096):∀(ts:List Tm) (d:Int) (j:Nat),Cp vs k d j er nd ts=(ts,er,nd)
 | [],d,j=>rfl
 | t::ts,d,j=>by unfold Cp;rw[Ni h];simp only;rw[Jy h ts d (j+1)]
theorem Nl {v:Tm}(h:nd≤4096) (hk:k=0) (h1:i≥d) (h2:i - d<(vs.length:Int)) (hv:vs[(i - d).toNat]?=some v):CR vs d er nd (.mk k i n l ks)=((Cs d 0 0 er v).1,(Cs d 0 0 er v).2,wr (nd+E6 v)):=by
 unfold CR;rw[if_neg Ax,if_pos ⟨hk,h1,h2⟩,List.getD_eq_getElem?_getD,hv];rfl
theorem Pa (h:nd≤4096) (hk:k=0) (h1:i≥d) (h2:¬i - d<(vs.length:Int)):CR vs d er nd (.mk k i n l ks)=(Pr (wr (i - vs.length)),Nc er (wr (i - vs.length)),wr (nd+1)):=by
 unfold CR;rw[if_neg Ax,if_neg Ax,if_pos hk,if_pos h1]
theorem NX (h:nd≤4096) (hk:k=0) (h1:¬i≥d):CR vs d er nd (.mk k i n l ks)=(.mk k i n l ks,er,wr (nd+1)):=by
 unfold CR;rw[if_neg Ax,if_neg Ax,if_pos hk,if_neg h1]
theorem Li (h:nd≤4096) (hk:k≠0):CR vs d er nd (.mk k i n l ks)=((.mk k i n l (Cp vs k d 0 er (wr (nd+1)) ks).1),(Cp vs k d 0 er (wr (nd+1)) ks).2):=by
 unfold CR;rw[if_neg Ax,if_neg Ax,if_neg hk]
end
mutual
theorem aK (vs:List Tm):∀(t:Tm) (d er nd:Int),er≠0→(CR vs d er nd t).2.1=er
 | .mk k i n l ks,d,er,nd,h=>by
  unfold CR;split
  ·rfl
  split
  ·exact Ty _ _ _ _ _ h
  split
  ·split
   ·exact Zp h
   rfl
  exact LC vs k ks d 0 er _ h
theorem LC (vs:List Tm) (k:Int):∀(ts:List Tm) (d:Int) (j:Nat) (er nd:Int),er≠0→(Cp vs k d j er nd ts).2.1=er
 | [],d,j,er,nd,h=>rfl
 | t::ts,d,j,er,nd,h=>by
  unfold Cp;simp only;rw[aK vs t _ er nd h];exact LC vs k ts d (j+1) er _ h
end
structure QS (vs:List Tm) (dp:Int):Prop where
 wt:Np vs
 vp:Tk vs
 sz:∀x∈vs,size x<1099511627776
 len:vs.length<1099511627776
 lo:0≤dp
 hi:dp≤65536
theorem QS.size {vs:List Tm}{dp:Int}(V:QS vs dp):∀x∈vs,(size x:Int)≤1099511627776:=fun x hx=>by have:=V.sz x hx;omega
theorem Z4 {vs:List Tm}{dp i d:Int}(V:QS vs dp) (h1:0≤i) (h2:i<1099511627776) (h3:0≤d) (h4:d<2199023255552):Jj vs dp i d=if dp+d≤i∧i - (dp+d)<(vs.length:Int) then i - (dp+d) else -1:=by
 have:=V.lo;have:=V.hi;have e1:wr (i - d)=i - d:=Ej (by unfold JB;omega);have e2:wr (i - d - dp)=i - (dp+d):=by rw[Ej (by unfold JB;omega)];omega
 unfold Jj;rw[e1,e2];by_cases h:dp+d≤i∧i - (dp+d)<(vs.length:Int)
 ·rw[if_pos h,if_pos Ax]
 rw[if_neg h,if_neg Ax]
theorem Y7 {n m:Int}(h1:0≤n) (h2:n≤4096) (h3:0≤m) (h4:m≤1099511627776):W0 n m=if n+m > 4096 then .error 5 else .ok (n+m):=by
 unfold W0;rw[show wr (n+m)=n+m from Ej (by unfold JB;omega)]
def mS {α:Type}(x:Except Int (α×Int)) (m:Int):Prop:=(m > 4096→x= .error 5)∧(m≤4096→∃z,x= .ok (z,m))
def l6 (vs:List Tm):List Int:=vs.map fun v=>(size v:Int)
theorem j1 {vs:List Tm}{i:Nat}{v:Tm}(h:vs[i]?=some v):(l6 vs)[i]?=some (size v:Int):=by simp[l6,h]
mutual
theorem Zq {vs:List Tm}{dp:Int}(V:QS vs dp):∀(t:Tm) (d er nd:Int),Wt t→Vp t→0≤d→d+size t<2199023255552→0≤nd→nd≤4096→mS (EI (RB vs (l6 vs) dp) t d nd) (CR vs (dp+d) er nd t).2.2
 | .mk k i n l ks,d,er,nd,h1,h2,h3,h4,h5,h6=>by
  have hone:∀m:Int,0≤m→m≤1099511627776→UZ vs (l6 vs) dp (.mk k i n l ks) d=m→k=0→mS (EI (RB vs (l6 vs) dp) (.mk k i n l ks) d nd) (wr (nd+m)):=by
   intro m g1 g2 g3 hk;have ha:=Y7 h5 h6 g1 g2;rw[show wr (nd+m)=nd+m from Ej (by unfold JB;omega)];refine⟨fun h=>?_,fun h=>?_⟩
   ·rw[if_pos h] at ha;exact IC (Og g3 ha)
   rw[if_neg Ax] at ha;refine⟨Bp,GY ?_⟩;rw[Qc g3 ha,hk];rfl
  by_cases hk:k=0
  ·have hi:=h2.1 hk;have hd:d<2199023255552:=by have:=size_pos (Tm.mk k i n l ks);omega
   have hv:=Z4 V hi.1 hi.2 h3 hd;by_cases hin:dp+d≤i∧i - (dp+d)<(vs.length:Int)
   ·rw[if_pos hin] at hv;obtain⟨v,hx⟩:=BE (l:=vs) (i:=(i - (dp+d)).toNat) Ax;have hsv:=V.sz v (List.mem_of_getElem? hx);rw[Nl h6 hk hin.1 hin.2 hx,L0 Ax];exact hone _ Ax Ax (SX ⟨hk,by omega⟩ (by rw[hv];exact j1 hx)) hk
   rw[if_neg hin] at hv;have hc:=hone 1 Ax Ax (Qq Ax) hk;by_cases hge:i≥dp+d
   ·rw[Pa h6 hk hge Ax];exact hc
   rw[NX h6 hk hge];exact hc
  rw[Li h6 hk];have hs:d+Bl ks<2199023255551:=by simp only[size] at h4;omega
  have e1:wr (nd+1)=nd+1:=Ej (by unfold JB;omega);have ha:=Y7 (m:=1) h5 h6 Ax Ax;have hn:UZ vs (l6 vs) dp (.mk k i n l ks) d=1:=Qq Ax;have hdec:decide (k=0)=false:=by simp[hk]
  simp only;rw[e1];by_cases hbig:nd+1 > 4096
  ·rw[Jy hbig];rw[if_pos hbig] at ha;exact⟨fun _=>IC (Og hn ha),fun h=>by simp only at h;omega⟩
  rw[if_neg hbig] at ha;have hc:=Qc (l:=l) hn ha;rw[hdec] at hc;obtain⟨g1,g2⟩:=XT V k ks d 0 er (nd+1) h1.2.2 h2.2 h3 hs Ax Ax;refine⟨fun h=>Jr hc (g1 h),fun h=>?_⟩;obtain⟨z,hz⟩:=g2 h;exact⟨_,Im hc hz⟩
theorem XT {vs:List Tm}{dp:Int}(V:QS vs dp) (k:Int):∀(ts:List Tm) (d:Int) (j:Nat) (er nd:Int),Np ts→Tk ts→0≤d→d+Bl ts<2199023255551→0≤nd→nd≤4096→mS (EA (RB vs (l6 vs) dp) k j ts d nd) (Cp vs k (dp+d) j er nd ts).2.2
 | [],d,j,er,nd,h1,h2,h3,h4,h5,h6=>⟨fun h=>by simp only[Cp] at h;omega,fun _=>⟨_,rfl⟩⟩
 | t::ts,d,j,er,nd,h1,h2,h3,h4,h5,h6=>by
  have hbl:=DF k j;simp only[Bl] at h4;obtain⟨g1,g2⟩:=Zq V t (d+below k j) er nd h1.1 h2.1 Ax Ax h5 h6;have hm:=(J1 1099511627776 Ax Ax t vs (dp+d+below k j) er nd h1.1 V.wt V.size h5 Ax).1;rw[show dp+(d+below k j)=dp+d+below k j by omega] at g1 g2;unfold EA Cp;simp only;by_cases hbig:(CR vs (dp+d+below k j) er nd t).2.2 > 4096
  ·rw[g1 hbig,Jy hbig];exact⟨fun _=>O,fun h=>by simp only at h;omega⟩
  obtain⟨z,hz⟩:=g2 Ax;rw[hz];obtain⟨f1,f2⟩:=XT V k ts d (j+1) (CR vs (dp+d+below k j) er nd t).2.1 (CR vs (dp+d+below k j) er nd t).2.2 h1.2 h2.2 h3 Ax Ax Ax;refine⟨fun h=>?_,fun h=>?_⟩
  ·simp only[Dw];rw[f1 h]
  obtain⟨y,hy⟩:=f2 h;exact⟨z::y,by simp only[Dw];rw[hy]⟩
end
mutual
theorem Y0 {vs:List Tm}{dp:Int}(V:QS vs dp):∀(t:Tm) (d nd:Int),Wt t→Vp t→0≤d→d+size t<2199023255552→0≤nd→(CR vs (dp+d) 0 nd t).2.2≤4096→EI (KT (LL vs dp)) t d ()=Fq ((CR vs (dp+d) 0 nd t).1,(CR vs (dp+d) 0 nd t).2.1)
 | .mk k i n l ks,d,nd,h1,h2,h3,h4,h5,h6=>by
  have h7:nd≤4096:=by
   rcases Int.lt_or_le 4096 nd with h | h
   ·rw[Ni h] at h6;simp only at h6;omega
   exact h
  have:=V.lo;have:=V.hi;have:=V.len;by_cases hk:k=0
  ·have hi:=h2.1 hk;have hks:=Yx h1 hk;have hd:d<2199023255552:=by have:=size_pos (Tm.mk k i n l ks);omega
   have hv:=Z4 V hi.1 hi.2 h3 hd;by_cases hin:dp+d≤i∧i - (dp+d)<(vs.length:Int)
   ·rw[if_pos hin] at hv;obtain⟨v,hx⟩:=BE (l:=vs) (i:=(i - (dp+d)).toNat) Ax;have hsv:=V.sz v (List.mem_of_getElem? hx);rw[Nl h7 hk hin.1 hin.2 hx];have hr:LL vs dp (.mk k i n l ks) d=LH (wr (dp+d)) 0 v:=R0 Ax (by rw[hv];exact hx);rw[show wr (dp+d)=dp+d from Ej (by unfold JB;omega),bY Ax Ax (Qt V.wt hx) (MW V.vp hx) hsv] at hr;unfold Fq;by_cases he:(Cs (dp+d) 0 0 0 v).2=0
    ·rw[if_pos he] at hr;rw[if_pos he];exact GY (Me hk hr)
    rw[if_neg he] at hr;rw[if_neg he];exact IC (Oe hk hr)
   rw[if_neg hin] at hv;have e1:wr (i - d)=i - d:=Ej (by unfold JB;omega);by_cases hge:i≥dp+d
   ·rw[Pa h7 hk hge Ax];have hr:LL vs dp (.mk k i n l ks) d=Iv (wr (i - vs.length)):=VJ Ax (by rw[e1];omega);unfold Iv at hr;unfold Fq Nc Gn;by_cases hbig:wr (i - vs.length) > 65535
    ·rw[if_pos hbig] at hr;simp only[hbig,if_true];exact IC (Oe hk hr)
    rw[if_neg hbig] at hr;simp only[hbig,if_false,if_true];exact GY (Me hk hr)
   rw[NX h7 hk hge];have hr:LL vs dp (.mk k i n l ks) d= .ok (.mk k i n l []):=Wj Ax (by rw[e1];omega);subst hks;exact GY (Me hk hr)
  rw[Li h7 hk] at h6 ⊢;have hs:d+Bl ks<2199023255551:=by simp only[size] at h4;omega
  have e1:wr (nd+1)=nd+1:=Ej (by unfold JB;omega);simp only at h6 ⊢;rw[e1] at h6 ⊢;have hL:=Vd V k ks d 0 (nd+1) h1.2.2 h2.2 h3 hs Ax h6;unfold HI at hL;unfold Fq;by_cases he:(Cp vs k (dp+d) 0 0 (nd+1) ks).2.1=0
  ·rw[if_pos he] at hL;rw[if_pos he];exact Im (OO hk) hL
  rw[if_neg he] at hL;rw[if_neg he];exact Jr (OO hk) hL
theorem Vd {vs:List Tm}{dp:Int}(V:QS vs dp) (k:Int):∀(ts:List Tm) (d:Int) (j:Nat) (nd:Int),Np ts→Tk ts→0≤d→d+Bl ts<2199023255551→0≤nd→(Cp vs k (dp+d) j 0 nd ts).2.2≤4096→EA (KT (LL vs dp)) k j ts d ()=HI ((Cp vs k (dp+d) j 0 nd ts).1,(Cp vs k (dp+d) j 0 nd ts).2.1)
 | [],d,j,nd,h1,h2,h3,h4,h5,h6=>rfl
 | t::ts,d,j,nd,h1,h2,h3,h4,h5,h6=>by
  have hbl:=DF k j;simp only[Bl] at h4;have h7:nd≤4096:=by
   rcases Int.lt_or_le 4096 nd with h | h
   ·rw[Jy h] at h6;simp only at h6;omega
   exact h
  have hm:=(J1 1099511627776 Ax Ax t vs (dp+d+below k j) 0 nd h1.1 V.wt V.size h5 Ax);unfold Cp at h6;simp only at h6;have hm2:=(Kw 1099511627776 Ax Ax ts vs k (dp+d) (j+1) (CR vs (dp+d+below k j) 0 nd t).2.1 (CR vs (dp+d+below k j) 0 nd t).2.2 h1.2 V.wt V.size Ax hm.2.1).1;have hT:=Y0 V t (d+below k j) nd h1.1 h2.1 Ax Ax h5 (by rw[show dp+(d+below k j)=dp+d+below k j by omega];omega);rw[show dp+(d+below k j)=dp+d+below k j by omega] at hT;unfold EA Cp;rw[hT];simp only;unfold Fq HI Dw;by_cases he:(CR vs (dp+d+below k j) 0 nd t).2.1=0
  ·have hL:=Vd V k ts d (j+1) (CR vs (dp+d+below k j) 0 nd t).2.2 h1.2 h2.2 h3 Ax Ax (by rw[he] at h6;exact h6);simp only;rw[if_pos he];simp only;rw[hL,he];unfold HI;by_cases hq:(Cp vs k (dp+d) (j+1) 0 (CR vs (dp+d+below k j) 0 nd t).2.2 ts).2.1=0
   ·simp only[hq,if_true]
   simp only[hq,if_false]
  simp only;rw[if_neg he];simp only;rw[LC vs k ts (dp+d) (j+1) _ _ he,if_neg he]
end
theorem ae {t:Tm}{vs:List Tm}{dp:Int}(V:QS vs dp) (h1:Wt t) (h2:Vp t) (h3:size t<1099511627776):GK t vs dp=CT t vs dp:=by
 have:=V.lo;have:=V.hi;have hmin:min dp 65536=dp:=by omega
 obtain⟨g1,g2⟩:=Zq V t 0 0 0 h1 h2 Ax Ax Ax Ax;rw[Int.add_zero] at g1 g2;unfold CT;rw[hmin];by_cases hbig:(CR vs dp 0 0 t).2.2 > 4096
 ·rw[if_pos hbig];exact JH (QB (g1 hbig))
 rw[if_neg hbig];obtain⟨z,hz⟩:=g2 Ax;have hr:=Y0 V t 0 0 h1 h2 Ax Ax Ax (by rw[Int.add_zero];omega);rw[Int.add_zero] at hr;unfold Fq at hr;simp only at hr;by_cases he:(CR vs dp 0 0 t).2.1=0
 ·rw[if_pos he] at hr;rw[if_neg Ax];by_cases hd:En (CR vs dp 0 0 t).1 > 200
  ·rw[if_pos hd];exact QJ (Ma hz hr) hd
  rw[if_neg hd];exact TC (Ma hz hr) hd
 rw[if_neg he] at hr;rw[if_pos he];exact JH (QD hz hr)
theorem e6 {i:Int}(h0:0≤i) (h1:i≤65535):Vp (Pr i):=⟨fun _=>⟨h0,by omega⟩,trivial⟩
theorem Ug:Vp Bp:=⟨fun _=>⟨by omega,by omega⟩,trivial⟩
mutual
theorem Tr (b:Int) (hb:0≤b) (hb2:b<4398046511104):∀(t:Tm) (d:Int),Vp t→0≤d→d+size t<4398046511104→(Cs b 0 d 0 t).2=0→Vp (Cs b 0 d 0 t).1
 | .mk k i n l ks,d,h,hd,hd2,he=>by
  by_cases hk:k=0
  ·have hi:=h.1 hk;have e1:wr (0+d)=d:=by rw[Int.zero_add];exact Ej (by unfold JB;omega)
   have e2:wr (i+b)=i+b:=Ej (by unfold JB;omega);unfold Cs at he ⊢;rw[if_pos hk,e1,e2] at he ⊢;by_cases hlo:i<d
   ·rw[if_pos hlo];exact h
   rw[if_neg hlo,if_neg Ax] at he ⊢;unfold Nc Gn at he;by_cases hbig:i+b > 65535
   ·simp[hbig] at he
   exact e6 Ax Ax
  unfold Cs at he ⊢;rw[if_neg hk] at he ⊢;simp only[size] at hd2;exact⟨fun h=>absurd h hk,RR b hb hb2 k ks d 0 h.2 hd Ax he⟩
theorem RR (b:Int) (hb:0≤b) (hb2:b<4398046511104) (k:Int):∀(ts:List Tm) (d:Int) (j:Nat),Tk ts→0≤d→d+Bl ts<4398046511103→(DR b 0 k d j 0 ts).2=0→Tk (DR b 0 k d j 0 ts).1
 | [],d,j,h,hd,hd2,he=>trivial
 | t::ts,d,j,h,hd,hd2,he=>by
  have hbl:=DF k j;simp only[Bl] at hd2;unfold DR at he ⊢;simp only at he ⊢;have h0:(Cs b 0 (d+below k j) 0 t).2=0:=by
   rcases Decidable.em ((Cs b 0 (d+below k j) 0 t).2=0) with h | h
   ·exact h
   rw[K6 b 0 k ts d (j+1) _ h] at he;exact he
  rw[h0] at he ⊢;exact⟨Tr b hb hb2 t _ h.1 Ax Ax h0,RR b hb hb2 k ts d (j+1) h.2 hd Ax he⟩
end
mutual
theorem TH {vs:List Tm}{dp:Int}(V:QS vs dp):∀(t:Tm) (d nd:Int),Vp t→0≤d→d+size t<2199023255552→(CR vs (dp+d) 0 nd t).2.1=0→Vp (CR vs (dp+d) 0 nd t).1
 | .mk k i n l ks,d,nd,h,h3,h4,he=>by
  have:=V.lo;have:=V.hi;have:=V.len;rcases Int.lt_or_le 4096 nd with h7 | h7
  ·rw[Ni h7];exact h
  by_cases hk:k=0
  ·have hi:=h.1 hk;by_cases hin:dp+d≤i∧i - (dp+d)<(vs.length:Int)
   ·obtain⟨v,hx⟩:=BE (l:=vs) (i:=(i - (dp+d)).toNat) Ax;have hsv:=V.sz v (List.mem_of_getElem? hx);rw[Nl h7 hk hin.1 hin.2 hx] at he ⊢;exact Tr _ Ax Ax v 0 (MW V.vp hx) Ax Ax he
   by_cases hge:i≥dp+d
   ·rw[Pa h7 hk hge Ax] at he ⊢;have e:wr (i - vs.length)=i - vs.length:=Ej (by unfold JB;omega);simp only[e] at he ⊢;unfold Nc Gn at he;by_cases hbig:i - (vs.length:Int) > 65535
    ·simp[hbig] at he
    exact e6 Ax Ax
   rw[NX h7 hk hge];exact h
  rw[Li h7 hk] at he ⊢;simp only[size] at h4;exact⟨fun h=>absurd h hk,RZ V k ks d 0 _ h.2 h3 Ax he⟩
theorem RZ {vs:List Tm}{dp:Int}(V:QS vs dp) (k:Int):∀(ts:List Tm) (d:Int) (j:Nat) (nd:Int),Tk ts→0≤d→d+Bl ts<2199023255551→(Cp vs k (dp+d) j 0 nd ts).2.1=0→Tk (Cp vs k (dp+d) j 0 nd ts).1
 | [],d,j,nd,h,h3,h4,he=>trivial
 | t::ts,d,j,nd,h,h3,h4,he=>by
  have hbl:=DF k j;simp only[Bl] at h4;unfold Cp at he ⊢;simp only at he ⊢;have h0:(CR vs (dp+d+below k j) 0 nd t).2.1=0:=by
   rcases Decidable.em ((CR vs (dp+d+below k j) 0 nd t).2.1=0) with h | h
   ·exact h
   rw[LC vs k ts _ (j+1) _ _ h] at he;exact he
  rw[h0] at he ⊢;rw[show dp+d+below k j=dp+(d+below k j) by omega] at he h0 ⊢;exact⟨TH V t _ nd h.1 Ax Ax h0,RZ V k ts d (j+1) _ h.2 h3 Ax he⟩
end
theorem bF {vs:List Tm}{dp:Int}(V:QS vs dp) {t:Tm}(h:Vp t) (hs:size t<1099511627776):Vp (CT t vs dp).1:=by
 have:=V.lo;have:=V.hi;have hmin:min dp 65536=dp:=by omega
 unfold CT;rw[hmin];split
 ·exact Ug
 split
 ·exact Ug
 rename_i hne;split
 ·exact Ug
 have:=TH V t 0 0 h Ax Ax (by rw[Int.add_zero];exact Decidable.not_not.1 hne);rw[Int.add_zero] at this;exact this
structure JQ where
 dn:List (Int×Tm)
 op:List Int
 wk:Int
def oo (i:Int):List (Int×Tm)→Option Tm
 | []=>none
 | (j,x)::r=>if j=i then some x else oo i r
def oJ (i:Int) (v:Tm):List (Int×Tm)→List (Int×Tm)
 | []=>[(i,v)]
 | (j,x)::r=>if j=i then (j,v)::r else (j,x)::oJ i v r
def ua (l:List (Int×Tm)):List (Int×AV):=l.map fun p=>(p.1,TV p.2)
def oC (x:Tm) (e:Int):Except Int Tm:=if e≠0∨mC x=true then .error 11 else .ok x
def kK:Tm→List Tm→Except Int (Tm×List Tm)
 | v,[]=> .ok (v,[])
 | v,a::l=>if v.kind=5 then Dw (oC (GK (v.kids.getD 1 Bp) [a] 0).1 (GK (v.kids.getD 1 Bp) [a] 0).2) fun x=>kK x l else .ok (v,a::l)
def I3 (F:JQ→Tm→Except Int (Tm×JQ)):JQ→List Tm→Except Int (List Tm×JQ)
 | st,[]=> .ok ([],st)
 | st,t::ts=>Dw (F st t) fun r=>Dw (I3 F r.2 ts) fun q=> .ok (r.1::q.1,q.2)
def mR (F:JQ→Tm→Except Int (Tm×JQ)) (ms:List Mv) (st:JQ) (i:Int):Except Int (Tm×JQ) :=
 match oo i st.dn with
 | some v=> .ok (v,st)
 | none=>if i∈st.op then .error 22 else Dw (F { st with op:=st.op++[i] } (valueOf ms i)) fun r=> .ok (r.1,{ r.2 with dn:=oJ i r.1 r.2.dn })
def o9 (F:JQ→Tm→Except Int (Tm×JQ)) (ms:List Mv) (st:JQ) (h:Tm):Except Int (Tm×JQ) :=
 if known ms h=true then mR F ms st h.index else NB (fun q=>(MG h q.1,q.2)) (I3 F st h.kids)
def eb (ms:List Mv):Nat→JQ→Tm→Except Int (Tm×JQ)
 | 0,st,t=> .error 11
 | n+1,st,t =>
  if st.wk+1 > 8192000 then .error 11
  else Dw (o9 (eb ms n) ms { st with wk:=st.wk+1 } (BH t).1) fun r =>
   Dw (I3 (eb ms n) r.2 (BH t).2) fun q =>
   Dw (if known ms (BH t).1=true then kK r.1 q.1 else .ok (r.1,q.1)) fun y =>
   NB (fun z=>(z,q.2)) (oC (apply y.1 y.2) 0)
structure Ok (S:Nat) (t:Tm):Prop where
 nd:Nd t
 vp:Vp t
 wt:Wt t
 sz:size t≤S
structure qh (ms:List Mv) (st:JQ):Prop where
 dn:∀p∈st.dn,Ok 4096 p.2
 w0:0≤st.wk
 w1:st.wk≤8192000
abbrev ui (l:List Tm):Prop:=∀x∈l,Ok 4096 x
def sb (st st':JQ):Prop:=∀i,i∈st.op→i∈st'.op
def tP (ms:List Mv) (B:Nat) (F:JQ→Tm→Except Int (Tm×JQ)):Prop:=∀st t r,Ok B t→qh ms st→F st t= .ok r→Ok 4096 r.1∧qh ms r.2∧sb st r.2
section
variable {F:JQ→Tm→Except Int (Tm×JQ)}{ms:List Mv}{st st':JQ}{i e:Int}{z:Tm}
end
def U2 (F:JQ→Tm→Except Int (Tm×JQ)) (ts:List Tm) (q0:JQ) (i:Nat) (ys:List Tm) (q:JQ):Prop :=
 ys.length=i∧I3 F q0 ts=Dw (I3 F q (ts.drop i)) fun r=> .ok (ys++r.1,r.2)
section
variable {F:JQ→Tm→Except Int (Tm×JQ)}{ts ys:List Tm}{q0 q q':JQ}{i:Nat}{x y:Tm}{e:Int}
theorem U2.zero (F:JQ→Tm→Except Int (Tm×JQ)) (ts:List Tm) (q0:JQ):U2 F ts q0 0 [] q0:=by
 refine⟨O,?_⟩;simp only[List.drop_zero,Dw];cases I3 F q0 ts<;>simp
theorem U2.err (h:U2 F ts q0 i ys q) (hx:ts[i]?=some x) (hb:F q x= .error e):I3 F q0 ts= .error e:=by
 rw[h.2,Cu hx,I3,hb];rfl
theorem U2.succ (h:U2 F ts q0 i ys q) (hx:ts[i]?=some x) (hb:F q x= .ok (y,q')):U2 F ts q0 (i+1) (ys++[y]) q':=by
 refine⟨by simp[h.1],?_⟩;rw[h.2,Cu hx,I3,hb];simp only[Dw];cases I3 F q' (ts.drop (i+1))<;>simp
theorem U2.fin (h:U2 F ts q0 i ys q) (hi:ts.length≤i):I3 F q0 ts= .ok (ys,q):=by
 rw[h.2,List.drop_eq_nil_of_le hi,I3];simp[Dw]
end
section
variable {ms:List Mv}{n:Nat}{dn:List (Int×Tm)}{op:List Int}{wk e:Int}{t v vv z h:Tm}{us ls ks:List Tm}{st1 st2:JQ}
end
end Go.Eu
namespace Go.Abs
def gx {β:Type}(mkv:β→AV) (mkH:β→List BR):Eg→List BR→Prop
 | .val v,H'=>∃b,v=mkv b∧H'=mkH b
 | .panic _,_=>False
section
variable {P:Program}{ops:Array Oper}{n:Nat}{τ₀ τ:Nat→AV}{D:List Ee}{Q:DC→B5→Prop}{opn:Nat→Bool}{k:Nat}{H:List BR}{dst:Option Tmp}{ty:TypeId}{pos:String}{aft:Array Edge}{c:Call}{f:Operand}{fid:FuncId}{first caps A:List AV}{β:Type}{mkv:β→AV}{mkH:β→List BR}
theorem Zc {r:Option Nat}(ho:ops[k]?=some ⟨dst,.call c,ty,pos,aft,none⟩) (hd:Gv dst n=true)
  (hc:c.callee= .value f) (hf:(ev τ f= .p (.fn fid)∧first=[]∧caps=[])∨ev τ f= .fn (.func fid) first caps) (h:B2 P fid A [] (gx mkv mkH)) (hA:GP (first++c.args.toList.map (ev τ)++caps) A)
  (next:∀b,AL P r ops (k+1) ⟨n,put τ dst (mkv b),mkH b++H,D⟩ Q):AL P r ops k ⟨n,τ,H,D⟩ Q :=
 JK ho hd hc hf (Hs:=[]) (Hf:=H) Ay (h.args hA) (.inl rfl) (fun v Hs' ⟨b,h1,h2⟩=>by subst h1;subst h2;exact next b) (fun _ _ h=>h.elim)
end
end Go.Abs
namespace Go.Eu
open Go.Abs
def YY (ms:List Mv) (n:Nat) (t:Tm):Tm×Int :=
 match eb ms n ⟨[],[],0⟩ t with
 | .ok r=>(r.1,0)
 | .error e=>(Bp,e)
def s6 (ms:List Mv) (n:Nat) (t:Tm):List Int×Int:=if (YY ms n t).2≠0 then ([],(YY ms n t).2) else (YL [] (YY ms n t).1,0)
mutual
def TP (p:Int→Int→ByteArray→List Ci→Prop):Tm→Prop
 | .mk k i n l ks=>p k i n l∧jY p ks
def jY (p:Int→Int→ByteArray→List Ci→Prop):List Tm→Prop
 | []=>True
 | t::ts=>TP p t∧jY p ts
end
section
variable {p q:Int→Int→ByteArray→List Ci→Prop}
mutual
theorem TP.imp (h:∀k i n l,p k i n l→q k i n l):∀(t:Tm),TP p t→TP q t
 | .mk k i n l ks,ht=>⟨h _ _ _ _ ht.1,jY.imp h ks ht.2⟩
theorem jY.imp (h:∀k i n l,p k i n l→q k i n l):∀(ts:List Tm),jY p ts→jY q ts
 | [],_=>trivial
 | t::ts,ht=>⟨TP.imp h t ht.1,jY.imp h ts ht.2⟩
end
end
def s4 (ms:List Mv) (D:List Int) (k i:Int) (n:ByteArray) (l:List Ci):Prop:=known ms (.mk k i n l [])=true→i∈D
abbrev KM (ms:List Mv) (D:List Int):Tm→Prop:=TP (s4 ms D)
abbrev nY (ms:List Mv) (D:List Int):List Tm→Prop:=jY (s4 ms D)
theorem KM.mono {ms:List Mv}{D D':List Int}(h:∀i∈D,i∈D') {t:Tm}(ht:KM ms D t):KM ms D' t:=TP.imp (fun k i n l g e=>h _ (g e)) t ht
theorem nY.mono {ms:List Mv}{D D':List Int}(h:∀i∈D,i∈D') {t:List Tm}(ht:nY ms D t):nY ms D' t:=jY.imp (fun k i n l g e=>h _ (g e)) t ht
theorem KM.head {ms:List Mv}{D:List Int}{h:Tm}(hk:known ms h=true) (ht:KM ms D h):h.index∈D:=by
 obtain⟨k,i,n,l,ks⟩:=h;exact ht.1 hk
theorem KM.kids {ms:List Mv}{D:List Int}{h:Tm}(ht:KM ms D h):nY ms D h.kids:=by
 obtain⟨k,i,n,l,ks⟩:=h;exact ht.2
inductive Ord (ms:List Mv):List Int→Prop
 | nil:Ord ms []
 | snoc {D:List Int} {i:Int}:Ord ms D→i ∉ D→KM ms D (valueOf ms i)→Ord ms (D++[i])
theorem Ord.pre {ms:List Mv}{D:List Int}(h:Ord ms D):∀i∈D,∃D',Ord ms D'∧(∀j∈D',j∈D)∧i ∉ D'∧KM ms D' (valueOf ms i):=by
 induction h with
 | nil=>intro i hi;simp at hi
 | @snoc D j h1 h2 h3 ih =>
  intro i hi;rcases List.mem_append.1 hi with hi | hi
  ·obtain⟨D',a,b,c,d⟩:=ih i hi;exact⟨D',a,fun j hj=>List.mem_append_left _ (b j hj),c,d⟩
  simp at hi;subst hi;exact⟨D,h1,fun j hj=>List.mem_append_left _ hj,h2,h3⟩
theorem EK.form_over {c:EK}{t:Tm}{e:Int}(h:(c.form t e).over=false):c.over=false∧e=0∧E6 t≤2000∧En t≤95:=by
 simp only[EK.form,Bool.or_eq_false_iff,bne_eq_false_iff_eq,decide_eq_false_iff_not] at h;obtain⟨h1,⟨⟨⟨⟨h2,h3⟩,h4⟩,h5⟩,h6⟩,h7⟩:=h;exact⟨h1,h2,by omega,by omega⟩
def nv:Tm→List Tm→Tm×List Tm
 | v,[]=>(v,[])
 | v,a::l=>if v.kind=5 then nv (CT (v.kids.getD 1 Bp) [a] 0).1 l else (v,a::l)
section
variable {F F':EK→Tm→Tm×Int×EK}
end
def lu (st:JQ):List Int:=st.dn.map Prod.fst
def sf (ms:List Mv) (t v:Tm):Prop:=∃n ab c d,MK ms n ab c t=(v,0,d)∧d.over=false
structure rn (ms:List Mv) (ab:List Int) (st:JQ):Prop where
 op:∀i,i∈st.op↔i∈lu st∨i∈ab
 ord:Ord ms (lu st)
 dis:∀i∈lu st,i ∉ ab
 val:∀p∈st.dn,sf ms (valueOf ms p.1) p.2
 ok:∀p∈st.dn,Ok 4096 p.2
 w0:0≤st.wk
def pot (ms:List Mv) (B:Nat) (st:JQ):Int:=st.wk+(B*free ms st.op:Nat)
structure Step (ms:List Mv) (B:Nat) (ab:List Int) (st st':JQ) (s:Nat):Prop where
 inv:rn ms ab st'
 mono:∀i∈lu st,i∈lu st'
 pot:pot ms B st'≤pot ms B st+s
theorem Step.trans {ms:List Mv}{B:Nat}{ab:List Int}{a b c:JQ}{s s':Nat}(h:Step ms B ab a b s) (h':Step ms B ab b c s'):Step ms B ab a c (s+s') :=
 ⟨h'.inv,fun i hi=>h'.mono i (h.mono i hi),by have:=h.pot;have:=h'.pot;omega⟩
theorem Step.le {ms:List Mv}{B:Nat}{ab:List Int}{a b:JQ}{s s':Nat}(h:Step ms B ab a b s) (hs:s≤s'):Step ms B ab a b s':=⟨h.inv,h.mono,by have:=h.pot;omega⟩
def tq (ms:List Mv) (B:Nat) (ab:List Int) (t:Tm) (s:Nat) (st:JQ) (F:Tm×Int×EK) (G:Except Int (Tm×JQ)):Prop :=
 (F.2.1=0∧∃st',G= .ok (F.1,st')∧Step ms B ab st st' s∧KM ms (lu st') t)∨(F.2.1=22∧F.1=Bp∧G= .error 22)
def uR (ms:List Mv) (B:Nat) (ab:List Int) (ts:List Tm) (st:JQ) (F:List Tm×Int×EK) (G:Except Int (List Tm×JQ)):Prop :=
 (F.2.1=0∧∃st',G= .ok (F.1,st')∧Step ms B ab st st' (Bl ts)∧nY ms (lu st') ts)∨(F.2.1=22∧G= .error 22)
def ta (m:Nat) (k i:Int) (n:ByteArray) (l:List Ci):Prop:=k=12→0≤i∧i<(m:Int)
def qQ (ms:List Mv) (k i:Int) (n:ByteArray) (l:List Ci):Prop:=(k=12→0≤i∧i<(ms.length:Int)∧known ms (.mk k i n l [])=false)∧(k=4→i=0∧n=⟨#[]⟩∧l=[])
def tg (ms:List Mv) (B:Nat) (F:JQ→Tm→Except Int (Tm×JQ)):Prop:=∀st t r,Ok B t→qh ms st→TP (ta ms.length) t→(∀p∈st.dn,TP (qQ ms) p.2)→F st t= .ok r→TP (qQ ms) r.1∧∀p∈r.2.dn,TP (qQ ms) p.2
def tX (ms:List Mv) (F:JQ→Tm→Except Int (Tm×JQ)):Prop:=∀st t,TP (qQ ms) t→F st t= .error 11∨∃st',F st t= .ok (t,st')
def uE (F:JQ→Tm→Except Int (Tm×JQ)):Prop:=∀st t e,F st t= .error e→e=11∨e=22
abbrev wide:Nat:=9223372036854775808
structure mW (l:Ci):Prop where
 vars:l.vars.length<wide
 c:JB l.const
 v:∀v∈l.vars,JB v.index∧JB v.plus
mutual
def Wd:Tm→Prop
 | .mk k i n ls ks=>n.size<wide∧ls.length<wide∧(∀l∈ls,mW l)∧ks.length<wide∧jR ks∧JB k∧JB i
def jR:List Tm→Prop
 | []=>True
 | t::ts=>Wd t∧jR ts
end
theorem Qd:∀{ts:List Tm}{i:Nat}{t:Tm},jR ts→ts[i]?=some t→Wd t
 | [],i,t,_,h=>by simp at h
 | a::ts,0,t,hn,h=>by simp at h;subst h;exact hn.1
 | a::ts,i+1,t,hn,h=>by simp at h;exact Qd hn.2 h
mutual
def Fw:Tm→Prop
 | .mk k i n ls ks=>n.size≤200∧ls.length≤20∧(∀l∈ls,l.vars.length≤20)∧np ks
def np:List Tm→Prop
 | []=>True
 | t::ts=>Fw t∧np ts
end
theorem gY:∀{ts:List Tm},(∀t∈ts,Fw t)→np ts
 | [],_=>trivial
 | t::ts,h=>⟨h t Ay,gY fun x hx=>h x (by simp[hx])⟩
def au:Tm→Prop
 | .mk k i n ls ks=>n.size≤200∧ls.length≤20∧(∀l∈ls,l.vars.length≤20)∧Bl ks≤200∧Lx ks∧np ks
theorem lH {t:Tm}(h:Wd t) (hf:au t):Nd t:=by
 obtain⟨k,i,n,ls,ks⟩:=t;obtain⟨h1,h2,h3,h4,h5⟩:=hf;have:=Hn ks;exact⟨by simp only[Dq];omega,by simp only[Dq];omega,fun l hl=>⟨by have:=h3 l hl;simp only[Dq];omega,(h.2.2.1 l hl).c,(h.2.2.1 l hl).v⟩,by simp only[Dq];omega,h5.1,h.2.2.2.2.2⟩
mutual
theorem PQ:∀(t:Tm) (most:Int),-1152921504606846976≤most→most≤1152921504606846976→(size t:Int)≤1152921504606846976→0≤Es t most∧Es t most<size t∧(Es t most≤most→Es t most+1=size t)
 | .mk k i n l ks,most,h1,h2,h3=>by
  simp only[size] at h3 ⊢;unfold Es;have:=PI ks most 0 h1 h2 Ax Ax;exact⟨this.1,by omega,fun h=>by have:=this.2.2 h;omega⟩
theorem PI:∀(ts:List Tm) (most n:Int),-1152921504606846976≤most→most≤1152921504606846976→0≤n→n+Bl ts≤1152921504606846976→n≤Eo ts most n∧Eo ts most n≤n+Bl ts∧(Eo ts most n≤most→Eo ts most n=n+Bl ts)
 | [],most,n,h1,h2,h3,h4=>by simp[Eo,Bl]
 | t::ts,most,n,h1,h2,h3,h4=>by
  simp only[Bl] at h4 ⊢;have hp:=size_pos t;unfold Eo;by_cases hm:n > most
  ·rw[if_pos hm];exact⟨by omega,by omega,by omega⟩
  rw[if_neg hm];have e1:wr (most - n)=most - n:=Ej ⟨by omega,by omega⟩;have hT:=PQ t (most - n) Ax Ax Ax;rw[e1];have e2:wr (1+Es t (most - n))=1+Es t (most - n):=Ej ⟨by omega,by omega⟩;rw[e2];have e3:wr (n+(1+Es t (most - n)))=n+(1+Es t (most - n)):=Ej ⟨by omega,by omega⟩;rw[e3];have hL:=PI ts most (n+(1+Es t (most - n))) h1 h2 Ax Ax;refine⟨by omega,by omega,fun h=>?_⟩;have:=hL.2.2 h;have:=hT.2.2 Ax;omega
end
theorem gg {t:Tm}(h:au t):size t≤201:=by
 obtain⟨k,i,n,ls,ks⟩:=t;have:=h.2.2.2.1;simp only[size];omega
theorem To:∀(ts:List Tm) (most n:Int),0≤most→most≤1000→0≤n→n≤3000→(∀t∈ts,size t≤201)→n≤Eo ts most n
 | [],most,n,h1,h2,h3,h4,hs=>by simp[Eo]
 | t::ts,most,n,h1,h2,h3,h4,hs=>by
  have ht:=hs t Ay;unfold Eo;by_cases hm:n > most
  ·rw[if_pos hm];omega
  rw[if_neg hm];have e1:wr (most - n)=most - n:=Ej ⟨by omega,by omega⟩;have hT:=PQ t (most - n) Ax Ax Ax;rw[e1];have e2:wr (1+Es t (most - n))=1+Es t (most - n):=Ej ⟨by omega,by omega⟩;rw[e2];have e3:wr (n+(1+Es t (most - n)))=n+(1+Es t (most - n)):=Ej ⟨by omega,by omega⟩;rw[e3];have hge:=To ts most (n+(1+Es t (most - n))) h1 h2 Ax Ax (fun x hx=>hs x (by simp[hx]));omega
theorem TJ:∀(ts:List Tm) (most n:Int),0≤most→most≤1000→0≤n→n≤3000→(∀t∈ts,size t≤201)→Eo ts most n≤most→Eo ts most n=n+Bl ts
 | [],most,n,h1,h2,h3,h4,hs,h=>by simp[Eo,Bl]
 | t::ts,most,n,h1,h2,h3,h4,hs,h=>by
  have ht:=hs t Ay;simp only[Bl];unfold Eo at h ⊢;by_cases hm:n > most
  ·rw[if_pos hm] at h;omega
  rw[if_neg hm] at h ⊢;have e1:wr (most - n)=most - n:=Ej ⟨by omega,by omega⟩;have hT:=PQ t (most - n) Ax Ax Ax;rw[e1] at h ⊢;have e2:wr (1+Es t (most - n))=1+Es t (most - n):=Ej ⟨by omega,by omega⟩;rw[e2] at h ⊢;have e3:wr (n+(1+Es t (most - n)))=n+(1+Es t (most - n)):=Ej ⟨by omega,by omega⟩;rw[e3] at h ⊢;have hL:=TJ ts most (n+(1+Es t (most - n))) h1 h2 Ax Ax (fun x hx=>hs x (by simp[hx])) h;have hge:=To ts most (n+(1+Es t (most - n))) h1 h2 Ax Ax (fun x hx=>hs x (by simp[hx]));have:=hT.2.2 Ax;omega
structure Xk (l:List Tm):Prop where
 sz:Bl l≤200
 nd:Lx l
 fw:np l
theorem kG {l:List Tm}{m:Nat}(hm:l.length≤m) (hw:jR l) (hl:l.length<wide) (h:Eo l 200 0≤200) (hc:∀j,j<m→∀t,l[j]?=some t→au t):Xk l:=by
 have hf:∀t∈l,au t:=fun t ht=>by
  obtain⟨i,hi⟩:=LK ht;exact hc i (by have:=(List.getElem?_eq_some_iff.1 hi).1;omega) t hi
 have:=TJ l 200 0 Ax Ax Ax Ax (fun t ht=>gg (hf t ht)) h;exact⟨by omega,Xa fun t ht=>by
  obtain⟨i,hi⟩:=LK ht;exact lH (Qd hw hi) (hf t ht),gY fun t ht=>by
  obtain⟨k,i,n,ls,ks⟩:=t;have h5:=hf _ ht;exact⟨h5.1,h5.2.1,h5.2.2.1,h5.2.2.2.2.2⟩⟩
theorem Wu {l:List Tm}{m:Int}(hf:Xk l) (hm:0≤m∧m≤1000) (h:Eo l m 0≤m):(Bl l:Int)≤m:=by
 have:=hf.sz;have:=(PI l m 0 Ax Ax Ax Ax).2.2 h;omega
structure nh (m:Nat) (x:Mv):Prop where
 n1:Nd x.type
 n2:Nd x.value
 sz:size x.type+size x.value≤40
 w1:wf 0 m 0 x.type
 w2:x.known=true→wf 0 m 0 x.value
 w3:x.known=false→x.value=Bp
structure tA (l:List Mv):Prop where
 len:l.length≤8
 all:∀m∈l,nh l.length m
structure sM (m:Nat) (ctx terms:List Tm):Prop where
 len:ctx.length≤6
 s1:Bl ctx≤60
 s2:Bl terms≤60
 n1:Lx ctx
 n2:Lx terms
 w2:∀t∈terms,wf ctx.length m 0 t
 w1:∀(i:Nat) (t:Tm),ctx[i]?=some t→wf i m 0 t
structure uf (x:Mv):Prop where
 w1:Wd x.type
 w2:Wd x.value
theorem Ok.mono {B B':Nat}{t:Tm}(h:Ok B t) (hb:B≤B'):Ok B' t:=⟨h.nd,h.vp,h.wt,Nat.le_trans h.sz hb⟩
end Go.Eu
