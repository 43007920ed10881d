/- Part of the proofs: an abstract program logic, plain models and contracts of functions. -/
import Derived.Test.YtboammbpdaoojaaGreatPa
import Derived.MapKept
set_option linter.unusedVariables false
set_option linter.unusedSimpArgs false
namespace Go.Abs
section
variable {P:Program}{ops:Array Oper}{n:Nat}{τ₀:Nat→AV}{D:List EN}{Q:Cx→Br→Prop}{opn:Nat→Bool}{k:Nat}{τ:Nat→AV}{H:List BI}{rd:Wv}{ef:Wa}{effs:List Bool}{fx:List (Nat×Sp)}{dst:Option Tmp}{op:Op}{ty:TypeId}{pos:String}{aft:Array Edge}{v:AV}{H':List BI}
theorem Gi {cs:List AV}(fx':List (Nat×Sp)) (ho:ops[k]?=some ⟨dst,op,ty,pos,aft,none⟩) (hn:opn k=true) (h:DP P ⟨dst,op,ty,pos,aft,none⟩ (ev τ) H (Ic cs H)) (haft:E3 ops k (fx'.map (·.1))=true)
  (next:∀b,KT ops k H (.box b cs::H) rd∧HR k (.eff (.ptr b 0) (.box b cs::H)) fx∧Dr P ops n τ₀ D Q opn (k+1) (put τ dst (.ptr b 0)) (.box b cs::H) rd ((k,H,.box b cs::H)::ef) (true::effs) (fx'++fx)):Dr P ops n τ₀ D Q opn k τ H rd ef effs fx :=
 Nx fx' ho hn h haft ⟨_,_,0,rfl,rfl⟩ (fun _ _ h=>h.elim) (fun v H' ⟨b,h1,h2⟩=>by subst h1;subst h2;exact next b)
theorem Kn {i sz:Nat}{rows:List (List PV)}(fx':List (Nat×Sp)) (ho:ops[k]?=some ⟨dst,op,ty,pos,aft,none⟩) (hn:opn k=true) (h:DP P ⟨dst,op,ty,pos,aft,none⟩ (ev τ) H (Oa i sz rows H)) (haft:E3 ops k (fx'.map (·.1))=true)
  (next:∀o c,KT ops k H (H.set i (.vec o sz rows c)) rd∧HR k (.eff (.vs o rows.length c) (H.set i (.vec o sz rows c))) fx∧Dr P ops n τ₀ D Q opn (k+1) (put τ dst (.vs o rows.length c)) (H.set i (.vec o sz rows c)) rd ((k,H,H.set i (.vec o sz rows c))::ef) (true::effs) (fx'++fx)):Dr P ops n τ₀ D Q opn k τ H rd ef effs fx :=
 Nx fx' ho hn h haft ⟨_,_,none,0,rfl,rfl⟩ (fun _ _ h=>h.elim) (fun v H' ⟨o,c,h1,h2⟩=>by subst h1;subst h2;exact next o c)
def GU (v:AV) (H':List BI):ER→List BI→Prop
 | .val v',H''=>v'=v∧H''=H'
 | .panic _,_=>False
theorem iC {c:Call}{g:Option (Nat×Bool)}{f:Operand}{fid:FuncId}{first caps:List AV}{ρ:Operand→AV}{Hs Hf Hs':List BI}{A:List AV}
  (hc:c.callee= .value f) (hf:(ρ f= .p (.fn fid)∧first=[]∧caps=[])∨ρ f= .fn (.func fid) first caps) (hp:H.Perm (Hs++Hf)) (h:Bo P fid A Hs (GU v Hs')) (hA:first++c.args.toList.map ρ++caps=A∨(first++c.args.toList.map ρ++caps).map norm=A) :
  Dh P ⟨dst,.call c,ty,pos,aft,g⟩ ρ H v (Hs'++Hf):=by
 refine(GJ (H:=H) hc hf hp h hA).mono ?_;rintro r H' ⟨Hs',h1,rfl⟩;cases r with
 | val v'=>obtain⟨rfl,rfl⟩:=h1;exact⟨rfl,rfl⟩
 | panic v'=>exact h1
end
def J4 (k:Int):List (Int×AV)→Option AV
 | []=>none
 | (j,x)::r=>if j=k then some x else J4 k r
def Nn (k:Int) (v:AV):List (Int×AV)→List (Int×AV)
 | []=>[(k,v)]
 | (j,x)::r=>if j=k then (j,v)::r else (j,x)::Nn k v r
def EI (l:List (Int×AV)):List (PV×AV):=l.map fun p=>(.int .i64 p.1,p.2)
def mapOf (P:Program) (T:TypeId):Option TypeId :=
 match P.underlying T with
 | some (.map k e)=>match P.underlying k with
  | some (.int .i64)=>some e
  | _=>none
 | _=>none
theorem NK {P:Program}{T e:TypeId}(h:mapOf P T=some e):∃k,P.underlying T=some (.map k e)∧P.underlying k=some (.int .i64):=by
 unfold mapOf at h;split at h
 ·rename_i k e' hu;split at h
  ·rename_i hk;injection h with h;subst h;exact⟨k,hu,hk⟩
  cases h
 cases h
section
variable {F:Nat→Prop}{w:World}
theorem N3 {k:Int}:∀{l:List (Int×AV)}{es:List MapEntry}(i:Nat),Dk F w (EI l) es →
  (J4 k l=none∧Instr.findNow (.int .i64) (.int .i64 k) es i=some none)∨∃j e x,J4 k l=some x∧Instr.findNow (.int .i64) (.int .i64 k) es i=some (some (i+j,e.val))∧es[j]?=some e∧e.key= .int .i64 k∧CE F w x e.val
 | [],es,i,h=>by simp only[EI,List.map_nil,Dk] at h;subst h;exact .inl ⟨rfl,rfl⟩
 | (j,x)::l,es,i,h=>by
  simp only[EI,List.map_cons,Dk] at h;obtain⟨e,es',rfl,hk,hx,hr⟩:=h;simp only[CI] at hk;by_cases hj:j=k
  ·subst hj;exact .inr ⟨0,e,x,by simp[J4],by simp[Instr.findNow,hk,Instr.sameNow],rfl,hk,hx⟩
  have hne:(k==j)=false:=by simp[Ne.symm hj]
  rcases N3 (k:=k) (i+1) hr with ⟨h1,h2⟩ | ⟨q,e',x',h1,h2,h3,h4,h5⟩
  ·exact .inl ⟨by simp[J4,hj,h1],by simp[Instr.findNow,hk,Instr.sameNow,hne,h2]⟩
  exact .inr ⟨q+1,e',x',by simp[J4,hj,h1],by simp[Instr.findNow,hk,Instr.sameNow,hne,h2];omega,by simpa using h3,h4,h5⟩
theorem VC {k:Int}:∀{l:List (Int×AV)}{es:List MapEntry},Dk F w (EI l) es→J4 k l=none→∀x∈es,x.key≠ .int .i64 k
 | [],es,h,_=>by
  simp only[EI,List.map_nil,Dk] at h;subst h;simp
 | (j,v)::l,es,h,hm=>by
  simp only[EI,List.map_cons,Dk] at h;obtain⟨e,es',rfl,hk,hv,hr⟩:=h;simp only[J4] at hm;split at hm
  ·cases hm
  rename_i q;intro x hx;rcases List.mem_cons.1 hx with rfl | hx
  ·simp only[CI] at hk;rw[hk];intro e;injection e with _ e2;exact q e2
  exact VC hr hm x hx
theorem WW {k:Int}{v:AV}{u:Value}{c:Nat}:∀{l:List (Int×AV)}{es:List MapEntry},Dk F w (EI l) es→J4 k l=none→CE F w v u→Dk F w (EI (Nn k v l)) (es++[{ key:= .int .i64 k,val:=u,born:=c }])
 | [],es,h,_,hv=>by
  simp only[EI,List.map_nil,Dk] at h;subst h;simp only[Nn,EI,List.map_cons,List.map_nil,List.nil_append,Dk];exact⟨_,[],O,by simp[CI],hv,rfl⟩
 | (j,x)::l,es,h,hm,hv=>by
  simp only[EI,List.map_cons,Dk] at h;obtain⟨e,es',rfl,hk,hx,hr⟩:=h;by_cases hj:j=k
  ·simp[J4,hj] at hm
  simp only[J4,if_neg hj] at hm;simp only[Nn,if_neg hj,EI,List.map_cons,List.cons_append,Dk];exact⟨e,_,O,hk,hx,WW hr hm hv⟩
theorem Yu {k:Int}{v:AV}{u:Value}:∀{l:List (Int×AV)}{es:List MapEntry}{j:Nat}(i:Nat) {y:Value},Dk F w (EI l) es→Instr.findNow (.int .i64) (.int .i64 k) es i=some (some (i+j,y))→CE F w v u→Dk F w (EI (Nn k v l)) (es.modify j fun e=>{ e with key:= .int .i64 k,val:=u })
 | [],es,j,i,y,h,hf,_=>by simp only[EI,List.map_nil,Dk] at h;subst h;simp[Instr.findNow] at hf
 | (q,x)::l,es,j,i,y,h,hf,hv=>by
  simp only[EI,List.map_cons,Dk] at h;obtain⟨e,es',rfl,hk,hx,hr⟩:=h;simp only[CI] at hk;by_cases hj:q=k
  ·subst hj;simp[Instr.findNow,hk,Instr.sameNow] at hf;obtain⟨rfl,_⟩:j=0∧True:=⟨by omega,trivial⟩;simp only[Nn,if_true,EI,List.map_cons,Dk];exact⟨_,es',O,by simp[CI],hv,hr⟩
  have hne:(k==q)=false:=by simp[Ne.symm hj]
  simp only[Instr.findNow,hk,Instr.sameNow,if_true,hne] at hf;cases j with
  | zero =>
   have:∀(es:List MapEntry) (m:Nat) (y:Value) (r:Nat),Instr.findNow (.int .i64) (.int .i64 k) es m=some (some (r,y))→m≤r:=by
    intro es
    induction es with
    | nil=>intro m y r h;simp[Instr.findNow] at h
    | cons e es ih =>
     intro m y r h;simp only[Instr.findNow] at h;split at h
     ·simp at h;omega
     ·have:=ih _ _ _ h;omega
     cases h
   have:=this _ _ _ _ hf;omega
  | succ j =>
   simp only[Nn,if_neg hj,EI,List.map_cons,List.modify_succ_cons,Dk];exact⟨e,_,O,by simpa [CI] using hk,hx,Yu (i+1) hr (by rw[show i+1+j=i+(j+1) by omega];exact hf) hv⟩
end
section
variable {P:Program}{dst:Option Tmp}{ty:TypeId}{pos:String}{aft:Array Edge}{g:Option (Nat×Bool)}{ρ:Operand→AV}{H:List BI}{x y z:Operand}{v:AV}
def fZ (H:List BI):ER→List BI→Prop
 | .val v,H'=>∃b,v= .map b∧H'= .map b (EI [])::H
 | .panic _,_=>False
theorem Ve {T:TypeId}:DP P ⟨dst,.makeMap T none,ty,pos,aft,g⟩ ρ H (fZ H) :=
 HX fun F w E hH hE=>by
  refine⟨.map (some w.heap.size),World.push w (.map #[] 0),.map w.heap.size,.map w.heap.size (EI [])::H,_,?_,⟨_,O,O⟩,Nh H _ _ (.inl O),PC hH _ _ O ?_,by simp[CE]⟩
  ·simp[execOp,Instr.makeMap,Sem.run_bind];rfl
  exact⟨#[],0,MI _,MapKept.stamped_empty _,O⟩
theorem X3 {T e : TypeId} {b i : Nat} {l : List (Int × AV)} {k : Int} {zv : Value} {za : AV} (hT : mapOf P T = some e) (hz : zeroOf P e = some zv) (hza : ∀ F w, CE F w za zv) (hx : ρ x = .map b) (hy : ρ y = .p (.int .i64 k)) (hi : H[i]? = some (.map b (EI l))) :
  Dh P ⟨dst, .lookup T x y false, ty, pos, aft, g⟩ ρ H ((J4 k l).getD za) H :=
 CN fun F w E hH hE => by
  obtain ⟨kt, hu, hk⟩ := NK hT
  have h1 := hE x Aa
  have h2 := hE y Aa
  rw [hx] at h1
  rw [hy] at h2
  simp only [CE, CI] at h1 h2
  obtain ⟨es, clk, hb, hs0, hr⟩ := hH.obj _ (List.mem_of_getElem? hi)
  have hzv : (zeroValue e).run P w = .ok zv w := by
   unfold zeroOf at hz
   cases hi : P.info? e with
   | none => simp [hi] at hz
   | some i => have hz' : i.zero = some zv := by simpa [hi] using hz
               simp [zeroValue, typeInfo, hi, hz', Sem.run_bind]
  have hkey : MapKept.IsKey (.int .i64) (.int .i64 k) := rfl
  rcases N3 (k := k) 0 hr with ⟨h3, h4⟩ | ⟨j, e', x', h3, h4, h5, h6, h7⟩
  ·refine ⟨zv, ?_, by rw [h3]; exact hza F w⟩
   simp [execOp, Instr.lookup, Sem.run_bind, run_underlying hu, h1, h2, MapKept.run_getObj_map hb, MapKept.run_checkKey hk hkey, MapKept.run_findKey hk h4, hzv]
  refine ⟨e'.val, ?_, by rw [h3]; exact h7⟩
  simp [execOp, Instr.lookup, Sem.run_bind, run_underlying hu, h1, h2, MapKept.run_getObj_map hb, MapKept.run_checkKey hk hkey, MapKept.run_findKey hk h4]
theorem UK {T e : TypeId} {b i : Nat} {l : List (Int × AV)} {k : Int} {zv : Value} {za : AV} (hT : mapOf P T = some e) (hz : zeroOf P e = some zv) (hza : ∀ F w, CE F w za zv) (hx : ρ x = .map b) (hy : ρ y = .p (.int .i64 k)) (hi : H[i]? = some (.map b (EI l))) :
  Dh P ⟨dst, .lookup T x y true, ty, pos, aft, g⟩ ρ H (.tup [(J4 k l).getD za, .p (.bool (J4 k l).isSome)]) H :=
 CN fun F w E hH hE => by
  obtain ⟨kt, hu, hk⟩ := NK hT
  have h1 := hE x Aa
  have h2 := hE y Aa
  rw [hx] at h1
  rw [hy] at h2
  simp only [CE, CI] at h1 h2
  obtain ⟨es, clk, hb, hs0, hr⟩ := hH.obj _ (List.mem_of_getElem? hi)
  have hzv : (zeroValue e).run P w = .ok zv w := by
   unfold zeroOf at hz
   cases hi : P.info? e with
   | none => simp [hi] at hz
   | some i => have hz' : i.zero = some zv := by simpa [hi] using hz
               simp [zeroValue, typeInfo, hi, hz', Sem.run_bind]
  have hkey : MapKept.IsKey (.int .i64) (.int .i64 k) := rfl
  rcases N3 (k := k) 0 hr with ⟨h3, h4⟩ | ⟨j, e', x', h3, h4, h5, h6, h7⟩
  ·refine ⟨.tuple #[zv, .bool false], ?_, ?_⟩
   ·simp [execOp, Instr.lookup, Sem.run_bind, run_underlying hu, h1, h2, MapKept.run_getObj_map hb, MapKept.run_checkKey hk hkey, MapKept.run_findKey hk h4, hzv]
   simp only [h3, CE, B0, CI]
   exact ⟨[zv, .bool false], O, _, _, O, hza F w, _, _, O, O, O⟩
  refine ⟨.tuple #[e'.val, .bool true], ?_, ?_⟩
  ·simp [execOp, Instr.lookup, Sem.run_bind, run_underlying hu, h1, h2, MapKept.run_getObj_map hb, MapKept.run_checkKey hk hkey, MapKept.run_findKey hk h4]
  simp only [h3, CE, B0, CI]
  exact ⟨[e'.val, .bool true], O, _, _, O, h7, _, _, O, O, O⟩
theorem Se {T e:TypeId}{b i:Nat}{l:List (Int×AV)}{k:Int}{va:AV}(hT:mapOf P T=some e) (hx:ρ x= .map b) (hy:ρ y= .p (.int .i64 k)) (hz:ρ z=va) (hi:H[i]?=some (.map b (EI l))) :
  Dh P ⟨dst,.mapUpdate T x y z,ty,pos,aft,g⟩ ρ H (.p .any) (H.set i (.map b (EI (Nn k va l)))) :=
 (IC (R:=rK (.p .any) (H.set i (.map b (EI (Nn k va l))))) fun F w E hH hE=>by
  obtain⟨kt,hu,hk⟩:=NK hT;have h1:=hE x Aa;have h2:=hE y Aa;have h0:=hE z Aa;rw[hx] at h1;rw[hy] at h2;rw[hz] at h0;simp only[CE,CI] at h1 h2;obtain⟨es,clk,hb,hs0,hr⟩:=hH.obj _ (List.mem_of_getElem? hi);have hFb:F b:=hH.sub _ (List.mem_of_getElem? hi) b rfl;have hlt:=hH.bd b hFb;have hkey:MapKept.IsKey (.int .i64) (.int .i64 k):=rfl;have fin:∀(es':Array MapEntry) (clk':Nat),MapKept.Stamped es' clk'→Dk F w (EI (Nn k va l)) es'.toList→Trans F H w F (H.set i (.map b (EI (Nn k va l)))) { w with heap:=w.heap.setIfInBounds b (.map es' clk') }∧HRel F (H.set i (.map b (EI (Nn k va l)))) { w with heap:=w.heap.setIfInBounds b (.map es' clk') }:=by
   intro es' clk' hs' hr';have hw:Hi b (.map es' clk') w { w with heap:=w.heap.setIfInBounds b (.map es' clk') }:=⟨rfl,rfl,rfl,rfl⟩;have st:=hw.stable hFb;exact⟨hw.trans hi O O,hw.HRel hH hi O O ⟨es',clk',hw.self hlt,hs',Dk.mono st _ _ hr'⟩⟩
  rcases N3 (k:=k) 0 hr with ⟨h3,h4⟩ | ⟨j,e',x',h3,h4,h5,h6,h7⟩
  ·have hr':=WW (c:=clk) hr h3 h0;obtain⟨f1,f2⟩:=fin (es.push { key:= .int .i64 k,val:=E z,born:=clk }) (clk+1) (MapKept.stamped_push hs0 (VC hr h3)) (by simpa using hr');refine⟨_,_,F,?_,⟨O,O⟩,f1,f2⟩;simp[execOp,Instr.mapUpdate,Sem.run_bind,run_underlying hu,h1,h2,MapKept.run_getObj_map hb,MapKept.run_checkKey hk hkey,MapKept.run_findKey hk h4,MapKept.run_setObj_map _ hb]
  have hr':=Yu (v:=va) (u:=E z) 0 hr h4 h0;obtain⟨f1,f2⟩:=fin (es.modify j fun e=>{ e with key:= .int .i64 k,val:=E z }) clk (MapKept.stamped_modify hs0 j _ (fun _ _=>rfl) (fun e _ he=>by rw[show es[j]?=some e' by simpa using h5] at he;cases he;exact h6.symm)) (by simpa using hr');refine⟨_,_,F,?_,⟨O,O⟩,f1,f2⟩;have h5':es[j]?=some e':=by simpa using h5
  simp[execOp,Instr.mapUpdate,Sem.run_bind,run_underlying hu,h1,h2,MapKept.run_getObj_map hb,MapKept.run_checkKey hk hkey,MapKept.run_findKey hk h4,MapKept.run_setObj_map _ hb,h5',h6,Instr.keyThatStays,Instr.sameBits])
theorem jN {m n:Int}{T U:TypeId}(hx:ρ x= .p (.int .i64 m)) (hy:ρ y= .p (.int .i64 n)) (h:n≠0):Dh P ⟨dst,.binOp .rem T x y U,ty,pos,aft,g⟩ ρ H (.p (.int .i64 (m.tmod n))) H :=
 CN fun F w E hH hE=>by
  have e1:=hE x Aa;have e2:=hE y Aa;rw[hx] at e1;rw[hy] at e2;simp only[CE,CI] at e1 e2;exact⟨.int .i64 (m.tmod n),by simp[execOp,Sem.run_bind,HI,e1,e2,binOp,Op.intDiv,h],by simp[CE,CI]⟩
theorem Ht {T:TypeId}{d:TypeDesc}{a b:Value}{c:Bool}{w:World}(hu:P.underlying T=some d) (h:(match d,a,b with
  | .bool,.bool x,.bool y=>some (x==y)
  | .interface _,.nilIface,.nilIface=>some true
  | .interface _,.iface _ _,.nilIface=>some false
  | .slice _,.slice none _ _,.slice none _ _=>some true
  | .slice _,.slice (some _) _ _,.slice none _ _=>some false
  | _,_,_=>none)=some c):(Op.equal T a b).run P w= .ok c w:=by
 unfold Op.equal;rw[show Op.maxDepth=9999+1 from rfl];unfold Op.equalIn;simp only[Sem.run_bind,run_underlying hu,Result.andThen_ok];split at h<;>simp_all
theorem Q3 {a b:Bool}{T U:TypeId}(hu:P.underlying T=some .bool) (hx:ρ x= .p (.bool a)) (hy:ρ y= .p (.bool b)):Dh P ⟨dst,.binOp .eql T x y U,ty,pos,aft,g⟩ ρ H (.p (.bool (a==b))) H :=
 CN fun F w E hH hE=>by
  have e1:=hE x Aa;have e2:=hE y Aa;rw[hx] at e1;rw[hy] at e2;simp only[CE,CI] at e1 e2;refine⟨.bool (a==b),?_,by simp[CE,CI]⟩;have hg:(eqGuard .eql T x y (.bool a) (.bool b)).run P w= .ok () w:=by unfold eqGuard;rfl
  have hq:(Op.equal T (.bool a) (.bool b)).run P w= .ok (a==b) w:=Ht hu rfl;simp[execOp,Sem.run_bind,hg,e1,e2,binOp,hq]
theorem HL {T U:TypeId}{ms:Array (String×TypeId)}{X:PV}{b:Bool}(hu:P.underlying T=some (.interface ms)) (hx:ρ x= .p X) (hy:ρ (.const .nilIface)= .p .nilIface) (hX:(match X with | .nilIface=>some false | .iface _ _=>some true | _=>none)=some b):Dh P ⟨dst,.binOp .neq T x (.const .nilIface) U,ty,pos,aft,g⟩ ρ H (.p (.bool b)) H :=
 CN fun F w E hH hE=>by
  have e2:=hE (.const .nilIface) Aa;rw[hy] at e2;simp only[CE,CI] at e2;have e1:=hE x Aa;rw[hx] at e1;have hg:∀a,(eqGuard .neq T x (.const .nilIface) a .nilIface).run P w= .ok () w:=by
   intro a;unfold eqGuard;cases a<;>simp<;>rfl
  refine⟨.bool b,?_,by simp[CE,CI]⟩;cases X with
  | nilIface =>
   simp at hX;subst hX;simp only[CE,CI] at e1;have hq:(Op.equal T .nilIface .nilIface).run P w= .ok true w:=Ht hu rfl;simp[execOp,Sem.run_bind,hg,e1,e2,binOp,hq]
  | iface t c =>
   simp at hX;subst hX;simp only[CE,CI] at e1;obtain⟨u,e1,_⟩:=e1;have hq:(Op.equal T (.iface t u) .nilIface).run P w= .ok false w:=Ht hu rfl;simp[execOp,Sem.run_bind,hg,e1,e2,binOp,hq]
  | _=>simp at hX
theorem Sa {T e:TypeId}{len sz b o:Nat}{k:IntKind}{i:Int}{inf:TypeInfo}(hu:P.underlying T=some (.array len e)) (hj:P.info? e=some inf) (hs:inf.size=sz) (hx:ρ x= .ptr b o) (hy:ρ y= .p (.int k i)) (h0:0≤i) (hn:i<len) :
  Dh P ⟨dst,.indexAddr T x y,ty,pos,aft,g⟩ ρ H (.ptr b (o+i.toNat*sz)) H :=
 CN fun F w E hH hE=>by
  have h1:=hE x Aa;have h2:=hE y Aa;rw[hx] at h1;rw[hy] at h2;simp only[CE,CI] at h1 h2;refine⟨.pointer (some ⟨b,o+i.toNat*sz,none⟩),?_,by simp[CE]⟩;simp[execOp,Instr.indexAt,Sem.run_bind,run_underlying hu,h1,h2,asIntOf,h0,hn,sizeOf,typeInfo,hj,hs,Addr.add_mid,Instr.sureAddr,asAddr]
theorem SQ {T e:TypeId}{len:Nat}{parts:Array (Nat×Operand)}{z:Value}{cs:List AV}{inf:TypeInfo}(hu:P.underlying T=some (.array len e)) (hj:P.info? e=some inf) (hz:zeroOf P T=some z)
  (hc:FY (fun i=>some (i*inf.size,inf.size)) (z.cells.toList.map Gt) (parts.toList.map fun p=>(p.1,ρ p.2))=some cs):Dh P ⟨dst,.build T parts,ty,pos,aft,g⟩ ρ H (.agg cs) H :=
 CN fun F w E hH hE=>by
  unfold zeroOf at hz;cases hi:P.info? T with
  | none=>simp[hi] at hz
  | some i =>
   have hz':i.zero=some z:=by simpa [hi] using hz
   have hzv:(zeroValue T).run P w= .ok z w:=by simp[zeroValue,typeInfo,hi,hz',Sem.run_bind]
   have hsz:(sizeOf e).run P w= .ok inf.size w:=by simp[sizeOf,typeInfo,hj]
   obtain⟨us,hf,hr⟩:=JC (F:=F) (w:=w) (place:=(fun i=>some (i*inf.size,inf.size))) _ (parts.toList.map fun p=>(p.1,E p.2)) _ z.cells.toList _ Ao (by
    intro j p q h1 h2;simp only[List.getElem?_map] at h1 h2;cases hj:parts.toList[j]? with
    | none=>simp[hj] at h1
    | some t =>
     simp[hj] at h1 h2;subst h1;subst h2;exact⟨O,hE _ (by
      have:=List.mem_of_getElem? hj;simp only[Op.operands];exact List.mem_map.2 ⟨t,this,O⟩)⟩) (G9 _) hc
   refine⟨.agg ⟨us⟩,?_,by simp only[CE];exact⟨us,rfl,hr⟩⟩;simp only[execOp,Instr.build,Sem.run_bind,hzv,Result.andThen_ok,run_underlying hu,hsz];have hf':Instr.fill (fun i=>some (i*inf.size,inf.size)) z.cells (parts.toList.map fun p=>(p.1,E p.2))=some ⟨us⟩:=hf;simp[hf']
theorem U5 {T U:TypeId}{e:TypeId}{rows:List (List PV)}(hu:P.underlying T=some (.slice e)) (hx:ρ x= .p (.lst rows)) (hy:ρ y= .p .nils):DP P ⟨dst,.binOp .eql T x y U,ty,pos,aft,g⟩ ρ H (fun r H'=>match r with | .val v=>(∃b,v= .p (.bool b)∧(b=true→rows=[]))∧H'=H | .panic _=>False) :=
 HX fun F w E hH hE=>by
  have e1:=hE x Aa;have e2:=hE y Aa;rw[hx] at e1;rw[hy] at e2;simp only[CE,CI] at e1 e2;have hg:∀o n c,(eqGuard .eql T x y (.slice o n c) (.slice none 0 0)).run P w= .ok () w:=by intro o n c;unfold eqGuard;rfl
  have key:∃b,(execOp E ⟨dst,.binOp .eql T x y U,ty,pos,aft,g⟩).run P w= .ok (.value (.bool b)) w∧(b=true→rows=[]):=by
   rcases e1 with ⟨rfl,o,c,h1⟩ | ⟨bb,o,c,sz,h1,_⟩
   ·cases o with
    | none =>
     have hq:(Op.equal T (.slice none 0 c) (.slice none 0 0)).run P w= .ok true w:=Ht hu rfl;exact⟨true,by simp[execOp,Sem.run_bind,hg,h1,e2,binOp,hq],fun _=>rfl⟩
    | some a =>
     have hq:(Op.equal T (.slice (some a) 0 c) (.slice none 0 0)).run P w= .ok false w:=Ht hu rfl;exact⟨false,by simp[execOp,Sem.run_bind,hg,h1,e2,binOp,hq],fun _=>rfl⟩
   have hq:(Op.equal T (.slice (some ⟨bb,o,none⟩) rows.length c) (.slice none 0 0)).run P w= .ok false w:=Ht hu rfl;exact⟨false,by simp[execOp,Sem.run_bind,hg,h1,e2,binOp,hq],fun h=>by cases h⟩
  obtain⟨b,hb,hr⟩:=key;exact⟨_,w,.p (.bool b),H,F,hb,⟨⟨b,O,hr⟩,O⟩,.refl,hH,by simp[CE,CI]⟩
end
def N9 (P:Program) (T:TypeId):Bool :=
 match P.underlying T with
 | some (.struct fs)=>match fs.toList with
  | [f,g]=>f.name != "_" &&g.name != "_" &&Nat.beq f.offset 0&&Nat.beq g.offset 1&&(match P.underlying f.type,P.underlying g.type with | some (.int .i64),some (.int .i64)=>true | _,_=>false)&& !P.stoodInHeld T&& !P.eqGuardType P.depth T
  | _=>false
 | _=>false
theorem Xz {P:Program}{T:TypeId}{a b c d:Int}{w:World}(h:N9 P T=true):(Op.equal T (.agg #[.int .i64 a,.int .i64 b]) (.agg #[.int .i64 c,.int .i64 d])).run P w= .ok (a==c&&b==d) w:=by
 unfold N9 at h;split at h
 ·rename_i fs hu;split at h
  ·rename_i f g hfs;obtain rfl:fs=#[f,g]:=by apply Array.ext';simpa using hfs
   simp only[Bool.and_eq_true,bne_iff_ne,ne_eq,Bool.not_eq_true'] at h;obtain⟨⟨⟨⟨⟨⟨h1,h2⟩,h3⟩,h4⟩,h5⟩,h6⟩,h7⟩:=h;split at h5
   ·rename_i hf hg;have e3:=Nat.eq_of_beq_eq_true h3;have e4:=Nat.eq_of_beq_eq_true h4;have hp:(program).run P w= .ok P w:=rfl;have af:(isAgg f.type).run P w= .ok false w:=Mj hf false rfl w;have ag:(isAgg g.type).run P w= .ok false w:=Mj hg false rfl w;have pf:∀x y,(part f.type #[.int .i64 x,.int .i64 y] f.offset).run P w= .ok (.int .i64 x) w:=by
     intro x y;unfold part;simp[Sem.run_bind,af,e3]
    have pg:∀x y,(part g.type #[.int .i64 x,.int .i64 y] g.offset).run P w= .ok (.int .i64 y) w:=by
     intro x y;unfold part;simp[Sem.run_bind,ag,e4]
    have qf:∀x y,(Op.equalIn 9999 f.type (.int .i64 x) (.int .i64 y)).run P w= .ok (x==y) w:=by
     intro x y;rw[show (9999:Nat)=9998+1 from rfl];unfold Op.equalIn;simp[Sem.run_bind,run_underlying hf]
    have qg:∀x y,(Op.equalIn 9999 g.type (.int .i64 x) (.int .i64 y)).run P w= .ok (x==y) w:=by
     intro x y;rw[show (9999:Nat)=9998+1 from rfl];unfold Op.equalIn;simp[Sem.run_bind,run_underlying hg]
    unfold Op.equal;rw[show Op.maxDepth=9999+1 from rfl];unfold Op.equalIn;simp only[Sem.run_bind,run_underlying hu,Result.andThen_ok,hp,h6];simp[Sem.run_bind,h1,h2,pf,pg,qf,qg];cases hac:(a==c)<;>cases hbd:(b==d)<;>simp_all [Sem.run_bind,h1,h2,pf,pg,qf,qg]
   cases h5
  cases h
 cases h
section
variable {P:Program}{dst:Option Tmp}{ty:TypeId}{pos:String}{aft:Array Edge}{g:Option (Nat×Bool)}{ρ:Operand→AV}{H:List BI}{x y z:Operand}{v:AV}
theorem aH {T U:TypeId}{a b c d:Int}(h:N9 P T=true) (hx:ρ x= .agg [.p (.int .i64 a),.p (.int .i64 b)]) (hy:ρ y= .agg [.p (.int .i64 c),.p (.int .i64 d)]):Dh P ⟨dst,.binOp .neq T x y U,ty,pos,aft,g⟩ ρ H (.p (.bool (!(a==c&&b==d)))) H :=
 CN fun F w E hH hE=>by
  have e1:=hE x Aa;have e2:=hE y Aa;rw[hx] at e1;rw[hy] at e2;simp only[CE,B0,CI] at e1 e2;obtain⟨vs,e1,u1,us1,rfl,rfl,u2,us2,rfl,rfl,rfl⟩:=e1;obtain⟨vs',e2,v1,vs1,rfl,rfl,v2,vs2,rfl,rfl,rfl⟩:=e2;refine⟨.bool (!(a==c&&b==d)),?_,by simp[CE,CI]⟩;have hq:=Xz (P:=P) (T:=T) (a:=a) (b:=b) (c:=c) (d:=d) (w:=w) h;have h':=h;have hg:(eqGuard .neq T x y (.agg #[.int .i64 a,.int .i64 b]) (.agg #[.int .i64 c,.int .i64 d])).run P w= .ok () w:=by
   unfold N9 at h';split at h'
   ·split at h'
    ·simp only[Bool.and_eq_true,Bool.not_eq_true'] at h';have h7:=h'.2;have hp:(program).run P w= .ok P w:=rfl;unfold eqGuard;simp[Sem.run_bind,hp,h7]
    cases h'
   cases h'
  simp[execOp,Sem.run_bind,hg,e1,e2,binOp,hq]
end
theorem IS {P:Program}{r:Option Nat}{c:Code}{S:Br}{Q:Cx→Br→Prop}(N:Nat) (C:Nat→Prop) (St:Nat→Br) (i₀:Nat) (h₀:i₀≤N) (hC:C i₀) (l:Le S (St i₀))
  (round:∀i,i≤N→C i→I3 P r c (St i) (Tr (fun S'=>i<N∧C (i+1)∧Le S' (St (i+1))) Q)):I3 P r (.loop c) S Q:=by
 refine Vq (fun m S=>∃i,i≤N∧m=N - i∧C i∧S=St i) (m:=N - i₀) l ⟨i₀,h₀,O,hC,O⟩ ?_;rintro m S ⟨i,hi,rfl,hc,rfl⟩;refine(round i hi hc).mono ?_;intro e S' h;cases e with
 | normal =>
  obtain⟨h1,h2,h3⟩:=h;exact⟨N - (i+1),St (i+1),by omega,h3,i+1,by omega,rfl,h2,rfl⟩
 | exit id=>exact h
 | ret=>exact h
 | panic v=>exact h
theorem Bb {α:Type}{P:Program}{r:Option Nat}{c:Code}{S:Br}{Q:Cx→Br→Prop}(St:α→Br) (μ:α→Nat) (C:α→Prop) (a₀:α) (hC:C a₀) (l:Le S (St a₀))
  (round:∀a,C a→I3 P r c (St a) (Tr (fun S'=>∃a',μ a' < μ a∧C a'∧Le S' (St a')) Q)):I3 P r (.loop c) S Q:=by
 refine Vq (fun m S=>∃a,m=μ a∧C a∧S=St a) (m:=μ a₀) l ⟨a₀,O,hC,O⟩ ?_;rintro m S ⟨a,rfl,hc,rfl⟩;refine(round a hc).mono ?_;intro e S' h;cases e with
 | normal =>
  obtain⟨a',h1,h2,h3⟩:=h;exact⟨μ a',St a',h1,h3,a',O,h2,O⟩
 | exit id=>exact h
 | ret=>exact h
 | panic v=>exact h
abbrev wr (n:Int):Int:=IntKind.i64.wrap n
section
variable {P:Program}{dst:Option Tmp}{ty:TypeId}{pos:String}{aft:Array Edge}{g:Option (Nat×Bool)}{ρ:Operand→AV}{H:List BI}{x y z:Operand}{v:AV}
theorem EC {m n:Int}{T U:TypeId}(hx:ρ x= .p (.int .i64 m)) (hy:ρ y= .p (.int .i64 n)):Dh P ⟨dst,.binOp .add T x y U,ty,pos,aft,g⟩ ρ H (.p (.int .i64 (wr (m+n)))) H :=
 CN fun F w E hH hE=>by
  have e1:=hE x Aa;have e2:=hE y Aa;rw[hx] at e1;rw[hy] at e2;simp only[CE,CI] at e1 e2;exact⟨.int .i64 (wr (m+n)),by simp[execOp,Sem.run_bind,HI,e1,e2,binOp,Op.intArith],by simp[CE,CI]⟩
theorem JS {m n:Int}{T U:TypeId}(hx:ρ x= .p (.int .i64 m)) (hy:ρ y= .p (.int .i64 n)):Dh P ⟨dst,.binOp .sub T x y U,ty,pos,aft,g⟩ ρ H (.p (.int .i64 (wr (m - n)))) H :=
 CN fun F w E hH hE=>by
  have e1:=hE x Aa;have e2:=hE y Aa;rw[hx] at e1;rw[hy] at e2;simp only[CE,CI] at e1 e2;exact⟨.int .i64 (wr (m - n)),by simp[execOp,Sem.run_bind,HI,e1,e2,binOp,Op.intArith],by simp[CE,CI]⟩
end
def rM (R:AV→Prop):ER→List BI→Prop
 | .val v,H'=>R v∧H'=[]
 | .panic _,_=>False
abbrev F7 (P:Program) (f:FuncId) (args:List AV) (R:AV→Prop):Prop:=Bo P f args [] (rM R)
theorem F7.of {P:Program}{f:FuncId}{args:List AV}{v:AV}{R:AV→Prop}(h:EZ P f args v) (hR:R v):F7 P f args R :=
 Bo.mono h fun r H hr=>by
  cases r with
  | val v'=>obtain⟨rfl,rfl⟩:=hr;exact⟨hR,rfl⟩
  | panic v'=>exact hr
def Pz (R:AV→Prop) (H:List BI):ER→List BI→Prop
 | .val v,H'=>R v∧H'=H
 | .panic _,_=>False
section
variable {P:Program}{r:Option Nat}{ops:Array Oper}{Q:Cx→Br→Prop}{k:Nat}{n:Nat}{τ:Nat→AV}{H H':List BI}{D:List EN}{dst:Option Tmp}{op:Op}{ty:TypeId}{pos:String}{aft:Array Edge}{g:Option (Nat×Bool)}{v:AV}
theorem CA {c:Call}{f:Operand}{fid:FuncId}{ρ:Operand→AV}{A:List AV}{R:AV→Prop}(hc:c.callee= .value f) (hf:ρ f= .p (.fn fid)) (h:F7 P fid A R) (hA:c.args.toList.map ρ=A∨(c.args.toList.map ρ).map norm=A) :
  DP P ⟨dst,.call c,ty,pos,aft,g⟩ ρ H (Pz R H):=by
 refine(GJ (H:=H) (Hs:=[]) (Hf:=H) (first:=[]) (caps:=[]) hc (.inl ⟨hf,O,O⟩) (A:=A) Ao h (by simpa using hA)).mono ?_;rintro r H' ⟨Hs',h1,rfl⟩;cases r with
 | val v'=>obtain⟨h1,rfl⟩:=h1;exact⟨h1,rfl⟩
 | panic v'=>exact h1
theorem Ds {R:AV→Prop}(ho:ops[k]?=some ⟨dst,op,ty,pos,aft,none⟩) (hd:Gm dst n=true) (h:DP P ⟨dst,op,ty,pos,aft,none⟩ (ev τ) H (Pz R H))
  (next:∀v,R v→AL P r ops (k+1) ⟨n,put τ dst v,H,D⟩ Q):AL P r ops k ⟨n,τ,H,D⟩ Q :=
 GO (S:=⟨n,τ,H,D⟩) ho Ah (Ij hd) h (fun v H' ⟨h1,h2⟩=>by subst h2;exact next v h1) (fun _ _ h=>h.elim)
theorem HZ {R:AV→Prop}{j d:Nat}{want:Bool}(ho:ops[k]?=some ⟨dst,op,ty,pos,aft,some (j,want)⟩) (hd:Gm dst n=true) (hj:(ops[j]?).bind (·.dst)=some d) (hb:τ d= .p (.bool want)) (h:DP P ⟨dst,op,ty,pos,aft,some (j,want)⟩ (ev τ) H (Pz R H))
  (next:∀v,R v→AL P r ops (k+1) ⟨n,put τ dst v,H,D⟩ Q):AL P r ops k ⟨n,τ,H,D⟩ Q :=
 GO (S:=⟨n,τ,H,D⟩) ho (by simp only[Cw];exact⟨d,hj,hb⟩) (Ij hd) h (fun v H' ⟨h1,h2⟩=>by subst h2;exact next v h1) (fun _ _ h=>h.elim)
end
section
variable {P:Program}{ops:Array Oper}{n:Nat}{τ₀:Nat→AV}{D:List EN}{Q:Cx→Br→Prop}{opn:Nat→Bool}{k:Nat}{τ:Nat→AV}{H:List BI}{rd:Wv}{ef:Wa}{effs:List Bool}{fx:List (Nat×Sp)}{dst:Option Tmp}{op:Op}{ty:TypeId}{pos:String}{aft:Array Edge}
theorem J2 {R:AV→Prop}(fx':List (Nat×Sp)) (ho:ops[k]?=some ⟨dst,op,ty,pos,aft,none⟩) (hn:opn k=true) (h:DP P ⟨dst,op,ty,pos,aft,none⟩ (ev τ) H (Pz R H)) (haft:E3 ops k (fx'.map (·.1))=true) (hne:∃v,R v) (owe:KT ops k H H rd)
  (next:∀v,R v→HR k (.eff v H) fx∧Dr P ops n τ₀ D Q opn (k+1) (put τ dst v) H rd ((k,H,H)::ef) (true::effs) (fx'++fx)):Dr P ops n τ₀ D Q opn k τ H rd ef effs fx :=
 Nx fx' ho hn h haft (let ⟨v,hv⟩:=hne;⟨v,H,hv,rfl⟩) (fun _ _ h=>h.elim) (fun v H' ⟨h1,h2⟩=>by subst h2;exact⟨owe,next v h1⟩)
theorem iM {R:AV→Prop}{j d:Nat}{want:Bool}(fx':List (Nat×Sp)) (ho:ops[k]?=some ⟨dst,op,ty,pos,aft,some (j,want)⟩) (hn:opn k=true) (hj:(ops[j]?).bind (·.dst)=some d) (hb:τ d= .p (.bool want)) (h:DP P ⟨dst,op,ty,pos,aft,some (j,want)⟩ (ev τ) H (Pz R H)) (haft:E3 ops k (fx'.map (·.1))=true) (hne:∃v,R v) (owe:KT ops k H H rd)
  (next:∀v,R v→HR k (.eff v H) fx∧Dr P ops n τ₀ D Q opn (k+1) (put τ dst v) H rd ((k,H,H)::ef) (true::effs) (fx'++fx)):Dr P ops n τ₀ D Q opn k τ H rd ef effs fx :=
 .opn (Pz R H) fx' ho hn ⟨d,hj,hb⟩ h haft (let ⟨v,hv⟩:=hne;⟨v,H,hv,rfl⟩) (fun v H' ⟨_,h2⟩=>by subst h2;exact owe) (fun v H' ⟨h1,h2⟩=>by subst h2;exact(next v h1).1) (fun v H' ⟨h1,h2⟩=>by subst h2;exact(next v h1).2) (fun _ _ h=>h.elim)
end
theorem BS {P:Program}{r:Option Nat}{c:Code}{Q:Cx→Br→Prop}{n:Nat}{τ:Nat→AV}{H:List BI}{D:List EN}(live:List Nat) (d:Nat) (R:AV→Prop) (h:I3 P r c ⟨n,τ,H,D⟩ (Tr (fun S'=>S'.n=n∧S'.D=D∧H.Sublist S'.H∧R (S'.τ d)∧lB S'.τ τ live) Q))
  (next:∀x,R x→Q .normal ⟨n,mk ((d,x)::live.map fun t=>(t,τ t)),H,D⟩):I3 P r c ⟨n,τ,H,D⟩ Q:=by
 intro F a w hs;refine wpIn_mono (h F a w hs) ?_;rintro e a' w' ⟨e',S',F',hq,he,hs',ht⟩;cases e' with
 | normal =>
  obtain⟨n',τ',H',D'⟩:=S';obtain⟨h1,h3,h2,h4,h5⟩:=hq;simp only at h1 h2 h3 h4 h5;subst h1;subst h3;have l:Le ⟨n',τ',H',D'⟩ ⟨n',mk ((d,τ' d)::live.map fun t=>(t,τ t)),H,D'⟩:=D8 ⟨rfl,QA h5⟩ h2;exact⟨.normal,_,F',next _ h4,he,hs'.le l,ht.sublist h2⟩
 | exit id=>exact⟨.exit id,S',F',hq,he,hs',ht⟩
 | ret=>exact⟨.ret,S',F',hq,he,hs',ht⟩
 | panic v=>exact⟨.panic v,S',F',hq,he,hs',ht⟩
def Ge (v:AV):Prop:=∃b:Bool,v= .p (.bool b)
def Yr (v:AV):Prop:=∃e:Int,v= .p (.int .i64 e)
end Go.Abs
namespace Go.Eu
open Go.Abs
noncomputable def NV {α:Type}(a b:α):Bool:= @decide (a=b) (Classical.propDecidable _)
theorem GC {α:Type}{a b:α}(h:a=b):NV a b=true:=by simp[NV,h]
theorem Hu {α:Type}{a b:α}(h:a≠b):NV a b=false:=by simp[NV,h]
theorem IB {α:Type}{a b:α}:NV a b=true↔a=b:=by simp[NV]
abbrev LV (l:CV):AV:= .agg ((Bz l).map .p)
abbrev mU (ts:List Tm):AV:= .p (.lst (BE ts))
abbrev qM (ls:List CV):AV:= .p (.lst (ls.map Bz))
theorem Ci {ts:List CC}{i:Nat}{t:CC}(h:ts[i]?=some t):(ts.map Dy)[i]?=some (Dy t):=by simp[h]
theorem Fs {ts:List CV}{i:Nat}{t:CV}(h:ts[i]?=some t):(ts.map Bz)[i]?=some (Bz t):=by simp[h]
def agree {α:Type}(a b:List α) (i:Nat):Prop:=a.take i=b.take i
theorem Nk {α:Type}(a b:List α):agree a b 0:=by simp[agree]
theorem Np {α:Type}{a b:List α}{i:Nat}{x:α}(h:agree a b i) (ha:a[i]?=some x) (hb:b[i]?=some x):agree a b (i+1):=by
 unfold agree at *;rw[List.take_add_one,List.take_add_one,ha,hb,h]
theorem PR {α:Type}{a b:List α}{n:Nat}(h:agree a b n) (ha:a.length=n) (hb:b.length=n):a=b:=by
 unfold agree at h
 rwa [List.take_of_length_le An,List.take_of_length_le An] at h
theorem A6 {α:Type}{l:List α}{i:Nat}(h:i<l.length):∃x,l[i]?=some x:=⟨_,List.getElem?_eq_getElem h⟩
abbrev Dc:Nat:=1099511627776
def Iz (n:Int):Prop:= -9223372036854775808≤n∧n≤9223372036854775807
structure Mw (l:CV):Prop where
 vars:l.vars.length<Dc
 c:Iz l.const
 v:∀v∈l.vars,Iz v.index∧Iz v.plus
mutual
def Nd:Tm→Prop
 | .mk k i n ls ks=>n.size<Dc∧ls.length<Dc∧(∀l∈ls,Mw l)∧ks.length<Dc∧MJ ks∧Iz k∧Iz i
def MJ:List Tm→Prop
 | []=>True
 | t::ts=>Nd t∧MJ ts
end
theorem DQ:∀{ts:List Tm}{i:Nat}{t:Tm},MJ ts→ts[i]?=some t→Nd t
 | [],i,t,_,h=>by simp at h
 | a::ts,0,t,hn,h=>by simp at h;subst h;exact hn.1
 | a::ts,i+1,t,hn,h=>by simp at h;exact DQ hn.2 h
mutual
def depth:Tm→Nat
 | .mk _ _ _ _ ks=>fG ks+1
def fG:List Tm→Nat
 | []=>0
 | t::ts=>max (depth t) (fG ts)
end
end Go.Eu
namespace Go.Eu
theorem Oi (bs : ByteArray) : ∀ (d i : Nat) (r : List UInt8), bs.size - i = d → ByteArray.toList.loop bs i r = r.reverse ++ bs.data.toList.drop i := by
 intro d
 induction d with
 | zero =>
  intro i r h
  unfold ByteArray.toList.loop
  have : ¬ i < bs.size := by omega
  simp only [this, if_false]
  rw [List.drop_eq_nil_of_le (by have : bs.data.size = bs.size := rfl; simp; omega)]; simp
 | succ d ih =>
  intro i r h
  unfold ByteArray.toList.loop
  have hi : i < bs.size := by omega
  simp only [hi, if_true]
  rw [ih (i + 1) _ An]
  have hlt : i < bs.data.toList.length := by have : bs.data.size = bs.size := rfl; simp; omega
  rw [List.drop_eq_getElem_cons hlt]
  have : bs.get! i = bs.data.toList[i] := by
   have h2 : i < bs.data.size := by simpa using hlt
   show bs.data[i]! = _
   rw [getElem!_pos bs.data i h2]; simp
  simp [this]
theorem OY (bs:ByteArray):bs.toList=bs.data.toList:=by
 unfold ByteArray.toList;rw[Oi bs _ 0 [] rfl];simp
theorem Gu {a b:ByteArray}(h:a.toList=b.toList):a=b:=by
 rw[OY,OY] at h;cases a;cases b;simp at h;congr
end Go.Eu
namespace Go.Eu
open Go.Abs
mutual
def Eg:Tm→Int→Int
 | .mk _ _ _ _ ks,most=>ET ks most 0
def ET:List Tm→Int→Int→Int
 | [],_,n=>n
 | t::ts,most,n=>if n > most then n else ET ts most (wr (n+wr (1+Eg t (wr (most - n)))))
end
theorem Tl {l:List Tm}{i:Nat}{t:Tm}{most n:Int}(h:l[i]?=some t):ET (l.drop i) most n=if n > most then n else ET (l.drop (i+1)) most (wr (n+wr (1+Eg t (wr (most - n))))):=by
 have hlt:i<l.length:=(List.getElem?_eq_some_iff.1 h).1;rw[List.drop_eq_getElem_cons hlt];have:l[i]=t:=by simpa [List.getElem?_eq_getElem hlt] using h
 rw[this,ET]
end Go.Eu
namespace Go.Eu
def arity (k:Int):Int:=if k=4∨k=5∨k=6∨k=7 then 2 else if k=8∨k=11 then 3 else if k=9∨k=10 then 1 else 0
def below (k i:Int):Int:=if ((i==1&&(k==5||k==6||k==7))||(i==2&&k==11))=true then 1 else 0
def W7:Tm→Prop
 | .mk kd _ _ _ ks=>0≤kd∧kd<13∧(ks.length:Int)=arity kd
mutual
def wf (vars metas:Int):Int→Tm→Prop
 | d,.mk kd ix _ _ ks=>0≤kd∧kd<13∧(ks.length:Int)=arity kd∧(kd=0→0≤ix∧ix - d<vars)∧(kd=12→0≤ix∧ix<metas)∧gZ vars metas kd d 0 ks
def gZ (vars metas:Int):Int→Int→Nat→List Tm→Prop
 | _,_,_,[]=>True
 | kd,d,i,t::ts=>wf vars metas (d+below kd i) t∧gZ vars metas kd d (i+1) ts
end
theorem LF {vars metas kd d:Int}:∀{ks:List Tm}{i:Nat},(∀j t,ks[j]?=some t→wf vars metas (d+below kd ((i+j:Nat):Int)) t)→gZ vars metas kd d i ks
 | [],i,_=>by simp[gZ]
 | t::ts,i,h=>by
  simp only[gZ];exact⟨by have:=h 0 t rfl;simpa using this,LF fun j t' ht=>by have:=h (j+1) t' (by simpa using ht);rw[show i+1+j=i+(j+1) by omega];exact this⟩
theorem C0 (k i:Int):0≤below k i∧below k i≤1:=by unfold below;split<;>omega
theorem Cu {α:Type}{l:List α}{p:Nat→α→Prop}{i:Nat}{x:α}(h:∀j,j<i→∀t,l[j]?=some t→p j t) (hx:l[i]?=some x) (hp:p i x):∀j,j<i+1→∀t,l[j]?=some t→p j t:=by
 intro j hj t ht;rcases Nat.lt_or_ge j i with h' | h'
 ·exact h j h' t ht
 have e:j=i:=by omega
 subst e;rw[hx] at ht;injection ht with ht;subst ht;exact hp
end Go.Eu
namespace Go.Abs
section
variable {α:Type}
def Pt (is:List Nat):Nat→List α→List α
 | _,[]=>[]
 | k,a::l=>bif is.any (Nat.beq k ·) then a::Pt is (k+1) l else Pt is (k+1) l
theorem Pd (is:List Nat):∀(k:Nat) (l:List α),(Pt is k l).Sublist l
 | _,[]=>List.Sublist.refl _
 | k,a::l=>by
  simp only[Pt];cases is.any (Nat.beq k ·)
  ·exact(Pd is (k+1) l).cons _
  exact(Pd is (k+1) l).cons_cons _
theorem B4 {is:List Nat}{l l':List α}(h:Pt is 0 l=l'):l'.Sublist l:=h▸Pd is 0 l
def FO (H:List α):List Nat→List α→Prop
 | [],xs=>xs=[]
 | i::is,xs=>∃x xs',xs=x::xs'∧H[i]?=some x∧FO H is xs'
def Lb (H:List α):List Nat→List α→List α
 | i::is,x::xs=>Lb (H.set i x) is xs
 | _,_=>H
def C4 (is:List Nat):Nat→List α→List α
 | _,[]=>[]
 | k,a::l=>if k∈is then C4 is (k+1) l else a::C4 is (k+1) l
theorem Pq:∀(k:Nat) (l:List α),C4 [] k l=l
 | _,[]=>rfl
 | k,a::l=>by simp[C4,Pq (k+1) l]
theorem Pv {is:List Nat}{j:Nat}:∀(k:Nat) (l:List α),j<k→C4 (j::is) k l=C4 is k l
 | _,[],_=>rfl
 | k,a::l,h=>by
  have:k≠j:=by omega
  have ih:=Pv (is:=is) (j:=j) (k+1) l An;simp[C4,this,ih]
theorem N5 {is:List Nat}{x:α}:∀(l:List α) (k i:Nat),l[i]?=some x→(k+i) ∉ is→(C4 is k l).Perm (x::C4 ((k+i)::is) k l)
 | [],k,i,h,_=>by simp at h
 | a::l,k,0,h,hn=>by
  simp at h hn;subst h;simp[C4,hn,Pv (k+1) l (Nat.lt_succ_self k)]
 | a::l,k,i+1,h,hn=>by
  simp at h;have ih:=N5 l (k+1) i h (by rw[show k+1+i=k+(i+1) by omega];exact hn);rw[show k+1+i=k+(i+1) by omega] at ih;have hk:k≠k+(i+1):=by omega
  simp only[C4,List.mem_cons,hk,false_or];split
  ·exact ih
  exact(ih.cons a).trans (.swap _ _ _)
theorem DT {H:List α}:∀{is:List Nat}{xs:List α},is.Nodup→FO H is xs→H.Perm (xs++C4 is 0 H)
 | [],xs,_,h=>by simp only[FO] at h;subst h;simp[Pq]
 | i::is,xs,hn,h=>by
  obtain⟨x,xs',rfl,hx,hr⟩:=h;have hn':=List.nodup_cons.1 hn;have ih:=DT hn'.2 hr;have:=N5 (is:=is) H 0 i hx (by simpa using hn'.1);simp only[Nat.zero_add] at this;exact ih.trans (((List.Perm.refl xs').append this).trans List.perm_middle)
theorem P6 {is:List Nat}{y:α}:∀(l:List α) (k i:Nat),(k+i)∈is→C4 is k (l.set i y)=C4 is k l
 | [],k,i,_=>by simp
 | a::l,k,0,h=>by simp at h;simp[C4,h]
 | a::l,k,i+1,h=>by
  have:=P6 (y:=y) l (k+1) i (by rw[show k+1+i=k+(i+1) by omega];exact h);simp only[List.set_cons_succ,C4,this]
theorem RX {i:Nat}{y:α}:∀{is:List Nat}{xs H:List α},i ∉ is→FO H is xs→FO (H.set i y) is xs
 | [],xs,H,_,h=>h
 | j::is,xs,H,hn,h=>by
  obtain⟨x,xs',rfl,hx,hr⟩:=h;simp at hn;exact⟨x,xs',O,by rw[List.getElem?_set_ne hn.1];exact hx,RX hn.2 hr⟩
theorem TU:∀{is:List Nat}{xs xs' H:List α},is.Nodup→FO H is xs→xs'.length=xs.length→FO (Lb H is xs') is xs'∧(∀ks k,(∀i∈is,k+i∈ks)→C4 ks k (Lb H is xs')=C4 ks k H)∧∀j,j ∉ is→(Lb H is xs')[j]?=H[j]?
 | [],xs,xs',H,_,h,hl=>by
  simp only[FO] at h;subst h;have:xs'=[]:=by simpa using hl
  subst this;exact⟨O,fun _ _ _=>O,fun _ _=>O⟩
 | i::is,xs,xs',H,hn,h,hl=>by
  obtain⟨x,xr,rfl,hx,hr⟩:=h;have hn':=List.nodup_cons.1 hn;cases xs' with
  | nil=>simp at hl
  | cons y ys =>
   have hlt:i<H.length:=(List.getElem?_eq_some_iff.1 hx).1;obtain⟨h1,h2,h3⟩:=TU (H:=H.set i y) hn'.2 (RX hn'.1 hr) (by simpa using hl);refine⟨⟨y,ys,O,by rw[Lb,h3 i hn'.1];simp[hlt],h1⟩,fun ks k hk=>?_,fun j hj=>?_⟩
   ·rw[Lb,h2 ks k (fun q hq=>hk q (by simp[hq])),P6 _ _ _ (hk i Ao)]
   simp at hj;rw[Lb,h3 j hj.2,List.getElem?_set_ne (fun e=>hj.1 e.symm)]
theorem Md {is:List Nat}{xs xs' H:List α}(hn:is.Nodup) (h:FO H is xs) (hl:xs'.length=xs.length):(Lb H is xs').Perm (xs'++C4 is 0 H):=by
 obtain⟨h1,h2,_⟩:=TU hn h hl;have:=DT hn h1
 rwa [h2 is 0 (fun i hi=>by simpa using hi)] at this
end
def j9 (τ:Nat→AV) (x:AV):List Nat→Prop
 | []=>True
 | t::r=>τ t=x∧j9 τ x r
theorem Dx {τ:Nat→AV}{x:AV}:∀{ts:List Nat},j9 τ x ts→∀t∈ts,τ t=x
 | [],_,t,h=>by simp at h
 | a::r,h,t,ht=>by
  rcases List.mem_cons.1 ht with rfl | ht
  ·exact h.1
  exact Dx h.2 t ht
section
variable {P:Program}{S:Br}{a T n b i:Nat}{cs:List AV}{v:AV}
theorem A9 (hT:EB P T=some (true,n)) (ha:S.τ a= .ptr b 0) (hi:S.H[i]?=some (.box b cs)) (hn:cs.length=n):gj P S (.cell a T) (.agg cs):=by
 obtain⟨d,h1,h2,h3⟩:=FT hT;exact⟨b,cs,i,ha,hi,.inl ⟨d,h1,h2,by rw[h3,hn],rfl⟩⟩
theorem Gr (hT:EB P T=some (false,n)) (ha:S.τ a= .ptr b 0) (hi:S.H[i]?=some (.box b [v])):gj P S (.cell a T) v:=by
 obtain⟨d,h1,h2,h3⟩:=FT hT;exact⟨b,[v],i,ha,hi,.inr ⟨d,h1,h2,O⟩⟩
end
section
variable {P:Program}{dst:Option Tmp}{ty:TypeId}{pos:String}{aft:Array Edge}{g:Option (Nat×Bool)}{ρ:Operand→AV}{H Hs Hs':List BI}{x y z:Operand}{v:AV}{c:Call}{f:Operand}{fid:FuncId}{first caps A:List AV}
theorem DP.permD {o:Oper}{H H' H'':List BI}(h:Dh P o ρ H v H') (hp:H'.Perm H''):Dh P o ρ H v H'':=by
 intro r F S a w hs hH hρ hd;have:=h r F S a w hs hH hρ hd;refine Mc this ?_ ?_
 ·rintro a' w' ⟨v',H1,F',⟨rfl,rfl⟩,hs',ht⟩;exact⟨v',H'',F',⟨O,O⟩,⟨hs'.size,hs'.tmp,hs'.heap.perm hp,hs'.defs⟩,{ ht with keys:=fun o ho=>ht.keys o (hp.mem_iff.2 ho) }⟩
 rintro e a' w' ⟨v',H1,F',u,h,_⟩;exact h.elim
theorem B9 (is:List Nat) (hc:c.callee= .value f) (hf:(ρ f= .p (.fn fid)∧first=[]∧caps=[])∨ρ f= .fn (.func fid) first caps) (h:Bo P fid A Hs (GU v Hs')) (hg:FO H is Hs) (hn:is.Nodup) (hl:Hs'.length=Hs.length) (hA:first++c.args.toList.map ρ++caps=A∨(first++c.args.toList.map ρ++caps).map norm=A) :
  Dh P ⟨dst,.call c,ty,pos,aft,g⟩ ρ H v (Lb H is Hs') :=
 DP.permD (iC hc hf (DT hn hg) h hA) (Md hn hg hl).symm
theorem jZ (hc:c.callee= .value f) (hf:ρ f= .fn (.func fid) first caps) (h:EZ P fid A v) (hA:first++c.args.toList.map ρ++caps=A∨(first++c.args.toList.map ρ++caps).map norm=A) :
  Dh P ⟨dst,.call c,ty,pos,aft,g⟩ ρ H v H:=by
 refine(GJ (H:=H) (Hs:=[]) (Hf:=H) hc (.inr hf) (A:=A) Ao h hA).mono ?_;rintro r H' ⟨Hs',h1,rfl⟩;cases r with
 | val v'=>obtain⟨rfl,rfl⟩:=h1;exact⟨rfl,rfl⟩
 | panic v'=>exact h1
theorem CK {T T2 e e2:TypeId}{sz bytes n2 n3 c i n:Nat}{o:Option Nat}{rows rows' rows2:List (List PV)}{zv:Value}(hT:Fq P T=some (e,sz,bytes)) (hT2:Fq P T2=some (e2,n2,n3)) (hz:zeroOf P e=some zv) (hzs:zv.cells.size=sz) (hb0:(Nat.blt 0 sz&&Nat.blt 0 bytes)=true)
  (hx:ρ x= .vs o n c) (hn:n=rows.length) (hi:H[i]?=some (.vec o sz rows c)) (hy:norm (ρ y)= .p (.lst rows')) (hsol:∀r∈rows',EG sz r) (hroom:2*(rows.length+rows'.length)*bytes≤281474976710656) (h2:rows++rows'=rows2) :
  DP P ⟨dst,.call { callee:= .builtin .append,args:=#[x,y],argTypes:=#[T,T2] },ty,pos,aft,g⟩ ρ H (Oa i sz rows2 H):=by
 subst h2;exact RQ hT hT2 hz hzs hb0 hx hn hi hy hsol hroom
theorem UQ {F:Nat→Prop}{w:World}{u:Value}(h:CE F w (.p .nils) u):CE F w (.vs none 0 0) u:=by
 simp only[CE,CI] at *;exact⟨Ap,Ap,none,h⟩
theorem W3 {α : Type} : ∀ {us cs : List α}, us.length = cs.length → splice cs 0 us = us := by
 have key : ∀ (us : List α) (pre cs : List α), us.length = cs.length → splice (pre ++ cs) pre.length us = pre ++ us := by
  intro us
  induction us with
  | nil => intro pre cs h; have : cs = [] := by simpa using h.symm
           subst this; simp [splice]
  | cons u us ih =>
   intro pre cs h
   cases cs with
   | nil => simp at h
   | cons c cs =>
    simp only [splice]
    have := ih (pre ++ [u]) cs (by simpa using h)
    have e : (pre ++ c :: cs).set pre.length u = pre ++ [u] ++ cs := by simp
    rw [e]
    simpa using this
 intro us cs h
 exact key us [] cs h
theorem Cd {T:TypeId}{bl:Bool}{n b i:Nat}{cs us:List AV}(hT:EB P T=some (bl,n+1)) (hx:ρ x= .ptr b 0) (hi:H[i]?=some (.box b cs)) (hy:Ee (ρ y)=some us) (hn:us.length=n+1)
  (ho:cs.length=n+1) (h1:us.all one=true):Dh P ⟨dst,.store T x y,ty,pos,aft,g⟩ ρ H (.p .any) (H.set i (.box b us)):=by
 have:=J1 (P:=P) (dst:=dst) (ty:=ty) (pos:=pos) (aft:=aft) (g:=g) hT hx hi hy hn (by rw[ho];simp) h1
 rwa [W3 (by rw[hn,ho])] at this
theorem EJ {T:TypeId}{bl:Bool}{b i j sz c:Nat}{rows rows2:List (List PV)}{us:List AV}{r:List PV}(hT:EB P T=some (bl,sz)) (hpos:Nat.blt 0 sz=true) (hx:ρ x= .ptr b (j*sz)) (hi:H[i]?=some (.vec (some b) sz rows c)) (hj:j<rows.length) (hy:Ee (ρ y)=some us) (hp:Gb (us.map dn)=some r) (hrl:r.length=sz) (h1:us.all one=true) (h2:rows.set j r=rows2) :
  Dh P ⟨dst,.store T x y,ty,pos,aft,g⟩ ρ H (.p .any) (H.set i (.vec (some b) sz rows2 c)):=by
 subst h2;exact SZ hT hpos hx hi hj hy hp hrl h1
theorem Lj {T e:TypeId}{sz bytes:Nat}{m:Int}{zs:List Value}{zv:Value}{zr:List PV}{rows2:List (List PV)}(hT:Fq P T=some (e,sz,bytes)) (hz:zeroOf P e=some zv) (hzs:zv.cells=⟨zs⟩) (hsz:zs.length=sz) (hpos:0<sz) (hp:Gb ((zs.map Gt).map dn)=some zr)
  (hx:ρ x= .p (.int .i64 m)) (hy:ρ y= .p (.int .i64 m)) (h0:0≤m) (hm:bytes*m≤281474976710656) (hm2:m≤9223372036854775807) (h2:List.replicate m.toNat zr=rows2) :
  DP P ⟨dst,.makeSlice T x y,ty,pos,aft,g⟩ ρ H (Lm sz rows2 H):=by
 subst h2;exact SX hT hz hzs hsz hpos hp hx hy h0 hm hm2
theorem CY {T e:TypeId}{sz bytes lo hi:Nat}{rows rows2:List (List PV)}{l h:Option Operand}(hT:Fq P T=some (e,sz,bytes)) (hx:ρ x= .p (.lst rows)) (hr:∀r∈rows,r.length=sz)
  (hl:match l with | none=>lo=0 | some y=>∃k,ρ y= .p (.int k lo)) (hh:match h with | none=>hi=rows.length | some y=>∃k,ρ y= .p (.int k hi)) (h1:lo≤hi) (h2:hi≤rows.length) (h3:(rows.take hi).drop lo=rows2) :
  Dh P ⟨dst,.slice T x l h none,ty,pos,aft,g⟩ ρ H (.p (.lst rows2)) H:=by
 subst h3;exact Z9 hT hx hr hl hh h1 h2
end
section
variable {P:Program}{r:Option Nat}{ops:Array Oper}{Q:Cx→Br→Prop}{k:Nat}{n:Nat}{τ:Nat→AV}{H H':List BI}{D:List EN}{dst:Option Tmp}{op:Op}{ty:TypeId}{pos:String}{aft:Array Edge}{v:AV}
theorem l8 (ho:ops[k]?=some ⟨dst,op,ty,pos,aft,none⟩) (hd:Gm dst n=true) (h:DP P ⟨dst,op,ty,pos,aft,none⟩ (ev τ) H (fZ H))
  (next:∀b,AL P r ops (k+1) ⟨n,put τ dst (.map b),.map b (EI [])::H,D⟩ Q):AL P r ops k ⟨n,τ,H,D⟩ Q :=
 GO (S:=⟨n,τ,H,D⟩) ho Ah (Ij hd) h (fun v H' ⟨b,h1,h2⟩=>by subst h1;subst h2;exact next b) (fun _ _ h=>h.elim)
end
theorem leH {is:List Nat}{H H1 H':List BI}(h:Pt is 0 H=H1) (w:Ft H1 H'):j7 H H':=⟨H1,B4 h,w⟩
theorem Dt {x y:AV}(h:norm x=y):Qv x y:=fun _ _ _ hr=>h▸hr.norm
theorem C3:Ft [] []:=rfl
theorem wl {o o':BI}{l l':List BI}(h:L8 o o') (r:Ft l l'):Ft (o::l) (o'::l'):=⟨o',l',rfl,h,r⟩
theorem on {b:Nat}{cs cs':List AV}(h:cs.map dn=cs'):L8 (.box b cs) (.box b cs'):=⟨rfl,fun F w hr=>by
 obtain⟨vs,T,h1,h2⟩:=hr;exact⟨vs,T,h1,h▸Ke h2⟩⟩
theorem BR {n:Nat}{τ:Nat→AV}{H:List BI}{D:List EN}{i b:Nat}{cs:List AV}(hi:H[i]?=some (.box b cs)):IG ⟨n,τ,H,D⟩ ⟨n,τ,H.set i (.box b (cs.map dn)),D⟩:=by
 intro F a w hs;refine⟨F,⟨hs.size,hs.tmp,?_,hs.defs⟩,?_⟩
 ·have hk:=F4 (x':= .box b (cs.map dn)) hi rfl;refine⟨fun o ho c hc=>?_,by show List.Nodup _;rw[hk];exact hs.heap.nodup,fun o ho=>?_,hs.heap.bd⟩
  ·rcases Dj ho with rfl | ⟨j,_,hj⟩
   ·exact hs.heap.sub _ (List.mem_of_getElem? hi) c hc
   exact hs.heap.sub _ (List.mem_of_getElem? hj) c hc
  rcases Dj ho with rfl | ⟨j,_,hj⟩
  ·exact(on O).2 F w (hs.heap.obj _ (List.mem_of_getElem? hi))
  exact hs.heap.obj _ (List.mem_of_getElem? hj)
 refine { Trans.refl (F:=F) (H:=H) (w:=w) with keys:=fun o ho c hc=>?_ };rcases Dj ho with rfl | ⟨j,_,hj⟩
 ·exact .inl ⟨_,List.mem_of_getElem? hi,hc⟩
 exact .inl ⟨_,List.mem_of_getElem? hj,hc⟩
theorem D7 {n:Nat}{τ:Nat→AV}{H:List BI}{D:List EN}(t:Nat):IG ⟨n,τ,H,D⟩ ⟨n,put τ (some t) (norm (τ t)),H,D⟩:=RV fun _ _ _ h=>h.norm
theorem ob {b:Nat}{cs cs':List AV}(h:cs=cs'):L8 (.box b cs) (.box b cs'):=oe (by rw[h])
theorem om {b:Nat}{l l':List (PV×AV)}(h:l=l'):L8 (.map b l) (.map b l'):=oe (by rw[h])
def bJ (mkv:AV→AV) (sz:Nat) (rows:List (List PV)):ER→List BI→Prop
 | .val v,H'=>∃o c,v=mkv (.vs o rows.length c)∧H'=[.vec o sz rows c]
 | .panic _,_=>False
section
variable {P:Program}{r:Option Nat}{ops:Array Oper}{Q:Cx→Br→Prop}{k:Nat}{n:Nat}{τ:Nat→AV}{H H':List BI}{D:List EN}{dst:Option Tmp}{op:Op}{ty:TypeId}{pos:String}{aft:Array Edge}{v:AV}
theorem Nl {c:Call}{f:Operand}{fid:FuncId}{first caps:List AV}{A:List AV}{mkv:AV→AV}{sz:Nat}{rows:List (List PV)}
  (ho:ops[k]?=some ⟨dst,.call c,ty,pos,aft,none⟩) (hd:Gm dst n=true)
  (hc:c.callee= .value f) (hf:(ev τ f= .p (.fn fid)∧first=[]∧caps=[])∨ev τ f= .fn (.func fid) first caps) (h:Bo P fid A [] (bJ mkv sz rows)) (hA:first++c.args.toList.map (ev τ)++caps=A∨(first++c.args.toList.map (ev τ)++caps).map norm=A)
  (next:∀o cp,AL P r ops (k+1) ⟨n,put τ dst (mkv (.vs o rows.length cp)),.vec o sz rows cp::H,D⟩ Q):AL P r ops k ⟨n,τ,H,D⟩ Q :=
 It ho hd hc hf (Hs:=[]) (Hf:=H) Ao h hA (fun v H' ⟨o,cp,h1,h2⟩=>by subst h1;subst h2;exact next o cp) (fun _ _ h=>h.elim)
end
theorem Xm {P:Program}{f:FuncId}{args:List AV}{pre post:List AV}{sz:Nat}{rows:List (List PV)}(h:Bo P f args [] (bJ (fun v=> .tup (pre++v::post)) sz rows)) (hb:∀x∈pre++post,∀F F' w v,DV F w F' w→CE F w x v→CE F' w x v) :
  EZ P f args (.tup (pre++ .p (.lst rows)::post)):=by
 refine⟨h.1,fun F w vs hH ha=>(h.2 F w vs hH ha).mono ?_⟩;rintro e w' ⟨r,H',F',hR,he,hH',ht⟩;cases r with
 | panic v=>exact hR.elim
 | val v =>
  obtain⟨o,c,rfl,rfl⟩:=hR;obtain⟨u,rfl,hu⟩:=he;have hbd:∀b,o=some b→b<w'.heap.size:=fun b hb=>hH'.bd b (hH'.sub _ (List.mem_cons_self ..) b (by rw[←hb];rfl));have st:DV F' w' (fun b=>F' b∧o≠some b) w':=⟨Nat.le_refl _,fun _ _ _=>rfl,fun _ h _ h'=>h h'.1⟩;have hob:=hH'.obj _ (List.mem_cons_self ..);refine⟨.val (.tup (pre++ .p (.lst rows)::post)),[],fun b=>F' b∧o≠some b,⟨O,O⟩,⟨u,O,?_⟩,?_,?_⟩
  ·simp only[CE] at hu ⊢;obtain⟨us,hus,hr⟩:=hu;refine⟨us,hus,?_⟩;have key:∀(pre:List AV) (us:List Value),(∀x∈pre++post,∀F F' w v,DV F w F' w→CE F w x v→CE F' w x v)→B0 F' w' (pre++ .vs o rows.length c::post) us→B0 (fun b=>F' b∧o≠some b) w' (pre++ .p (.lst rows)::post) us:=by
    intro pre
    induction pre with
    | nil =>
     intro us hb hr;simp only[List.nil_append,B0] at hr ⊢;obtain⟨u,us',rfl,h1,h2⟩:=hr;refine⟨u,us',O,Kt hbd hob h1 _ st (fun b hb h=>h.2 hb),?_⟩;exact B0.mono st _ _ h2
    | cons x pre ih =>
     intro us hb hr;simp only[List.cons_append,B0] at hr ⊢;obtain⟨u,us',rfl,h1,h2⟩:=hr;exact⟨u,us',rfl,hb x Ao _ _ _ _ st h1,ih us' (fun y hy=>hb y (by simp at hy ⊢;rcases hy with h | h<;>simp[h])) h2⟩
   exact key pre us hb hr
  ·exact⟨fun _ h=>by simp at h,by simp,fun _ h=>by simp at h,fun b hb=>hH'.bd b hb.1⟩
  refine⟨ht.size,fun b hb hn=>ht.same b hb hn,fun b hb hn=>⟨ht.keep b hb hn,?_⟩,fun b hb=>ht.fresh b hb.1,fun _ h=>by simp at h,ht.os,ht.out,ht.tape⟩;intro ho;subst ho;have:=hH.bd b hb;rcases ht.keys _ (List.mem_cons_self ..) b rfl with ⟨o',ho',_⟩ | h
  ·simp at ho'
  omega
theorem VE (c:AV) (F F':Nat→Prop) (w:World) (v:Value) (st:DV F w F' w) (h:CE F w c v):CE F' w c v:=CE.mono st _ _ h
def F8:List AV→List AV→Prop
 | [],ys=>ys=[]
 | x::xs,ys=>∃y ys',ys=y::ys'∧Qv x y∧F8 xs ys'
theorem Eo:F8 [] []:=rfl
theorem aw {x y:AV}{xs ys:List AV}(h:Qv x y) (r:F8 xs ys):F8 (x::xs) (y::ys):=⟨y,ys,rfl,h,r⟩
theorem O3 {F:Nat→Prop}{w:World}:∀{xs ys:List AV}{vs:List Value},F8 xs ys→B0 F w xs vs→B0 F w ys vs
 | [],ys,vs,h,hr=>by simp only[F8] at h;subst h;exact hr
 | x::xs,ys,vs,h,hr=>by
  obtain⟨y,ys',rfl,h1,h2⟩:=h;simp only[B0] at hr ⊢;obtain⟨u,us,rfl,r1,r2⟩:=hr;exact⟨u,us,O,h1 F w u r1,O3 h2 r2⟩
theorem I2:Qv (.p .nils) (.vs none 0 0):=fun _ _ _ h=>UQ h
theorem Bo.args {P:Program}{f:FuncId}{args A:List AV}{H:List BI}{R:ER→List BI→Prop}(h:Bo P f A H R) (hA:F8 args A):Bo P f args H R :=
 ⟨h.1,fun F w vs hH ha=>h.2 F w vs hH (O3 hA ha)⟩
section
variable {P:Program}{r:Option Nat}{ops:Array Oper}{Q:Cx→Br→Prop}{k:Nat}{n:Nat}{τ:Nat→AV}{H Hs:List BI}{D:List EN}{dst:Option Tmp}{op:Op}{ty:TypeId}{pos:String}{aft:Array Edge}{v:AV}{c:Call}{f:Operand}{fid:FuncId}{first caps A:List AV}{R:ER→List BI→Prop}
theorem TT {S:Br}{H':List BI}(hp:S.H.Perm H'):IG S ⟨S.n,S.τ,H',S.D⟩:=fun F a w hs =>
 ⟨F,⟨hs.size,hs.tmp,hs.heap.perm hp,hs.defs⟩,{ Trans.refl (F:=F) (H:=S.H) (w:=w) with keys:=fun o ho b hb=> .inl ⟨o,hp.mem_iff.2 ho,hb⟩ }⟩
theorem cu (is:List Nat) (ho:ops[k]?=some ⟨dst,.call c,ty,pos,aft,none⟩) (hd:Gm dst n=true)
  (hc:c.callee= .value f) (hf:(ev τ f= .p (.fn fid)∧first=[]∧caps=[])∨ev τ f= .fn (.func fid) first caps) (h:Bo P fid A Hs R) (hg:FO H is Hs) (hn:is.Nodup) (hA:F8 (first++c.args.toList.map (ev τ)++caps) A)
  (next:∀v Hs',R (.val v) Hs'→Hs'.length=Hs.length∧AL P r ops (k+1) ⟨n,put τ dst v,Lb H is Hs',D⟩ Q) (pan:∀v Hs',R (.panic v) Hs'→Q (.panic v) ⟨n,τ,Hs'++C4 is 0 H,D⟩):AL P r ops k ⟨n,τ,H,D⟩ Q :=
 It ho hd hc hf (DT hn hg) (h.args hA) (.inl rfl) (fun v H' hR=>by
  obtain⟨hl,hn'⟩:=next v H' hR;exact B2 (TT (S:=⟨n,put τ dst v,H'++C4 is 0 H,D⟩) (Md hn hg hl).symm) hn') pan
theorem fB (is:List Nat) (ho:ops[k]?=some ⟨dst,.call c,ty,pos,aft,none⟩) (hd:Gm dst n=true)
  (hc:c.callee= .value f) (hf:(ev τ f= .p (.fn fid)∧first=[]∧caps=[])∨ev τ f= .fn (.func fid) first caps) (h:Bo P fid A Hs R) (hg:FO H is Hs) (hn:is.Nodup) (hA:F8 (first++c.args.toList.map (ev τ)++caps) A)
  (next:∀v Hs',R (.val v) Hs'→AL P r ops (k+1) ⟨n,put τ dst v,Hs'++C4 is 0 H,D⟩ Q) (pan:∀v Hs',R (.panic v) Hs'→Q (.panic v) ⟨n,τ,Hs'++C4 is 0 H,D⟩):AL P r ops k ⟨n,τ,H,D⟩ Q :=
 It ho hd hc hf (DT hn hg) (h.args hA) (.inl rfl) next pan
theorem Hq {sz:Nat}:IG ⟨n,τ,H,D⟩ ⟨n,τ,.vec none sz [] 0::H,D⟩:=by
 intro F a w hs;have hH:HRel F (.vec none sz [] 0::H) w:=⟨fun o ho b hb=>by
   rcases List.mem_cons.1 ho with rfl | ho
   ·cases hb
   ·exact hs.heap.sub o ho b hb,by simpa [List.filterMap_cons,BI.key] using hs.heap.nodup,fun o ho=>by
   rcases List.mem_cons.1 ho with rfl | ho
   ·exact⟨O,O⟩
   exact hs.heap.obj o ho,hs.heap.bd⟩
 exact⟨F,⟨hs.size,hs.tmp,hH,hs.defs⟩,⟨Nat.le_refl _,fun _ _ _=>O,fun _ h _=>h,fun _ h=> .inl h,fun o ho b hb=>by
   rcases List.mem_cons.1 ho with rfl | ho
   ·cases hb
   exact .inl ⟨o,ho,hb⟩,O,O,O⟩⟩
end
section
variable {P:Program}{r:Option Nat}{ops:Array Oper}{Q:Cx→Br→Prop}{k:Nat}{n:Nat}{τ:Nat→AV}{H:List BI}{D:List EN}{o:Option Nat}{sz cp i:Nat}{rows:List (List PV)}
theorem WG {F:Nat→Prop}{w:World}{a:Act}(hs:Di F ⟨n,τ,H,D⟩ a w) (hi:H[i]?=some (.vec o sz rows cp)) (hne:0<rows.length):∃b,o=some b:=by
 have:=hs.heap.obj _ (List.mem_of_getElem? hi);cases o with
 | none=>obtain⟨h,_⟩:=this;simp[h] at hne
 | some b=>exact⟨b,rfl⟩
theorem Mp (hi:H[i]?=some (.vec o sz rows cp)) (hne:0<rows.length) (next:∀b,o=some b→AL P r ops k ⟨n,τ,H,D⟩ Q):AL P r ops k ⟨n,τ,H,D⟩ Q:=fun F a w hs=>by
 obtain⟨b,hb⟩:=WG hs hi hne;exact next b hb F a w hs
theorem Lp {c:Code}(hi:H[i]?=some (.vec o sz rows cp)) (hne:0<rows.length) (next:∀b,o=some b→I3 P r c ⟨n,τ,H,D⟩ Q):I3 P r c ⟨n,τ,H,D⟩ Q:=fun F a w hs=>by
 obtain⟨b,hb⟩:=WG hs hi hne;exact next b hb F a w hs
end
section
variable {P:Program}{dst:Option Tmp}{ty:TypeId}{pos:String}{aft:Array Edge}{g:Option (Nat×Bool)}{ρ:Operand→AV}{H:List BI}
theorem BK {a:Operand}{T e:TypeId}{n n1 n2:Nat}{rows:List (List PV)}(hT:Fq P T=some (e,n1,n2)) (hx:ρ a= .p (.lst rows)) (hn:rows.length=n) :
  Dh P ⟨dst,.call { callee:= .builtin .len,args:=#[a],argTypes:=#[T] },ty,pos,aft,g⟩ ρ H (.p (.int .i64 n)) H:=NR hT (.inl ⟨rows,hx,hn⟩)
theorem KX {a:Operand}{T e:TypeId}{m n n1 n2 c:Nat}{o:Option Nat}(hT:Fq P T=some (e,n1,n2)) (hx:ρ a= .vs o m c) (hn:m=n) :
  Dh P ⟨dst,.call { callee:= .builtin .len,args:=#[a],argTypes:=#[T] },ty,pos,aft,g⟩ ρ H (.p (.int .i64 n)) H:=NR hT (.inr (.inl ⟨o,c,by rw[hx,hn]⟩))
end
section
variable {P:Program}{dst:Option Tmp}{ty:TypeId}{pos:String}{aft:Array Edge}{g:Option (Nat×Bool)}{ρ:Operand→AV}{H:List BI}{x y:Operand}
theorem Vk {m n:Int}{T U:TypeId}(hx:ρ x= .p (.int .i64 m)) (hy:ρ y= .p (.int .i64 n)):Dh P ⟨dst,.binOp .mul T x y U,ty,pos,aft,g⟩ ρ H (.p (.int .i64 (wr (m*n)))) H :=
 CN fun F w E hH hE=>by
  have e1:=hE x Aa;have e2:=hE y Aa;rw[hx] at e1;rw[hy] at e2;simp only[CE,CI] at e1 e2;exact⟨.int .i64 (wr (m*n)),by simp[execOp,Sem.run_bind,HI,e1,e2,binOp,Op.intArith],by simp[CE,CI]⟩
end
section
variable {P:Program}{ops:Array Oper}{n:Nat}{τ₀:Nat→AV}{D:List EN}{Q:Cx→Br→Prop}{opn:Nat→Bool}{k:Nat}{τ:Nat→AV}{H:List BI}{rd:Wv}{ef:Wa}{effs:List Bool}{fx:List (Nat×Sp)}{dst:Option Tmp}{ty:TypeId}{pos:String}{aft:Array Edge}{c:Call}{f:Operand}{fid:FuncId}{first caps A:List AV}{mkv:AV→AV}{sz:Nat}{rows:List (List PV)}
theorem mI (fx':List (Nat×Sp)) (ho:ops[k]?=some ⟨dst,.call c,ty,pos,aft,none⟩) (hn:opn k=true)
  (hc:c.callee= .value f) (hf:(ev τ f= .p (.fn fid)∧first=[]∧caps=[])∨ev τ f= .fn (.func fid) first caps) (h:Bo P fid A [] (bJ mkv sz rows)) (hA:first++c.args.toList.map (ev τ)++caps=A∨(first++c.args.toList.map (ev τ)++caps).map norm=A) (haft:E3 ops k (fx'.map (·.1))=true)
  (next:∀o cp,KT ops k H (.vec o sz rows cp::H) rd∧HR k (.eff (mkv (.vs o rows.length cp)) (.vec o sz rows cp::H)) fx∧Dr P ops n τ₀ D Q opn (k+1) (put τ dst (mkv (.vs o rows.length cp))) (.vec o sz rows cp::H) rd ((k,H,.vec o sz rows cp::H)::ef) (true::effs) (fx'++fx)):Dr P ops n τ₀ D Q opn k τ H rd ef effs fx :=
 Nx fx' ho hn (GJ (H:=H) (Hs:=[]) (Hf:=H) hc hf Ao h hA) haft ⟨_,_,_,⟨none,0,rfl,rfl⟩,rfl⟩ (fun v H' ⟨_,h,_⟩=>h.elim) (fun v H' ⟨Hs',⟨o,cp,h1,h2⟩,h3⟩=>by subst h1;subst h2;subst h3;exact next o cp)
end
section
variable {P:Program}{dst:Option Tmp}{ty:TypeId}{pos:String}{aft:Array Edge}{g:Option (Nat×Bool)}{ρ:Operand→AV}{H Hs Hs':List BI}{v:AV}{c:Call}{f:Operand}{fid:FuncId}{first caps A:List AV}
theorem Gw (hc:c.callee= .value f) (hf:ρ f= .p (.fn fid)) (h:EZ P fid A v) (hA:F8 (c.args.toList.map ρ) A):Dh P ⟨dst,.call c,ty,pos,aft,g⟩ ρ H v H:=BC hc hf (h.args hA) rfl
end
end Go.Abs
namespace Go.Eu
open Go.Abs
structure Mv where
 type:Tm
 known:Bool
 value:Tm
 cls:Bool
 deriving Inhabited
def Gl (n:Int):List PV:=[I n]
def Gk (s:ByteArray):List PV:=[.str s]
def tj (b:Bool):List PV:=[.bool b]
def mv (m:Mv):List PV:=BO m.type++(.bool m.known::(BO m.value++[.bool m.cls]))
theorem Lv {ts:List Int}{i:Nat}{t:Int}(h:ts[i]?=some t):(ts.map Gl)[i]?=some (Gl t):=by simp[h]
theorem Ou {ts:List ByteArray}{i:Nat}{t:ByteArray}(h:ts[i]?=some t):(ts.map Gk)[i]?=some (Gk t):=by simp[h]
abbrev MV (m:Mv):AV:= .agg ((mv m).map .p)
abbrev uX (l:List Mv):AV:= .p (.lst (l.map mv))
abbrev uU (l:List Int):AV:= .p (.lst (l.map Gl))
def rk (sz:Nat) {α:Type}(f:α→List PV):Prop:=∀a,EG sz (f a)
theorem GV {α:Type}{sz:Nat}{f:α→List PV}(h:∀a,EG sz (f a)) (l:List α):∀r∈l.map f,EG sz r:=by
 intro r hr;obtain⟨a,_,rfl⟩:=List.mem_map.1 hr;exact h a
theorem LP (t:Tm):EG 5 (BO t):=by
 obtain⟨k,i,n,l,s⟩:=t;refine⟨O,?_⟩;intro c hc;simp[BO] at hc;rcases hc with rfl | rfl | rfl | rfl | rfl<;>simp
theorem Bv (l:List Tm):∀r∈BE l,EG 5 r:=by rw[EE];exact GV LP l
theorem PD (l:List Int):∀r∈l.map Gl,EG 1 r:=GV (f:=Gl) (fun a=>⟨rfl,by simp[Gl]⟩) l
theorem Kd (l:List ByteArray):∀r∈l.map Gk,EG 1 r:=GV (f:=Gk) (fun a=>⟨rfl,by simp[Gk]⟩) l
theorem GD (l:List CC):∀r∈l.map Dy,EG 2 r:=GV (f:=Dy) (fun a=>⟨rfl,by simp[Dy]⟩) l
theorem MR (l:List CV):∀r∈l.map Bz,EG 2 r:=GV (f:=Bz) (fun a=>⟨rfl,by simp[Bz]⟩) l
theorem CF {sz:Nat}{rows:List (List PV)}(h:∀r∈rows,EG sz r):∀r∈rows,r.length=sz:=fun r hr=>(h r hr).1
theorem Jf (a b:List Tm):BE a++BE b=BE (a++b):=by simp[EE]
theorem F3 {α:Type}{f:α→List PV}(a b:List α):a.map f++b.map f=(a++b).map f:=by simp
theorem Ss (l:List Tm) (j:Nat) (x:Tm):(BE l).set j (BO x)=BE (l.set j x):=by simp[EE,List.map_set]
theorem eV {α:Type}{f:α→List PV}(l:List α) (j:Nat) (x:α):(l.map f).set j (f x)=(l.set j x).map f:=by simp[List.map_set]
theorem oZ (n:Nat) (x:Tm):List.replicate n (BO x)=BE (List.replicate n x):=by simp[EE]
theorem lK {α:Type}{f:α→List PV}(n:Nat) (x:α):List.replicate n (f x)=(List.replicate n x).map f:=by simp
theorem Mx (l:List Tm) (hi:Nat):((BE l).take hi).drop 0=BE (l.take hi):=by simp[EE,List.map_take]
theorem Xb {α:Type}{f:α→List PV}(l:List α) (hi:Nat):((l.map f).take hi).drop 0=(l.take hi).map f:=by simp[List.map_take]
theorem Jo (l:List Tm) (lo:Nat):((BE l).take (BE l).length).drop lo=BE (l.drop lo):=by rw[List.take_length];simp[EE,List.map_drop]
theorem l5 {α:Type}{f:α→List PV}(l:List α) (lo:Nat):((l.map f).take (l.map f).length).drop lo=(l.drop lo).map f:=by rw[List.take_length,List.map_drop]
theorem kl (l:List Tm) (lo hi:Nat):((BE l).take hi).drop lo=BE ((l.take hi).drop lo):=by simp[EE,List.map_take,List.map_drop]
theorem HK {sz:Nat}{r:List PV}(h:EG sz r):(r.map AV.p).all one=true:=by
 simp only[List.all_eq_true];intro x hx;obtain⟨c,hc,rfl⟩:=List.mem_map.1 hx;have:=h.2 c hc;cases c<;>simp_all [one]
theorem FP (t:Tm):((BO t).map AV.p).all one=true:=HK (LP t)
theorem dU {r:List PV}(h:∀c∈r,c≠ .nils):(r.map AV.p).map dn=r.map .p:=by
 induction r with
 | nil=>rfl
 | cons c r ih =>
  simp only[List.map_cons];rw[ih fun d hd=>h d (by simp[hd])];have:=h c Ao;cases c<;>simp_all [dn]
theorem KV (t:Tm):Gb (((BO t).map AV.p).map dn)=some (BO t):=by obtain⟨k,i,n,l,s⟩:=t;rfl
end Go.Eu
namespace Go.Eu
def bF (f a:Tm):Tm:= .mk 4 0 ⟨#[]⟩ [] [f,a]
def apply (f:Tm) (xs:List Tm):Tm:=xs.foldl bF f
theorem Q7 {f:Tm}{xs:List Tm}{i:Nat}{x:Tm}(h:xs[i]?=some x):apply f (xs.take (i+1))=bF (apply f (xs.take i)) x:=by
 simp[apply,List.take_add_one,h]
def BA:Tm→Tm×List Tm
 | .mk k i n l [f,a]=>if k=4 then ((BA f).1,(BA f).2++[a]) else (.mk k i n l [f,a],[])
 | t=>(t,[])
theorem Qt {k i:Int}{n:ByteArray}{l:List CV}{ts:List Tm}(h:k≠4∨((ts.length:Nat):Int)≠2):BA (.mk k i n l ts)=(.mk k i n l ts,[]):=by
 unfold BA;split
 ·rename_i k' i' n' l' f a e;injection e with e1 e2 e3 e4 e5;subst e1 e2 e3 e4 e5;simp at h;rw[if_neg h]
 rfl
theorem S1 {k i:Int}{n:ByteArray}{l:List CV}{ts:List Tm}{x y:Tm}(h:k=4∧((ts.length:Nat):Int)=2) (hx:ts[0]?=some x) (hy:ts[1]?=some y):BA (.mk k i n l ts)=((BA x).1,(BA x).2++[y]):=by
 obtain⟨rfl,h2⟩:=h
 match ts,h2,hx,hy with
 | [a,b],_,hx,hy =>
  simp at hx hy;subst hx hy;simp[BA]
theorem fE {ts:List Tm}{x y:Tm}(h:((ts.length:Nat):Int)=2) (hx:ts[0]?=some x) (hy:ts[1]?=some y):ts=[x,y]:=by
 match ts,h,hx,hy with
 | [a,b],_,hx,hy =>
  simp at hx hy;subst hx hy;rfl
theorem Ia:∀(t:Tm),size (BA t).1+Ba (BA t).2+(BA t).2.length=size t
 | .mk k i n l [f,a]=>by
  unfold BA;split
  ·have:=Ia f;simp[size,Ba] at this ⊢;have e:∀(xs:List Tm) (y:Tm),Ba (xs++[y])=Ba xs+size y:=by
    intro xs y
    induction xs with
    | nil=>simp[Ba]
    | cons z zs ih=>simp[Ba,ih];omega
   rw[e];omega
  ·simp[Ba]
 | .mk k i n l []=>by simp[BA,Ba]
 | .mk k i n l [_]=>by simp[BA,Ba]
 | .mk k i n l (_::_::_::_)=>by simp[BA,Ba]
theorem Pa (t:Tm):(BA t).2.length<size t:=by
 have:=Ia t;have:=size_pos (BA t).1;omega
def XU (k:Int) (xs:List Tm) (t:Tm):Tm:=xs.foldr (fun a t=> .mk k 0 ⟨#[]⟩ [] [a,t]) t
theorem sd:(∀(p:Prop) [Decidable p],(decide p=true)=p)∧(∀{p:Prop} [Decidable p],decide p=false↔¬p)∧(∀{α:Type} [BEq α] [LawfulBEq α] {a b:α},(a==b)=true↔a=b)∧(∀{α:Type} [BEq α] [LawfulBEq α] {a b:α},(a !=b)=true↔a≠b)∧(∀{α:Type} [BEq α] [LawfulBEq α] {a b:α},(a==b)=false↔a≠b)∧(∀{α:Type} [BEq α] [LawfulBEq α] {a b:α},(a !=b)=false↔a=b)∧(∀{α:Type}(a b:α),(a≠b)=¬(a=b))∧(∀{α:Type} [LT α] {x y:α},x > y↔y<x)∧(∀{α:Type} [LE α] {x y:α},x≥y↔y≤x)∧(∀(b:Bool),(¬(b=true))=(b=false))∧(∀(b:Bool),(¬(b=false))=(b=true))∧(∀(b:Bool),((!b)=true)=(b=false))∧(∀(b:Bool),((!b)=false)=(b=true))∧(∀{a b:Int},¬a<b↔b≤a)∧(∀{a b:Int},¬a≤b↔b<a) :=
 ⟨fun _=>decide_eq_true_eq,decide_eq_false_iff_not,beq_iff_eq,bne_iff_ne,beq_eq_false_iff_ne,bne_eq_false_iff_eq,ne_eq,gt_iff_lt,ge_iff_le,Bool.not_eq_true,Bool.not_eq_false,fun b=>by cases b<;>simp,fun b=>by cases b<;>simp,Int.not_lt,Int.not_le⟩
theorem se:(∀(ts:List Tm),(BE ts).length=ts.length)∧(∀{α β:Type}{ays:List α}{f:α→β},(ays.map f).length=ays.length)∧(∀{α:Type}{n:Nat}{a:α},(List.replicate n a).length=n)∧(∀(a b:Bool),((a||b)=true)=(a=true∨b=true))∧(∀(a b:Bool),((a&&b)=true)=(a=true∧b=true))∧(∀{x y:Bool},(x||y)=false↔x=false∧y=false)∧(∀{x y:Bool},(x&&y)=false↔x=true→y=false) :=
 ⟨BQ,List.length_map _,List.length_replicate,Bool.or_eq_true,Bool.and_eq_true,Bool.or_eq_false_iff,Bool.and_eq_false_imp⟩
end Go.Eu
namespace Go.Eu
open Go.Abs
def PK (i:Int):Tm:= .mk 0 i ⟨#[]⟩ [] []
def Bc:Tm:= .mk 0 0 ⟨#[]⟩ [] []
def Gf (er e:Int):Int:=if er=0 then e else er
def Nq (er i:Int):Int:=if i > 65535 then Gf er 24 else er
mutual
def Ek:Tm→Int
 | .mk _ _ _ _ ks=>LK 1 ks
def LK:Int→List Tm→Int
 | n,[]=>n
 | n,t::ts=>LK (wr (n+Ek t)) ts
end
mutual
def Et:Tm→Int
 | .mk _ _ _ _ ks=>wr (Jm 0 ks+1)
def Jm:Int→List Tm→Int
 | n,[]=>n
 | n,t::ts=>Jm (max n (Et t)) ts
end
mutual
def Cg (b fr:Int):Int→Int→Tm→Tm×Int
 | d,er,.mk k i n l ks =>
  if k=0 then
   (if i<wr (fr+d) then (.mk k i n l ks,er)
    else if wr (i+b)<wr (fr+d) then (.mk k i n l ks,Gf er 24)
    else (PK (wr (i+b)),Nq er (wr (i+b))))
  else ((.mk k i n l (DB b fr k d 0 er ks).1),(DB b fr k d 0 er ks).2)
def DB (b fr k:Int):Int→Nat→Int→List Tm→List Tm×Int
 | d,j,er,[]=>([],er)
 | d,j,er,t::ts=>((Cg b fr (d+below k j) er t).1::(DB b fr k d (j+1) (Cg b fr (d+below k j) er t).2 ts).1,(DB b fr k d (j+1) (Cg b fr (d+below k j) er t).2 ts).2)
end
mutual
def CB (vs:List Tm):Int→Int→Int→Tm→Tm×Int×Int
 | d,er,nd,.mk k i n l ks =>
  if nd > 4096 then (.mk k i n l ks,er,nd)
  else if k=0∧i≥d∧i - d<(vs.length:Int) then
   ((Cg d 0 0 er (vs.getD (i - d).toNat Bc)).1,(Cg d 0 0 er (vs.getD (i - d).toNat Bc)).2,wr (nd+Ek (vs.getD (i - d).toNat Bc)))
  else if k=0 then
   (if i≥d then (PK (wr (i - vs.length)),Nq er (wr (i - vs.length)),wr (nd+1)) else (.mk k i n l ks,er,wr (nd+1)))
  else ((.mk k i n l (Ca vs k d 0 er (wr (nd+1)) ks).1),(Ca vs k d 0 er (wr (nd+1)) ks).2)
def Ca (vs:List Tm) (k:Int):Int→Nat→Int→Int→List Tm→List Tm×Int×Int
 | d,j,er,nd,[]=>([],er,nd)
 | d,j,er,nd,t::ts=>((CB vs (d+below k j) er nd t).1::(Ca vs k d (j+1) (CB vs (d+below k j) er nd t).2.1 (CB vs (d+below k j) er nd t).2.2 ts).1,
   (Ca vs k d (j+1) (CB vs (d+below k j) er nd t).2.1 (CB vs (d+below k j) er nd t).2.2 ts).2)
end
def CJ (t:Tm) (vs:List Tm) (d:Int):Tm×Int :=
 if (CB vs (min d 65536) 0 0 t).2.2 > 4096 then (Bc,5)
 else if (CB vs (min d 65536) 0 0 t).2.1≠0 then (Bc,(CB vs (min d 65536) 0 0 t).2.1)
 else if Et (CB vs (min d 65536) 0 0 t).1 > 200 then (Bc,7)
 else ((CB vs (min d 65536) 0 0 t).1,0)
structure EP where
 steps:Int
 nodes:Int
 forms:Int
 limit:Int
 over:Bool
 deriving Inhabited
def II (c:EP):List PV:=[I c.steps,I c.nodes,I c.forms,I c.limit,.bool c.over]
def EP.form (c:EP) (t:Tm) (e:Int):EP :=
 { c with forms:=wr (c.forms+Ek t),over:=c.over||(e !=0||decide (c.steps > c.limit)||decide (c.nodes > wr (2*c.limit))||decide (wr (c.forms+Ek t) > wr (40*c.limit))||decide (Ek t > 2000)||decide (Et t > 95)) }
def EP.sized (c:EP) (t:Tm):EP:={ c with over:=c.over||(decide (Ek t > 2000)||decide (Et t > 95)) }
def NB:EP:=⟨0,0,0,1000,false⟩
end Go.Eu
namespace Go.Eu
theorem Cj {α:Type}{l:List α}{i:Nat}{x:α}(h:l[i]?=some x):l.drop i=x::l.drop (i+1):=by
 have hlt:=(List.getElem?_eq_some_iff.1 h).1;have e:l[i]=x:=(List.getElem?_eq_some_iff.1 h).2;rw[List.drop_eq_getElem_cons hlt,e]
theorem OI {α:Type}{l:List α}{i:Nat}{x d:α}(h:l[i]?=some x):l.getD i d=x:=by simp[List.getD,h]
end Go.Eu
namespace Go.Eu
open Go.Abs
theorem X0 (n:Int):Iz (wr n):=by
 unfold Iz wr IntKind.wrap;have:IntKind.i64.min= -9223372036854775808:=rfl;have:IntKind.i64.max=9223372036854775807:=rfl;simp[IntKind.signed,IntKind.bits];omega
theorem cj (i:Int):Nd (PK (wr i)):=by
 have:=X0 i;exact⟨by decide,by decide,by simp,by decide,trivial,⟨by decide,by decide⟩,this⟩
theorem Qe:Nd Bc:=⟨by decide,by decide,by simp,by decide,trivial,⟨by decide,by decide⟩,⟨by decide,by decide⟩⟩
mutual
theorem Th (b fr:Int):∀(t:Tm) (d er:Int),Nd t→Nd (Cg b fr d er t).1
 | .mk k i n l ks,d,er,h=>by
  unfold Cg;split
  ·split
   ·exact h
   split
   ·exact h
   exact cj _
  simp only[Nd] at h ⊢;obtain⟨h1,h2,h3,h4,h5,h6⟩:=h;obtain⟨e1,e2⟩:=Ra b fr k ks d 0 er h5;exact⟨h1,h2,h3,by rw[e1];exact h4,e2,h6⟩
theorem Ra (b fr k:Int):∀(ts:List Tm) (d:Int) (j:Nat) (er:Int),MJ ts→(DB b fr k d j er ts).1.length=ts.length∧MJ (DB b fr k d j er ts).1
 | [],d,j,er,h=>by simp[DB,MJ]
 | t::ts,d,j,er,h=>by
  simp only[DB,MJ,List.length_cons] at *;have:=Th b fr t (d+below k j) er h.1;obtain⟨e1,e2⟩:=Ra b fr k ts d (j+1) (Cg b fr (d+below k j) er t).2 h.2;exact⟨by rw[e1],this,e2⟩
end
theorem ck {vs:List Tm}(h:MJ vs) (i:Nat):Nd (vs.getD i Bc):=by
 cases e:vs[i]? with
 | none=>simp[List.getD,e];exact Qe
 | some x=>rw[OI e];exact DQ h e
mutual
theorem O5:∀(t:Tm) (vs:List Tm) (d er nd:Int),Nd t→MJ vs→Nd (CB vs d er nd t).1
 | .mk k i n l ks,vs,d,er,nd,h,hv=>by
  unfold CB;split
  ·exact h
  split
  ·exact Th _ _ _ _ _ (ck hv _)
  split
  ·split
   ·exact cj _
   exact h
  simp only[Nd] at h ⊢;obtain⟨h1,h2,h3,h4,h5,h6⟩:=h;obtain⟨e1,e2⟩:=Qs ks vs k d 0 er (wr (nd+1)) h5 hv;exact⟨h1,h2,h3,by rw[e1];exact h4,e2,h6⟩
theorem Qs:∀(ts:List Tm) (vs:List Tm) (k d:Int) (j:Nat) (er nd:Int),MJ ts→MJ vs→(Ca vs k d j er nd ts).1.length=ts.length∧MJ (Ca vs k d j er nd ts).1
 | [],vs,k,d,j,er,nd,h,hv=>by simp[Ca,MJ]
 | t::ts,vs,k,d,j,er,nd,h,hv=>by
  simp only[Ca,MJ,List.length_cons] at *;have:=O5 t vs (d+below k j) er nd h.1 hv;obtain⟨e1,e2⟩:=Qs ts vs k d (j+1) (CB vs (d+below k j) er nd t).2.1 (CB vs (d+below k j) er nd t).2.2 h.2 hv;exact⟨by rw[e1],this,e2⟩
end
theorem aP (t:Tm) (vs:List Tm) (d:Int) (h:Nd t) (hv:MJ vs):Nd (CJ t vs d).1:=by
 unfold CJ;split
 ·exact Qe
 split
 ·exact Qe
 split
 ·exact Qe
 exact O5 t vs _ _ _ h hv
theorem MF {o:Option Nat}{c:Nat}(l:List Tm) {l':List Tm}(h:l=l'):AV.vs o (BE l).length c= .vs o (BE l').length c:=by rw[h]
theorem F5 {α:Type}{f:α→List PV}{o:Option Nat}{c:Nat}(l:List α) {l':List α}(h:l=l'):AV.vs o (l.map f).length c= .vs o (l'.map f).length c:=by rw[h]
theorem KA {o:Option Nat}{sz c:Nat}(l:List Tm) {l':List Tm}(h:l=l'):L8 (.vec o sz (BE l) c) (.vec o sz (BE l') c):=oe (by rw[h])
theorem FJ {α:Type}{f:α→List PV}{o:Option Nat}{sz c:Nat}(l:List α) {l':List α}(h:l=l'):L8 (.vec o sz (l.map f) c) (.vec o sz (l'.map f) c):=oe (by rw[h])
theorem DL {o:Option Nat}{c:Nat}(l:List Tm) {l':List Tm}(h:l.length=l'.length):AV.vs o (BE l).length c= .vs o (BE l').length c:=by rw[BQ,BQ,h]
theorem Sl {α:Type}{f:α→List PV}{o:Option Nat}{c:Nat}(l:List α) {l':List α}(h:l.length=l'.length):AV.vs o (l.map f).length c= .vs o (l'.map f).length c:=by rw[List.length_map,List.length_map,h]
mutual
def XL:List Int→Tm→List Int
 | l,.mk k i _ _ ks=>if k=12 then (if i∈l then l else Uv (l++[i]) ks) else Uv l ks
def Uv:List Int→List Tm→List Int
 | l,[]=>l
 | l,t::ts=>Uv (XL l t) ts
end
def uW (l:List Int) (n:Int):Bool:=decide (n∈l)
def dv (fr:Int):Nat→Nat→List Tm
 | _,0=>[]
 | m,k+1=>PK (fr+(m+k:Nat))::dv fr m k
def mZ (n fr:Int):List Tm:=if n<1∨n > 4096∨fr<0 then [] else dv fr 0 n.toNat
def mj:List Int→List Tm→Option (List Int)
 | l,[]=>some l
 | l,.mk k i _ _ _::ts=>if k≠0∨i∈l then none else mj (l++[i]) ts
def tq (t:Tm):Int×List Int×Bool :=
 if (BA t).1.kind≠12 then (0,[],false)
 else match mj [] (BA t).2 with
  | none=>(0,[],false)
  | some l=>((BA t).1.index,l,true)
def tm (ms:List Mv) (ctx:List Tm) (t:Tm) (cls:Bool):List Mv×Tm×Int :=
 if ms.length≥2000 then ([],Bc,6)
 else if Ek (XU 6 ctx t) > 4096 then ([],Bc,5)
 else if Et (XU 6 ctx t) > 200 then ([],Bc,7)
 else (ms++[⟨XU 6 ctx t,false,Bc,cls⟩],apply (.mk 12 ms.length ⟨#[]⟩ [] []) (mZ ctx.length 0),0)
end Go.Eu
namespace Go.Eu
end Go.Eu
namespace Go.Eu
open Go.Abs
theorem EY {n:Int}(h:Iz n):wr n=n:=Qr (k:= .i64) h.1 h.2
mutual
theorem S0 (B:Int) (hB:B≤4611686018427387904):∀(t:Tm),(size t:Int)<B→Ek t=size t
 | .mk k i n l ks,h=>by
  have h':(1:Int)+Ba ks<B:=by rw[size] at h;omega
  show LK 1 ks=_;rw[Ri B hB ks 1 An h',size];omega
theorem Ri (B:Int) (hB:B≤4611686018427387904):∀(ts:List Tm) (n:Int),0≤n→n+Ba ts<B→LK n ts=n+Ba ts
 | [],n,_,_=>by simp[LK,Ba]
 | t::ts,n,h0,h=>by
  simp only[Ba,LK] at *;rw[S0 B hB t (by have:=size_pos t;omega),EY ⟨by omega,by omega⟩,Ri B hB ts (n+size t) An An];omega
end
theorem OB {t:Tm}(h:(size t:Int)<4611686018427387904):Ek t=size t:=S0 _ (Int.le_refl _) t h
mutual
def Wt:Tm→Prop
 | .mk k i _ _ ks=>(ks.length:Int)=arity k∧(k=12→0≤i)∧Nt ks
def Nt:List Tm→Prop
 | []=>True
 | t::ts=>Wt t∧Nt ts
end
theorem Qq:∀{ts:List Tm}{i:Nat}{t:Tm},Nt ts→ts[i]?=some t→Wt t
 | [],i,t,_,h=>by simp at h
 | a::ts,0,t,hn,h=>by simp at h;subst h;exact hn.1
 | a::ts,i+1,t,hn,h=>by simp at h;exact Qq hn.2 h
theorem Is (a b:List Tm):Ba (a++b)=Ba a+Ba b:=by
 induction a with
 | nil=>simp[Ba]
 | cons x a ih=>simp[Ba,ih];omega
mutual
theorem kO {vars metas:Int}:∀(t:Tm) (d:Int),wf vars metas d t→Wt t
 | .mk k i n l ks,d,h=>by
  simp only[wf,Wt] at *;exact⟨h.2.2.1,fun e=>(h.2.2.2.2.1 e).1,eM ks k d 0 h.2.2.2.2.2⟩
theorem eM {vars metas:Int}:∀(ts:List Tm) (k d:Int) (j:Nat),gZ vars metas k d j ts→Nt ts
 | [],k,d,j,h=>trivial
 | t::ts,k,d,j,h=>by
  simp only[gZ,Nt] at *;exact⟨kO t _ h.1,eM ts k d (j+1) h.2⟩
end
theorem fJ (i:Int):Wt (PK i):=⟨by simp[arity],by simp,trivial⟩
theorem Qg:Wt Bc:=⟨by simp[arity],by simp,trivial⟩
mutual
theorem Sv (b fr:Int):∀(t:Tm) (d er:Int),Wt t→Wt (Cg b fr d er t).1
 | .mk k i n l ks,d,er,h=>by
  unfold Cg;split
  ·split
   ·exact h
   split
   ·exact h
   exact fJ _
  simp only[Wt] at h ⊢;obtain⟨e1,e2⟩:=SE b fr k ks d 0 er h.2.2;exact⟨by rw[e1];exact h.1,h.2.1,e2⟩
theorem SE (b fr k:Int):∀(ts:List Tm) (d:Int) (j:Nat) (er:Int),Nt ts→(DB b fr k d j er ts).1.length=ts.length∧Nt (DB b fr k d j er ts).1
 | [],d,j,er,h=>by simp[DB,Nt]
 | t::ts,d,j,er,h=>by
  simp only[DB,Nt,List.length_cons] at *;have:=Sv b fr t (d+below k j) er h.1;obtain⟨e1,e2⟩:=SE b fr k ts d (j+1) (Cg b fr (d+below k j) er t).2 h.2;exact⟨by rw[e1],this,e2⟩
end
theorem cO {vs:List Tm}(h:Nt vs) (i:Nat):Wt (vs.getD i Bc):=by
 cases e:vs[i]? with
 | none=>simp[List.getD,e];exact Qg
 | some x=>rw[OI e];exact Qq h e
mutual
theorem TQ:∀(t:Tm) (vs:List Tm) (d er nd:Int),Wt t→Nt vs→Wt (CB vs d er nd t).1
 | .mk k i n l ks,vs,d,er,nd,h,hv=>by
  unfold CB;split
  ·exact h
  split
  ·exact Sv _ _ _ _ _ (cO hv _)
  split
  ·split
   ·exact fJ _
   exact h
  simp only[Wt] at h ⊢;obtain⟨e1,e2⟩:=Rr ks vs k d 0 er (wr (nd+1)) h.2.2 hv;exact⟨by rw[e1];exact h.1,h.2.1,e2⟩
theorem Rr:∀(ts:List Tm) (vs:List Tm) (k d:Int) (j:Nat) (er nd:Int),Nt ts→Nt vs→(Ca vs k d j er nd ts).1.length=ts.length∧Nt (Ca vs k d j er nd ts).1
 | [],vs,k,d,j,er,nd,h,hv=>by simp[Ca,Nt]
 | t::ts,vs,k,d,j,er,nd,h,hv=>by
  simp only[Ca,Nt,List.length_cons] at *;have:=TQ t vs (d+below k j) er nd h.1 hv;obtain⟨e1,e2⟩:=Rr ts vs k d (j+1) (CB vs (d+below k j) er nd t).2.1 (CB vs (d+below k j) er nd t).2.2 h.2 hv;exact⟨by rw[e1],this,e2⟩
end
theorem Zx (t:Tm) (vs:List Tm) (d:Int) (h:Wt t) (hv:Nt vs):Wt (CJ t vs d).1:=by
 unfold CJ;split
 ·exact Qg
 split
 ·exact Qg
 split
 ·exact Qg
 exact TQ t vs _ _ _ h hv
mutual
theorem QG (b fr:Int):∀(t:Tm) (d er:Int),t.kind=0∧t.kids=[]∨Wt t→size (Cg b fr d er t).1=size t
 | .mk k i n l ks,d,er,h=>by
  unfold Cg;split
  ·rename_i hk;split
   ·rfl
   split
   ·rfl
   have:ks=[]:=by
    rcases h with h | h
    ·exact h.2
    have:=h.1;subst hk;simp[arity] at this;exact this
   subst this;simp[PK,size,Ba]
  rename_i hk;have hw:Nt ks:=by
   rcases h with h | h
   ·exact absurd h.1 hk
   exact h.2.2
  simp only[size];rw[OD b fr k ks d 0 er hw]
theorem OD (b fr k:Int):∀(ts:List Tm) (d:Int) (j:Nat) (er:Int),Nt ts→Ba (DB b fr k d j er ts).1=Ba ts
 | [],d,j,er,h=>by simp[DB]
 | t::ts,d,j,er,h=>by
  simp only[DB,Ba];rw[QG b fr t _ _ (.inr h.1),OD b fr k ts _ _ _ h.2]
end
mutual
theorem Jl (V:Int) (hV:1≤V) (hV2:V≤2305843009213693952):∀(t:Tm) (vs:List Tm) (d er nd:Int),Wt t→Nt vs→(∀x∈vs,(size x:Int)≤V)→0≤nd→nd≤4096+V →
  nd≤(CB vs d er nd t).2.2∧(CB vs d er nd t).2.2≤4096+V∧((CB vs d er nd t).2.2≤4096→(size (CB vs d er nd t).1:Int)=(CB vs d er nd t).2.2 - nd)
 | .mk k i n l ks,vs,d,er,nd,h,hv,hs,h0,h1=>by
  have hk0:k=0→ks=[]:=by
   intro e;have:=h.1;subst e;simp[arity] at this;exact this
  unfold CB;split
  ·exact⟨by simp,h1,by simp;omega⟩
  split
  ·rename_i hc;have hlt:(i - d).toNat<vs.length:=by omega
   obtain⟨x,hx⟩:=A6 hlt;have hxs:=hs x (List.mem_of_getElem? hx);rw[OI hx,QG _ _ _ _ _ (.inr (Qq hv hx)),OB An,EY ⟨by omega,by omega⟩];simp only;exact⟨by omega,by omega,by omega⟩
  split
  ·rename_i hk;have hk:=hk0 hk;subst hk;split
   ·simp only[PK,size,Ba];rw[EY ⟨by omega,by omega⟩];exact⟨by omega,by omega,by omega⟩
   simp only[size,Ba];rw[EY ⟨by omega,by omega⟩];exact⟨by omega,by omega,by omega⟩
  rw[EY (n:=nd+1) ⟨by omega,by omega⟩];obtain⟨e1,e2,e3⟩:=K1 V hV hV2 ks vs k d 0 er (nd+1) h.2.2 hv hs An An;simp only[size];exact⟨by omega,e2,fun q=>by have:=e3 q;omega⟩
theorem K1 (V:Int) (hV:1≤V) (hV2:V≤2305843009213693952):∀(ts:List Tm) (vs:List Tm) (k d:Int) (j:Nat) (er nd:Int),Nt ts→Nt vs→(∀x∈vs,(size x:Int)≤V)→0≤nd→nd≤4096+V →
  nd≤(Ca vs k d j er nd ts).2.2∧(Ca vs k d j er nd ts).2.2≤4096+V∧((Ca vs k d j er nd ts).2.2≤4096→(Ba (Ca vs k d j er nd ts).1:Int)=(Ca vs k d j er nd ts).2.2 - nd)
 | [],vs,k,d,j,er,nd,h,hv,hs,h0,h1=>by simp only[Ca,Ba];exact⟨by omega,h1,by omega⟩
 | t::ts,vs,k,d,j,er,nd,h,hv,hs,h0,h1=>by
  obtain⟨e1,e2,e3⟩:=Jl V hV hV2 t vs (d+below k j) er nd h.1 hv hs h0 h1;obtain⟨f1,f2,f3⟩:=K1 V hV hV2 ts vs k d (j+1) (CB vs (d+below k j) er nd t).2.1 (CB vs (d+below k j) er nd t).2.2 h.2 hv hs An e2;simp only[Ca,Ba];exact⟨by omega,f2,fun q=>by have:=f3 q;have:=e3 An;omega⟩
end
theorem VZ (t:Tm) (vs:List Tm) (d:Int) (h:Wt t) (hv:Nt vs) (hs:∀x∈vs,(size x:Int)≤2305843009213693952):size (CJ t vs d).1≤4096:=by
 have hz:size Bc≤4096:=by simp[Bc,size,Ba]
 obtain⟨e1,e2,e3⟩:=Jl 2305843009213693952 An An t vs (min d 65536) 0 0 h hv hs An An;unfold CJ;split
 ·exact hz
 rename_i hn;have:=e3 An;split
 ·exact hz
 split
 ·exact hz
 simp only;omega
def known (ms:List Mv) (t:Tm):Bool :=
 match t with
 | .mk k i _ _ _=>k==12&&(decide (i<ms.length)&&(match ms[i.toNat]? with | some m=>m.known | none=>false))
def valueOf (ms:List Mv) (i:Int):Tm:=match ms[i.toNat]? with | some m=>m.value | none=>Bc
def P4 (F:EP→Tm→Tm×Int×EP):EP→List Tm→List Tm×Int×EP
 | c,[]=>([],0,c)
 | c,t::ts=>if (F c t).2.1≠0 then ([],(F c t).2.1,(F c t).2.2)
  else if (P4 F (F c t).2.2 ts).2.1≠0 then ([],(P4 F (F c t).2.2 ts).2.1,(P4 F (F c t).2.2 ts).2.2)
  else ((F c t).1::(P4 F (F c t).2.2 ts).1,0,(P4 F (F c t).2.2 ts).2.2)
def tK (l:List Tm) (q:List Tm×Int×EP):List Tm×Int×EP:=if q.2.1≠0 then ([],q.2.1,q.2.2) else (l++q.1,0,q.2.2)
def kX:EP→Tm→List Tm→EP×Tm×List Tm
 | c,v,[]=>(c,v,[])
 | c,v,a::l=>if v.kind=5∧c.over=false then kX (c.form (CJ (v.kids.getD 1 Bc) [a] 0).1 (CJ (v.kids.getD 1 Bc) [a] 0).2) (CJ (v.kids.getD 1 Bc) [a] 0).1 l else (c,v,a::l)
def L1:Tm→List Tm→Tm
 | .mk k i n l _,ks=> .mk k i n l ks
def MC (ms:List Mv):Nat→List Int→EP→Tm→Tm×Int×EP
 | 0,ab,c,t=>(Bc,11,c)
 | n+1,ab,c,t =>
  if c.over=true then (Bc,11,c)
  else if known ms (BA t).1=false then
   (let q:=P4 (MC ms n ab) c (BA t).1.kids
    if q.2.1≠0 then (Bc,q.2.1,q.2.2)
    else
     (let r:=P4 (MC ms n ab) q.2.2 (BA t).2
      if r.2.1≠0 then (Bc,r.2.1,r.2.2)
      else (apply (L1 (BA t).1 q.1) r.1,0,r.2.2.sized (apply (L1 (BA t).1 q.1) r.1))))
  else if (BA t).1.index∈ab then (Bc,22,c)
  else
   (let v:=MC ms n (ab++[(BA t).1.index]) c (valueOf ms (BA t).1.index)
    if v.2.1≠0 then (Bc,v.2.1,v.2.2)
    else
     (let r:=P4 (MC ms n ab) (v.2.2.form v.1 0) (BA t).2
      if r.2.1≠0 then (Bc,r.2.1,r.2.2)
      else
       (let b:=kX r.2.2 v.1 r.1
        (apply b.2.1 b.2.2,0,b.1.form (apply b.2.1 b.2.2) 0))))
def free (ms:List Mv) (ab:List Int):Nat:=((List.range ms.length).filter fun i:Nat=> !decide ((i:Int)∈ab)).length
def Mb (S:Nat):Nat→Nat
 | 0=>0
 | k+1=>S*(Mb S k+2)+4096+Mb S k
def td (S:Nat) (ms:List Mv):Prop:=∀m∈ms,Nd m.value∧Wt m.value∧size m.value≤S
structure tG (M:Nat) (s:Nat) (r:Tm):Prop where
 nd:Nd r
 wt:Wt r
 size:size r≤s*M
theorem K8 {α:Type}{l:List α}{x:α}(h:x∈l):∃i:Nat,l[i]?=some x:=by
 obtain⟨i,hi,he⟩:=List.mem_iff_getElem.1 h;exact⟨i,by rw[List.getElem?_eq_getElem hi,he]⟩
section
variable {ms:List Mv}{n:Nat}{ab:List Int}{c:EP}{t:Tm}{zk zi:Int}{zn:ByteArray}{zl:List CV}{zs:List Tm}
end
end Go.Eu
namespace Go.Eu
theorem Fx {l:List Tm}{x:Tm}(h:x∈l):size x≤Ba l:=by
 obtain⟨i,hi⟩:=K8 h;exact Cc hi
def cz (ms:List Mv) (n:Nat) (c:EP) (t:Tm):Tm×Int×EP :=
 ((MC ms n [] c t).1,(MC ms n [] c t).2.1,if (MC ms n [] c t).2.1=0 then (MC ms n [] c t).2.2.form (MC ms n [] c t).1 0 else (MC ms n [] c t).2.2)
def uM (ms:List Mv) (n:Nat) (c:EP) (t:Tm):List Int×Int :=
 if (cz ms n c t).2.1=0 then (XL [] (cz ms n c t).1,0) else ([],(cz ms n c t).2.1)
end Go.Eu
namespace Go.Abs
section
variable {P:Program}{r:Option Nat}{ops:Array Oper}{Q:Cx→Br→Prop}{k:Nat}{n:Nat}{τ:Nat→AV}{T:List BI}{D:List EN}{dst:Option Tmp}{op:Op}{ty:TypeId}{pos:String}{aft:Array Edge}{v:AV}{c:Call}{f:Operand}{fid:FuncId}{first caps A:List AV}{R:ER→List BI→Prop}
theorem ME {H H':List BI}(hp:H.Perm H') (h:AL P r ops k ⟨n,τ,H',D⟩ Q):AL P r ops k ⟨n,τ,H,D⟩ Q:=B2 (TT (S:=⟨n,τ,H,D⟩) hp) h
theorem I7 (fr:List BI) {l:Nat}(ho:ops[k]?=some ⟨dst,.call c,ty,pos,aft,none⟩) (hd:Gm dst n=true)
  (hc:c.callee= .value f) (hf:ev τ f= .fn (.yield l) [] []) (h:MD P l A T R) (hA:c.args.toList.map (ev τ)=A)
  (next:∀v T',R (.val v) T'→AL P r ops (k+1) ⟨n,put τ dst v,fr++T',D⟩ Q) (pan:∀v T',R (.panic v) T'→Q (.panic v) ⟨n,τ,T'++fr,D⟩):AL P r ops k ⟨n,τ,fr++T,D⟩ Q :=
 GO (S:=⟨n,τ,fr++T,D⟩) ho Ah (Ij hd) (Z8 hc hf List.perm_append_comm h hA) (fun v H' ⟨Hs',h1,h2⟩=>by subst h2;exact ME List.perm_append_comm (next v Hs' h1)) (fun v H' ⟨Hs',h1,h2⟩=>by subst h2;exact pan v Hs' h1)
theorem IP (fr:List BI) (ho:ops[k]?=some ⟨dst,.call c,ty,pos,aft,none⟩) (hd:Gm dst n=true)
  (hc:c.callee= .value f) (hf:(ev τ f= .p (.fn fid)∧first=[]∧caps=[])∨ev τ f= .fn (.func fid) first caps) (h:Bo P fid A T R) (hA:F8 (first++c.args.toList.map (ev τ)++caps) A)
  (next:∀v T',R (.val v) T'→AL P r ops (k+1) ⟨n,put τ dst v,fr++T',D⟩ Q) (pan:∀v T',R (.panic v) T'→Q (.panic v) ⟨n,τ,T'++fr,D⟩):AL P r ops k ⟨n,τ,fr++T,D⟩ Q :=
 It ho hd hc hf List.perm_append_comm (h.args hA) (.inl rfl) (fun v H' h1=>ME List.perm_append_comm (next v H' h1)) pan
end
theorem Ft.append:∀{l l':List BI}{T:List BI},Ft l l'→Ft (l++T) (l'++T)
 | [],l',T,h=>by simp only[Ft] at h;subst h;exact Ft.refl T
 | o::l,l',T,h=>by
  obtain⟨o',r',rfl,h1,h2⟩:=h;exact⟨o',r'++T,O,h1,Ft.append h2⟩
theorem ZV (is:List Nat) (l:List BI) {l1 l' T:List BI}(h:Pt is 0 l=l1) (w:Ft l1 l'):j7 (l++T) (l'++T):=⟨l1++T,(B4 h).append_right T,w.append⟩
theorem Gy (is:List Nat) (l:List BI) {l1 T:List BI}(h:Pt is 0 l=l1):(l1++T).Sublist (l++T):=(B4 h).append_right T
def uE (b:Bool) (H':List BI):ER→List BI→Prop
 | .val v,H''=>v= .p (.bool b)∧H''=H'
 | .panic _,_=>False
theorem C5 {n:Nat}{τ:Nat→AV}{H:List BI}{D:List EN}{t:Nat}{x:AV}(h:τ t=x):IG ⟨n,τ,H,D⟩ ⟨n,put τ (some t) x,H,D⟩:=RV fun _ _ _ hr=>h▸hr
section
variable {P:Program}{dst:Option Tmp}{ty:TypeId}{pos:String}{aft:Array Edge}{g:Option (Nat×Bool)}{ρ:Operand→AV}{H:List BI}{x y:Operand}
theorem Ub {e:TypeId}{bl:Bool}{sz:Nat}(ht:EB P e=some (bl,sz)):∃inf,P.info? e=some inf∧inf.size=sz:=by
 obtain⟨d,_,_,h⟩:=FT ht;cases hi:P.info? e with
 | none=>simp[hi] at h
 | some inf=>simp[hi] at h;exact⟨inf,rfl,h⟩
theorem SL {T e:TypeId}{bl:Bool}{len sz b o:Nat}{k:IntKind}{i:Int}(hu:P.underlying T=some (.array len e)) (ht:EB P e=some (bl,sz)) (hx:ρ x= .ptr b o) (hy:ρ y= .p (.int k i)) (h0:0≤i) (hn:i<len) :
  Dh P ⟨dst,.indexAddr T x y,ty,pos,aft,g⟩ ρ H (.ptr b (o+i.toNat*sz)) H:=by
 obtain⟨inf,h1,h2⟩:=Ub ht;exact Sa hu h1 h2 hx hy h0 hn
theorem EM {T e:TypeId}{bl:Bool}{len sz:Nat}{parts:Array (Nat×Operand)}{z:Value}{cs:List AV}(hu:P.underlying T=some (.array len e)) (ht:EB P e=some (bl,sz)) (hz:zeroOf P T=some z)
  (hc:FY (fun i=>some (i*sz,sz)) (z.cells.toList.map Gt) (parts.toList.map fun p=>(p.1,ρ p.2))=some cs):Dh P ⟨dst,.build T parts,ty,pos,aft,g⟩ ρ H (.agg cs) H:=by
 obtain⟨inf,h1,h2⟩:=Ub ht;subst h2;exact SQ hu h1 hz hc
end
theorem RH {P:Program}{g:Operand}{ps:Array Tmp}{assign body:Code}{S:Br}{Q:Cx→Br→Prop}{fid:FuncId}{first caps:List AV}
  (hg:(ev S.τ g= .p (.fn fid)∧first=[]∧caps=[])∨ev S.τ g= .fn (.func fid) first caps)
  (h:∀d l (L:Nw),L=⟨.ready,none,S.n,S.τ,ps,assign,body⟩→∃Hs Hf,(BI.loop l L:: .dfr d::S.H).Perm (Hs++Hf) ∧
   Bo P fid (first++[.fn (.yield l) [] []]++caps) Hs (fun r H'=>Ud P l d S Q r (H'++Hf))) :
  I3 P none (.rangeFunc g ps assign body) S Q:=bP hg fun d l=>h d l _ rfl
def tY (H':List BI):ER→List BI→Prop
 | .val v,H''=>v= .tup []∧H''=H'
 | .panic _,_=>False
def Vm (v:AV) (C:List BI→Prop):ER→List BI→Prop
 | .val v',H'=>v'=v∧C H'
 | .panic _,_=>False
section
variable {P:Program}{n:Nat}{τ:Nat→AV}{H:List BI}{D:List EN}
theorem YA {b:Nat}{cs cs':List AV}(h:F8 cs cs'):L8 (.box b cs) (.box b cs'):=⟨rfl,fun F w hr=>by
 obtain⟨vs,T,h1,h2⟩:=hr;exact⟨vs,T,h1,O3 h h2⟩⟩
theorem Hr {i:Nat}{o o':BI}(hi:H[i]?=some o) (hw:L8 o o'):IG ⟨n,τ,H,D⟩ ⟨n,τ,H.set i o',D⟩:=by
 intro F a w hs;refine⟨F,⟨hs.size,hs.tmp,?_,hs.defs⟩,?_⟩
 ·have hk:=F4 (x':=o') hi hw.1;refine⟨fun x hx c hc=>?_,by show List.Nodup _;rw[hk];exact hs.heap.nodup,fun x hx=>?_,hs.heap.bd⟩
  ·rcases Dj hx with rfl | ⟨j,_,hj⟩
   ·exact hs.heap.sub _ (List.mem_of_getElem? hi) c (by rw[←hw.1];exact hc)
   exact hs.heap.sub _ (List.mem_of_getElem? hj) c hc
  rcases Dj hx with rfl | ⟨j,_,hj⟩
  ·exact hw.2 F w (hs.heap.obj _ (List.mem_of_getElem? hi))
  exact hs.heap.obj _ (List.mem_of_getElem? hj)
 refine { Trans.refl (F:=F) (H:=H) (w:=w) with keys:=fun x hx c hc=>?_ };rcases Dj hx with rfl | ⟨j,_,hj⟩
 ·exact .inl ⟨_,List.mem_of_getElem? hi,by rw[←hw.1];exact hc⟩
 exact .inl ⟨_,List.mem_of_getElem? hj,hc⟩
end
section
variable {P:Program}{dst:Option Tmp}{ty:TypeId}{pos:String}{aft:Array Edge}{g:Option (Nat×Bool)}{ρ:Operand→AV}{H:List BI}{x y:Operand}
theorem Wo {T e:TypeId}{b i:Nat}{l:List (Int×AV)}{k:Int}{zv:Value}{za v:AV}(hT:mapOf P T=some e) (hz:zeroOf P e=some zv) (hza:∀F w,CE F w za zv) (hx:ρ x= .map b) (hy:ρ y= .p (.int .i64 k)) (hi:H[i]?=some (.map b (EI l))) (hv:(J4 k l).getD za=v) :
  Dh P ⟨dst,.lookup T x y false,ty,pos,aft,g⟩ ρ H v H:=by subst hv;exact X3 hT hz hza hx hy hi
theorem Sd {T e:TypeId}{b i:Nat}{l:List (Int×AV)}{k:Int}{zv:Value}{za v:AV}{ok:Bool}(hT:mapOf P T=some e) (hz:zeroOf P e=some zv) (hza:∀F w,CE F w za zv) (hx:ρ x= .map b) (hy:ρ y= .p (.int .i64 k)) (hi:H[i]?=some (.map b (EI l))) (hv:(J4 k l).getD za=v) (hok:(J4 k l).isSome=ok) :
  Dh P ⟨dst,.lookup T x y true,ty,pos,aft,g⟩ ρ H (.tup [v,.p (.bool ok)]) H:=by subst hv;subst hok;exact UK hT hz hza hx hy hi
end
section
variable {P:Program}{dst:Option Tmp}{ty:TypeId}{pos:String}{aft:Array Edge}{g:Option (Nat×Bool)}{ρ:Operand→AV}{H:List BI}{x y:Operand}
theorem LU {T e:TypeId}{sz bytes:Nat}(hT:Fq P T=some (e,sz,bytes)) :
  DP P ⟨dst,.buildSlice T 0 #[],ty,pos,aft,g⟩ ρ H (Lm sz [] H) :=
 HX fun F w E hH hE=>by
  obtain⟨hu,i,hi,hs,hby⟩:=FQ hT;obtain⟨v,H',F',h1,h2,h3,h4⟩:=OR (F:=F) (w:=w) (sz:=sz) (c:=0) (rows:=[]) (vs:=[]) (T:=e) (H:=H) hH Ao (by simp[B0]) Ao Ao;refine⟨_,_,v,H',F',?_,h1,h2,h3,h4⟩;have hszr:(sizeOf e).run P w= .ok sz w:=by simp[sizeOf,typeInfo,hi,hs]
  simp only[execOp,Instr.buildSlice,Sem.run_bind,run_underlying hu,Result.andThen_ok,hszr];rw[if_neg An];simp only[Sem.run_pure,Result.andThen_ok,Sem.run_bind,pure_bind,Nat.zero_mul,if_true];have e0:(Array.map (fun x=>(#[]:Array Value)[x % (#[]:Array Value).size]!) (Array.range 0))=(⟨[]⟩:Array Value):=by simp
  rw[e0];simp only[Array.map_empty,Instr.fill,newRow,newObj,Sem.run_bind,Sem.run,Result.andThen,Sem.run_pure];rfl
end
section
variable {P:Program}{dst:Option Tmp}{ty:TypeId}{pos:String}{aft:Array Edge}{g:Option (Nat×Bool)}{ρ:Operand→AV}{H:List BI}{x y:Operand}
theorem M0 {T U e:TypeId}{n1 n2:Nat}{rows:List (List PV)}(hT:Fq P T=some (e,n1,n2)) (hx:ρ x= .p (.lst rows)) (hy:ρ y= .p .nils):DP P ⟨dst,.binOp .eql T x y U,ty,pos,aft,g⟩ ρ H (Pz (fun v=>∃b:Bool,v= .p (.bool b)∧(b=true→rows=[])) H) :=
 (U5 (FQ hT).1 hx hy).mono fun r H' h=>by cases r<;>exact h
end
section
variable {P:Program}{r:Option Nat}{ops:Array Oper}{Q:Cx→Br→Prop}{k:Nat}{n:Nat}{τ:Nat→AV}{H:List BI}{D:List EN}{dst:Option Tmp}{ty:TypeId}{pos:String}{aft:Array Edge}{v:AV}{c:Call}{f:Operand}{fid:FuncId}{first caps A:List AV}
theorem Oz (ho:ops[k]?=some ⟨dst,.call c,ty,pos,aft,none⟩) (hd:Gm dst n=true) (hc:c.callee= .value f) (hf:(ev τ f= .p (.fn fid)∧first=[]∧caps=[])∨ev τ f= .fn (.func fid) first caps) (h:Bo P fid A [] (Uo v [])) (hA:F8 (first++c.args.toList.map (ev τ)++caps) A) (pan:Q (.panic v) ⟨n,τ,H,D⟩):AL P r ops k ⟨n,τ,H,D⟩ Q :=
 It ho hd hc hf (Hs:=[]) (Hf:=H) Ao (h.args hA) (.inl rfl) (fun _ _ h=>h.elim) (fun v' H' ⟨h1,h2⟩=>by subst h1;subst h2;exact pan)
end
end Go.Abs
namespace Go.Eu
open Go.Abs
def Jy (k:Int):Int:=if k=5∨k=6∨k=7 then 1 else if k=11 then 2 else -1
theorem Vl {k:Int}{i:Int}(h:i=Jy k) (hi:0≤i):below k i=1:=by
 unfold Jy at h;unfold below;split at h
 ·rename_i hk;subst h;rcases hk with rfl | rfl | rfl<;>simp
 split at h
 ·rename_i hk;subst h;subst hk;simp
 omega
theorem Sx {k:Int}{i:Int}(h:i≠Jy k):below k i=0:=by
 unfold Jy at h;unfold below;rw[if_neg];simp only[Bool.or_eq_true,Bool.and_eq_true,beq_iff_eq];intro hc;apply h;rcases hc with ⟨h1,h2⟩ | ⟨h1,h2⟩
 ·rw[if_pos (by rcases h2 with (h | h) | h<;>simp[h]),h1]
 rw[if_neg An,if_pos h2,h1]
theorem VN {k:Int}(h:¬(0≤k∧k<13)):Jy k= -1:=by
 unfold Jy;rw[if_neg An,if_neg An]
section
variable {σ:Type}
mutual
def Eh (st:σ→Int→Tm→σ×Bool):Tm→Int→σ→σ×Bool
 | .mk k i n l ks,d,s=>if (st s d (.mk k i n l ks)).2=false then ((st s d (.mk k i n l ks)).1,false) else Ed st k d 0 (st s d (.mk k i n l ks)).1 ks
def Ed (st:σ→Int→Tm→σ×Bool) (k d:Int):Nat→σ→List Tm→σ×Bool
 | _,s,[]=>(s,true)
 | j,s,t::ts=>if (Eh st t (d+below k j) s).2=false then ((Eh st t (d+below k j) s).1,false) else Ed st k d (j+1) (Eh st t (d+below k j) s).1 ts
end
end
def PA (ix nm:Bool) (lv ks bl:Int):List AV:=[.p (.bool ix),.p (.bool nm),.p (I lv),.p (I ks),.p (I bl)]
def Pn:List AV:=[PA true false 0 0 (-1),PA false false 0 0 (-1),PA false false 1 0 (-1),PA false true (-1) 0 (-1),PA false false 0 2 (-1),PA false false 0 2 1,PA false false 0 2 1,PA false false 0 2 1,PA false false 0 3 (-1),PA false false 0 1 (-1),PA false false 0 1 (-1),PA false false 0 3 2,PA true false 0 0 (-1)].flatten
theorem e6 {k:Int}(h:0≤k∧k<13):Pn[0+k.toNat*5+4]?=some (.p (I (Jy k))):=by
 have:k=0∨k=1∨k=2∨k=3∨k=4∨k=5∨k=6∨k=7∨k=8∨k=9∨k=10∨k=11∨k=12:=by omega
 rcases this with rfl | rfl | rfl | rfl | rfl | rfl | rfl | rfl | rfl | rfl | rfl | rfl | rfl<;>rfl
section
variable {σ:Type}{st:σ→Int→Tm→σ×Bool}{Inv:Nat→σ→Prop}
theorem Vw {t:Tm}{d:Int}{s:σ}(h:(st s d t).2=false):Eh st t d s=((st s d t).1,false):=by
 obtain⟨k,i,n,l,ks⟩:=t;rw[Eh,if_pos h]
theorem H6 {k i:Int}{n:ByteArray}{l:List CV}{ks:List Tm}{d:Int}{s:σ}(h:(st s d (.mk k i n l ks)).2=true):Eh st (.mk k i n l ks) d s=Ed st k d 0 (st s d (.mk k i n l ks)).1 ks:=by
 rw[Eh,if_neg (by simp[h])]
theorem Iu {k d:Int}{ts:List Tm}{i:Nat}{x:Tm}{s:σ}(hx:ts[i]?=some x) (h:(Eh st x (d+below k i) s).2=false):Ed st k d i s (ts.drop i)=((Eh st x (d+below k i) s).1,false):=by
 rw[Cj hx,Ed,if_pos h]
theorem LO {k d:Int}{ts:List Tm}{i:Nat}{x:Tm}{s:σ}(hx:ts[i]?=some x) (h:(Eh st x (d+below k i) s).2=true):Ed st k d i s (ts.drop i)=Ed st k d (i+1) (Eh st x (d+below k i) s).1 (ts.drop (i+1)):=by
 rw[Cj hx,Ed,if_neg (by simp[h])]
mutual
theorem JI (hI:∀m s d t,Inv (m+1) s→Inv m (st s d t).1):∀(t:Tm) (d:Int) (s:σ) (m:Nat),Inv (m+size t) s→(Eh st t d s).2=true→Inv m (Eh st t d s).1
 | .mk k i n l ks,d,s,m,h,hv=>by
  rw[size,show m+(1+Ba ks)=(m+Ba ks)+1 by omega] at h;have h1:=hI _ _ d (.mk k i n l ks) h;rw[Eh] at hv ⊢;split at hv
  ·cases hv
  rename_i hc;rw[if_neg hc];exact Pp hI ks k d 0 _ m h1 hv
theorem Pp (hI:∀m s d t,Inv (m+1) s→Inv m (st s d t).1):∀(ts:List Tm) (k d:Int) (j:Nat) (s:σ) (m:Nat),Inv (m+Ba ts) s→(Ed st k d j s ts).2=true→Inv m (Ed st k d j s ts).1
 | [],k,d,j,s,m,h,hv=>by simpa [Ed,Ba] using h
 | t::ts,k,d,j,s,m,h,hv=>by
  rw[Ba,show m+(size t+Ba ts)=(m+Ba ts)+size t by omega] at h;rw[Ed] at hv ⊢;split at hv
  ·cases hv
  rename_i hc;rw[if_neg hc];have:=JI hI t (d+below k j) s _ h (by simpa using hc);exact Pp hI ts k d (j+1) _ m this hv
end
end
def W5 (s:Int) (d:Int) (t:Tm):Int×Bool:=(wr (s+1),true)
mutual
theorem Vd (B:Int) (hB:B≤4611686018427387904):∀(t:Tm) (d s:Int),0≤s→s+size t<B→Eh W5 t d s=(s+size t,true)
 | .mk k i n l ks,d,s,h0,h=>by
  rw[size] at h ⊢;rw[H6 rfl];simp only[W5];rw[EY ⟨by omega,by omega⟩,TC B hB ks k d 0 (s+1) An An];congr 1;omega
theorem TC (B:Int) (hB:B≤4611686018427387904):∀(ts:List Tm) (k d:Int) (j:Nat) (s:Int),0≤s→s+Ba ts<B→Ed W5 k d j s ts=(s+Ba ts,true)
 | [],k,d,j,s,h0,h=>by simp[Ed,Ba]
 | t::ts,k,d,j,s,h0,h=>by
  rw[Ba] at h ⊢;rw[Ed,Vd B hB t _ s h0 An];simp only;rw[if_neg Ao,TC B hB ts k d (j+1) (s+size t) An An];congr 1;omega
end
def tP (s:List Int) (d:Int):Tm→List Int×Bool
 | .mk k i _ _ _=>(if k=12∧i ∉ s then s++[i] else s,true)
def uR (s:List Int):List (Int×AV):=s.map fun i=>(i,.p (.bool true))
def WX (xs ys:List Tm) (i:Nat):Prop:=ys.length=xs.length∧∀k,k<xs.length→ys[k]?=if k<i∨xs.length - 1 - k<i then xs[xs.length - 1 - k]? else xs[k]?
theorem Xf (xs:List Tm):WX xs xs 0:=⟨rfl,fun k hk=>by rw[if_neg An]⟩
theorem XX {xs ys:List Tm}{i:Nat}{a b:Tm}(h:WX xs ys i) (hi:i<xs.length - 1 - i) (ha:ys[i]?=some a) (hb:ys[xs.length - 1 - i]?=some b):WX xs ((ys.set i b).set (xs.length - 1 - i) a) (i+1):=by
 obtain⟨hl,h⟩:=h;refine⟨by simp[hl],fun k hk=>?_⟩;have e1:=h i An;rw[if_neg An,ha] at e1;have e2:=h (xs.length - 1 - i) An;rw[if_neg An,hb] at e2;by_cases k1:k=xs.length - 1 - i
 ·subst k1;rw[if_pos An,List.getElem?_set_self Ai,e1];congr 1;omega
 rw[List.getElem?_set_ne (fun e=>k1 e.symm)];by_cases k2:k=i
 ·subst k2;rw[if_pos An,List.getElem?_set_self An,e2]
 rw[List.getElem?_set_ne (fun e=>k2 e.symm),h k hk];by_cases k3:k<i∨xs.length - 1 - k<i
 ·rw[if_pos k3,if_pos An]
 rw[if_neg k3,if_neg An]
theorem XM {xs ys:List Tm}{i:Nat}(h:WX xs ys i) (hi:xs.length - 1 - i≤i):ys=xs.reverse:=by
 obtain⟨hl,h⟩:=h;apply List.ext_getElem?;intro k;by_cases hk:k<xs.length
 ·rw[h k hk,List.getElem?_reverse hk];by_cases k3:k<i∨xs.length - 1 - k<i
  ·rw[if_pos k3]
  rw[if_neg k3];congr 1;omega
 rw[List.getElem?_eq_none An,List.getElem?_eq_none Ai]
def tO (f:Int) (n i:Nat):List Tm:=(dv f 0 n).take i++List.replicate (n - i) Bc
def kh (t:Tm):Bool:=decide ((size t:Int) > 4096)||decide (Et t > 200)
def uH {σ:Type}(st:σ→Int→Tm→σ) (xs:List Tm):Nat→σ→σ
 | 0,s=>s
 | m+1,s=>uH st xs m (st s m (xs.getD m Bc))
def rF (k:Int) (t:Tm) (i:Int) (a:Tm):Tm:= .mk k 0 ⟨#[]⟩ [] [a,t]
end Go.Eu
namespace Go.Abs
def dg (mkv:Nat→AV) (cs:List AV):ER→List BI→Prop
 | .val v,H'=>∃b,v=mkv b∧H'=[.box b cs]
 | .panic _,_=>False
section
variable {P:Program}{ops:Array Oper}{n:Nat}{τ₀ τ:Nat→AV}{D:List EN}{Q:Cx→Br→Prop}{opn:Nat→Bool}{k:Nat}{H:List BI}{dst:Option Tmp}{ty:TypeId}{pos:String}{aft:Array Edge}{c:Call}{f:Operand}{fid:FuncId}{first caps A:List AV}{mkv:Nat→AV}{cs:List AV}
theorem Ym {rd ef effs fx}(fx':List (Nat×Sp)) (ho:ops[k]?=some ⟨dst,.call c,ty,pos,aft,none⟩) (hn:opn k=true)
  (hc:c.callee= .value f) (hf:(ev τ f= .p (.fn fid)∧first=[]∧caps=[])∨ev τ f= .fn (.func fid) first caps) (h:Bo P fid A [] (dg mkv cs)) (hA:first++c.args.toList.map (ev τ)++caps=A∨(first++c.args.toList.map (ev τ)++caps).map norm=A) (haft:E3 ops k (fx'.map (·.1))=true)
  (next:∀b,KT ops k H (.box b cs::H) rd∧HR k (.eff (mkv b) (.box b cs::H)) fx∧Dr P ops n τ₀ D Q opn (k+1) (put τ dst (mkv b)) (.box b cs::H) rd ((k,H,.box b cs::H)::ef) (true::effs) (fx'++fx)):Dr P ops n τ₀ D Q opn k τ H rd ef effs fx :=
 Nx fx' ho hn (GJ (H:=H) (Hs:=[]) (Hf:=H) hc hf Ao h hA) haft ⟨_,_,_,⟨0,rfl,rfl⟩,rfl⟩ (fun v H' ⟨_,h,_⟩=>h.elim) (fun v H' ⟨Hs',⟨b,h1,h2⟩,h3⟩=>by subst h1;subst h2;subst h3;exact next b)
theorem YS {r:Option Nat}(ho:ops[k]?=some ⟨dst,.call c,ty,pos,aft,none⟩) (hd:Gm dst n=true)
  (hc:c.callee= .value f) (hf:(ev τ f= .p (.fn fid)∧first=[]∧caps=[])∨ev τ f= .fn (.func fid) first caps) (h:Bo P fid A [] (dg mkv cs)) (hA:F8 (first++c.args.toList.map (ev τ)++caps) A)
  (next:∀b,AL P r ops (k+1) ⟨n,put τ dst (mkv b),.box b cs::H,D⟩ Q):AL P r ops k ⟨n,τ,H,D⟩ Q :=
 It ho hd hc hf (Hs:=[]) (Hf:=H) Ao (h.args hA) (.inl rfl) (fun v Hs' ⟨b,h1,h2⟩=>by subst h1;subst h2;exact next b) (fun _ _ h=>h.elim)
end
def Km {α:Type}(mkv:α→AV) (mkp:Int→AV) (C:α→List BI→Prop) (x:Except Int α):ER→List BI→Prop
 | .val v,H'=>∃a,x= .ok a∧v=mkv a∧C a H'
 | .panic v,_=>∃e,x= .error e∧v=mkp e
theorem DP.permR {P:Program}{ρ:Operand→AV}{o:Oper}{H:List BI}{R R':ER→List BI→Prop}(h:DP P o ρ H R) (hp:∀r H1,R r H1→∃H2,H1.Perm H2∧R' r H2):DP P o ρ H R':=by
 intro r F S a w hs hH hρ hd;have:=h r F S a w hs hH hρ hd;refine Mc this ?_ ?_
 ·rintro a' w' ⟨v',H1,F',hR,hs',ht⟩;obtain⟨H2,hp,hR'⟩:=hp _ _ hR;exact⟨v',H2,F',hR',⟨hs'.size,hs'.tmp,hs'.heap.perm hp,hs'.defs⟩,{ ht with keys:=fun o ho=>ht.keys o (hp.mem_iff.2 ho) }⟩
 rintro e a' w' ⟨v',H1,F',u,hR,h1,h2,hs',ht⟩;obtain⟨H2,hp,hR'⟩:=hp _ _ hR;exact⟨v',H2,F',u,hR',h1,h2,⟨hs'.size,hs'.tmp,hs'.heap.perm hp,hs'.defs⟩,{ ht with keys:=fun o ho=>ht.keys o (hp.mem_iff.2 ho) }⟩
section
variable {P:Program}{ops:Array Oper}{n:Nat}{τ₀ τ:Nat→AV}{D:List EN}{Q:Cx→Br→Prop}{opn:Nat→Bool}{k:Nat}{T:List BI}{dst:Option Tmp}{ty:TypeId}{pos:String}{aft:Array Edge}{c:Call}{f:Operand}{fid:FuncId}{first caps A:List AV}
 {α:Type} {mkv:α→AV} {mkp:Int→AV} {C:α→List BI→Prop} {x:Except Int α}
theorem kA {r:Option Nat}(fr:List BI) (ho:ops[k]?=some ⟨dst,.call c,ty,pos,aft,none⟩) (hd:Gm dst n=true)
  (hc:c.callee= .value f) (hf:(ev τ f= .p (.fn fid)∧first=[]∧caps=[])∨ev τ f= .fn (.func fid) first caps) (h:Bo P fid A T (Km mkv mkp C x)) (hA:F8 (first++c.args.toList.map (ev τ)++caps) A)
  (next:∀a T',x= .ok a→C a T'→AL P r ops (k+1) ⟨n,put τ dst (mkv a),fr++T',D⟩ Q) (pan:∀e T',x= .error e→Q (.panic (mkp e)) ⟨n,τ,T'++fr,D⟩):AL P r ops k ⟨n,τ,fr++T,D⟩ Q :=
 IP fr ho hd hc hf h hA (fun v T' ⟨a,h1,h2,h3⟩=>by subst h2;exact next a T' h1 h3) (fun v T' ⟨e,h1,h2⟩=>by subst h2;exact pan e T' h1)
theorem oC {rd ef effs fx}(fr:List BI) (ho:ops[k]?=some ⟨dst,.call c,ty,pos,aft,none⟩) (hn:opn k=true)
  (hc:c.callee= .value f) (hf:(ev τ f= .p (.fn fid)∧first=[]∧caps=[])∨ev τ f= .fn (.func fid) first caps) (h:Bo P fid A T (Km mkv mkp C x)) (hA:F8 (first++c.args.toList.map (ev τ)++caps) A) (haft:E3 ops k []=true) (chk:ND ops n (true::effs).reverse=true) (hfx:Nf k fx=true) (owe:KT ops k (fr++T) (fr++T) rd)
  (next:∀a T',x= .ok a→C a T'→KT ops k (fr++T) (fr++T') rd∧HR k (.eff (mkv a) (fr++T')) fx∧Dr P ops n τ₀ D Q opn (k+1) (put τ dst (mkv a)) (fr++T') rd ((k,fr++T,fr++T')::ef) (true::effs) fx)
  (pan:∀e,x= .error e→∀τ' T',(∀t,(∀(k:Nat) o,ops[k]?=some o→o.dst≠some t)→τ' t=τ₀ t)→Q (.panic (mkp e)) ⟨n,τ',T'++fr,D⟩):Dr P ops n τ₀ D Q opn k τ (fr++T) rd ef effs fx:=by
 have hop:DP P ⟨dst,.call c,ty,pos,aft,none⟩ (ev τ) (fr++T) (fun r H'=>∃T',Km mkv mkp C x r T'∧(match r with | .val _=>H'=fr++T' | .panic _=>H'=T'++fr)):=by
  refine DP.permR (GJ (H:=fr++T) (Hs:=T) (Hf:=fr) hc hf List.perm_append_comm (h.args hA) (.inl O)) ?_;rintro r H1 ⟨T',hR,rfl⟩;cases r with
  | val v=>exact⟨fr++T',List.perm_append_comm,T',hR,rfl⟩
  | panic v=>exact⟨T'++fr,List.Perm.refl _,T',hR,rfl⟩
 by_cases hx:∃a T',x= .ok a∧C a T'
 ·obtain⟨a,T',hx,hC⟩:=hx;refine Dr.opn _ [] ho hn Ap hop haft ⟨mkv a,_,T',⟨a,hx,O,hC⟩,O⟩ ?_ ?_ ?_ ?_
  ·rintro v H' ⟨T',⟨a',h1,h2,h3⟩,rfl⟩;exact(next a' T' h1 h3).1
  ·rintro v H' ⟨T',⟨a',h1,h2,h3⟩,rfl⟩;subst h2;exact(next a' T' h1 h3).2.1
  ·rintro v H' ⟨T',⟨a',h1,h2,h3⟩,rfl⟩;subst h2;exact(next a' T' h1 h3).2.2
  rintro v H' ⟨T',⟨e,h1,h2⟩,rfl⟩ τ' hτ;subst h2;exact pan e h1 τ' T' hτ
 refine Dr.pan _ ho hn Ap hop haft chk hfx ?_ owe ?_
 ·rintro v H' ⟨T',⟨a',h1,h2,h3⟩,rfl⟩;exact hx ⟨a',T',h1,h3⟩
 rintro v H' ⟨T',⟨e,h1,h2⟩,rfl⟩ τ' hτ;subst h2;exact pan e h1 τ' T' hτ
end
section
variable {P:Program}{ops:Array Oper}{n:Nat}{τ₀ τ:Nat→AV}{D:List EN}{Q:Cx→Br→Prop}{opn:Nat→Bool}{k:Nat}{H Hs:List BI}{dst:Option Tmp}{ty:TypeId}{pos:String}{aft:Array Edge}{c:Call}{f:Operand}{fid:FuncId}{first caps A:List AV}
 {α:Type} {mkv:α→AV} {mkp:Int→AV} {C:α→List BI→Prop} {x:Except Int α}
theorem De {r:Option Nat}(is:List Nat) (ho:ops[k]?=some ⟨dst,.call c,ty,pos,aft,none⟩) (hd:Gm dst n=true)
  (hc:c.callee= .value f) (hf:(ev τ f= .p (.fn fid)∧first=[]∧caps=[])∨ev τ f= .fn (.func fid) first caps) (h:Bo P fid A Hs (Km mkv mkp C x)) (hg:FO H is Hs) (hn:is.Nodup) (hA:F8 (first++c.args.toList.map (ev τ)++caps) A)
  (hl:∀a T',C a T'→T'.length=Hs.length)
  (next:∀a T',x= .ok a→C a T'→AL P r ops (k+1) ⟨n,put τ dst (mkv a),Lb H is T',D⟩ Q) (pan:∀e H',x= .error e→Q (.panic (mkp e)) ⟨n,τ,H'++C4 is 0 H,D⟩):AL P r ops k ⟨n,τ,H,D⟩ Q :=
 cu is ho hd hc hf h hg hn hA (fun v T' ⟨a,h1,h2,h3⟩=>by subst h2;exact⟨hl a T' h3,next a T' h1 h3⟩) (fun v T' ⟨e,h1,h2⟩=>by subst h2;exact pan e T' h1)
theorem Pc {rd ef effs fx}(is:List Nat) (ho:ops[k]?=some ⟨dst,.call c,ty,pos,aft,none⟩) (hn:opn k=true)
  (hc:c.callee= .value f) (hf:(ev τ f= .p (.fn fid)∧first=[]∧caps=[])∨ev τ f= .fn (.func fid) first caps) (h:Bo P fid A Hs (Km mkv mkp C x)) (hg:FO H is Hs) (hnd:is.Nodup) (hA:F8 (first++c.args.toList.map (ev τ)++caps) A)
  (hl:∀a T',C a T'→T'.length=Hs.length) (haft:E3 ops k []=true) (chk:ND ops n (true::effs).reverse=true) (hfx:Nf k fx=true) (owe:KT ops k H H rd)
  (next:∀a T',x= .ok a→C a T'→KT ops k H (Lb H is T') rd∧HR k (.eff (mkv a) (Lb H is T')) fx∧Dr P ops n τ₀ D Q opn (k+1) (put τ dst (mkv a)) (Lb H is T') rd ((k,H,Lb H is T')::ef) (true::effs) fx)
  (pan:∀e,x= .error e→∀τ' H',(∀t,(∀(k:Nat) o,ops[k]?=some o→o.dst≠some t)→τ' t=τ₀ t)→Q (.panic (mkp e)) ⟨n,τ',H'++C4 is 0 H,D⟩):Dr P ops n τ₀ D Q opn k τ H rd ef effs fx:=by
 have hop:DP P ⟨dst,.call c,ty,pos,aft,none⟩ (ev τ) H (fun r H'=>∃T',Km mkv mkp C x r T'∧(match r with | .val _=>H'=Lb H is T' | .panic _=>H'=T'++C4 is 0 H)):=by
  refine DP.permR (GJ hc hf (DT hnd hg) (h.args hA) (.inl O)) ?_;rintro r H1 ⟨T',hR,rfl⟩;cases r with
  | val v=>obtain⟨a,h1,h2,h3⟩:=hR;exact⟨_,(Md hnd hg (hl a T' h3)).symm,T',⟨a,h1,h2,h3⟩,rfl⟩
  | panic v=>exact⟨_,List.Perm.refl _,T',hR,rfl⟩
 by_cases hx:∃a T',x= .ok a∧C a T'
 ·obtain⟨a,T',hx,hC⟩:=hx;refine Dr.opn _ [] ho hn Ap hop haft ⟨mkv a,_,T',⟨a,hx,O,hC⟩,O⟩ ?_ ?_ ?_ ?_
  ·rintro v H' ⟨T',⟨a',h1,h2,h3⟩,rfl⟩;exact(next a' T' h1 h3).1
  ·rintro v H' ⟨T',⟨a',h1,h2,h3⟩,rfl⟩;subst h2;exact(next a' T' h1 h3).2.1
  ·rintro v H' ⟨T',⟨a',h1,h2,h3⟩,rfl⟩;subst h2;exact(next a' T' h1 h3).2.2
  rintro v H' ⟨T',⟨e,h1,h2⟩,rfl⟩ τ' hτ;subst h2;exact pan e h1 τ' T' hτ
 refine Dr.pan _ ho hn Ap hop haft chk hfx ?_ owe ?_
 ·rintro v H' ⟨T',⟨a',h1,h2,h3⟩,rfl⟩;exact hx ⟨a',T',h1,h3⟩
 rintro v H' ⟨T',⟨e,h1,h2⟩,rfl⟩ τ' hτ;subst h2;exact pan e h1 τ' T' hτ
end
theorem DF:∀xs:List AV,F8 xs xs
 | []=>Eo
 | x::xs=>aw (we rfl) (DF xs)
def pU (ops:Array Oper) (t:Nat):Bool:=ops.toList.all fun o=>match o.dst with | some u=> !(Nat.beq u t) | none=>true
theorem SG {ops:Array Oper}{t:Nat}(h:pU ops t=true) (k:Nat) (o:Oper) (ho:ops[k]?=some o):o.dst≠some t:=by
 intro e;have hm:o∈ops.toList:=by
  rw[←Array.getElem?_toList] at ho;exact List.mem_of_getElem? ho
 have:=List.all_eq_true.1 h o hm;simp[e] at this
theorem MS {L Hs:List BI}{is:List Nat}(X:List BI) (hn:is.Nodup) (hg:FO L is Hs):(X++L).Perm (Hs++(X++C4 is 0 L)):=by
 have h:=(DT hn hg).append_left X;refine h.trans ?_;rw[←List.append_assoc,←List.append_assoc];exact List.perm_append_comm.append_right _
theorem Eb.eq {P:Program}{f:FuncId}{caps:List AV}{m:M4}{H X:List BI}{R:List BI→Prop}(h:Eb P f caps m H (fun H'=>H'=X)) (hq:R X):Eb P f caps m H R:=by
 refine⟨h.1,fun F w vs u hH hr hm=>?_⟩;refine(h.2 F w vs u hH hr hm).mono ?_;rintro e u' w' ⟨v,H',F',h1,h2,rfl,h3,h4⟩;exact⟨v,_,F',h1,h2,hq,h3,h4⟩
end Go.Abs
namespace Go.Eu
open Go.Abs
mutual
def Vp:Tm→Prop
 | .mk k i _ _ ks=>(k=0→0≤i∧i<1099511627776)∧Sy ks
def Sy:List Tm→Prop
 | []=>True
 | t::ts=>Vp t∧Sy ts
end
theorem Ml:∀{ts:List Tm}{i:Nat}{t:Tm},Sy ts→ts[i]?=some t→Vp t
 | [],i,t,_,h=>by simp at h
 | a::ts,0,t,hn,h=>by simp at h;subst h;exact hn.1
 | a::ts,i+1,t,hn,h=>by simp at h;exact Ml hn.2 h
def Pb:Tm→Tm
 | .mk k i n l _=> .mk k i n l []
def Ie (i:Int):Except Int Tm:=if i > 65535 then .error 24 else .ok (PK i)
def VB (n m:Int):Except Int Int:=if wr (n+m) > 4096 then .error 5 else .ok (wr (n+m))
def YV (b fr:Int) (t:Tm) (d:Int):Except Int Tm :=
 if t.index - d<fr then .ok (Pb t) else if b<0∧t.index - d<fr - b then .error 24 else Ie (t.index+b)
def M5 {α β:Type}(f:α→β):Except Int α→Except Int β
 | .error e=> .error e
 | .ok x=> .ok (f x)
def Dm {α β:Type}(x:Except Int α) (f:α→Except Int β):Except Int β :=
 match x with
 | .error e=> .error e
 | .ok x=>f x
def KF (rep:Tm→Int→Except Int Tm) (s:Unit) (t:Tm) (d:Int):Except Int ((Tm×Bool)×Unit) :=
 if t.kind=0 then M5 (fun x=>((x,true),())) (rep t d) else .ok ((Pb t,false),())
mutual
def D1 {σ:Type}(vis:σ→Tm→Int→Except Int ((Tm×Bool)×σ)):Tm→Int→σ→Except Int (Tm×σ)
 | .mk k i n l ks,d,s=>Dm (vis s (.mk k i n l ks) d) fun r =>
   if r.1.2=true then .ok (r.1.1,r.2) else Dm (Dw vis k 0 ks d r.2) fun q=> .ok (L1 r.1.1 q.1,q.2)
def Dw {σ:Type}(vis:σ→Tm→Int→Except Int ((Tm×Bool)×σ)) (k:Int):Nat→List Tm→Int→σ→Except Int (List Tm×σ)
 | _,[],_,s=> .ok ([],s)
 | j,t::ts,d,s=>Dm (D1 vis t (d+below k j) s) fun r=>Dm (Dw vis k (j+1) ts d r.2) fun q=> .ok (r.1::q.1,q.2)
end
section
variable {σ:Type}{vis:σ→Tm→Int→Except Int ((Tm×Bool)×σ)}
theorem GN {t:Tm}{d:Int}{s q:σ}{o:Tm}(h:vis s t d= .ok ((o,true),q)):D1 vis t d s= .ok (o,q):=by
 obtain⟨k,i,n,l,ks⟩:=t;simp[D1,h,Dm]
theorem Hz {t:Tm}{d e:Int}{s:σ}(h:vis s t d= .error e):D1 vis t d s= .error e:=by
 obtain⟨k,i,n,l,ks⟩:=t;simp[D1,h,Dm]
theorem IF {k i d:Int}{n:ByteArray}{l:List CV}{ks:List Tm}{s q q':σ}{o:Tm}{ys:List Tm}(h:vis s (.mk k i n l ks) d= .ok ((o,false),q)) (hk:Dw vis k 0 ks d q= .ok (ys,q')):D1 vis (.mk k i n l ks) d s= .ok (L1 o ys,q'):=by
 simp[D1,h,Dm,hk]
theorem Js {k i d e:Int}{n:ByteArray}{l:List CV}{ks:List Tm}{s q:σ}{o:Tm}(h:vis s (.mk k i n l ks) d= .ok ((o,false),q)) (hk:Dw vis k 0 ks d q= .error e):D1 vis (.mk k i n l ks) d s= .error e:=by
 simp[D1,h,Dm,hk]
def Rz (vis:σ→Tm→Int→Except Int ((Tm×Bool)×σ)) (k:Int) (ts:List Tm) (d:Int) (q0:σ) (i:Nat) (ys:List Tm) (q:σ):Prop :=
 ys.length=i∧Dw vis k 0 ts d q0=Dm (Dw vis k i (ts.drop i) d q) fun r=> .ok (ys++r.1,r.2)
theorem Rz.zero (k:Int) (ts:List Tm) (d:Int) (q0:σ):Rz vis k ts d q0 0 [] q0:=by
 refine⟨O,?_⟩;simp only[List.drop_zero,List.nil_append];cases Dw vis k 0 ts d q0<;>rfl
theorem Rz.err {k d e:Int}{ts ys:List Tm}{q0 q:σ}{i:Nat}{x:Tm}(h:Rz vis k ts d q0 i ys q) (hx:ts[i]?=some x) (hb:D1 vis x (d+below k i) q= .error e):Dw vis k 0 ts d q0= .error e:=by
 rw[h.2,Cj hx,Dw,hb];rfl
theorem Rz.succ {k d:Int}{ts ys:List Tm}{q0 q q':σ}{i:Nat}{x y:Tm}(h:Rz vis k ts d q0 i ys q) (hx:ts[i]?=some x) (hb:D1 vis x (d+below k i) q= .ok (y,q')):Rz vis k ts d q0 (i+1) (ys++[y]) q':=by
 refine⟨by simp[h.1],?_⟩;rw[h.2,Cj hx,Dw,hb];simp only[Dm];cases Dw vis k (i+1) (ts.drop (i+1)) d q'<;>simp
theorem Rz.fin {k d:Int}{ts ys:List Tm}{q0 q:σ}{i:Nat}(h:Rz vis k ts d q0 i ys q) (hi:ts.length≤i):Dw vis k 0 ts d q0= .ok (ys,q):=by
 rw[h.2,List.drop_eq_nil_of_le hi,Dw];simp[Dm]
end
theorem dN {ys:List Tm}{i m:Nat}{x:Tm}(h:ys.length=i) (hm:0<m):(ys++List.replicate m Bc).set i x=(ys++[x])++List.replicate (m - 1) Bc:=by
 subst h;cases m with
 | zero=>omega
 | succ m=>simp[List.replicate_succ]
section
variable {b fr d k i:Int}{n:ByteArray}{l:List CV}{ks:List Tm}
theorem Yk (h:i - d<fr):YV b fr (.mk k i n l ks) d= .ok (.mk k i n l []):=by simp[YV,Tm.index,Pb,h]
theorem iG (h:¬i - d<fr) (h2:b<0) (h3:i - d<fr - b):YV b fr (.mk k i n l ks) d= .error 24:=by unfold YV;exact(if_neg h).trans (if_pos ⟨h2,h3⟩)
theorem W0 (h:¬i - d<fr) (h2:¬(b<0∧i - d<fr - b)):YV b fr (.mk k i n l ks) d=Ie (i+b):=by unfold YV;exact(if_neg h).trans (if_neg h2)
variable {rep:Tm→Int→Except Int Tm}{s:Unit}
theorem Oj {e:Int}(h:k=0) (hr:rep (.mk k i n l ks) d= .error e):KF rep s (.mk k i n l ks) d= .error e:=by unfold KF;exact(if_pos h).trans (by rw[hr];rfl)
theorem MX {x:Tm}(h:k=0) (hr:rep (.mk k i n l ks) d= .ok x):KF rep s (.mk k i n l ks) d= .ok ((x,true),()):=by unfold KF;exact(if_pos h).trans (by rw[hr];rfl)
theorem OS (h:k≠0):KF rep s (.mk k i n l ks) d= .ok ((.mk k i n l [],false),()):=by unfold KF;exact(if_neg h).trans rfl
end
def Ky (b fr:Int) (t:Tm):Except Int Tm:=M5 Prod.fst (D1 (KF (YV b fr)) t 0 ())
theorem Q4 {α β:Type}{f:α→β}{x:Except Int α}{a:α}(h:x= .ok a):M5 f x= .ok (f a):=by rw[h];rfl
theorem Pl {α β:Type}{f:α→β}{x:Except Int α}{e:Int}(h:x= .error e):M5 f x= .error e:=by rw[h];rfl
def Jb (vs:List Tm) (dp ti d:Int):Int:=if 0≤wr (wr (ti - d) - dp)∧wr (wr (ti - d) - dp)<(vs.length:Int) then wr (wr (ti - d) - dp) else -1
theorem eg {vs:List Tm}{dp ti d:Int}(h1:0≤wr (wr (ti - d) - dp)) (h2:wr (wr (ti - d) - dp)<(vs.length:Int)):Jb vs dp ti d=wr (wr (ti - d) - dp):=if_pos ⟨h1,h2⟩
theorem hP {vs:List Tm}{dp ti d:Int}(h:¬(0≤wr (wr (ti - d) - dp)∧wr (wr (ti - d) - dp)<(vs.length:Int))):Jb vs dp ti d= -1:=if_neg h
theorem UZ {vs:List Tm}{dp ti d:Int}(h:0≤Jb vs dp ti d):Jb vs dp ti d<(vs.length:Int):=by
 unfold Jb at *;split<;>omega
def U0 (vs:List Tm) (sz:List Int) (dp:Int) (t:Tm) (d:Int):Int :=
 if t.kind=0∧0≤Jb vs dp t.index d then sz.getD (Jb vs dp t.index d).toNat 0 else 1
def Ry (vs:List Tm) (sz:List Int) (dp:Int) (n:Int) (t:Tm) (d:Int):Except Int ((Tm×Bool)×Int) :=
 M5 (fun m=>((Bc,decide (t.kind=0)),m)) (VB n (U0 vs sz dp t d))
def LJ (vs:List Tm) (dp:Int) (t:Tm) (d:Int):Except Int Tm :=
 if 0≤Jb vs dp t.index d then Ky (wr (dp+d)) 0 (vs.getD (Jb vs dp t.index d).toNat Bc)
 else if wr (t.index - d)<dp then .ok (Pb t) else Ie (wr (t.index - vs.length))
def J8 (vs:List Tm) (dp:Int) (t:Tm):Except Int Tm :=
 Dm (D1 (Ry vs (vs.map fun v=>(size v:Int)) dp) t 0 0) fun _=>M5 Prod.fst (D1 (KF (LJ vs dp)) t 0 ())
def Fy (t:Tm) (vs:List Tm) (dp:Int):Tm×Int :=
 match J8 vs dp t with
 | .error e=>(Bc,e)
 | .ok x=>if Et x > 200 then (Bc,7) else (x,0)
section
variable {vs:List Tm}{sz:List Int}{dp n d k i r m e:Int}{nm:ByteArray}{l:List CV}{ks:List Tm}
theorem QX (hm:U0 vs sz dp (.mk k i nm l ks) d=m) (hz:VB n m= .ok r):Ry vs sz dp n (.mk k i nm l ks) d= .ok ((Bc,decide (k=0)),r):=by
 subst hm;exact Q4 hz
theorem Ol (hm:U0 vs sz dp (.mk k i nm l ks) d=m) (hz:VB n m= .error e):Ry vs sz dp n (.mk k i nm l ks) d= .error e:=by
 subst hm;exact Pl hz
theorem RY (h:k=0∧0≤Jb vs dp i d) (hx:sz[(Jb vs dp i d).toNat]?=some m):U0 vs sz dp (.mk k i nm l ks) d=m:=by
 unfold U0;refine(if_pos h).trans ?_;rw[List.getD_eq_getElem?_getD];exact(congrArg (fun o=>Option.getD o 0) hx)
theorem QZ (h:¬(k=0∧0≤Jb vs dp i d)):U0 vs sz dp (.mk k i nm l ks) d=1:=by
 unfold U0;exact if_neg h
theorem Rk {v:Tm}(h:0≤Jb vs dp i d) (hx:vs[(Jb vs dp i d).toNat]?=some v):LJ vs dp (.mk k i nm l ks) d=Ky (wr (dp+d)) 0 v:=by
 unfold LJ;refine(if_pos h).trans ?_;rw[List.getD_eq_getElem?_getD];exact(congrArg (fun o=>Ky (wr (dp+d)) 0 (Option.getD o Bc)) hx)
theorem VJ (h:¬0≤Jb vs dp i d) (h2:wr (i - d)<dp):LJ vs dp (.mk k i nm l ks) d= .ok (.mk k i nm l []):=by
 unfold LJ;exact(if_neg h).trans ((if_pos h2).trans rfl)
theorem Uj (h:¬0≤Jb vs dp i d) (h2:¬wr (i - d)<dp):LJ vs dp (.mk k i nm l ks) d=Ie (wr (i - vs.length)):=by
 unfold LJ;exact(if_neg h).trans (if_neg h2)
end
theorem I0 {t:Tm}{vs:List Tm}{dp e:Int}(h:J8 vs dp t= .error e):Fy t vs dp=(Bc,e):=by unfold Fy;rw[h]
theorem P0 {t x:Tm}{vs:List Tm}{dp:Int}(h:J8 vs dp t= .ok x) (hd:Et x > 200):Fy t vs dp=(Bc,7):=by unfold Fy;rw[h];exact if_pos hd
theorem TR {t x:Tm}{vs:List Tm}{dp:Int}(h:J8 vs dp t= .ok x) (hd:¬Et x > 200):Fy t vs dp=(x,0):=by unfold Fy;rw[h];exact if_neg hd
theorem Mn {t x:Tm}{vs:List Tm}{dp:Int}{a:Tm×Int}{b:Unit}(h1:D1 (Ry vs (vs.map fun v=>(size v:Int)) dp) t 0 0= .ok a) (h2:D1 (KF (LJ vs dp)) t 0 ()= .ok (x,b)):J8 vs dp t= .ok x:=by
 unfold J8;rw[h1];exact Q4 h2
theorem Pu {t:Tm}{vs:List Tm}{dp e:Int}(h1:D1 (Ry vs (vs.map fun v=>(size v:Int)) dp) t 0 0= .error e):J8 vs dp t= .error e:=by
 unfold J8;rw[h1];rfl
theorem P5 {t:Tm}{vs:List Tm}{dp e:Int}{a:Tm×Int}(h1:D1 (Ry vs (vs.map fun v=>(size v:Int)) dp) t 0 0= .ok a) (h2:D1 (KF (LJ vs dp)) t 0 ()= .error e):J8 vs dp t= .error e:=by
 unfold J8;rw[h1];exact Pl h2
theorem Xj:∀{ts:List Tm},(∀t∈ts,Nd t)→MJ ts
 | [],_=>trivial
 | t::ts,h=>⟨h t Ao,Xj fun x hx=>h x (by simp[hx])⟩
section
variable {σ:Type}{vis:σ→Tm→Int→Except Int ((Tm×Bool)×σ)}
mutual
theorem PL (hv:∀s t d r,Nd t→Vp t→vis s t d= .ok r→Nd r.1.1):∀(t:Tm) (d:Int) (s:σ) (r:Tm×σ),Nd t→Vp t→D1 vis t d s= .ok r→Nd r.1
 | .mk k i n l ks,d,s,r,h1,h2,h=>by
  unfold D1 Dm at h;split at h
  ·cases h
  rename_i r1 hr;have hn:=hv _ _ _ _ h1 h2 hr;simp only at h;split at h
  ·injection h with h;subst h;exact hn
  split at h
  ·cases h
  rename_i q hq;injection h with h;subst h;obtain⟨g1,g2⟩:=Rj hv ks k 0 d r1.2 q h1.2.2.2.2.1 h2.2 hq;obtain⟨⟨o,dn⟩,q1⟩:=r1;obtain⟨ok,oi,on,ol,os⟩:=o;exact⟨hn.1,hn.2.1,hn.2.2.1,by rw[g2];exact h1.2.2.2.1,g1,hn.2.2.2.2.2⟩
theorem Rj (hv:∀s t d r,Nd t→Vp t→vis s t d= .ok r→Nd r.1.1):∀(ts:List Tm) (k:Int) (j:Nat) (d:Int) (s:σ) (r:List Tm×σ),MJ ts→Sy ts→Dw vis k j ts d s= .ok r→MJ r.1∧r.1.length=ts.length
 | [],k,j,d,s,r,h1,h2,h=>by
  unfold Dw at h;injection h with h;subst h;exact⟨trivial,rfl⟩
 | t::ts,k,j,d,s,r,h1,h2,h=>by
  unfold Dw Dm at h;split at h
  ·cases h
  rename_i r1 hr;simp only at h;split at h
  ·cases h
  rename_i q hq;injection h with h;subst h;obtain⟨g1,g2⟩:=Rj hv ts k (j+1) d r1.2 q h1.2 h2.2 hq;exact⟨⟨PL hv t _ _ _ h1.1 h2.1 hr,g1⟩,by simp[g2]⟩
end
end
theorem Rf {t:Tm}(h:Nd t):Nd (Pb t):=by
 obtain⟨k,i,n,l,ks⟩:=t;exact⟨h.1,h.2.1,h.2.2.1,by decide,trivial,h.2.2.2.2.2⟩
theorem VM {i:Int}{x:Tm}(hi: -9223372036854775808≤i) (h:Ie i= .ok x):Nd x:=by
 unfold Ie at h;split at h
 ·cases h
 injection h with h;subst h;exact⟨by decide,by decide,by simp,by decide,trivial,⟨by decide,by decide⟩,⟨hi,by omega⟩⟩
theorem Y5 {rep:Tm→Int→Except Int Tm}(hr:∀t d x,Nd t→Vp t→t.kind=0→rep t d= .ok x→Nd x):∀(s:Unit) (t:Tm) (d:Int) (r:(Tm×Bool)×Unit),Nd t→Vp t→KF rep s t d= .ok r→Nd r.1.1:=by
 intro s t d r h1 h2 h;unfold KF at h;split at h
 ·rename_i hk;unfold M5 at h;split at h
  ·cases h
  rename_i x hx;injection h with h;subst h;exact hr t d x h1 h2 hk hx
 injection h with h;subst h;exact Rf h1
theorem Zp {b fr:Int}{t x:Tm}(hb:Iz b) (h1:Nd t) (h2:Vp t) (h:Ky b fr t= .ok x):Nd x:=by
 unfold Ky M5 at h;split at h
 ·cases h
 rename_i r hr;injection h with h;subst h;refine PL (Y5 ?_) t 0 () r h1 h2 hr;intro t d x g1 g2 g3 g;obtain⟨k,i,n,l,ks⟩:=t;have hi:=g2.1 g3;unfold YV at g;split at g
 ·injection g with g;subst g;exact Rf g1
 split at g
 ·cases g
 exact VM (by have:=hb.1;simp only[Tm.index];omega) g
theorem jf {vs:List Tm}{dp:Int}{t x:Tm}{u:Unit}(hv:MJ vs) (hp:Sy vs) (h1:Nd t) (h2:Vp t) (h:D1 (KF (LJ vs dp)) t 0 ()= .ok (x,u)):Nd x:=by
 refine PL (Y5 ?_) t 0 () (x,u) h1 h2 h;intro t d x g1 g2 g3 g;unfold LJ at g;split at g
 ·rename_i h0;have hl:=UZ h0;obtain⟨v,hx⟩:=A6 (l:=vs) (i:=(Jb vs dp t.index d).toNat) An;rw[List.getD_eq_getElem?_getD,hx] at g;exact Zp (X0 _) (DQ hv hx) (Ml hp hx) g
 split at g
 ·injection g with g;subst g;exact Rf g1
 exact VM (X0 _).1 g
theorem lQ {vs:List Tm}{i:Nat}{x:Tm}(hx:vs[i]?=some x):(((vs.take i).map fun v=>(size v:Int))++List.replicate (vs.length - i) 0).set i (size x:Int)=((vs.take (i+1)).map fun v=>(size v:Int))++List.replicate (vs.length - (i+1)) 0:=by
 have hi:i<vs.length:=by
  rcases Nat.lt_or_ge i vs.length with h | h
  ·exact h
  rw[List.getElem?_eq_none h] at hx;cases hx
 obtain⟨m,hm⟩:∃m,vs.length - i=m+1:=⟨vs.length - i - 1,by omega⟩;have hl:((vs.take i).map fun v=>(size v:Int)).length=i:=by simp;omega
 rw[List.take_add_one,hx,hm,show vs.length - (i+1)=m by omega,List.replicate_succ,List.set_append_right _ _ An,hl];simp
theorem pc {vs:List Tm}{i:Nat}(h:vs.length≤i):((vs.take i).map fun v=>(size v:Int))++List.replicate (vs.length - i) 0=vs.map fun v=>(size v:Int):=by
 rw[List.take_of_length_le h,show vs.length - i=0 by omega];simp
theorem ZT {k i:Int}{n:ByteArray}{l:List CV}{ks:List Tm}(h:Wt (.mk k i n l ks)) (hk:k=0):ks=[]:=by
 have:=h.1;subst hk;cases ks with
 | nil=>rfl
 | cons a b=>simp[arity] at this;omega
def FR (x:Tm×Int):Except Int (Tm×Unit):=if x.2=0 then .ok (x.1,()) else .error x.2
def G6 (x:List Tm×Int):Except Int (List Tm×Unit):=if x.2=0 then .ok (x.1,()) else .error x.2
theorem Wq {er e:Int}(h:er≠0):Gf er e=er:=by unfold Gf;rw[if_neg h]
theorem Y3 {er i:Int}(h:er≠0):Nq er i=er:=by unfold Nq;split<;>simp[Wq h]
mutual
theorem Sz (b fr:Int):∀(t:Tm) (d er:Int),er≠0→(Cg b fr d er t).2=er
 | .mk k i n l ks,d,er,h=>by
  unfold Cg;split
  ·split
   ·rfl
   split
   ·exact Wq h
   exact Y3 h
  exact K9 b fr k ks d 0 er h
theorem K9 (b fr k:Int):∀(ts:List Tm) (d:Int) (j:Nat) (er:Int),er≠0→(DB b fr k d j er ts).2=er
 | [],d,j,er,h=>rfl
 | t::ts,d,j,er,h=>by
  unfold DB;simp only;rw[Sz b fr t _ er h];exact K9 b fr k ts d (j+1) er h
end
mutual
theorem TM (b:Int) (hb:0≤b) (hb2:b<4398046511104):∀(t:Tm) (d:Int),Wt t→Vp t→0≤d→d+size t<2199023255552→D1 (KF (YV b 0)) t d ()=FR (Cg b 0 d 0 t)
 | .mk k i n l ks,d,h1,h2,h3,h4=>by
  by_cases hk:k=0
  ·have hks:=ZT h1 hk;have hi:=h2.1 hk;have e1:wr (0+d)=d:=by rw[Int.zero_add];exact EY (by unfold Iz;omega)
   have e2:wr (i+b)=i+b:=EY (by unfold Iz;omega);by_cases hlo:i - d<0
   ·rw[GN (MX hk (Yk hlo))];unfold Cg;rw[if_pos hk,e1,if_pos An];subst hks;rfl
   have hsh:YV b 0 (.mk k i n l ks) d=Ie (i+b):=W0 hlo An;unfold Cg;rw[if_pos hk,e1,if_neg An,e2,if_neg An];by_cases hbig:i+b > 65535
   ·rw[Hz (Oj hk (hsh.trans (if_pos hbig)))];unfold FR Nq Gf;simp[hbig]
   rw[GN (MX hk (hsh.trans (if_neg hbig)))];unfold FR Nq;simp[hbig]
  have hs:d+Ba ks<2199023255551:=by simp only[size] at h4;omega
  have hL:=RE b hb hb2 k ks d 0 h1.2.2 h2.2 h3 hs;unfold Cg;rw[if_neg hk];unfold G6 at hL;unfold FR;by_cases he:(DB b 0 k d 0 0 ks).2=0
  ·rw[if_pos he] at hL;rw[if_pos he];exact IF (OS hk) hL
  rw[if_neg he] at hL;rw[if_neg he];exact Js (OS hk) hL
theorem RE (b:Int) (hb:0≤b) (hb2:b<4398046511104) (k:Int):∀(ts:List Tm) (d:Int) (j:Nat),Nt ts→Sy ts→0≤d→d+Ba ts<2199023255551→Dw (KF (YV b 0)) k j ts d ()=G6 (DB b 0 k d j 0 ts)
 | [],d,j,h1,h2,h3,h4=>rfl
 | t::ts,d,j,h1,h2,h3,h4=>by
  have hbl:=C0 k j;simp only[Ba] at h4;have hT:=TM b hb hb2 t (d+below k j) h1.1 h2.1 An An;have hL:=RE b hb hb2 k ts d (j+1) h1.2 h2.2 h3 An;unfold Dw DB;rw[hT];unfold FR G6 Dm;by_cases he:(Cg b 0 (d+below k j) 0 t).2=0
  ·rw[if_pos he];simp only;rw[hL,he];unfold G6;by_cases hq:(DB b 0 k d (j+1) 0 ts).2=0
   ·rw[if_pos hq,if_pos hq]
   rw[if_neg hq,if_neg hq]
  rw[if_neg he];simp only;rw[K9 b 0 k ts d (j+1) _ he,if_neg he]
end
theorem aY {b:Int}{v:Tm}(hb:0≤b) (hb2:b<4398046511104) (h1:Wt v) (h2:Vp v) (h3:size v<1099511627776):Ky b 0 v=if (Cg b 0 0 0 v).2=0 then .ok (Cg b 0 0 0 v).1 else .error (Cg b 0 0 0 v).2:=by
 unfold Ky;rw[TM b hb hb2 v 0 h1 h2 An An];unfold FR;split<;>rfl
section
variable {vs:List Tm}{d er nd k i:Int}{n:ByteArray}{l:List CV}{ks:List Tm}
theorem NP {t:Tm}(h:nd > 4096):CB vs d er nd t=(t,er,nd):=by
 obtain⟨k,i,n,l,ks⟩:=t;unfold CB;rw[if_pos h]
theorem Jr (h:nd > 4096):∀(ts:List Tm) (d:Int) (j:Nat),Ca vs k d j er nd ts=(ts,er,nd)
 | [],d,j=>rfl
 | t::ts,d,j=>by unfold Ca;rw[NP h];simp only;rw[Jr h ts d (j+1)]
theorem NO {v:Tm}(h:nd≤4096) (hk:k=0) (h1:i≥d) (h2:i - d<(vs.length:Int)) (hv:vs[(i - d).toNat]?=some v):CB vs d er nd (.mk k i n l ks)=((Cg d 0 0 er v).1,(Cg d 0 0 er v).2,wr (nd+Ek v)):=by
 unfold CB;rw[if_neg An,if_pos ⟨hk,h1,h2⟩,List.getD_eq_getElem?_getD,hv];rfl
theorem PY (h:nd≤4096) (hk:k=0) (h1:i≥d) (h2:¬i - d<(vs.length:Int)):CB vs d er nd (.mk k i n l ks)=(PK (wr (i - vs.length)),Nq er (wr (i - vs.length)),wr (nd+1)):=by
 unfold CB;rw[if_neg An,if_neg An,if_pos hk,if_pos h1]
theorem NX (h:nd≤4096) (hk:k=0) (h1:¬i≥d):CB vs d er nd (.mk k i n l ks)=(.mk k i n l ks,er,wr (nd+1)):=by
 unfold CB;rw[if_neg An,if_neg An,if_pos hk,if_neg h1]
theorem MO (h:nd≤4096) (hk:k≠0):CB vs d er nd (.mk k i n l ks)=((.mk k i n l (Ca vs k d 0 er (wr (nd+1)) ks).1),(Ca vs k d 0 er (wr (nd+1)) ks).2):=by
 unfold CB;rw[if_neg An,if_neg An,if_neg hk]
end
mutual
theorem Z1 (vs:List Tm):∀(t:Tm) (d er nd:Int),er≠0→(CB vs d er nd t).2.1=er
 | .mk k i n l ks,d,er,nd,h=>by
  unfold CB;split
  ·rfl
  split
  ·exact Sz _ _ _ _ _ h
  split
  ·split
   ·exact Y3 h
   rfl
  exact K3 vs k ks d 0 er _ h
theorem K3 (vs:List Tm) (k:Int):∀(ts:List Tm) (d:Int) (j:Nat) (er nd:Int),er≠0→(Ca vs k d j er nd ts).2.1=er
 | [],d,j,er,nd,h=>rfl
 | t::ts,d,j,er,nd,h=>by
  unfold Ca;simp only;rw[Z1 vs t _ er nd h];exact K3 vs k ts d (j+1) er _ h
end
structure QJ (vs:List Tm) (dp:Int):Prop where
 wt:Nt vs
 vp:Sy vs
 sz:∀x∈vs,size x<1099511627776
 len:vs.length<1099511627776
 lo:0≤dp
 hi:dp≤65536
theorem QJ.size {vs:List Tm}{dp:Int}(V:QJ vs dp):∀x∈vs,(size x:Int)≤1099511627776:=fun x hx=>by have:=V.sz x hx;omega
theorem YY {vs:List Tm}{dp i d:Int}(V:QJ vs dp) (h1:0≤i) (h2:i<1099511627776) (h3:0≤d) (h4:d<2199023255552):Jb vs dp i d=if dp+d≤i∧i - (dp+d)<(vs.length:Int) then i - (dp+d) else -1:=by
 have:=V.lo;have:=V.hi;have e1:wr (i - d)=i - d:=EY (by unfold Iz;omega);have e2:wr (i - d - dp)=i - (dp+d):=by rw[EY (by unfold Iz;omega)];omega
 unfold Jb;rw[e1,e2];by_cases h:dp+d≤i∧i - (dp+d)<(vs.length:Int)
 ·rw[if_pos h,if_pos An]
 rw[if_neg h,if_neg An]
theorem Yw {n m:Int}(h1:0≤n) (h2:n≤4096) (h3:0≤m) (h4:m≤1099511627776):VB n m=if n+m > 4096 then .error 5 else .ok (n+m):=by
 unfold VB;rw[show wr (n+m)=n+m from EY (by unfold Iz;omega)]
def kp {α:Type}(x:Except Int (α×Int)) (m:Int):Prop:=(m > 4096→x= .error 5)∧(m≤4096→∃z,x= .ok (z,m))
def mE (vs:List Tm):List Int:=vs.map fun v=>(size v:Int)
theorem gM {vs:List Tm}{i:Nat}{v:Tm}(h:vs[i]?=some v):(mE vs)[i]?=some (size v:Int):=by simp[mE,h]
mutual
theorem ZH {vs:List Tm}{dp:Int}(V:QJ vs dp):∀(t:Tm) (d er nd:Int),Wt t→Vp t→0≤d→d+size t<2199023255552→0≤nd→nd≤4096→kp (D1 (Ry vs (mE vs) dp) t d nd) (CB vs (dp+d) er nd t).2.2
 | .mk k i n l ks,d,er,nd,h1,h2,h3,h4,h5,h6=>by
  have hone:∀m:Int,0≤m→m≤1099511627776→U0 vs (mE vs) dp (.mk k i n l ks) d=m→k=0→kp (D1 (Ry vs (mE vs) dp) (.mk k i n l ks) d nd) (wr (nd+m)):=by
   intro m g1 g2 g3 hk;have ha:=Yw h5 h6 g1 g2;rw[show wr (nd+m)=nd+m from EY (by unfold Iz;omega)];refine⟨fun h=>?_,fun h=>?_⟩
   ·rw[if_pos h] at ha;exact Hz (Ol g3 ha)
   rw[if_neg An] at ha;refine⟨Bc,GN ?_⟩;rw[QX g3 ha,hk];rfl
  by_cases hk:k=0
  ·have hi:=h2.1 hk;have hd:d<2199023255552:=by have:=size_pos (Tm.mk k i n l ks);omega
   have hv:=YY V hi.1 hi.2 h3 hd;by_cases hin:dp+d≤i∧i - (dp+d)<(vs.length:Int)
   ·rw[if_pos hin] at hv;obtain⟨v,hx⟩:=A6 (l:=vs) (i:=(i - (dp+d)).toNat) An;have hsv:=V.sz v (List.mem_of_getElem? hx);rw[NO h6 hk hin.1 hin.2 hx,OB An];exact hone _ An An (RY ⟨hk,by omega⟩ (by rw[hv];exact gM hx)) hk
   rw[if_neg hin] at hv;have hc:=hone 1 An An (QZ An) hk;by_cases hge:i≥dp+d
   ·rw[PY h6 hk hge An];exact hc
   rw[NX h6 hk hge];exact hc
  rw[MO h6 hk];have hs:d+Ba ks<2199023255551:=by simp only[size] at h4;omega
  have e1:wr (nd+1)=nd+1:=EY (by unfold Iz;omega);have ha:=Yw (m:=1) h5 h6 An An;have hn:U0 vs (mE vs) dp (.mk k i n l ks) d=1:=QZ An;have hdec:decide (k=0)=false:=by simp[hk]
  simp only;rw[e1];by_cases hbig:nd+1 > 4096
  ·rw[Jr hbig];rw[if_pos hbig] at ha;exact⟨fun _=>Hz (Ol hn ha),fun h=>by simp only at h;omega⟩
  rw[if_neg hbig] at ha;have hc:=QX (l:=l) hn ha;rw[hdec] at hc;obtain⟨g1,g2⟩:=Vb V k ks d 0 er (nd+1) h1.2.2 h2.2 h3 hs An An;refine⟨fun h=>Js hc (g1 h),fun h=>?_⟩;obtain⟨z,hz⟩:=g2 h;exact⟨_,IF hc hz⟩
theorem Vb {vs:List Tm}{dp:Int}(V:QJ vs dp) (k:Int):∀(ts:List Tm) (d:Int) (j:Nat) (er nd:Int),Nt ts→Sy ts→0≤d→d+Ba ts<2199023255551→0≤nd→nd≤4096→kp (Dw (Ry vs (mE vs) dp) k j ts d nd) (Ca vs k (dp+d) j er nd ts).2.2
 | [],d,j,er,nd,h1,h2,h3,h4,h5,h6=>⟨fun h=>by simp only[Ca] at h;omega,fun _=>⟨_,rfl⟩⟩
 | t::ts,d,j,er,nd,h1,h2,h3,h4,h5,h6=>by
  have hbl:=C0 k j;simp only[Ba] at h4;obtain⟨g1,g2⟩:=ZH V t (d+below k j) er nd h1.1 h2.1 An An h5 h6;have hm:=(Jl 1099511627776 An An t vs (dp+d+below k j) er nd h1.1 V.wt V.size h5 An).1;rw[show dp+(d+below k j)=dp+d+below k j by omega] at g1 g2;unfold Dw Ca;simp only;by_cases hbig:(CB vs (dp+d+below k j) er nd t).2.2 > 4096
  ·rw[g1 hbig,Jr hbig];exact⟨fun _=>O,fun h=>by simp only at h;omega⟩
  obtain⟨z,hz⟩:=g2 An;rw[hz];obtain⟨f1,f2⟩:=Vb V k ts d (j+1) (CB vs (dp+d+below k j) er nd t).2.1 (CB vs (dp+d+below k j) er nd t).2.2 h1.2 h2.2 h3 An An An;refine⟨fun h=>?_,fun h=>?_⟩
  ·simp only[Dm];rw[f1 h]
  obtain⟨y,hy⟩:=f2 h;exact⟨z::y,by simp only[Dm];rw[hy]⟩
end
mutual
theorem ZU {vs:List Tm}{dp:Int}(V:QJ vs dp):∀(t:Tm) (d nd:Int),Wt t→Vp t→0≤d→d+size t<2199023255552→0≤nd→(CB vs (dp+d) 0 nd t).2.2≤4096→D1 (KF (LJ vs dp)) t d ()=FR ((CB vs (dp+d) 0 nd t).1,(CB vs (dp+d) 0 nd t).2.1)
 | .mk k i n l ks,d,nd,h1,h2,h3,h4,h5,h6=>by
  have h7:nd≤4096:=by
   rcases Int.lt_or_le 4096 nd with h | h
   ·rw[NP h] at h6;simp only at h6;omega
   exact h
  have:=V.lo;have:=V.hi;have:=V.len;by_cases hk:k=0
  ·have hi:=h2.1 hk;have hks:=ZT h1 hk;have hd:d<2199023255552:=by have:=size_pos (Tm.mk k i n l ks);omega
   have hv:=YY V hi.1 hi.2 h3 hd;by_cases hin:dp+d≤i∧i - (dp+d)<(vs.length:Int)
   ·rw[if_pos hin] at hv;obtain⟨v,hx⟩:=A6 (l:=vs) (i:=(i - (dp+d)).toNat) An;have hsv:=V.sz v (List.mem_of_getElem? hx);rw[NO h7 hk hin.1 hin.2 hx];have hr:LJ vs dp (.mk k i n l ks) d=Ky (wr (dp+d)) 0 v:=Rk An (by rw[hv];exact hx);rw[show wr (dp+d)=dp+d from EY (by unfold Iz;omega),aY An An (Qq V.wt hx) (Ml V.vp hx) hsv] at hr;unfold FR;by_cases he:(Cg (dp+d) 0 0 0 v).2=0
    ·rw[if_pos he] at hr;rw[if_pos he];exact GN (MX hk hr)
    rw[if_neg he] at hr;rw[if_neg he];exact Hz (Oj hk hr)
   rw[if_neg hin] at hv;have e1:wr (i - d)=i - d:=EY (by unfold Iz;omega);by_cases hge:i≥dp+d
   ·rw[PY h7 hk hge An];have hr:LJ vs dp (.mk k i n l ks) d=Ie (wr (i - vs.length)):=Uj An (by rw[e1];omega);unfold Ie at hr;unfold FR Nq Gf;by_cases hbig:wr (i - vs.length) > 65535
    ·rw[if_pos hbig] at hr;simp only[hbig,if_true];exact Hz (Oj hk hr)
    rw[if_neg hbig] at hr;simp only[hbig,if_false,if_true];exact GN (MX hk hr)
   rw[NX h7 hk hge];have hr:LJ vs dp (.mk k i n l ks) d= .ok (.mk k i n l []):=VJ An (by rw[e1];omega);subst hks;exact GN (MX hk hr)
  rw[MO h7 hk] at h6 ⊢;have hs:d+Ba ks<2199023255551:=by simp only[size] at h4;omega
  have e1:wr (nd+1)=nd+1:=EY (by unfold Iz;omega);simp only at h6 ⊢;rw[e1] at h6 ⊢;have hL:=VF V k ks d 0 (nd+1) h1.2.2 h2.2 h3 hs An h6;unfold G6 at hL;unfold FR;by_cases he:(Ca vs k (dp+d) 0 0 (nd+1) ks).2.1=0
  ·rw[if_pos he] at hL;rw[if_pos he];exact IF (OS hk) hL
  rw[if_neg he] at hL;rw[if_neg he];exact Js (OS hk) hL
theorem VF {vs:List Tm}{dp:Int}(V:QJ vs dp) (k:Int):∀(ts:List Tm) (d:Int) (j:Nat) (nd:Int),Nt ts→Sy ts→0≤d→d+Ba ts<2199023255551→0≤nd→(Ca vs k (dp+d) j 0 nd ts).2.2≤4096→Dw (KF (LJ vs dp)) k j ts d ()=G6 ((Ca vs k (dp+d) j 0 nd ts).1,(Ca vs k (dp+d) j 0 nd ts).2.1)
 | [],d,j,nd,h1,h2,h3,h4,h5,h6=>rfl
 | t::ts,d,j,nd,h1,h2,h3,h4,h5,h6=>by
  have hbl:=C0 k j;simp only[Ba] at h4;have h7:nd≤4096:=by
   rcases Int.lt_or_le 4096 nd with h | h
   ·rw[Jr h] at h6;simp only at h6;omega
   exact h
  have hm:=(Jl 1099511627776 An An t vs (dp+d+below k j) 0 nd h1.1 V.wt V.size h5 An);unfold Ca at h6;simp only at h6;have hm2:=(K1 1099511627776 An An ts vs k (dp+d) (j+1) (CB vs (dp+d+below k j) 0 nd t).2.1 (CB vs (dp+d+below k j) 0 nd t).2.2 h1.2 V.wt V.size An hm.2.1).1;have hT:=ZU V t (d+below k j) nd h1.1 h2.1 An An h5 (by rw[show dp+(d+below k j)=dp+d+below k j by omega];omega);rw[show dp+(d+below k j)=dp+d+below k j by omega] at hT;unfold Dw Ca;rw[hT];simp only;unfold FR G6 Dm;by_cases he:(CB vs (dp+d+below k j) 0 nd t).2.1=0
  ·have hL:=VF V k ts d (j+1) (CB vs (dp+d+below k j) 0 nd t).2.2 h1.2 h2.2 h3 An An (by rw[he] at h6;exact h6);simp only;rw[if_pos he];simp only;rw[hL,he];unfold G6;by_cases hq:(Ca vs k (dp+d) (j+1) 0 (CB vs (dp+d+below k j) 0 nd t).2.2 ts).2.1=0
   ·simp only[hq,if_true]
   simp only[hq,if_false]
  simp only;rw[if_neg he];simp only;rw[K3 vs k ts (dp+d) (j+1) _ _ he,if_neg he]
end
theorem ZX {t:Tm}{vs:List Tm}{dp:Int}(V:QJ vs dp) (h1:Wt t) (h2:Vp t) (h3:size t<1099511627776):Fy t vs dp=CJ t vs dp:=by
 have:=V.lo;have:=V.hi;have hmin:min dp 65536=dp:=by omega
 obtain⟨g1,g2⟩:=ZH V t 0 0 0 h1 h2 An An An An;rw[Int.add_zero] at g1 g2;unfold CJ;rw[hmin];by_cases hbig:(CB vs dp 0 0 t).2.2 > 4096
 ·rw[if_pos hbig];exact I0 (Pu (g1 hbig))
 rw[if_neg hbig];obtain⟨z,hz⟩:=g2 An;have hr:=ZU V t 0 0 h1 h2 An An An (by rw[Int.add_zero];omega);rw[Int.add_zero] at hr;unfold FR at hr;simp only at hr;by_cases he:(CB vs dp 0 0 t).2.1=0
 ·rw[if_pos he] at hr;rw[if_neg An];by_cases hd:Et (CB vs dp 0 0 t).1 > 200
  ·rw[if_pos hd];exact P0 (Mn hz hr) hd
  rw[if_neg hd];exact TR (Mn hz hr) hd
 rw[if_neg he] at hr;rw[if_pos he];exact I0 (P5 hz hr)
theorem dI {i:Int}(h0:0≤i) (h1:i≤65535):Vp (PK i):=⟨fun _=>⟨h0,by omega⟩,trivial⟩
theorem UO:Vp Bc:=⟨fun _=>⟨by omega,by omega⟩,trivial⟩
mutual
theorem TS (b:Int) (hb:0≤b) (hb2:b<4398046511104):∀(t:Tm) (d:Int),Vp t→0≤d→d+size t<4398046511104→(Cg b 0 d 0 t).2=0→Vp (Cg b 0 d 0 t).1
 | .mk k i n l ks,d,h,hd,hd2,he=>by
  by_cases hk:k=0
  ·have hi:=h.1 hk;have e1:wr (0+d)=d:=by rw[Int.zero_add];exact EY (by unfold Iz;omega)
   have e2:wr (i+b)=i+b:=EY (by unfold Iz;omega);unfold Cg at he ⊢;rw[if_pos hk,e1,e2] at he ⊢;by_cases hlo:i<d
   ·rw[if_pos hlo];exact h
   rw[if_neg hlo,if_neg An] at he ⊢;unfold Nq Gf at he;by_cases hbig:i+b > 65535
   ·simp[hbig] at he
   exact dI An An
  unfold Cg at he ⊢;rw[if_neg hk] at he ⊢;simp only[size] at hd2;exact⟨fun h=>absurd h hk,SB b hb hb2 k ks d 0 h.2 hd An he⟩
theorem SB (b:Int) (hb:0≤b) (hb2:b<4398046511104) (k:Int):∀(ts:List Tm) (d:Int) (j:Nat),Sy ts→0≤d→d+Ba ts<4398046511103→(DB b 0 k d j 0 ts).2=0→Sy (DB b 0 k d j 0 ts).1
 | [],d,j,h,hd,hd2,he=>trivial
 | t::ts,d,j,h,hd,hd2,he=>by
  have hbl:=C0 k j;simp only[Ba] at hd2;unfold DB at he ⊢;simp only at he ⊢;have h0:(Cg b 0 (d+below k j) 0 t).2=0:=by
   rcases Decidable.em ((Cg b 0 (d+below k j) 0 t).2=0) with h | h
   ·exact h
   rw[K9 b 0 k ts d (j+1) _ h] at he;exact he
  rw[h0] at he ⊢;exact⟨TS b hb hb2 t _ h.1 An An h0,SB b hb hb2 k ts d (j+1) h.2 hd An he⟩
end
mutual
theorem Tc {vs:List Tm}{dp:Int}(V:QJ vs dp):∀(t:Tm) (d nd:Int),Vp t→0≤d→d+size t<2199023255552→(CB vs (dp+d) 0 nd t).2.1=0→Vp (CB vs (dp+d) 0 nd t).1
 | .mk k i n l ks,d,nd,h,h3,h4,he=>by
  have:=V.lo;have:=V.hi;have:=V.len;rcases Int.lt_or_le 4096 nd with h7 | h7
  ·rw[NP h7];exact h
  by_cases hk:k=0
  ·have hi:=h.1 hk;by_cases hin:dp+d≤i∧i - (dp+d)<(vs.length:Int)
   ·obtain⟨v,hx⟩:=A6 (l:=vs) (i:=(i - (dp+d)).toNat) An;have hsv:=V.sz v (List.mem_of_getElem? hx);rw[NO h7 hk hin.1 hin.2 hx] at he ⊢;exact TS _ An An v 0 (Ml V.vp hx) An An he
   by_cases hge:i≥dp+d
   ·rw[PY h7 hk hge An] at he ⊢;have e:wr (i - vs.length)=i - vs.length:=EY (by unfold Iz;omega);simp only[e] at he ⊢;unfold Nq Gf at he;by_cases hbig:i - (vs.length:Int) > 65535
    ·simp[hbig] at he
    exact dI An An
   rw[NX h7 hk hge];exact h
  rw[MO h7 hk] at he ⊢;simp only[size] at h4;exact⟨fun h=>absurd h hk,RS V k ks d 0 _ h.2 h3 An he⟩
theorem RS {vs:List Tm}{dp:Int}(V:QJ vs dp) (k:Int):∀(ts:List Tm) (d:Int) (j:Nat) (nd:Int),Sy ts→0≤d→d+Ba ts<2199023255551→(Ca vs k (dp+d) j 0 nd ts).2.1=0→Sy (Ca vs k (dp+d) j 0 nd ts).1
 | [],d,j,nd,h,h3,h4,he=>trivial
 | t::ts,d,j,nd,h,h3,h4,he=>by
  have hbl:=C0 k j;simp only[Ba] at h4;unfold Ca at he ⊢;simp only at he ⊢;have h0:(CB vs (dp+d+below k j) 0 nd t).2.1=0:=by
   rcases Decidable.em ((CB vs (dp+d+below k j) 0 nd t).2.1=0) with h | h
   ·exact h
   rw[K3 vs k ts _ (j+1) _ _ h] at he;exact he
  rw[h0] at he ⊢;rw[show dp+d+below k j=dp+(d+below k j) by omega] at he h0 ⊢;exact⟨Tc V t _ nd h.1 An An h0,RS V k ts d (j+1) _ h.2 h3 An he⟩
end
theorem Zj {vs:List Tm}{dp:Int}(V:QJ vs dp) {t:Tm}(h:Vp t) (hs:size t<1099511627776):Vp (CJ t vs dp).1:=by
 have:=V.lo;have:=V.hi;have hmin:min dp 65536=dp:=by omega
 unfold CJ;rw[hmin];split
 ·exact UO
 split
 ·exact UO
 rename_i hne;split
 ·exact UO
 have:=Tc V t 0 0 h An An (by rw[Int.add_zero];exact Decidable.not_not.1 hne);rw[Int.add_zero] at this;exact this
structure I4 where
 dn:List (Int×Tm)
 op:List Int
 wk:Int
def pH (i:Int):List (Int×Tm)→Option Tm
 | []=>none
 | (j,x)::r=>if j=i then some x else pH i r
def pO (i:Int) (v:Tm):List (Int×Tm)→List (Int×Tm)
 | []=>[(i,v)]
 | (j,x)::r=>if j=i then (j,v)::r else (j,x)::pO i v r
def uV (l:List (Int×Tm)):List (Int×AV):=l.map fun p=>(p.1,TV p.2)
def pJ (x:Tm) (e:Int):Except Int Tm:=if e≠0∨kh x=true then .error 11 else .ok x
def kI:Tm→List Tm→Except Int (Tm×List Tm)
 | v,[]=> .ok (v,[])
 | v,a::l=>if v.kind=5 then Dm (pJ (Fy (v.kids.getD 1 Bc) [a] 0).1 (Fy (v.kids.getD 1 Bc) [a] 0).2) fun x=>kI x l else .ok (v,a::l)
def Ii (F:I4→Tm→Except Int (Tm×I4)):I4→List Tm→Except Int (List Tm×I4)
 | st,[]=> .ok ([],st)
 | st,t::ts=>Dm (F st t) fun r=>Dm (Ii F r.2 ts) fun q=> .ok (r.1::q.1,q.2)
def mB (F:I4→Tm→Except Int (Tm×I4)) (ms:List Mv) (st:I4) (i:Int):Except Int (Tm×I4) :=
 match pH i st.dn with
 | some v=> .ok (v,st)
 | none=>if i∈st.op then .error 22 else Dm (F { st with op:=st.op++[i] } (valueOf ms i)) fun r=> .ok (r.1,{ r.2 with dn:=pO i r.1 r.2.dn })
def mz (F:I4→Tm→Except Int (Tm×I4)) (ms:List Mv) (st:I4) (h:Tm):Except Int (Tm×I4) :=
 if known ms h=true then mB F ms st h.index else M5 (fun q=>(L1 h q.1,q.2)) (Ii F st h.kids)
def gA (ms:List Mv):Nat→I4→Tm→Except Int (Tm×I4)
 | 0,st,t=> .error 11
 | n+1,st,t =>
  if st.wk+1 > 8192000 then .error 11
  else Dm (mz (gA ms n) ms { st with wk:=st.wk+1 } (BA t).1) fun r =>
   Dm (Ii (gA ms n) r.2 (BA t).2) fun q =>
   Dm (if known ms (BA t).1=true then kI r.1 q.1 else .ok (r.1,q.1)) fun y =>
   M5 (fun z=>(z,q.2)) (pJ (apply y.1 y.2) 0)
structure Ok (S:Nat) (t:Tm):Prop where
 nd:Nd t
 vp:Vp t
 wt:Wt t
 sz:size t≤S
structure rJ (ms:List Mv) (st:I4):Prop where
 dn:∀p∈st.dn,Ok 4096 p.2
 w0:0≤st.wk
 w1:st.wk≤8192000
abbrev uY (l:List Tm):Prop:=∀x∈l,Ok 4096 x
def rY (st st':I4):Prop:=∀i,i∈st.op→i∈st'.op
def tJ (ms:List Mv) (B:Nat) (F:I4→Tm→Except Int (Tm×I4)):Prop:=∀st t r,Ok B t→rJ ms st→F st t= .ok r→Ok 4096 r.1∧rJ ms r.2∧rY st r.2
section
variable {F:I4→Tm→Except Int (Tm×I4)}{ms:List Mv}{st st':I4}{i e:Int}{z:Tm}
end
def Ui (F:I4→Tm→Except Int (Tm×I4)) (ts:List Tm) (q0:I4) (i:Nat) (ys:List Tm) (q:I4):Prop :=
 ys.length=i∧Ii F q0 ts=Dm (Ii F q (ts.drop i)) fun r=> .ok (ys++r.1,r.2)
section
variable {F:I4→Tm→Except Int (Tm×I4)}{ts ys:List Tm}{q0 q q':I4}{i:Nat}{x y:Tm}{e:Int}
theorem Ui.zero (F:I4→Tm→Except Int (Tm×I4)) (ts:List Tm) (q0:I4):Ui F ts q0 0 [] q0:=by
 refine⟨O,?_⟩;simp only[List.drop_zero,Dm];cases Ii F q0 ts<;>simp
theorem Ui.err (h:Ui F ts q0 i ys q) (hx:ts[i]?=some x) (hb:F q x= .error e):Ii F q0 ts= .error e:=by
 rw[h.2,Cj hx,Ii,hb];rfl
theorem Ui.succ (h:Ui F ts q0 i ys q) (hx:ts[i]?=some x) (hb:F q x= .ok (y,q')):Ui F ts q0 (i+1) (ys++[y]) q':=by
 refine⟨by simp[h.1],?_⟩;rw[h.2,Cj hx,Ii,hb];simp only[Dm];cases Ii F q' (ts.drop (i+1))<;>simp
theorem Ui.fin (h:Ui F ts q0 i ys q) (hi:ts.length≤i):Ii F q0 ts= .ok (ys,q):=by
 rw[h.2,List.drop_eq_nil_of_le hi,Ii];simp[Dm]
end
section
variable {ms:List Mv}{n:Nat}{dn:List (Int×Tm)}{op:List Int}{wk e:Int}{t v vv z h:Tm}{us ls ks:List Tm}{st1 st2:I4}
end
end Go.Eu
namespace Go.Abs
def iU {β:Type}(mkv:β→AV) (mkH:β→List BI):ER→List BI→Prop
 | .val v,H'=>∃b,v=mkv b∧H'=mkH b
 | .panic _,_=>False
section
variable {P:Program}{ops:Array Oper}{n:Nat}{τ₀ τ:Nat→AV}{D:List EN}{Q:Cx→Br→Prop}{opn:Nat→Bool}{k:Nat}{H:List BI}{dst:Option Tmp}{ty:TypeId}{pos:String}{aft:Array Edge}{c:Call}{f:Operand}{fid:FuncId}{first caps A:List AV}{β:Type}{mkv:β→AV}{mkH:β→List BI}
theorem Yh {r:Option Nat}(ho:ops[k]?=some ⟨dst,.call c,ty,pos,aft,none⟩) (hd:Gm dst n=true)
  (hc:c.callee= .value f) (hf:(ev τ f= .p (.fn fid)∧first=[]∧caps=[])∨ev τ f= .fn (.func fid) first caps) (h:Bo P fid A [] (iU mkv mkH)) (hA:F8 (first++c.args.toList.map (ev τ)++caps) A)
  (next:∀b,AL P r ops (k+1) ⟨n,put τ dst (mkv b),mkH b++H,D⟩ Q):AL P r ops k ⟨n,τ,H,D⟩ Q :=
 It ho hd hc hf (Hs:=[]) (Hf:=H) Ao (h.args hA) (.inl rfl) (fun v Hs' ⟨b,h1,h2⟩=>by subst h1;subst h2;exact next b) (fun _ _ h=>h.elim)
end
end Go.Abs
namespace Go.Eu
open Go.Abs
def Xe (ms:List Mv) (n:Nat) (t:Tm):Tm×Int :=
 match gA ms n ⟨[],[],0⟩ t with
 | .ok r=>(r.1,0)
 | .error e=>(Bc,e)
def s4 (ms:List Mv) (n:Nat) (t:Tm):List Int×Int:=if (Xe ms n t).2≠0 then ([],(Xe ms n t).2) else (XL [] (Xe ms n t).1,0)
mutual
def TP (p:Int→Int→ByteArray→List CV→Prop):Tm→Prop
 | .mk k i n l ks=>p k i n l∧jo p ks
def jo (p:Int→Int→ByteArray→List CV→Prop):List Tm→Prop
 | []=>True
 | t::ts=>TP p t∧jo p ts
end
section
variable {p q:Int→Int→ByteArray→List CV→Prop}
mutual
theorem TP.imp (h:∀k i n l,p k i n l→q k i n l):∀(t:Tm),TP p t→TP q t
 | .mk k i n l ks,ht=>⟨h _ _ _ _ ht.1,jo.imp h ks ht.2⟩
theorem jo.imp (h:∀k i n l,p k i n l→q k i n l):∀(ts:List Tm),jo p ts→jo q ts
 | [],_=>trivial
 | t::ts,ht=>⟨TP.imp h t ht.1,jo.imp h ts ht.2⟩
end
end
def s8 (ms:List Mv) (D:List Int) (k i:Int) (n:ByteArray) (l:List CV):Prop:=known ms (.mk k i n l [])=true→i∈D
abbrev KM (ms:List Mv) (D:List Int):Tm→Prop:=TP (s8 ms D)
abbrev nZ (ms:List Mv) (D:List Int):List Tm→Prop:=jo (s8 ms D)
theorem KM.mono {ms:List Mv}{D D':List Int}(h:∀i∈D,i∈D') {t:Tm}(ht:KM ms D t):KM ms D' t:=TP.imp (fun k i n l g e=>h _ (g e)) t ht
theorem nZ.mono {ms:List Mv}{D D':List Int}(h:∀i∈D,i∈D') {t:List Tm}(ht:nZ ms D t):nZ ms D' t:=jo.imp (fun k i n l g e=>h _ (g e)) t ht
theorem KM.head {ms:List Mv}{D:List Int}{h:Tm}(hk:known ms h=true) (ht:KM ms D h):h.index∈D:=by
 obtain⟨k,i,n,l,ks⟩:=h;exact ht.1 hk
theorem KM.kids {ms:List Mv}{D:List Int}{h:Tm}(ht:KM ms D h):nZ ms D h.kids:=by
 obtain⟨k,i,n,l,ks⟩:=h;exact ht.2
inductive Ord (ms:List Mv):List Int→Prop
 | nil:Ord ms []
 | snoc {D:List Int} {i:Int}:Ord ms D→i ∉ D→KM ms D (valueOf ms i)→Ord ms (D++[i])
theorem Ord.pre {ms:List Mv}{D:List Int}(h:Ord ms D):∀i∈D,∃D',Ord ms D'∧(∀j∈D',j∈D)∧i ∉ D'∧KM ms D' (valueOf ms i):=by
 induction h with
 | nil=>intro i hi;simp at hi
 | @snoc D j h1 h2 h3 ih =>
  intro i hi;rcases List.mem_append.1 hi with hi | hi
  ·obtain⟨D',a,b,c,d⟩:=ih i hi;exact⟨D',a,fun j hj=>List.mem_append_left _ (b j hj),c,d⟩
  simp at hi;subst hi;exact⟨D,h1,fun j hj=>List.mem_append_left _ hj,h2,h3⟩
def nE:Tm→List Tm→Tm×List Tm
 | v,[]=>(v,[])
 | v,a::l=>if v.kind=5 then nE (CJ (v.kids.getD 1 Bc) [a] 0).1 l else (v,a::l)
section
variable {F F':EP→Tm→Tm×Int×EP}
end
def mO (st:I4):List Int:=st.dn.map Prod.fst
def qc (ms:List Mv) (t v:Tm):Prop:=∃n ab c d,MC ms n ab c t=(v,0,d)∧d.over=false
structure rm (ms:List Mv) (ab:List Int) (st:I4):Prop where
 op:∀i,i∈st.op↔i∈mO st∨i∈ab
 ord:Ord ms (mO st)
 dis:∀i∈mO st,i ∉ ab
 val:∀p∈st.dn,qc ms (valueOf ms p.1) p.2
 ok:∀p∈st.dn,Ok 4096 p.2
 w0:0≤st.wk
def pot (ms:List Mv) (B:Nat) (st:I4):Int:=st.wk+(B*free ms st.op:Nat)
structure Step (ms:List Mv) (B:Nat) (ab:List Int) (st st':I4) (s:Nat):Prop where
 inv:rm ms ab st'
 mono:∀i∈mO st,i∈mO st'
 pot:pot ms B st'≤pot ms B st+s
theorem Step.trans {ms:List Mv}{B:Nat}{ab:List Int}{a b c:I4}{s s':Nat}(h:Step ms B ab a b s) (h':Step ms B ab b c s'):Step ms B ab a c (s+s') :=
 ⟨h'.inv,fun i hi=>h'.mono i (h.mono i hi),by have:=h.pot;have:=h'.pot;omega⟩
theorem Step.le {ms:List Mv}{B:Nat}{ab:List Int}{a b:I4}{s s':Nat}(h:Step ms B ab a b s) (hs:s≤s'):Step ms B ab a b s':=⟨h.inv,h.mono,by have:=h.pot;omega⟩
def uL (ms:List Mv) (B:Nat) (ab:List Int) (t:Tm) (s:Nat) (st:I4) (F:Tm×Int×EP) (G:Except Int (Tm×I4)):Prop :=
 (F.2.1=0∧∃st',G= .ok (F.1,st')∧Step ms B ab st st' s∧KM ms (mO st') t)∨(F.2.1=22∧F.1=Bc∧G= .error 22)
def th (ms:List Mv) (B:Nat) (ab:List Int) (ts:List Tm) (st:I4) (F:List Tm×Int×EP) (G:Except Int (List Tm×I4)):Prop :=
 (F.2.1=0∧∃st',G= .ok (F.1,st')∧Step ms B ab st st' (Ba ts)∧nZ ms (mO st') ts)∨(F.2.1=22∧G= .error 22)
def tf (m:Nat) (k i:Int) (n:ByteArray) (l:List CV):Prop:=k=12→0≤i∧i<(m:Int)
def qN (ms:List Mv) (k i:Int) (n:ByteArray) (l:List CV):Prop:=(k=12→0≤i∧i<(ms.length:Int)∧known ms (.mk k i n l [])=false)∧(k=4→i=0∧n=⟨#[]⟩∧l=[])
def tv (ms:List Mv) (B:Nat) (F:I4→Tm→Except Int (Tm×I4)):Prop:=∀st t r,Ok B t→rJ ms st→TP (tf ms.length) t→(∀p∈st.dn,TP (qN ms) p.2)→F st t= .ok r→TP (qN ms) r.1∧∀p∈r.2.dn,TP (qN ms) p.2
def tE (ms:List Mv) (F:I4→Tm→Except Int (Tm×I4)):Prop:=∀st t,TP (qN ms) t→F st t= .error 11∨∃st',F st t= .ok (t,st')
def tw (F:I4→Tm→Except Int (Tm×I4)):Prop:=∀st t e,F st t= .error e→e=11∨e=22
abbrev wide:Nat:=9223372036854775808
structure mV (l:CV):Prop where
 vars:l.vars.length<wide
 c:Iz l.const
 v:∀v∈l.vars,Iz v.index∧Iz v.plus
mutual
def Wd:Tm→Prop
 | .mk k i n ls ks=>n.size<wide∧ls.length<wide∧(∀l∈ls,mV l)∧ks.length<wide∧bU ks∧Iz k∧Iz i
def bU:List Tm→Prop
 | []=>True
 | t::ts=>Wd t∧bU ts
end
theorem QU:∀{ts:List Tm}{i:Nat}{t:Tm},bU ts→ts[i]?=some t→Wd t
 | [],i,t,_,h=>by simp at h
 | a::ts,0,t,hn,h=>by simp at h;subst h;exact hn.1
 | a::ts,i+1,t,hn,h=>by simp at h;exact QU hn.2 h
mutual
def Fw:Tm→Prop
 | .mk k i n ls ks=>n.size≤200∧ls.length≤20∧(∀l∈ls,l.vars.length≤20)∧mn ks
def mn:List Tm→Prop
 | []=>True
 | t::ts=>Fw t∧mn ts
end
theorem cX:∀{ts:List Tm},(∀t∈ts,Fw t)→mn ts
 | [],_=>trivial
 | t::ts,h=>⟨h t Ao,cX fun x hx=>h x (by simp[hx])⟩
def Zz:Tm→Prop
 | .mk k i n ls ks=>n.size≤200∧ls.length≤20∧(∀l∈ls,l.vars.length≤20)∧Ba ks≤200∧MJ ks∧mn ks
theorem l9 {t:Tm}(h:Wd t) (hf:Zz t):Nd t:=by
 obtain⟨k,i,n,ls,ks⟩:=t;obtain⟨h1,h2,h3,h4,h5⟩:=hf;have:=Fe ks;exact⟨by simp only[Dc];omega,by simp only[Dc];omega,fun l hl=>⟨by have:=h3 l hl;simp only[Dc];omega,(h.2.2.1 l hl).c,(h.2.2.1 l hl).v⟩,by simp only[Dc];omega,h5.1,h.2.2.2.2.2⟩
mutual
theorem Po:∀(t:Tm) (most:Int),-1152921504606846976≤most→most≤1152921504606846976→(size t:Int)≤1152921504606846976→0≤Eg t most∧Eg t most<size t∧(Eg t most≤most→Eg t most+1=size t)
 | .mk k i n l ks,most,h1,h2,h3=>by
  simp only[size] at h3 ⊢;unfold Eg;have:=PI ks most 0 h1 h2 An An;exact⟨this.1,by omega,fun h=>by have:=this.2.2 h;omega⟩
theorem PI:∀(ts:List Tm) (most n:Int),-1152921504606846976≤most→most≤1152921504606846976→0≤n→n+Ba ts≤1152921504606846976→n≤ET ts most n∧ET ts most n≤n+Ba ts∧(ET ts most n≤most→ET ts most n=n+Ba ts)
 | [],most,n,h1,h2,h3,h4=>by simp[ET,Ba]
 | t::ts,most,n,h1,h2,h3,h4=>by
  simp only[Ba] at h4 ⊢;have hp:=size_pos t;unfold ET;by_cases hm:n > most
  ·rw[if_pos hm];exact⟨by omega,by omega,by omega⟩
  rw[if_neg hm];have e1:wr (most - n)=most - n:=EY ⟨by omega,by omega⟩;have hT:=Po t (most - n) An An An;rw[e1];have e2:wr (1+Eg t (most - n))=1+Eg t (most - n):=EY ⟨by omega,by omega⟩;rw[e2];have e3:wr (n+(1+Eg t (most - n)))=n+(1+Eg t (most - n)):=EY ⟨by omega,by omega⟩;rw[e3];have hL:=PI ts most (n+(1+Eg t (most - n))) h1 h2 An An;refine⟨by omega,by omega,fun h=>?_⟩;have:=hL.2.2 h;have:=hT.2.2 An;omega
end
theorem ek {t:Tm}(h:Zz t):size t≤201:=by
 obtain⟨k,i,n,ls,ks⟩:=t;have:=h.2.2.2.1;simp only[size];omega
theorem Tp:∀(ts:List Tm) (most n:Int),0≤most→most≤1000→0≤n→n≤3000→(∀t∈ts,size t≤201)→n≤ET ts most n
 | [],most,n,h1,h2,h3,h4,hs=>by simp[ET]
 | t::ts,most,n,h1,h2,h3,h4,hs=>by
  have ht:=hs t Ao;unfold ET;by_cases hm:n > most
  ·rw[if_pos hm];omega
  rw[if_neg hm];have e1:wr (most - n)=most - n:=EY ⟨by omega,by omega⟩;have hT:=Po t (most - n) An An An;rw[e1];have e2:wr (1+Eg t (most - n))=1+Eg t (most - n):=EY ⟨by omega,by omega⟩;rw[e2];have e3:wr (n+(1+Eg t (most - n)))=n+(1+Eg t (most - n)):=EY ⟨by omega,by omega⟩;rw[e3];have hge:=Tp ts most (n+(1+Eg t (most - n))) h1 h2 An An (fun x hx=>hs x (by simp[hx]));omega
theorem Ts:∀(ts:List Tm) (most n:Int),0≤most→most≤1000→0≤n→n≤3000→(∀t∈ts,size t≤201)→ET ts most n≤most→ET ts most n=n+Ba ts
 | [],most,n,h1,h2,h3,h4,hs,h=>by simp[ET,Ba]
 | t::ts,most,n,h1,h2,h3,h4,hs,h=>by
  have ht:=hs t Ao;simp only[Ba];unfold ET at h ⊢;by_cases hm:n > most
  ·rw[if_pos hm] at h;omega
  rw[if_neg hm] at h ⊢;have e1:wr (most - n)=most - n:=EY ⟨by omega,by omega⟩;have hT:=Po t (most - n) An An An;rw[e1] at h ⊢;have e2:wr (1+Eg t (most - n))=1+Eg t (most - n):=EY ⟨by omega,by omega⟩;rw[e2] at h ⊢;have e3:wr (n+(1+Eg t (most - n)))=n+(1+Eg t (most - n)):=EY ⟨by omega,by omega⟩;rw[e3] at h ⊢;have hL:=Ts ts most (n+(1+Eg t (most - n))) h1 h2 An An (fun x hx=>hs x (by simp[hx])) h;have hge:=Tp ts most (n+(1+Eg t (most - n))) h1 h2 An An (fun x hx=>hs x (by simp[hx]));have:=hT.2.2 An;omega
structure XK (l:List Tm):Prop where
 sz:Ba l≤200
 nd:MJ l
 fw:mn l
theorem jt {l:List Tm}{m:Nat}(hm:l.length≤m) (hw:bU l) (hl:l.length<wide) (h:ET l 200 0≤200) (hc:∀j,j<m→∀t,l[j]?=some t→Zz t):XK l:=by
 have hf:∀t∈l,Zz t:=fun t ht=>by
  obtain⟨i,hi⟩:=K8 ht;exact hc i (by have:=(List.getElem?_eq_some_iff.1 hi).1;omega) t hi
 have:=Ts l 200 0 An An An An (fun t ht=>ek (hf t ht)) h;exact⟨by omega,Xj fun t ht=>by
  obtain⟨i,hi⟩:=K8 ht;exact l9 (QU hw hi) (hf t ht),cX fun t ht=>by
  obtain⟨k,i,n,ls,ks⟩:=t;have h5:=hf _ ht;exact⟨h5.1,h5.2.1,h5.2.2.1,h5.2.2.2.2.2⟩⟩
theorem Ws {l:List Tm}{m:Int}(hf:XK l) (hm:0≤m∧m≤1000) (h:ET l m 0≤m):(Ba l:Int)≤m:=by
 have:=hf.sz;have:=(PI l m 0 An An An An).2.2 h;omega
structure nD (m:Nat) (x:Mv):Prop where
 n1:Nd x.type
 n2:Nd x.value
 sz:size x.type+size x.value≤40
 w1:wf 0 m 0 x.type
 w2:x.known=true→wf 0 m 0 x.value
 w3:x.known=false→x.value=Bc
structure s6 (l:List Mv):Prop where
 len:l.length≤8
 all:∀m∈l,nD l.length m
structure rS (m:Nat) (ctx terms:List Tm):Prop where
 len:ctx.length≤6
 s1:Ba ctx≤60
 s2:Ba terms≤60
 n1:MJ ctx
 n2:MJ terms
 w2:∀t∈terms,wf ctx.length m 0 t
 w1:∀(i:Nat) (t:Tm),ctx[i]?=some t→wf i m 0 t
structure uP (x:Mv):Prop where
 w1:Wd x.type
 w2:Wd x.value
theorem Ok.mono {B B':Nat}{t:Tm}(h:Ok B t) (hb:B≤B'):Ok B' t:=⟨h.nd,h.vp,h.wt,Nat.le_trans h.sz hb⟩
end Go.Eu
