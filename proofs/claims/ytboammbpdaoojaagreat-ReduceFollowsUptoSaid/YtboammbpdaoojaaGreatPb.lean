/- Part of the proofs: an abstract program logic, plain models and contracts of functions. -/
import Derived.Test.YtboammbpdaoojaaGreatPa
import Derived.MapKept
set_option linter.unusedVariables false
set_option linter.unusedSimpArgs false
namespace Go.Abs
section
variable {P:Program}{ops:Array Oper}{n:Nat}{τ₀:Nat→AV}{D:List EG}{Q:Cs→Bq→Prop}{opn:Nat→Bool}{k:Nat}{τ:Nat→AV}{H:List BK}{rd:Yo}{ef:Yn}{effs:List Bool}{fx:List (Nat×Sp)}{dst:Option Tmp}{op:Op}{ty:TypeId}{pos:String}{aft:Array Edge}{v:AV}{H':List BK}
theorem HC {cs:List AV}(fx':List (Nat×Sp)) (ho:ops[k]?=some ⟨dst,op,ty,pos,aft,none⟩) (hn:opn k=true) (h:DT P ⟨dst,op,ty,pos,aft,none⟩ (ev τ) H (JZ cs H)) (haft:E8 ops k (fx'.map (·.1))=true)
  (next:∀b,Kn ops k H (.box b cs::H) rd∧Ha k (.eff (.ptr b 0) (.box b cs::H)) fx∧Dr P ops n τ₀ D Q opn (k+1) (put τ dst (.ptr b 0)) (.box b cs::H) rd ((k,H,.box b cs::H)::ef) (true::effs) (fx'++fx)):Dr P ops n τ₀ D Q opn k τ H rd ef effs fx :=
 PD fx' ho hn h haft ⟨_,_,0,rfl,rfl⟩ (fun _ _ h=>h.elim) (fun v H' ⟨b,h1,h2⟩=>by subst h1;subst h2;exact next b)
theorem K5 {i sz:Nat}{rows:List (List PV)}(fx':List (Nat×Sp)) (ho:ops[k]?=some ⟨dst,op,ty,pos,aft,none⟩) (hn:opn k=true) (h:DT P ⟨dst,op,ty,pos,aft,none⟩ (ev τ) H (PI i sz rows H)) (haft:E8 ops k (fx'.map (·.1))=true)
  (next:∀o c,Kn ops k H (H.set i (.vec o sz rows c)) rd∧Ha k (.eff (.vs o rows.length c) (H.set i (.vec o sz rows c))) fx∧Dr P ops n τ₀ D Q opn (k+1) (put τ dst (.vs o rows.length c)) (H.set i (.vec o sz rows c)) rd ((k,H,H.set i (.vec o sz rows c))::ef) (true::effs) (fx'++fx)):Dr P ops n τ₀ D Q opn k τ H rd ef effs fx :=
 PD fx' ho hn h haft ⟨_,_,none,0,rfl,rfl⟩ (fun _ _ h=>h.elim) (fun v H' ⟨o,c,h1,h2⟩=>by subst h1;subst h2;exact next o c)
def Gk (v:AV) (H':List BK):Ek→List BK→Prop
 | .val v',H''=>v'=v∧H''=H'
 | .panic _,_=>False
theorem m7 {c:Call}{g:Option (Nat×Bool)}{f:Operand}{fid:FuncId}{first caps:List AV}{ρ:Operand→AV}{Hs Hf Hs':List BK}{A:List AV}
  (hc:c.callee= .value f) (hf:(ρ f= .p (.fn fid)∧first=[]∧caps=[])∨ρ f= .fn (.func fid) first caps) (hp:H.Perm (Hs++Hf)) (h:Bn P fid A Hs (Gk v Hs')) (hA:first++c.args.toList.map ρ++caps=A∨(first++c.args.toList.map ρ++caps).map norm=A) :
  Dv P ⟨dst,.call c,ty,pos,aft,g⟩ ρ H v (Hs'++Hf):=by
 refine(GI (H:=H) hc hf hp h hA).mono ?_;rintro r H' ⟨Hs',h1,rfl⟩;cases r with
 | val v'=>obtain⟨rfl,rfl⟩:=h1;exact⟨rfl,rfl⟩
 | panic v'=>exact h1
end
def KO (k:Int):List (Int×AV)→Option AV
 | []=>none
 | (j,x)::r=>if j=k then some x else KO k r
def N3 (k:Int) (v:AV):List (Int×AV)→List (Int×AV)
 | []=>[(k,v)]
 | (j,x)::r=>if j=k then (j,v)::r else (j,x)::N3 k v r
def EF (l:List (Int×AV)):List (PV×AV):=l.map fun p=>(.int .i64 p.1,p.2)
def mapOf (P:Program) (T:TypeId):Option TypeId :=
 match P.underlying T with
 | some (.map k e)=>match P.underlying k with
  | some (.int .i64)=>some e
  | _=>none
 | _=>none
theorem Nl {P:Program}{T e:TypeId}(h:mapOf P T=some e):∃k,P.underlying T=some (.map k e)∧P.underlying k=some (.int .i64):=by
 unfold mapOf at h;split at h
 ·rename_i k e' hu;split at h
  ·rename_i hk;injection h with h;subst h;exact⟨k,hu,hk⟩
  cases h
 cases h
section
variable {F:Nat→Prop}{w:World}
theorem Ow {k:Int}:∀{l:List (Int×AV)}{es:List MapEntry}(i:Nat),Di F w (EF l) es →
  (KO k l=none∧Instr.findNow (.int .i64) (.int .i64 k) es i=some none)∨∃j e x,KO k l=some x∧Instr.findNow (.int .i64) (.int .i64 k) es i=some (some (i+j,e.val))∧es[j]?=some e∧e.key= .int .i64 k∧CN F w x e.val
 | [],es,i,h=>by simp only[EF,List.map_nil,Di] at h;subst h;exact .inl ⟨rfl,rfl⟩
 | (j,x)::l,es,i,h=>by
  simp only[EF,List.map_cons,Di] at h;obtain⟨e,es',rfl,hk,hx,hr⟩:=h;simp only[CK] at hk;by_cases hj:j=k
  ·subst hj;exact .inr ⟨0,e,x,by simp[KO],by simp[Instr.findNow,hk,Instr.sameNow],rfl,hk,hx⟩
  have hne:(k==j)=false:=by simp[Ne.symm hj]
  rcases Ow (k:=k) (i+1) hr with ⟨h1,h2⟩ | ⟨q,e',x',h1,h2,h3,h4,h5⟩
  ·exact .inl ⟨by simp[KO,hj,h1],by simp[Instr.findNow,hk,Instr.sameNow,hne,h2]⟩
  exact .inr ⟨q+1,e',x',by simp[KO,hj,h1],by simp[Instr.findNow,hk,Instr.sameNow,hne,h2];omega,by simpa using h3,h4,h5⟩
theorem YA {k:Int}:∀{l:List (Int×AV)}{es:List MapEntry},Di F w (EF l) es→KO k l=none→∀x∈es,x.key≠ .int .i64 k
 | [],es,h,_=>by
  simp only[EF,List.map_nil,Di] at h;subst h;simp
 | (j,v)::l,es,h,hm=>by
  simp only[EF,List.map_cons,Di] at h;obtain⟨e,es',rfl,hk,hv,hr⟩:=h;simp only[KO] at hm;split at hm
  ·cases hm
  rename_i q;intro x hx;rcases List.mem_cons.1 hx with rfl | hx
  ·simp only[CK] at hk;rw[hk];intro e;injection e with _ e2;exact q e2
  exact YA hr hm x hx
theorem Xm {k:Int}{v:AV}{u:Value}{c:Nat}:∀{l:List (Int×AV)}{es:List MapEntry},Di F w (EF l) es→KO k l=none→CN F w v u→Di F w (EF (N3 k v l)) (es++[{ key:= .int .i64 k,val:=u,born:=c }])
 | [],es,h,_,hv=>by
  simp only[EF,List.map_nil,Di] at h;subst h;simp only[N3,EF,List.map_cons,List.map_nil,List.nil_append,Di];exact⟨_,[],O,by simp[CK],hv,rfl⟩
 | (j,x)::l,es,h,hm,hv=>by
  simp only[EF,List.map_cons,Di] at h;obtain⟨e,es',rfl,hk,hx,hr⟩:=h;by_cases hj:j=k
  ·simp[KO,hj] at hm
  simp only[KO,if_neg hj] at hm;simp only[N3,if_neg hj,EF,List.map_cons,List.cons_append,Di];exact⟨e,_,O,hk,hx,Xm hr hm hv⟩
theorem aD {k:Int}{v:AV}{u:Value}:∀{l:List (Int×AV)}{es:List MapEntry}{j:Nat}(i:Nat) {y:Value},Di F w (EF l) es→Instr.findNow (.int .i64) (.int .i64 k) es i=some (some (i+j,y))→CN F w v u→Di F w (EF (N3 k v l)) (es.modify j fun e=>{ e with key:= .int .i64 k,val:=u })
 | [],es,j,i,y,h,hf,_=>by simp only[EF,List.map_nil,Di] at h;subst h;simp[Instr.findNow] at hf
 | (q,x)::l,es,j,i,y,h,hf,hv=>by
  simp only[EF,List.map_cons,Di] at h;obtain⟨e,es',rfl,hk,hx,hr⟩:=h;simp only[CK] at hk;by_cases hj:q=k
  ·subst hj;simp[Instr.findNow,hk,Instr.sameNow] at hf;obtain⟨rfl,_⟩:j=0∧True:=⟨by omega,trivial⟩;simp only[N3,if_true,EF,List.map_cons,Di];exact⟨_,es',O,by simp[CK],hv,hr⟩
  have hne:(k==q)=false:=by simp[Ne.symm hj]
  simp only[Instr.findNow,hk,Instr.sameNow,if_true,hne] at hf;cases j with
  | zero =>
   have:∀(es:List MapEntry) (m:Nat) (y:Value) (r:Nat),Instr.findNow (.int .i64) (.int .i64 k) es m=some (some (r,y))→m≤r:=by
    intro es
    induction es with
    | nil=>intro m y r h;simp[Instr.findNow] at h
    | cons e es ih =>
     intro m y r h;simp only[Instr.findNow] at h;split at h
     ·simp at h;omega
     ·have:=ih _ _ _ h;omega
     cases h
   have:=this _ _ _ _ hf;omega
  | succ j =>
   simp only[N3,if_neg hj,EF,List.map_cons,List.modify_succ_cons,Di];exact⟨e,_,O,by simpa [CK] using hk,hx,aD (i+1) hr (by rw[show i+1+j=i+(j+1) by omega];exact hf) hv⟩
end
section
variable {P:Program}{dst:Option Tmp}{ty:TypeId}{pos:String}{aft:Array Edge}{g:Option (Nat×Bool)}{ρ:Operand→AV}{H:List BK}{x y z:Operand}{v:AV}
def jA (H:List BK):Ek→List BK→Prop
 | .val v,H'=>∃b,v= .map b∧H'= .map b (EF [])::H
 | .panic _,_=>False
theorem W7 {T:TypeId}:DT P ⟨dst,.makeMap T none,ty,pos,aft,g⟩ ρ H (jA H) :=
 Hj fun F w E hH hE=>by
  refine⟨.map (some w.heap.size),World.push w (.map #[] 0),.map w.heap.size,.map w.heap.size (EF [])::H,_,?_,⟨_,O,O⟩,Nz H _ _ (.inl O),QH hH _ _ O ?_,by simp[CN]⟩
  ·simp[execOp,Instr.makeMap,Sem.run_bind];rfl
  exact⟨#[],0,MD _,MapKept.stamped_empty _,O⟩
theorem Yx {T e : TypeId} {b i : Nat} {l : List (Int × AV)} {k : Int} {zv : Value} {za : AV} (hT : mapOf P T = some e) (hz : zeroOf P e = some zv) (hza : ∀ F w, CN F w za zv) (hx : ρ x = .map b) (hy : ρ y = .p (.int .i64 k)) (hi : H[i]? = some (.map b (EF l))) :
  Dv P ⟨dst, .lookup T x y false, ty, pos, aft, g⟩ ρ H ((KO k l).getD za) H :=
 CP fun F w E hH hE => by
  obtain ⟨kt, hu, hk⟩ := Nl hT
  have h1 := hE x Ac
  have h2 := hE y Ac
  rw [hx] at h1
  rw [hy] at h2
  simp only [CN, CK] at h1 h2
  obtain ⟨es, clk, hb, hs0, hr⟩ := hH.obj _ (List.mem_of_getElem? hi)
  have hzv : (zeroValue e).run P w = .ok zv w := by
   unfold zeroOf at hz
   cases hi : P.info? e with
   | none => simp [hi] at hz
   | some i => have hz' : i.zero = some zv := by simpa [hi] using hz
               simp [zeroValue, typeInfo, hi, hz', Sem.run_bind]
  have hkey : MapKept.IsKey (.int .i64) (.int .i64 k) := rfl
  rcases Ow (k := k) 0 hr with ⟨h3, h4⟩ | ⟨j, e', x', h3, h4, h5, h6, h7⟩
  ·refine ⟨zv, ?_, by rw [h3]; exact hza F w⟩
   simp [execOp, Instr.lookup, Sem.run_bind, run_underlying hu, h1, h2, MapKept.run_getObj_map hb, MapKept.run_checkKey hk hkey, MapKept.run_findKey hk h4, hzv]
  refine ⟨e'.val, ?_, by rw [h3]; exact h7⟩
  simp [execOp, Instr.lookup, Sem.run_bind, run_underlying hu, h1, h2, MapKept.run_getObj_map hb, MapKept.run_checkKey hk hkey, MapKept.run_findKey hk h4]
theorem Vs {T e : TypeId} {b i : Nat} {l : List (Int × AV)} {k : Int} {zv : Value} {za : AV} (hT : mapOf P T = some e) (hz : zeroOf P e = some zv) (hza : ∀ F w, CN F w za zv) (hx : ρ x = .map b) (hy : ρ y = .p (.int .i64 k)) (hi : H[i]? = some (.map b (EF l))) :
  Dv P ⟨dst, .lookup T x y true, ty, pos, aft, g⟩ ρ H (.tup [(KO k l).getD za, .p (.bool (KO k l).isSome)]) H :=
 CP fun F w E hH hE => by
  obtain ⟨kt, hu, hk⟩ := Nl hT
  have h1 := hE x Ac
  have h2 := hE y Ac
  rw [hx] at h1
  rw [hy] at h2
  simp only [CN, CK] at h1 h2
  obtain ⟨es, clk, hb, hs0, hr⟩ := hH.obj _ (List.mem_of_getElem? hi)
  have hzv : (zeroValue e).run P w = .ok zv w := by
   unfold zeroOf at hz
   cases hi : P.info? e with
   | none => simp [hi] at hz
   | some i => have hz' : i.zero = some zv := by simpa [hi] using hz
               simp [zeroValue, typeInfo, hi, hz', Sem.run_bind]
  have hkey : MapKept.IsKey (.int .i64) (.int .i64 k) := rfl
  rcases Ow (k := k) 0 hr with ⟨h3, h4⟩ | ⟨j, e', x', h3, h4, h5, h6, h7⟩
  ·refine ⟨.tuple #[zv, .bool false], ?_, ?_⟩
   ·simp [execOp, Instr.lookup, Sem.run_bind, run_underlying hu, h1, h2, MapKept.run_getObj_map hb, MapKept.run_checkKey hk hkey, MapKept.run_findKey hk h4, hzv]
   simp only [h3, CN, Bz, CK]
   exact ⟨[zv, .bool false], O, _, _, O, hza F w, _, _, O, O, O⟩
  refine ⟨.tuple #[e'.val, .bool true], ?_, ?_⟩
  ·simp [execOp, Instr.lookup, Sem.run_bind, run_underlying hu, h1, h2, MapKept.run_getObj_map hb, MapKept.run_checkKey hk hkey, MapKept.run_findKey hk h4]
  simp only [h3, CN, Bz, CK]
  exact ⟨[e'.val, .bool true], O, _, _, O, h7, _, _, O, O, O⟩
theorem Ti {T e:TypeId}{b i:Nat}{l:List (Int×AV)}{k:Int}{va:AV}(hT:mapOf P T=some e) (hx:ρ x= .map b) (hy:ρ y= .p (.int .i64 k)) (hz:ρ z=va) (hi:H[i]?=some (.map b (EF l))) :
  Dv P ⟨dst,.mapUpdate T x y z,ty,pos,aft,g⟩ ρ H (.p .any) (H.set i (.map b (EF (N3 k va l)))) :=
 (IQ (R:=uV (.p .any) (H.set i (.map b (EF (N3 k va l))))) fun F w E hH hE=>by
  obtain⟨kt,hu,hk⟩:=Nl hT;have h1:=hE x Ac;have h2:=hE y Ac;have h0:=hE z Ac;rw[hx] at h1;rw[hy] at h2;rw[hz] at h0;simp only[CN,CK] at h1 h2;obtain⟨es,clk,hb,hs0,hr⟩:=hH.obj _ (List.mem_of_getElem? hi);have hFb:F b:=hH.sub _ (List.mem_of_getElem? hi) b rfl;have hlt:=hH.bd b hFb;have hkey:MapKept.IsKey (.int .i64) (.int .i64 k):=rfl;have fin:∀(es':Array MapEntry) (clk':Nat),MapKept.Stamped es' clk'→Di F w (EF (N3 k va l)) es'.toList→Trans F H w F (H.set i (.map b (EF (N3 k va l)))) { w with heap:=w.heap.setIfInBounds b (.map es' clk') }∧HRel F (H.set i (.map b (EF (N3 k va l)))) { w with heap:=w.heap.setIfInBounds b (.map es' clk') }:=by
   intro es' clk' hs' hr';have hw:Ht b (.map es' clk') w { w with heap:=w.heap.setIfInBounds b (.map es' clk') }:=⟨rfl,rfl,rfl,rfl⟩;have st:=hw.stable hFb;exact⟨hw.trans hi O O,hw.HRel hH hi O O ⟨es',clk',hw.self hlt,hs',Di.mono st _ _ hr'⟩⟩
  rcases Ow (k:=k) 0 hr with ⟨h3,h4⟩ | ⟨j,e',x',h3,h4,h5,h6,h7⟩
  ·have hr':=Xm (c:=clk) hr h3 h0;obtain⟨f1,f2⟩:=fin (es.push { key:= .int .i64 k,val:=E z,born:=clk }) (clk+1) (MapKept.stamped_push hs0 (YA hr h3)) (by simpa using hr');refine⟨_,_,F,?_,⟨O,O⟩,f1,f2⟩;simp[execOp,Instr.mapUpdate,Sem.run_bind,run_underlying hu,h1,h2,MapKept.run_getObj_map hb,MapKept.run_checkKey hk hkey,MapKept.run_findKey hk h4,MapKept.run_setObj_map _ hb]
  have hr':=aD (v:=va) (u:=E z) 0 hr h4 h0;obtain⟨f1,f2⟩:=fin (es.modify j fun e=>{ e with key:= .int .i64 k,val:=E z }) clk (MapKept.stamped_modify hs0 j _ (fun _ _=>rfl) (fun e _ he=>by rw[show es[j]?=some e' by simpa using h5] at he;cases he;exact h6.symm)) (by simpa using hr');refine⟨_,_,F,?_,⟨O,O⟩,f1,f2⟩;have h5':es[j]?=some e':=by simpa using h5
  simp[execOp,Instr.mapUpdate,Sem.run_bind,run_underlying hu,h1,h2,MapKept.run_getObj_map hb,MapKept.run_checkKey hk hkey,MapKept.run_findKey hk h4,MapKept.run_setObj_map _ hb,h5',h6,Instr.keyThatStays,Instr.sameBits])
theorem II {T:TypeId}{d:TypeDesc}{a b:Value}{c:Bool}{w:World}(hu:P.underlying T=some d) (h:(match d,a,b with
  | .bool,.bool x,.bool y=>some (x==y)
  | .interface _,.nilIface,.nilIface=>some true
  | .interface _,.iface _ _,.nilIface=>some false
  | .slice _,.slice none _ _,.slice none _ _=>some true
  | .slice _,.slice (some _) _ _,.slice none _ _=>some false
  | _,_,_=>none)=some c):(Op.equal T a b).run P w= .ok c w:=by
 unfold Op.equal;rw[show Op.maxDepth=9999+1 from rfl];unfold Op.equalIn;simp only[Sem.run_bind,run_underlying hu,Result.andThen_ok];split at h<;>simp_all
theorem Y3 {a b:Bool}{T U:TypeId}(hu:P.underlying T=some .bool) (hx:ρ x= .p (.bool a)) (hy:ρ y= .p (.bool b)):Dv P ⟨dst,.binOp .eql T x y U,ty,pos,aft,g⟩ ρ H (.p (.bool (a==b))) H :=
 CP fun F w E hH hE=>by
  have e1:=hE x Ac;have e2:=hE y Ac;rw[hx] at e1;rw[hy] at e2;simp only[CN,CK] at e1 e2;refine⟨.bool (a==b),?_,by simp[CN,CK]⟩;have hg:(eqGuard .eql T x y (.bool a) (.bool b)).run P w= .ok () w:=by unfold eqGuard;rfl
  have hq:(Op.equal T (.bool a) (.bool b)).run P w= .ok (a==b) w:=II hu rfl;simp[execOp,Sem.run_bind,hg,e1,e2,binOp,hq]
theorem HN {T U:TypeId}{ms:Array (String×TypeId)}{X:PV}{b:Bool}(hu:P.underlying T=some (.interface ms)) (hx:ρ x= .p X) (hy:ρ (.const .nilIface)= .p .nilIface) (hX:(match X with | .nilIface=>some false | .iface _ _=>some true | _=>none)=some b):Dv P ⟨dst,.binOp .neq T x (.const .nilIface) U,ty,pos,aft,g⟩ ρ H (.p (.bool b)) H :=
 CP fun F w E hH hE=>by
  have e2:=hE (.const .nilIface) Ac;rw[hy] at e2;simp only[CN,CK] at e2;have e1:=hE x Ac;rw[hx] at e1;have hg:∀a,(eqGuard .neq T x (.const .nilIface) a .nilIface).run P w= .ok () w:=by
   intro a;unfold eqGuard;cases a<;>simp<;>rfl
  refine⟨.bool b,?_,by simp[CN,CK]⟩;cases X with
  | nilIface =>
   simp at hX;subst hX;simp only[CN,CK] at e1;have hq:(Op.equal T .nilIface .nilIface).run P w= .ok true w:=II hu rfl;simp[execOp,Sem.run_bind,hg,e1,e2,binOp,hq]
  | iface t c =>
   simp at hX;subst hX;simp only[CN,CK] at e1;obtain⟨u,e1,_⟩:=e1;have hq:(Op.equal T (.iface t u) .nilIface).run P w= .ok false w:=II hu rfl;simp[execOp,Sem.run_bind,hg,e1,e2,binOp,hq]
  | _=>simp at hX
theorem Tp {T e:TypeId}{len sz b o:Nat}{k:IntKind}{i:Int}{inf:TypeInfo}(hu:P.underlying T=some (.array len e)) (hj:P.info? e=some inf) (hs:inf.size=sz) (hx:ρ x= .ptr b o) (hy:ρ y= .p (.int k i)) (h0:0≤i) (hn:i<len) :
  Dv P ⟨dst,.indexAddr T x y,ty,pos,aft,g⟩ ρ H (.ptr b (o+i.toNat*sz)) H :=
 CP fun F w E hH hE=>by
  have h1:=hE x Ac;have h2:=hE y Ac;rw[hx] at h1;rw[hy] at h2;simp only[CN,CK] at h1 h2;refine⟨.pointer (some ⟨b,o+i.toNat*sz,none⟩),?_,by simp[CN]⟩;simp[execOp,Instr.indexAt,Sem.run_bind,run_underlying hu,h1,h2,asIntOf,h0,hn,sizeOf,typeInfo,hj,hs,Addr.add_mid,Instr.sureAddr,asAddr]
theorem Td {T e:TypeId}{len:Nat}{parts:Array (Nat×Operand)}{z:Value}{cs:List AV}{inf:TypeInfo}(hu:P.underlying T=some (.array len e)) (hj:P.info? e=some inf) (hz:zeroOf P T=some z)
  (hc:Fb (fun i=>some (i*inf.size,inf.size)) (z.cells.toList.map GR) (parts.toList.map fun p=>(p.1,ρ p.2))=some cs):Dv P ⟨dst,.build T parts,ty,pos,aft,g⟩ ρ H (.agg cs) H :=
 CP fun F w E hH hE=>by
  unfold zeroOf at hz;cases hi:P.info? T with
  | none=>simp[hi] at hz
  | some i =>
   have hz':i.zero=some z:=by simpa [hi] using hz
   have hzv:(zeroValue T).run P w= .ok z w:=by simp[zeroValue,typeInfo,hi,hz',Sem.run_bind]
   have hsz:(sizeOf e).run P w= .ok inf.size w:=by simp[sizeOf,typeInfo,hj]
   obtain⟨us,hf,hr⟩:=Jm (F:=F) (w:=w) (place:=(fun i=>some (i*inf.size,inf.size))) _ (parts.toList.map fun p=>(p.1,E p.2)) _ z.cells.toList _ Ao (by
    intro j p q h1 h2;simp only[List.getElem?_map] at h1 h2;cases hj:parts.toList[j]? with
    | none=>simp[hj] at h1
    | some t =>
     simp[hj] at h1 h2;subst h1;subst h2;exact⟨O,hE _ (by
      have:=List.mem_of_getElem? hj;simp only[Op.operands];exact List.mem_map.2 ⟨t,this,O⟩)⟩) (HH _) hc
   refine⟨.agg ⟨us⟩,?_,by simp only[CN];exact⟨us,rfl,hr⟩⟩;simp only[execOp,Instr.build,Sem.run_bind,hzv,Result.andThen_ok,run_underlying hu,hsz];have hf':Instr.fill (fun i=>some (i*inf.size,inf.size)) z.cells (parts.toList.map fun p=>(p.1,E p.2))=some ⟨us⟩:=hf;simp[hf']
theorem VK {T U:TypeId}{e:TypeId}{rows:List (List PV)}(hu:P.underlying T=some (.slice e)) (hx:ρ x= .p (.lst rows)) (hy:ρ y= .p .nils):DT P ⟨dst,.binOp .eql T x y U,ty,pos,aft,g⟩ ρ H (fun r H'=>match r with | .val v=>(∃b,v= .p (.bool b)∧(b=true→rows=[]))∧H'=H | .panic _=>False) :=
 Hj fun F w E hH hE=>by
  have e1:=hE x Ac;have e2:=hE y Ac;rw[hx] at e1;rw[hy] at e2;simp only[CN,CK] at e1 e2;have hg:∀o n c,(eqGuard .eql T x y (.slice o n c) (.slice none 0 0)).run P w= .ok () w:=by intro o n c;unfold eqGuard;rfl
  have key:∃b,(execOp E ⟨dst,.binOp .eql T x y U,ty,pos,aft,g⟩).run P w= .ok (.value (.bool b)) w∧(b=true→rows=[]):=by
   rcases e1 with ⟨rfl,o,c,h1⟩ | ⟨bb,o,c,sz,h1,_⟩
   ·cases o with
    | none =>
     have hq:(Op.equal T (.slice none 0 c) (.slice none 0 0)).run P w= .ok true w:=II hu rfl;exact⟨true,by simp[execOp,Sem.run_bind,hg,h1,e2,binOp,hq],fun _=>rfl⟩
    | some a =>
     have hq:(Op.equal T (.slice (some a) 0 c) (.slice none 0 0)).run P w= .ok false w:=II hu rfl;exact⟨false,by simp[execOp,Sem.run_bind,hg,h1,e2,binOp,hq],fun _=>rfl⟩
   have hq:(Op.equal T (.slice (some ⟨bb,o,none⟩) rows.length c) (.slice none 0 0)).run P w= .ok false w:=II hu rfl;exact⟨false,by simp[execOp,Sem.run_bind,hg,h1,e2,binOp,hq],fun h=>by cases h⟩
  obtain⟨b,hb,hr⟩:=key;exact⟨_,w,.p (.bool b),H,F,hb,⟨⟨b,O,hr⟩,O⟩,.refl,hH,by simp[CN,CK]⟩
end
def O5 (P:Program) (T:TypeId):Bool :=
 match P.underlying T with
 | some (.struct fs)=>match fs.toList with
  | [f,g]=>f.name != "_" &&g.name != "_" &&Nat.beq f.offset 0&&Nat.beq g.offset 1&&(match P.underlying f.type,P.underlying g.type with | some (.int .i64),some (.int .i64)=>true | _,_=>false)&& !P.stoodInHeld T&& !P.eqGuardType P.depth T
  | _=>false
 | _=>false
theorem Zg {P:Program}{T:TypeId}{a b c d:Int}{w:World}(h:O5 P T=true):(Op.equal T (.agg #[.int .i64 a,.int .i64 b]) (.agg #[.int .i64 c,.int .i64 d])).run P w= .ok (a==c&&b==d) w:=by
 unfold O5 at h;split at h
 ·rename_i fs hu;split at h
  ·rename_i f g hfs;obtain rfl:fs=#[f,g]:=by apply Array.ext';simpa using hfs
   simp only[Bool.and_eq_true,bne_iff_ne,ne_eq,Bool.not_eq_true'] at h;obtain⟨⟨⟨⟨⟨⟨h1,h2⟩,h3⟩,h4⟩,h5⟩,h6⟩,h7⟩:=h;split at h5
   ·rename_i hf hg;have e3:=Nat.eq_of_beq_eq_true h3;have e4:=Nat.eq_of_beq_eq_true h4;have hp:(program).run P w= .ok P w:=rfl;have af:(isAgg f.type).run P w= .ok false w:=Mr hf false rfl w;have ag:(isAgg g.type).run P w= .ok false w:=Mr hg false rfl w;have pf:∀x y,(part f.type #[.int .i64 x,.int .i64 y] f.offset).run P w= .ok (.int .i64 x) w:=by
     intro x y;unfold part;simp[Sem.run_bind,af,e3]
    have pg:∀x y,(part g.type #[.int .i64 x,.int .i64 y] g.offset).run P w= .ok (.int .i64 y) w:=by
     intro x y;unfold part;simp[Sem.run_bind,ag,e4]
    have qf:∀x y,(Op.equalIn 9999 f.type (.int .i64 x) (.int .i64 y)).run P w= .ok (x==y) w:=by
     intro x y;rw[show (9999:Nat)=9998+1 from rfl];unfold Op.equalIn;simp[Sem.run_bind,run_underlying hf]
    have qg:∀x y,(Op.equalIn 9999 g.type (.int .i64 x) (.int .i64 y)).run P w= .ok (x==y) w:=by
     intro x y;rw[show (9999:Nat)=9998+1 from rfl];unfold Op.equalIn;simp[Sem.run_bind,run_underlying hg]
    unfold Op.equal;rw[show Op.maxDepth=9999+1 from rfl];unfold Op.equalIn;simp only[Sem.run_bind,run_underlying hu,Result.andThen_ok,hp,h6];simp[Sem.run_bind,h1,h2,pf,pg,qf,qg];cases hac:(a==c)<;>cases hbd:(b==d)<;>simp_all [Sem.run_bind,h1,h2,pf,pg,qf,qg]
   cases h5
  cases h
 cases h
section
variable {P:Program}{dst:Option Tmp}{ty:TypeId}{pos:String}{aft:Array Edge}{g:Option (Nat×Bool)}{ρ:Operand→AV}{H:List BK}{x y z:Operand}{v:AV}
theorem cc {T U:TypeId}{a b c d:Int}(h:O5 P T=true) (hx:ρ x= .agg [.p (.int .i64 a),.p (.int .i64 b)]) (hy:ρ y= .agg [.p (.int .i64 c),.p (.int .i64 d)]):Dv P ⟨dst,.binOp .neq T x y U,ty,pos,aft,g⟩ ρ H (.p (.bool (!(a==c&&b==d)))) H :=
 CP fun F w E hH hE=>by
  have e1:=hE x Ac;have e2:=hE y Ac;rw[hx] at e1;rw[hy] at e2;simp only[CN,Bz,CK] at e1 e2;obtain⟨vs,e1,u1,us1,rfl,rfl,u2,us2,rfl,rfl,rfl⟩:=e1;obtain⟨vs',e2,v1,vs1,rfl,rfl,v2,vs2,rfl,rfl,rfl⟩:=e2;refine⟨.bool (!(a==c&&b==d)),?_,by simp[CN,CK]⟩;have hq:=Zg (P:=P) (T:=T) (a:=a) (b:=b) (c:=c) (d:=d) (w:=w) h;have h':=h;have hg:(eqGuard .neq T x y (.agg #[.int .i64 a,.int .i64 b]) (.agg #[.int .i64 c,.int .i64 d])).run P w= .ok () w:=by
   unfold O5 at h';split at h'
   ·split at h'
    ·simp only[Bool.and_eq_true,Bool.not_eq_true'] at h';have h7:=h'.2;have hp:(program).run P w= .ok P w:=rfl;unfold eqGuard;simp[Sem.run_bind,hp,h7]
    cases h'
   cases h'
  simp[execOp,Sem.run_bind,hg,e1,e2,binOp,hq]
end
theorem SV {P:Program}{r:Option Nat}{c:Code}{S:Bq}{Q:Cs→Bq→Prop}(N:Nat) (C:Nat→Prop) (St:Nat→Bq) (i₀:Nat) (h₀:i₀≤N) (hC:C i₀) (l:Le S (St i₀))
  (round:∀i,i≤N→C i→Ie P r c (St i) (SU (fun S'=>i<N∧C (i+1)∧Le S' (St (i+1))) Q)):Ie P r (.loop c) S Q:=by
 refine Sm (fun m S=>∃i,i≤N∧m=N - i∧C i∧S=St i) (m:=N - i₀) l ⟨i₀,h₀,O,hC,O⟩ ?_;rintro m S ⟨i,hi,rfl,hc,rfl⟩;refine(round i hi hc).mono ?_;intro e S' h;cases e with
 | normal =>
  obtain⟨h1,h2,h3⟩:=h;exact⟨N - (i+1),St (i+1),by omega,h3,i+1,by omega,rfl,h2,rfl⟩
 | exit id=>exact h
 | ret=>exact h
 | panic v=>exact h
theorem Bc {α:Type}{P:Program}{r:Option Nat}{c:Code}{S:Bq}{Q:Cs→Bq→Prop}(St:α→Bq) (μ:α→Nat) (C:α→Prop) (a₀:α) (hC:C a₀) (l:Le S (St a₀))
  (round:∀a,C a→Ie P r c (St a) (SU (fun S'=>∃a',μ a' < μ a∧C a'∧Le S' (St a')) Q)):Ie P r (.loop c) S Q:=by
 refine Sm (fun m S=>∃a,m=μ a∧C a∧S=St a) (m:=μ a₀) l ⟨a₀,O,hC,O⟩ ?_;rintro m S ⟨a,rfl,hc,rfl⟩;refine(round a hc).mono ?_;intro e S' h;cases e with
 | normal =>
  obtain⟨a',h1,h2,h3⟩:=h;exact⟨μ a',St a',h1,h3,a',O,h2,O⟩
 | exit id=>exact h
 | ret=>exact h
 | panic v=>exact h
abbrev wr (n:Int):Int:=IntKind.i64.wrap n
section
variable {P:Program}{dst:Option Tmp}{ty:TypeId}{pos:String}{aft:Array Edge}{g:Option (Nat×Bool)}{ρ:Operand→AV}{H:List BK}{x y z:Operand}{v:AV}
theorem EA {m n:Int}{T U:TypeId}(hx:ρ x= .p (.int .i64 m)) (hy:ρ y= .p (.int .i64 n)):Dv P ⟨dst,.binOp .add T x y U,ty,pos,aft,g⟩ ρ H (.p (.int .i64 (wr (m+n)))) H :=
 CP fun F w E hH hE=>by
  have e1:=hE x Ac;have e2:=hE y Ac;rw[hx] at e1;rw[hy] at e2;simp only[CN,CK] at e1 e2;exact⟨.int .i64 (wr (m+n)),by simp[execOp,Sem.run_bind,Ib,e1,e2,binOp,Op.intArith],by simp[CN,CK]⟩
theorem Jc {m n:Int}{T U:TypeId}(hx:ρ x= .p (.int .i64 m)) (hy:ρ y= .p (.int .i64 n)):Dv P ⟨dst,.binOp .sub T x y U,ty,pos,aft,g⟩ ρ H (.p (.int .i64 (wr (m - n)))) H :=
 CP fun F w E hH hE=>by
  have e1:=hE x Ac;have e2:=hE y Ac;rw[hx] at e1;rw[hy] at e2;simp only[CN,CK] at e1 e2;exact⟨.int .i64 (wr (m - n)),by simp[execOp,Sem.run_bind,Ib,e1,e2,binOp,Op.intArith],by simp[CN,CK]⟩
end
def vS (R:AV→Prop):Ek→List BK→Prop
 | .val v,H'=>R v∧H'=[]
 | .panic _,_=>False
abbrev Gp (P:Program) (f:FuncId) (args:List AV) (R:AV→Prop):Prop:=Bn P f args [] (vS R)
theorem Gp.of {P:Program}{f:FuncId}{args:List AV}{v:AV}{R:AV→Prop}(h:ET P f args v) (hR:R v):Gp P f args R :=
 Bn.mono h fun r H hr=>by
  cases r with
  | val v'=>obtain⟨rfl,rfl⟩:=hr;exact⟨hR,rfl⟩
  | panic v'=>exact hr
def Qf (R:AV→Prop) (H:List BK):Ek→List BK→Prop
 | .val v,H'=>R v∧H'=H
 | .panic _,_=>False
section
variable {P:Program}{r:Option Nat}{ops:Array Oper}{Q:Cs→Bq→Prop}{k:Nat}{n:Nat}{τ:Nat→AV}{H H':List BK}{D:List EG}{dst:Option Tmp}{op:Op}{ty:TypeId}{pos:String}{aft:Array Edge}{g:Option (Nat×Bool)}{v:AV}
theorem CI {c:Call}{f:Operand}{fid:FuncId}{ρ:Operand→AV}{A:List AV}{R:AV→Prop}(hc:c.callee= .value f) (hf:ρ f= .p (.fn fid)) (h:Gp P fid A R) (hA:c.args.toList.map ρ=A∨(c.args.toList.map ρ).map norm=A) :
  DT P ⟨dst,.call c,ty,pos,aft,g⟩ ρ H (Qf R H):=by
 refine(GI (H:=H) (Hs:=[]) (Hf:=H) (first:=[]) (caps:=[]) hc (.inl ⟨hf,O,O⟩) (A:=A) Ao h (by simpa using hA)).mono ?_;rintro r H' ⟨Hs',h1,rfl⟩;cases r with
 | val v'=>obtain⟨h1,rfl⟩:=h1;exact⟨h1,rfl⟩
 | panic v'=>exact h1
theorem Du {R:AV→Prop}(ho:ops[k]?=some ⟨dst,op,ty,pos,aft,none⟩) (hd:Gm dst n=true) (h:DT P ⟨dst,op,ty,pos,aft,none⟩ (ev τ) H (Qf R H))
  (next:∀v,R v→AL P r ops (k+1) ⟨n,put τ dst v,H,D⟩ Q):AL P r ops k ⟨n,τ,H,D⟩ Q :=
 GJ (S:=⟨n,τ,H,D⟩) ho Ah (Ir hd) h (fun v H' ⟨h1,h2⟩=>by subst h2;exact next v h1) (fun _ _ h=>h.elim)
theorem IN {R:AV→Prop}{j d:Nat}{want:Bool}(ho:ops[k]?=some ⟨dst,op,ty,pos,aft,some (j,want)⟩) (hd:Gm dst n=true) (hj:(ops[j]?).bind (·.dst)=some d) (hb:τ d= .p (.bool want)) (h:DT P ⟨dst,op,ty,pos,aft,some (j,want)⟩ (ev τ) H (Qf R H))
  (next:∀v,R v→AL P r ops (k+1) ⟨n,put τ dst v,H,D⟩ Q):AL P r ops k ⟨n,τ,H,D⟩ Q :=
 GJ (S:=⟨n,τ,H,D⟩) ho (by simp only[EY];exact⟨d,hj,hb⟩) (Ir hd) h (fun v H' ⟨h1,h2⟩=>by subst h2;exact next v h1) (fun _ _ h=>h.elim)
end
section
variable {P:Program}{ops:Array Oper}{n:Nat}{τ₀:Nat→AV}{D:List EG}{Q:Cs→Bq→Prop}{opn:Nat→Bool}{k:Nat}{τ:Nat→AV}{H:List BK}{rd:Yo}{ef:Yn}{effs:List Bool}{fx:List (Nat×Sp)}{dst:Option Tmp}{op:Op}{ty:TypeId}{pos:String}{aft:Array Edge}
theorem LO {R:AV→Prop}(fx':List (Nat×Sp)) (ho:ops[k]?=some ⟨dst,op,ty,pos,aft,none⟩) (hn:opn k=true) (h:DT P ⟨dst,op,ty,pos,aft,none⟩ (ev τ) H (Qf R H)) (haft:E8 ops k (fx'.map (·.1))=true) (hne:∃v,R v) (owe:Kn ops k H H rd)
  (next:∀v,R v→Ha k (.eff v H) fx∧Dr P ops n τ₀ D Q opn (k+1) (put τ dst v) H rd ((k,H,H)::ef) (true::effs) (fx'++fx)):Dr P ops n τ₀ D Q opn k τ H rd ef effs fx :=
 PD fx' ho hn h haft (let ⟨v,hv⟩:=hne;⟨v,H,hv,rfl⟩) (fun _ _ h=>h.elim) (fun v H' ⟨h1,h2⟩=>by subst h2;exact⟨owe,next v h1⟩)
theorem l6 {R:AV→Prop}{j d:Nat}{want:Bool}(fx':List (Nat×Sp)) (ho:ops[k]?=some ⟨dst,op,ty,pos,aft,some (j,want)⟩) (hn:opn k=true) (hj:(ops[j]?).bind (·.dst)=some d) (hb:τ d= .p (.bool want)) (h:DT P ⟨dst,op,ty,pos,aft,some (j,want)⟩ (ev τ) H (Qf R H)) (haft:E8 ops k (fx'.map (·.1))=true) (hne:∃v,R v) (owe:Kn ops k H H rd)
  (next:∀v,R v→Ha k (.eff v H) fx∧Dr P ops n τ₀ D Q opn (k+1) (put τ dst v) H rd ((k,H,H)::ef) (true::effs) (fx'++fx)):Dr P ops n τ₀ D Q opn k τ H rd ef effs fx :=
 .opn (Qf R H) fx' ho hn ⟨d,hj,hb⟩ h haft (let ⟨v,hv⟩:=hne;⟨v,H,hv,rfl⟩) (fun v H' ⟨_,h2⟩=>by subst h2;exact owe) (fun v H' ⟨h1,h2⟩=>by subst h2;exact(next v h1).1) (fun v H' ⟨h1,h2⟩=>by subst h2;exact(next v h1).2) (fun _ _ h=>h.elim)
end
theorem BT {P:Program}{r:Option Nat}{c:Code}{Q:Cs→Bq→Prop}{n:Nat}{τ:Nat→AV}{H:List BK}{D:List EG}(live:List Nat) (d:Nat) (R:AV→Prop) (h:Ie P r c ⟨n,τ,H,D⟩ (SU (fun S'=>S'.n=n∧S'.D=D∧H.Sublist S'.H∧R (S'.τ d)∧oX S'.τ τ live) Q))
  (next:∀x,R x→Q .normal ⟨n,mk ((d,x)::live.map fun t=>(t,τ t)),H,D⟩):Ie P r c ⟨n,τ,H,D⟩ Q:=by
 intro F a w hs;refine wpIn_mono (h F a w hs) ?_;rintro e a' w' ⟨e',S',F',hq,he,hs',ht⟩;cases e' with
 | normal =>
  obtain⟨n',τ',H',D'⟩:=S';obtain⟨h1,h3,h2,h4,h5⟩:=hq;simp only at h1 h2 h3 h4 h5;subst h1;subst h3;have l:Le ⟨n',τ',H',D'⟩ ⟨n',mk ((d,τ' d)::live.map fun t=>(t,τ t)),H,D'⟩:=FF ⟨rfl,QQ h5⟩ h2;exact⟨.normal,_,F',next _ h4,he,hs'.le l,ht.sublist h2⟩
 | exit id=>exact⟨.exit id,S',F',hq,he,hs',ht⟩
 | ret=>exact⟨.ret,S',F',hq,he,hs',ht⟩
 | panic v=>exact⟨.panic v,S',F',hq,he,hs',ht⟩
def Kp (v:AV):Prop:=∃b:Bool,v= .p (.bool b)
def cP (v:AV):Prop:=∃e:Int,v= .p (.int .i64 e)
end Go.Abs
namespace Go.Eu
open Go.Abs
noncomputable def Od {α:Type}(a b:α):Bool:= @decide (a=b) (Classical.propDecidable _)
theorem Gs {α:Type}{a b:α}(h:a=b):Od a b=true:=by simp[Od,h]
theorem IC {α:Type}{a b:α}(h:a≠b):Od a b=false:=by simp[Od,h]
theorem IM {α:Type}{a b:α}:Od a b=true↔a=b:=by simp[Od]
abbrev LV (l:CS):AV:= .agg ((By l).map .p)
abbrev qS (ts:List Tm):AV:= .p (.lst (BE ts))
abbrev uM (ls:List CS):AV:= .p (.lst (ls.map By))
theorem Cl {ts:List CF}{i:Nat}{t:CF}(h:ts[i]?=some t):(ts.map Dt)[i]?=some (Dt t):=by simp[h]
theorem Fu {ts:List CS}{i:Nat}{t:CS}(h:ts[i]?=some t):(ts.map By)[i]?=some (By t):=by simp[h]
def agree {α:Type}(a b:List α) (i:Nat):Prop:=a.take i=b.take i
theorem N2 {α:Type}(a b:List α):agree a b 0:=by simp[agree]
theorem N0 {α:Type}{a b:List α}{i:Nat}{x:α}(h:agree a b i) (ha:a[i]?=some x) (hb:b[i]?=some x):agree a b (i+1):=by
 unfold agree at *;rw[List.take_add_one,List.take_add_one,ha,hb,h]
theorem Pf {α:Type}{a b:List α}{n:Nat}(h:agree a b n) (ha:a.length=n) (hb:b.length=n):a=b:=by
 unfold agree at h
 rwa [List.take_of_length_le An,List.take_of_length_le An] at h
theorem A6 {α:Type}{l:List α}{i:Nat}(h:i<l.length):∃x,l[i]?=some x:=⟨_,List.getElem?_eq_getElem h⟩
abbrev DY:Nat:=1099511627776
def JE (n:Int):Prop:= -9223372036854775808≤n∧n≤9223372036854775807
structure Nj (l:CS):Prop where
 vars:l.vars.length<DY
 c:JE l.const
 v:∀v∈l.vars,JE v.index∧JE v.plus
mutual
def Nd:Tm→Prop
 | .mk k i n ls ks=>n.size<DY∧ls.length<DY∧(∀l∈ls,Nj l)∧ks.length<DY∧NI ks∧JE k∧JE i
def NI:List Tm→Prop
 | []=>True
 | t::ts=>Nd t∧NI ts
end
theorem DX:∀{ts:List Tm}{i:Nat}{t:Tm},NI ts→ts[i]?=some t→Nd t
 | [],i,t,_,h=>by simp at h
 | a::ts,0,t,hn,h=>by simp at h;subst h;exact hn.1
 | a::ts,i+1,t,hn,h=>by simp at h;exact DX hn.2 h
mutual
def depth:Tm→Nat
 | .mk _ _ _ _ ks=>HL ks+1
def HL:List Tm→Nat
 | []=>0
 | t::ts=>max (depth t) (HL ts)
end
theorem W2 {ts:List Tm}{i:Nat}{t:Tm}(h:ts[i]?=some t):HL (ts.take (i+1))=max (HL (ts.take i)) (depth t):=by
 induction ts generalizing i with
 | nil=>simp at h
 | cons a ts ih =>
  cases i with
  | zero=>simp at h;subst h;simp[HL]
  | succ i=>simp at h;simp only[List.take_succ_cons,HL,ih h];omega
mutual
theorem Tq:∀t:Tm,depth t≤size t
 | .mk _ _ _ _ ks=>by simp only[depth,size];have:=Iu ks;omega
theorem Iu:∀ts:List Tm,HL ts≤BX ts
 | []=>by simp[HL]
 | t::ts=>by simp only[HL,BX];have:=Tq t;have:=Iu ts;omega
end
theorem SD {ts:List Tm}(i:Nat):HL (ts.take i)≤HL ts:=by
 induction ts generalizing i with
 | nil=>simp[HL]
 | cons a ts ih =>
  cases i with
  | zero=>simp[HL]
  | succ i=>simp only[List.take_succ_cons,HL];have:=ih i;omega
end Go.Eu
namespace Go.Eu
theorem O6 (bs : ByteArray) : ∀ (d i : Nat) (r : List UInt8), bs.size - i = d → ByteArray.toList.loop bs i r = r.reverse ++ bs.data.toList.drop i := by
 intro d
 induction d with
 | zero =>
  intro i r h
  unfold ByteArray.toList.loop
  have : ¬ i < bs.size := by omega
  simp only [this, if_false]
  rw [List.drop_eq_nil_of_le (by have : bs.data.size = bs.size := rfl; simp; omega)]; simp
 | succ d ih =>
  intro i r h
  unfold ByteArray.toList.loop
  have hi : i < bs.size := by omega
  simp only [hi, if_true]
  rw [ih (i + 1) _ An]
  have hlt : i < bs.data.toList.length := by have : bs.data.size = bs.size := rfl; simp; omega
  rw [List.drop_eq_getElem_cons hlt]
  have : bs.get! i = bs.data.toList[i] := by
   have h2 : i < bs.data.size := by simpa using hlt
   show bs.data[i]! = _
   rw [getElem!_pos bs.data i h2]; simp
  simp [this]
theorem OV (bs:ByteArray):bs.toList=bs.data.toList:=by
 unfold ByteArray.toList;rw[O6 bs _ 0 [] rfl];simp
theorem F3 {a b:ByteArray}(h:a.toList=b.toList):a=b:=by
 rw[OV,OV] at h;cases a;cases b;simp at h;congr
end Go.Eu
namespace Go.Eu
open Go.Abs
mutual
def Ee:Tm→Int→Int
 | .mk _ _ _ _ ks,most=>EU ks most 0
def EU:List Tm→Int→Int→Int
 | [],_,n=>n
 | t::ts,most,n=>if n > most then n else EU ts most (wr (n+wr (1+Ee t (wr (most - n)))))
end
theorem Uj {l:List Tm}{i:Nat}{t:Tm}{most n:Int}(h:l[i]?=some t):EU (l.drop i) most n=if n > most then n else EU (l.drop (i+1)) most (wr (n+wr (1+Ee t (wr (most - n))))):=by
 have hlt:i<l.length:=(List.getElem?_eq_some_iff.1 h).1;rw[List.drop_eq_getElem_cons hlt];have:l[i]=t:=by simpa [List.getElem?_eq_getElem hlt] using h
 rw[this,EU]
end Go.Eu
namespace Go.Eu
def arity (k:Int):Int:=if k=4∨k=5∨k=6∨k=7 then 2 else if k=8∨k=11 then 3 else if k=9∨k=10 then 1 else 0
def below (k i:Int):Int:=if ((i==1&&(k==5||k==6||k==7))||(i==2&&k==11))=true then 1 else 0
def Z1:Tm→Prop
 | .mk kd _ _ _ ks=>0≤kd∧kd<13∧(ks.length:Int)=arity kd
mutual
def wf (vars metas:Int):Int→Tm→Prop
 | d,.mk kd ix _ _ ks=>0≤kd∧kd<13∧(ks.length:Int)=arity kd∧(kd=0→0≤ix∧ix - d<vars)∧(kd=12→0≤ix∧ix<metas)∧fA vars metas kd d 0 ks
def fA (vars metas:Int):Int→Int→Nat→List Tm→Prop
 | _,_,_,[]=>True
 | kd,d,i,t::ts=>wf vars metas (d+below kd i) t∧fA vars metas kd d (i+1) ts
end
theorem LJ {vars metas kd d:Int}:∀{ks:List Tm}{i:Nat},(∀j t,ks[j]?=some t→wf vars metas (d+below kd ((i+j:Nat):Int)) t)→fA vars metas kd d i ks
 | [],i,_=>by simp[fA]
 | t::ts,i,h=>by
  simp only[fA];exact⟨by have:=h 0 t rfl;simpa using this,LJ fun j t' ht=>by have:=h (j+1) t' (by simpa using ht);rw[show i+1+j=i+(j+1) by omega];exact this⟩
theorem Cf (k i:Int):0≤below k i∧below k i≤1:=by unfold below;split<;>omega
theorem Cx {α:Type}{l:List α}{p:Nat→α→Prop}{i:Nat}{x:α}(h:∀j,j<i→∀t,l[j]?=some t→p j t) (hx:l[i]?=some x) (hp:p i x):∀j,j<i+1→∀t,l[j]?=some t→p j t:=by
 intro j hj t ht;rcases Nat.lt_or_ge j i with h' | h'
 ·exact h j h' t ht
 have e:j=i:=by omega
 subst e;rw[hx] at ht;injection ht with ht;subst ht;exact hp
end Go.Eu
namespace Go.Abs
section
variable {α:Type}
def Qb (is:List Nat):Nat→List α→List α
 | _,[]=>[]
 | k,a::l=>bif is.any (Nat.beq k ·) then a::Qb is (k+1) l else Qb is (k+1) l
theorem P3 (is:List Nat):∀(k:Nat) (l:List α),(Qb is k l).Sublist l
 | _,[]=>List.Sublist.refl _
 | k,a::l=>by
  simp only[Qb];cases is.any (Nat.beq k ·)
  ·exact(P3 is (k+1) l).cons _
  exact(P3 is (k+1) l).cons_cons _
theorem B8 {is:List Nat}{l l':List α}(h:Qb is 0 l=l'):l'.Sublist l:=h▸P3 is 0 l
def FR (H:List α):List Nat→List α→Prop
 | [],xs=>xs=[]
 | i::is,xs=>∃x xs',xs=x::xs'∧H[i]?=some x∧FR H is xs'
def Lz (H:List α):List Nat→List α→List α
 | i::is,x::xs=>Lz (H.set i x) is xs
 | _,_=>H
def C9 (is:List Nat):Nat→List α→List α
 | _,[]=>[]
 | k,a::l=>if k∈is then C9 is (k+1) l else a::C9 is (k+1) l
theorem QK:∀(k:Nat) (l:List α),C9 [] k l=l
 | _,[]=>rfl
 | k,a::l=>by simp[C9,QK (k+1) l]
theorem QU {is:List Nat}{j:Nat}:∀(k:Nat) (l:List α),j<k→C9 (j::is) k l=C9 is k l
 | _,[],_=>rfl
 | k,a::l,h=>by
  have:k≠j:=by omega
  have ih:=QU (is:=is) (j:=j) (k+1) l An;simp[C9,this,ih]
theorem OK {is:List Nat}{x:α}:∀(l:List α) (k i:Nat),l[i]?=some x→(k+i) ∉ is→(C9 is k l).Perm (x::C9 ((k+i)::is) k l)
 | [],k,i,h,_=>by simp at h
 | a::l,k,0,h,hn=>by
  simp at h hn;subst h;simp[C9,hn,QU (k+1) l (Nat.lt_succ_self k)]
 | a::l,k,i+1,h,hn=>by
  simp at h;have ih:=OK l (k+1) i h (by rw[show k+1+i=k+(i+1) by omega];exact hn);rw[show k+1+i=k+(i+1) by omega] at ih;have hk:k≠k+(i+1):=by omega
  simp only[C9,List.mem_cons,hk,false_or];split
  ·exact ih
  exact(ih.cons a).trans (.swap _ _ _)
theorem DO {H:List α}:∀{is:List Nat}{xs:List α},is.Nodup→FR H is xs→H.Perm (xs++C9 is 0 H)
 | [],xs,_,h=>by simp only[FR] at h;subst h;simp[QK]
 | i::is,xs,hn,h=>by
  obtain⟨x,xs',rfl,hx,hr⟩:=h;have hn':=List.nodup_cons.1 hn;have ih:=DO hn'.2 hr;have:=OK (is:=is) H 0 i hx (by simpa using hn'.1);simp only[Nat.zero_add] at this;exact ih.trans (((List.Perm.refl xs').append this).trans List.perm_middle)
theorem Qg {is:List Nat}{y:α}:∀(l:List α) (k i:Nat),(k+i)∈is→C9 is k (l.set i y)=C9 is k l
 | [],k,i,_=>by simp
 | a::l,k,0,h=>by simp at h;simp[C9,h]
 | a::l,k,i+1,h=>by
  have:=Qg (y:=y) l (k+1) i (by rw[show k+1+i=k+(i+1) by omega];exact h);simp only[List.set_cons_succ,C9,this]
theorem Ro {i:Nat}{y:α}:∀{is:List Nat}{xs H:List α},i ∉ is→FR H is xs→FR (H.set i y) is xs
 | [],xs,H,_,h=>h
 | j::is,xs,H,hn,h=>by
  obtain⟨x,xs',rfl,hx,hr⟩:=h;simp at hn;exact⟨x,xs',O,by rw[List.getElem?_set_ne hn.1];exact hx,Ro hn.2 hr⟩
theorem Us:∀{is:List Nat}{xs xs' H:List α},is.Nodup→FR H is xs→xs'.length=xs.length→FR (Lz H is xs') is xs'∧(∀ks k,(∀i∈is,k+i∈ks)→C9 ks k (Lz H is xs')=C9 ks k H)∧∀j,j ∉ is→(Lz H is xs')[j]?=H[j]?
 | [],xs,xs',H,_,h,hl=>by
  simp only[FR] at h;subst h;have:xs'=[]:=by simpa using hl
  subst this;exact⟨O,fun _ _ _=>O,fun _ _=>O⟩
 | i::is,xs,xs',H,hn,h,hl=>by
  obtain⟨x,xr,rfl,hx,hr⟩:=h;have hn':=List.nodup_cons.1 hn;cases xs' with
  | nil=>simp at hl
  | cons y ys =>
   have hlt:i<H.length:=(List.getElem?_eq_some_iff.1 hx).1;obtain⟨h1,h2,h3⟩:=Us (H:=H.set i y) hn'.2 (Ro hn'.1 hr) (by simpa using hl);refine⟨⟨y,ys,O,by rw[Lz,h3 i hn'.1];simp[hlt],h1⟩,fun ks k hk=>?_,fun j hj=>?_⟩
   ·rw[Lz,h2 ks k (fun q hq=>hk q (by simp[hq])),Qg _ _ _ (hk i Ao)]
   simp at hj;rw[Lz,h3 j hj.2,List.getElem?_set_ne (fun e=>hj.1 e.symm)]
theorem Mp {is:List Nat}{xs xs' H:List α}(hn:is.Nodup) (h:FR H is xs) (hl:xs'.length=xs.length):(Lz H is xs').Perm (xs'++C9 is 0 H):=by
 obtain⟨h1,h2,_⟩:=Us hn h hl;have:=DO hn h1
 rwa [h2 is 0 (fun i hi=>by simpa using hi)] at this
end
def m9 (τ:Nat→AV) (x:AV):List Nat→Prop
 | []=>True
 | t::r=>τ t=x∧m9 τ x r
theorem D5 {τ:Nat→AV}{x:AV}:∀{ts:List Nat},m9 τ x ts→∀t∈ts,τ t=x
 | [],_,t,h=>by simp at h
 | a::r,h,t,ht=>by
  rcases List.mem_cons.1 ht with rfl | ht
  ·exact h.1
  exact D5 h.2 t ht
section
variable {P:Program}{S:Bq}{a T n b i:Nat}{cs:List AV}{v:AV}
theorem BA (hT:D9 P T=some (true,n)) (ha:S.τ a= .ptr b 0) (hi:S.H[i]?=some (.box b cs)) (hn:cs.length=n):mR P S (.cell a T) (.agg cs):=by
 obtain⟨d,h1,h2,h3⟩:=FM hT;exact⟨b,cs,i,ha,hi,.inl ⟨d,h1,h2,by rw[h3,hn],rfl⟩⟩
theorem Gu (hT:D9 P T=some (false,n)) (ha:S.τ a= .ptr b 0) (hi:S.H[i]?=some (.box b [v])):mR P S (.cell a T) v:=by
 obtain⟨d,h1,h2,h3⟩:=FM hT;exact⟨b,[v],i,ha,hi,.inr ⟨d,h1,h2,O⟩⟩
end
section
variable {P:Program}{dst:Option Tmp}{ty:TypeId}{pos:String}{aft:Array Edge}{g:Option (Nat×Bool)}{ρ:Operand→AV}{H Hs Hs':List BK}{x y z:Operand}{v:AV}{c:Call}{f:Operand}{fid:FuncId}{first caps A:List AV}
theorem DT.permD {o:Oper}{H H' H'':List BK}(h:Dv P o ρ H v H') (hp:H'.Perm H''):Dv P o ρ H v H'':=by
 intro r F S a w hs hH hρ hd;have:=h r F S a w hs hH hρ hd;refine H8 this ?_ ?_
 ·rintro a' w' ⟨v',H1,F',⟨rfl,rfl⟩,hs',ht⟩;exact⟨v',H'',F',⟨O,O⟩,⟨hs'.size,hs'.tmp,hs'.heap.perm hp,hs'.defs⟩,{ ht with keys:=fun o ho=>ht.keys o (hp.mem_iff.2 ho) }⟩
 rintro e a' w' ⟨v',H1,F',u,h,_⟩;exact h.elim
theorem CE (is:List Nat) (hc:c.callee= .value f) (hf:(ρ f= .p (.fn fid)∧first=[]∧caps=[])∨ρ f= .fn (.func fid) first caps) (h:Bn P fid A Hs (Gk v Hs')) (hg:FR H is Hs) (hn:is.Nodup) (hl:Hs'.length=Hs.length) (hA:first++c.args.toList.map ρ++caps=A∨(first++c.args.toList.map ρ++caps).map norm=A) :
  Dv P ⟨dst,.call c,ty,pos,aft,g⟩ ρ H v (Lz H is Hs') :=
 DT.permD (m7 hc hf (DO hn hg) h hA) (Mp hn hg hl).symm
theorem lX (hc:c.callee= .value f) (hf:ρ f= .fn (.func fid) first caps) (h:ET P fid A v) (hA:first++c.args.toList.map ρ++caps=A∨(first++c.args.toList.map ρ++caps).map norm=A) :
  Dv P ⟨dst,.call c,ty,pos,aft,g⟩ ρ H v H:=by
 refine(GI (H:=H) (Hs:=[]) (Hf:=H) hc (.inr hf) (A:=A) Ao h hA).mono ?_;rintro r H' ⟨Hs',h1,rfl⟩;cases r with
 | val v'=>obtain⟨rfl,rfl⟩:=h1;exact⟨rfl,rfl⟩
 | panic v'=>exact h1
theorem CR {T T2 e e2:TypeId}{sz bytes n2 n3 c i n:Nat}{o:Option Nat}{rows rows' rows2:List (List PV)}{zv:Value}(hT:F5 P T=some (e,sz,bytes)) (hT2:F5 P T2=some (e2,n2,n3)) (hz:zeroOf P e=some zv) (hzs:zv.cells.size=sz) (hb0:(Nat.blt 0 sz&&Nat.blt 0 bytes)=true)
  (hx:ρ x= .vs o n c) (hn:n=rows.length) (hi:H[i]?=some (.vec o sz rows c)) (hy:norm (ρ y)= .p (.lst rows')) (hsol:∀r∈rows',EM sz r) (hroom:2*(rows.length+rows'.length)*bytes≤281474976710656) (h2:rows++rows'=rows2) :
  DT P ⟨dst,.call { callee:= .builtin .append,args:=#[x,y],argTypes:=#[T,T2] },ty,pos,aft,g⟩ ρ H (PI i sz rows2 H):=by
 subst h2;exact Sy hT hT2 hz hzs hb0 hx hn hi hy hsol hroom
theorem Vx {F:Nat→Prop}{w:World}{u:Value}(h:CN F w (.p .nils) u):CN F w (.vs none 0 0) u:=by
 simp only[CN,CK] at *;exact⟨Ap,Ap,none,h⟩
theorem Y0 {α : Type} : ∀ {us cs : List α}, us.length = cs.length → splice cs 0 us = us := by
 have key : ∀ (us : List α) (pre cs : List α), us.length = cs.length → splice (pre ++ cs) pre.length us = pre ++ us := by
  intro us
  induction us with
  | nil => intro pre cs h; have : cs = [] := by simpa using h.symm
           subst this; simp [splice]
  | cons u us ih =>
   intro pre cs h
   cases cs with
   | nil => simp at h
   | cons c cs =>
    simp only [splice]
    have := ih (pre ++ [u]) cs (by simpa using h)
    have e : (pre ++ c :: cs).set pre.length u = pre ++ [u] ++ cs := by simp
    rw [e]
    simpa using this
 intro us cs h
 exact key us [] cs h
theorem Cc {T:TypeId}{bl:Bool}{n b i:Nat}{cs us:List AV}(hT:D9 P T=some (bl,n+1)) (hx:ρ x= .ptr b 0) (hi:H[i]?=some (.box b cs)) (hy:Ef (ρ y)=some us) (hn:us.length=n+1)
  (ho:cs.length=n+1) (h1:us.all one=true):Dv P ⟨dst,.store T x y,ty,pos,aft,g⟩ ρ H (.p .any) (H.set i (.box b us)):=by
 have:=KH (P:=P) (dst:=dst) (ty:=ty) (pos:=pos) (aft:=aft) (g:=g) hT hx hi hy hn (by rw[ho];simp) h1
 rwa [Y0 (by rw[hn,ho])] at this
theorem EH {T:TypeId}{bl:Bool}{b i j sz c:Nat}{rows rows2:List (List PV)}{us:List AV}{r:List PV}(hT:D9 P T=some (bl,sz)) (hpos:Nat.blt 0 sz=true) (hx:ρ x= .ptr b (j*sz)) (hi:H[i]?=some (.vec (some b) sz rows c)) (hj:j<rows.length) (hy:Ef (ρ y)=some us) (hp:Gg (us.map dn)=some r) (hrl:r.length=sz) (h1:us.all one=true) (h2:rows.set j r=rows2) :
  Dv P ⟨dst,.store T x y,ty,pos,aft,g⟩ ρ H (.p .any) (H.set i (.vec (some b) sz rows2 c)):=by
 subst h2;exact TY hT hpos hx hi hj hy hp hrl h1
theorem Mc {T e:TypeId}{sz bytes:Nat}{m:Int}{zs:List Value}{zv:Value}{zr:List PV}{rows2:List (List PV)}(hT:F5 P T=some (e,sz,bytes)) (hz:zeroOf P e=some zv) (hzs:zv.cells=⟨zs⟩) (hsz:zs.length=sz) (hpos:0<sz) (hp:Gg ((zs.map GR).map dn)=some zr)
  (hx:ρ x= .p (.int .i64 m)) (hy:ρ y= .p (.int .i64 m)) (h0:0≤m) (hm:bytes*m≤281474976710656) (hm2:m≤9223372036854775807) (h2:List.replicate m.toNat zr=rows2) :
  DT P ⟨dst,.makeSlice T x y,ty,pos,aft,g⟩ ρ H (N7 sz rows2 H):=by
 subst h2;exact Tk hT hz hzs hsz hpos hp hx hy h0 hm hm2
theorem CZ {T e:TypeId}{sz bytes lo hi:Nat}{rows rows2:List (List PV)}{l h:Option Operand}(hT:F5 P T=some (e,sz,bytes)) (hx:ρ x= .p (.lst rows)) (hr:∀r∈rows,r.length=sz)
  (hl:match l with | none=>lo=0 | some y=>∃k,ρ y= .p (.int k lo)) (hh:match h with | none=>hi=rows.length | some y=>∃k,ρ y= .p (.int k hi)) (h1:lo≤hi) (h2:hi≤rows.length) (h3:(rows.take hi).drop lo=rows2) :
  Dv P ⟨dst,.slice T x l h none,ty,pos,aft,g⟩ ρ H (.p (.lst rows2)) H:=by
 subst h3;exact eF hT hx hr hl hh h1 h2
end
section
variable {P:Program}{r:Option Nat}{ops:Array Oper}{Q:Cs→Bq→Prop}{k:Nat}{n:Nat}{τ:Nat→AV}{H H':List BK}{D:List EG}{dst:Option Tmp}{op:Op}{ty:TypeId}{pos:String}{aft:Array Edge}{v:AV}
theorem oQ (ho:ops[k]?=some ⟨dst,op,ty,pos,aft,none⟩) (hd:Gm dst n=true) (h:DT P ⟨dst,op,ty,pos,aft,none⟩ (ev τ) H (jA H))
  (next:∀b,AL P r ops (k+1) ⟨n,put τ dst (.map b),.map b (EF [])::H,D⟩ Q):AL P r ops k ⟨n,τ,H,D⟩ Q :=
 GJ (S:=⟨n,τ,H,D⟩) ho Ah (Ir hd) h (fun v H' ⟨b,h1,h2⟩=>by subst h1;subst h2;exact next b) (fun _ _ h=>h.elim)
end
theorem leH {is:List Nat}{H H1 H':List BK}(h:Qb is 0 H=H1) (w:Ft H1 H'):nC H H':=⟨H1,B8 h,w⟩
theorem E1 {x y:AV}(h:norm x=y):Q0 x y:=fun _ _ _ hr=>h▸hr.norm
theorem C2:Ft [] []:=rfl
theorem wl {o o':BK}{l l':List BK}(h:MG o o') (r:Ft l l'):Ft (o::l) (o'::l'):=⟨o',l',rfl,h,r⟩
theorem on {b:Nat}{cs cs':List AV}(h:cs.map dn=cs'):MG (.box b cs) (.box b cs'):=⟨rfl,fun F w hr=>by
 obtain⟨vs,T,h1,h2⟩:=hr;exact⟨vs,T,h1,h▸Ka h2⟩⟩
theorem BW {n:Nat}{τ:Nat→AV}{H:List BK}{D:List EG}{i b:Nat}{cs:List AV}(hi:H[i]?=some (.box b cs)):Ik ⟨n,τ,H,D⟩ ⟨n,τ,H.set i (.box b (cs.map dn)),D⟩:=by
 intro F a w hs;refine⟨F,⟨hs.size,hs.tmp,?_,hs.defs⟩,?_⟩
 ·have hk:=F9 (x':= .box b (cs.map dn)) hi rfl;refine⟨fun o ho c hc=>?_,by show List.Nodup _;rw[hk];exact hs.heap.nodup,fun o ho=>?_,hs.heap.bd⟩
  ·rcases Dj ho with rfl | ⟨j,_,hj⟩
   ·exact hs.heap.sub _ (List.mem_of_getElem? hi) c hc
   exact hs.heap.sub _ (List.mem_of_getElem? hj) c hc
  rcases Dj ho with rfl | ⟨j,_,hj⟩
  ·exact(on O).2 F w (hs.heap.obj _ (List.mem_of_getElem? hi))
  exact hs.heap.obj _ (List.mem_of_getElem? hj)
 refine { Trans.refl (F:=F) (H:=H) (w:=w) with keys:=fun o ho c hc=>?_ };rcases Dj ho with rfl | ⟨j,_,hj⟩
 ·exact .inl ⟨_,List.mem_of_getElem? hi,hc⟩
 exact .inl ⟨_,List.mem_of_getElem? hj,hc⟩
theorem D3 {n:Nat}{τ:Nat→AV}{H:List BK}{D:List EG}(t:Nat):Ik ⟨n,τ,H,D⟩ ⟨n,put τ (some t) (norm (τ t)),H,D⟩:=R9 fun _ _ _ h=>h.norm
theorem ob {b:Nat}{cs cs':List AV}(h:cs=cs'):MG (.box b cs) (.box b cs'):=oe (by rw[h])
theorem om {b:Nat}{l l':List (PV×AV)}(h:l=l'):MG (.map b l) (.map b l'):=oe (by rw[h])
def eD (mkv:AV→AV) (sz:Nat) (rows:List (List PV)):Ek→List BK→Prop
 | .val v,H'=>∃o c,v=mkv (.vs o rows.length c)∧H'=[.vec o sz rows c]
 | .panic _,_=>False
section
variable {P:Program}{r:Option Nat}{ops:Array Oper}{Q:Cs→Bq→Prop}{k:Nat}{n:Nat}{τ:Nat→AV}{H H':List BK}{D:List EG}{dst:Option Tmp}{op:Op}{ty:TypeId}{pos:String}{aft:Array Edge}{v:AV}
theorem Nx {c:Call}{f:Operand}{fid:FuncId}{first caps:List AV}{A:List AV}{mkv:AV→AV}{sz:Nat}{rows:List (List PV)}
  (ho:ops[k]?=some ⟨dst,.call c,ty,pos,aft,none⟩) (hd:Gm dst n=true)
  (hc:c.callee= .value f) (hf:(ev τ f= .p (.fn fid)∧first=[]∧caps=[])∨ev τ f= .fn (.func fid) first caps) (h:Bn P fid A [] (eD mkv sz rows)) (hA:first++c.args.toList.map (ev τ)++caps=A∨(first++c.args.toList.map (ev τ)++caps).map norm=A)
  (next:∀o cp,AL P r ops (k+1) ⟨n,put τ dst (mkv (.vs o rows.length cp)),.vec o sz rows cp::H,D⟩ Q):AL P r ops k ⟨n,τ,H,D⟩ Q :=
 I6 ho hd hc hf (Hs:=[]) (Hf:=H) Ao h hA (fun v H' ⟨o,cp,h1,h2⟩=>by subst h1;subst h2;exact next o cp) (fun _ _ h=>h.elim)
end
theorem ZI {P:Program}{f:FuncId}{args:List AV}{pre post:List AV}{sz:Nat}{rows:List (List PV)}(h:Bn P f args [] (eD (fun v=> .tup (pre++v::post)) sz rows)) (hb:∀x∈pre++post,∀F F' w v,Dk F w F' w→CN F w x v→CN F' w x v) :
  ET P f args (.tup (pre++ .p (.lst rows)::post)):=by
 refine⟨h.1,fun F w vs hH ha=>(h.2 F w vs hH ha).mono ?_⟩;rintro e w' ⟨r,H',F',hR,he,hH',ht⟩;cases r with
 | panic v=>exact hR.elim
 | val v =>
  obtain⟨o,c,rfl,rfl⟩:=hR;obtain⟨u,rfl,hu⟩:=he;have hbd:∀b,o=some b→b<w'.heap.size:=fun b hb=>hH'.bd b (hH'.sub _ (List.mem_cons_self ..) b (by rw[←hb];rfl));have st:Dk F' w' (fun b=>F' b∧o≠some b) w':=⟨Nat.le_refl _,fun _ _ _=>rfl,fun _ h _ h'=>h h'.1⟩;have hob:=hH'.obj _ (List.mem_cons_self ..);refine⟨.val (.tup (pre++ .p (.lst rows)::post)),[],fun b=>F' b∧o≠some b,⟨O,O⟩,⟨u,O,?_⟩,?_,?_⟩
  ·simp only[CN] at hu ⊢;obtain⟨us,hus,hr⟩:=hu;refine⟨us,hus,?_⟩;have key:∀(pre:List AV) (us:List Value),(∀x∈pre++post,∀F F' w v,Dk F w F' w→CN F w x v→CN F' w x v)→Bz F' w' (pre++ .vs o rows.length c::post) us→Bz (fun b=>F' b∧o≠some b) w' (pre++ .p (.lst rows)::post) us:=by
    intro pre
    induction pre with
    | nil =>
     intro us hb hr;simp only[List.nil_append,Bz] at hr ⊢;obtain⟨u,us',rfl,h1,h2⟩:=hr;refine⟨u,us',O,LK hbd hob h1 _ st (fun b hb h=>h.2 hb),?_⟩;exact Bz.mono st _ _ h2
    | cons x pre ih =>
     intro us hb hr;simp only[List.cons_append,Bz] at hr ⊢;obtain⟨u,us',rfl,h1,h2⟩:=hr;exact⟨u,us',rfl,hb x Ao _ _ _ _ st h1,ih us' (fun y hy=>hb y (by simp at hy ⊢;rcases hy with h | h<;>simp[h])) h2⟩
   exact key pre us hb hr
  ·exact⟨fun _ h=>by simp at h,by simp,fun _ h=>by simp at h,fun b hb=>hH'.bd b hb.1⟩
  refine⟨ht.size,fun b hb hn=>ht.same b hb hn,fun b hb hn=>⟨ht.keep b hb hn,?_⟩,fun b hb=>ht.fresh b hb.1,fun _ h=>by simp at h,ht.os,ht.out,ht.tape⟩;intro ho;subst ho;have:=hH.bd b hb;rcases ht.keys _ (List.mem_cons_self ..) b rfl with ⟨o',ho',_⟩ | h
  ·simp at ho'
  omega
theorem Wv (c:AV) (F F':Nat→Prop) (w:World) (v:Value) (st:Dk F w F' w) (h:CN F w c v):CN F' w c v:=CN.mono st _ _ h
def GV:List AV→List AV→Prop
 | [],ys=>ys=[]
 | x::xs,ys=>∃y ys',ys=y::ys'∧Q0 x y∧GV xs ys'
theorem E0:GV [] []:=rfl
theorem aw {x y:AV}{xs ys:List AV}(h:Q0 x y) (r:GV xs ys):GV (x::xs) (y::ys):=⟨y,ys,rfl,h,r⟩
theorem P6 {F:Nat→Prop}{w:World}:∀{xs ys:List AV}{vs:List Value},GV xs ys→Bz F w xs vs→Bz F w ys vs
 | [],ys,vs,h,hr=>by simp only[GV] at h;subst h;exact hr
 | x::xs,ys,vs,h,hr=>by
  obtain⟨y,ys',rfl,h1,h2⟩:=h;simp only[Bz] at hr ⊢;obtain⟨u,us,rfl,r1,r2⟩:=hr;exact⟨u,us,O,h1 F w u r1,P6 h2 r2⟩
theorem JM:Q0 (.p .nils) (.vs none 0 0):=fun _ _ _ h=>Vx h
theorem Bn.args {P:Program}{f:FuncId}{args A:List AV}{H:List BK}{R:Ek→List BK→Prop}(h:Bn P f A H R) (hA:GV args A):Bn P f args H R :=
 ⟨h.1,fun F w vs hH ha=>h.2 F w vs hH (P6 hA ha)⟩
section
variable {P:Program}{r:Option Nat}{ops:Array Oper}{Q:Cs→Bq→Prop}{k:Nat}{n:Nat}{τ:Nat→AV}{H Hs:List BK}{D:List EG}{dst:Option Tmp}{op:Op}{ty:TypeId}{pos:String}{aft:Array Edge}{v:AV}{c:Call}{f:Operand}{fid:FuncId}{first caps A:List AV}{R:Ek→List BK→Prop}
theorem UX {S:Bq}{H':List BK}(hp:S.H.Perm H'):Ik S ⟨S.n,S.τ,H',S.D⟩:=fun F a w hs =>
 ⟨F,⟨hs.size,hs.tmp,hs.heap.perm hp,hs.defs⟩,{ Trans.refl (F:=F) (H:=S.H) (w:=w) with keys:=fun o ho b hb=> .inl ⟨o,hp.mem_iff.2 ho,hb⟩ }⟩
theorem iB (is:List Nat) (ho:ops[k]?=some ⟨dst,.call c,ty,pos,aft,none⟩) (hd:Gm dst n=true)
  (hc:c.callee= .value f) (hf:(ev τ f= .p (.fn fid)∧first=[]∧caps=[])∨ev τ f= .fn (.func fid) first caps) (h:Bn P fid A Hs R) (hg:FR H is Hs) (hn:is.Nodup) (hA:GV (first++c.args.toList.map (ev τ)++caps) A)
  (next:∀v Hs',R (.val v) Hs'→Hs'.length=Hs.length∧AL P r ops (k+1) ⟨n,put τ dst v,Lz H is Hs',D⟩ Q) (pan:∀v Hs',R (.panic v) Hs'→Q (.panic v) ⟨n,τ,Hs'++C9 is 0 H,D⟩):AL P r ops k ⟨n,τ,H,D⟩ Q :=
 I6 ho hd hc hf (DO hn hg) (h.args hA) (.inl rfl) (fun v H' hR=>by
  obtain⟨hl,hn'⟩:=next v H' hR;exact B4 (UX (S:=⟨n,put τ dst v,H'++C9 is 0 H,D⟩) (Mp hn hg hl).symm) hn') pan
theorem gR (is:List Nat) (ho:ops[k]?=some ⟨dst,.call c,ty,pos,aft,none⟩) (hd:Gm dst n=true)
  (hc:c.callee= .value f) (hf:(ev τ f= .p (.fn fid)∧first=[]∧caps=[])∨ev τ f= .fn (.func fid) first caps) (h:Bn P fid A Hs R) (hg:FR H is Hs) (hn:is.Nodup) (hA:GV (first++c.args.toList.map (ev τ)++caps) A)
  (next:∀v Hs',R (.val v) Hs'→AL P r ops (k+1) ⟨n,put τ dst v,Hs'++C9 is 0 H,D⟩ Q) (pan:∀v Hs',R (.panic v) Hs'→Q (.panic v) ⟨n,τ,Hs'++C9 is 0 H,D⟩):AL P r ops k ⟨n,τ,H,D⟩ Q :=
 I6 ho hd hc hf (DO hn hg) (h.args hA) (.inl rfl) next pan
theorem H6 {sz:Nat}:Ik ⟨n,τ,H,D⟩ ⟨n,τ,.vec none sz [] 0::H,D⟩:=by
 intro F a w hs;have hH:HRel F (.vec none sz [] 0::H) w:=⟨fun o ho b hb=>by
   rcases List.mem_cons.1 ho with rfl | ho
   ·cases hb
   ·exact hs.heap.sub o ho b hb,by simpa [List.filterMap_cons,BK.key] using hs.heap.nodup,fun o ho=>by
   rcases List.mem_cons.1 ho with rfl | ho
   ·exact⟨O,O⟩
   exact hs.heap.obj o ho,hs.heap.bd⟩
 exact⟨F,⟨hs.size,hs.tmp,hH,hs.defs⟩,⟨Nat.le_refl _,fun _ _ _=>O,fun _ h _=>h,fun _ h=> .inl h,fun o ho b hb=>by
   rcases List.mem_cons.1 ho with rfl | ho
   ·cases hb
   exact .inl ⟨o,ho,hb⟩,O,O,O⟩⟩
end
section
variable {P:Program}{r:Option Nat}{ops:Array Oper}{Q:Cs→Bq→Prop}{k:Nat}{n:Nat}{τ:Nat→AV}{H:List BK}{D:List EG}{o:Option Nat}{sz cp i:Nat}{rows:List (List PV)}
theorem Xy {F:Nat→Prop}{w:World}{a:Act}(hs:FY F ⟨n,τ,H,D⟩ a w) (hi:H[i]?=some (.vec o sz rows cp)) (hne:0<rows.length):∃b,o=some b:=by
 have:=hs.heap.obj _ (List.mem_of_getElem? hi);cases o with
 | none=>obtain⟨h,_⟩:=this;simp[h] at hne
 | some b=>exact⟨b,rfl⟩
theorem M8 (hi:H[i]?=some (.vec o sz rows cp)) (hne:0<rows.length) (next:∀b,o=some b→AL P r ops k ⟨n,τ,H,D⟩ Q):AL P r ops k ⟨n,τ,H,D⟩ Q:=fun F a w hs=>by
 obtain⟨b,hb⟩:=Xy hs hi hne;exact next b hb F a w hs
theorem MU {c:Code}(hi:H[i]?=some (.vec o sz rows cp)) (hne:0<rows.length) (next:∀b,o=some b→Ie P r c ⟨n,τ,H,D⟩ Q):Ie P r c ⟨n,τ,H,D⟩ Q:=fun F a w hs=>by
 obtain⟨b,hb⟩:=Xy hs hi hne;exact next b hb F a w hs
end
section
variable {P:Program}{dst:Option Tmp}{ty:TypeId}{pos:String}{aft:Array Edge}{g:Option (Nat×Bool)}{ρ:Operand→AV}{H:List BK}
theorem BJ {a:Operand}{T e:TypeId}{n n1 n2:Nat}{rows:List (List PV)}(hT:F5 P T=some (e,n1,n2)) (hx:ρ a= .p (.lst rows)) (hn:rows.length=n) :
  Dv P ⟨dst,.call { callee:= .builtin .len,args:=#[a],argTypes:=#[T] },ty,pos,aft,g⟩ ρ H (.p (.int .i64 n)) H:=Nv hT (.inl ⟨rows,hx,hn⟩)
theorem Kj {a:Operand}{T e:TypeId}{m n n1 n2 c:Nat}{o:Option Nat}(hT:F5 P T=some (e,n1,n2)) (hx:ρ a= .vs o m c) (hn:m=n) :
  Dv P ⟨dst,.call { callee:= .builtin .len,args:=#[a],argTypes:=#[T] },ty,pos,aft,g⟩ ρ H (.p (.int .i64 n)) H:=Nv hT (.inr (.inl ⟨o,c,by rw[hx,hn]⟩))
end
section
variable {P:Program}{dst:Option Tmp}{ty:TypeId}{pos:String}{aft:Array Edge}{g:Option (Nat×Bool)}{ρ:Operand→AV}{H:List BK}{x y:Operand}
theorem XL {m n:Int}{T U:TypeId}(hx:ρ x= .p (.int .i64 m)) (hy:ρ y= .p (.int .i64 n)):Dv P ⟨dst,.binOp .mul T x y U,ty,pos,aft,g⟩ ρ H (.p (.int .i64 (wr (m*n)))) H :=
 CP fun F w E hH hE=>by
  have e1:=hE x Ac;have e2:=hE y Ac;rw[hx] at e1;rw[hy] at e2;simp only[CN,CK] at e1 e2;exact⟨.int .i64 (wr (m*n)),by simp[execOp,Sem.run_bind,Ib,e1,e2,binOp,Op.intArith],by simp[CN,CK]⟩
end
section
variable {P:Program}{ops:Array Oper}{n:Nat}{τ₀:Nat→AV}{D:List EG}{Q:Cs→Bq→Prop}{opn:Nat→Bool}{k:Nat}{τ:Nat→AV}{H:List BK}{rd:Yo}{ef:Yn}{effs:List Bool}{fx:List (Nat×Sp)}{dst:Option Tmp}{ty:TypeId}{pos:String}{aft:Array Edge}{c:Call}{f:Operand}{fid:FuncId}{first caps A:List AV}{mkv:AV→AV}{sz:Nat}{rows:List (List PV)}
theorem ny (fx':List (Nat×Sp)) (ho:ops[k]?=some ⟨dst,.call c,ty,pos,aft,none⟩) (hn:opn k=true)
  (hc:c.callee= .value f) (hf:(ev τ f= .p (.fn fid)∧first=[]∧caps=[])∨ev τ f= .fn (.func fid) first caps) (h:Bn P fid A [] (eD mkv sz rows)) (hA:first++c.args.toList.map (ev τ)++caps=A∨(first++c.args.toList.map (ev τ)++caps).map norm=A) (haft:E8 ops k (fx'.map (·.1))=true)
  (next:∀o cp,Kn ops k H (.vec o sz rows cp::H) rd∧Ha k (.eff (mkv (.vs o rows.length cp)) (.vec o sz rows cp::H)) fx∧Dr P ops n τ₀ D Q opn (k+1) (put τ dst (mkv (.vs o rows.length cp))) (.vec o sz rows cp::H) rd ((k,H,.vec o sz rows cp::H)::ef) (true::effs) (fx'++fx)):Dr P ops n τ₀ D Q opn k τ H rd ef effs fx :=
 PD fx' ho hn (GI (H:=H) (Hs:=[]) (Hf:=H) hc hf Ao h hA) haft ⟨_,_,_,⟨none,0,rfl,rfl⟩,rfl⟩ (fun v H' ⟨_,h,_⟩=>h.elim) (fun v H' ⟨Hs',⟨o,cp,h1,h2⟩,h3⟩=>by subst h1;subst h2;subst h3;exact next o cp)
end
section
variable {P:Program}{dst:Option Tmp}{ty:TypeId}{pos:String}{aft:Array Edge}{g:Option (Nat×Bool)}{ρ:Operand→AV}{H Hs Hs':List BK}{v:AV}{c:Call}{f:Operand}{fid:FuncId}{first caps A:List AV}
theorem Gz (hc:c.callee= .value f) (hf:ρ f= .p (.fn fid)) (h:ET P fid A v) (hA:GV (c.args.toList.map ρ) A):Dv P ⟨dst,.call c,ty,pos,aft,g⟩ ρ H v H:=BC hc hf (h.args hA) rfl
end
end Go.Abs
namespace Go.Eu
open Go.Abs
structure Mv where
 type:Tm
 known:Bool
 value:Tm
 cls:Bool
 deriving Inhabited
def G0 (n:Int):List PV:=[I n]
def Gr (s:ByteArray):List PV:=[.str s]
theorem MS {ts:List Int}{i:Nat}{t:Int}(h:ts[i]?=some t):(ts.map G0)[i]?=some (G0 t):=by simp[h]
theorem O2 {ts:List ByteArray}{i:Nat}{t:ByteArray}(h:ts[i]?=some t):(ts.map Gr)[i]?=some (Gr t):=by simp[h]
theorem HO {α:Type}{sz:Nat}{f:α→List PV}(h:∀a,EM sz (f a)) (l:List α):∀r∈l.map f,EM sz r:=by
 intro r hr;obtain⟨a,_,rfl⟩:=List.mem_map.1 hr;exact h a
theorem K0 (t:Tm):EM 5 (BP t):=by
 obtain⟨k,i,n,l,s⟩:=t;refine⟨O,?_⟩;intro c hc;simp[BP] at hc;rcases hc with rfl | rfl | rfl | rfl | rfl<;>simp
theorem Bv (l:List Tm):∀r∈BE l,EM 5 r:=by rw[EL];exact HO K0 l
theorem QE (l:List Int):∀r∈l.map G0,EM 1 r:=HO (f:=G0) (fun a=>⟨rfl,by simp[G0]⟩) l
theorem Kt (l:List ByteArray):∀r∈l.map Gr,EM 1 r:=HO (f:=Gr) (fun a=>⟨rfl,by simp[Gr]⟩) l
theorem GG (l:List CF):∀r∈l.map Dt,EM 2 r:=HO (f:=Dt) (fun a=>⟨rfl,by simp[Dt]⟩) l
theorem Mo (l:List CS):∀r∈l.map By,EM 2 r:=HO (f:=By) (fun a=>⟨rfl,by simp[By]⟩) l
theorem CG {sz:Nat}{rows:List (List PV)}(h:∀r∈rows,EM sz r):∀r∈rows,r.length=sz:=fun r hr=>(h r hr).1
theorem Kc (a b:List Tm):BE a++BE b=BE (a++b):=by simp[EL]
theorem GP {α:Type}{f:α→List PV}(a b:List α):a.map f++b.map f=(a++b).map f:=by simp
theorem U9 (l:List Tm) (j:Nat) (x:Tm):(BE l).set j (BP x)=BE (l.set j x):=by simp[EL,List.map_set]
theorem gf {α:Type}{f:α→List PV}(l:List α) (j:Nat) (x:α):(l.map f).set j (f x)=(l.set j x).map f:=by simp[List.map_set]
theorem qx (n:Nat) (x:Tm):List.replicate n (BP x)=BE (List.replicate n x):=by simp[EL]
theorem p4 {α:Type}{f:α→List PV}(n:Nat) (x:α):List.replicate n (f x)=(List.replicate n x).map f:=by simp
theorem OE (l:List Tm) (hi:Nat):((BE l).take hi).drop 0=BE (l.take hi):=by simp[EL,List.map_take]
theorem ZH {α:Type}{f:α→List PV}(l:List α) (hi:Nat):((l.map f).take hi).drop 0=(l.take hi).map f:=by simp[List.map_take]
theorem J0 (l:List Tm) (lo:Nat):((BE l).take (BE l).length).drop lo=BE (l.drop lo):=by rw[List.take_length];simp[EL,List.map_drop]
theorem pM {α:Type}{f:α→List PV}(l:List α) (lo:Nat):((l.map f).take (l.map f).length).drop lo=(l.drop lo).map f:=by rw[List.take_length,List.map_drop]
theorem ox (l:List Tm) (lo hi:Nat):((BE l).take hi).drop lo=BE ((l.take hi).drop lo):=by simp[EL,List.map_take,List.map_drop]
theorem HQ {sz:Nat}{r:List PV}(h:EM sz r):(r.map AV.p).all one=true:=by
 simp only[List.all_eq_true];intro x hx;obtain⟨c,hc,rfl⟩:=List.mem_map.1 hx;have:=h.2 c hc;cases c<;>simp_all [one]
theorem FX (t:Tm):((BP t).map AV.p).all one=true:=HQ (K0 t)
theorem jW {r:List PV}(h:∀c∈r,c≠ .nils):(r.map AV.p).map dn=r.map .p:=by
 induction r with
 | nil=>rfl
 | cons c r ih =>
  simp only[List.map_cons];rw[ih fun d hd=>h d (by simp[hd])];have:=h c Ao;cases c<;>simp_all [dn]
theorem Ko (t:Tm):Gg (((BP t).map AV.p).map dn)=some (BP t):=by obtain⟨k,i,n,l,s⟩:=t;rfl
end Go.Eu
namespace Go.Eu
def Qt (f a:Tm):Tm:= .mk 4 0 ⟨#[]⟩ [] [f,a]
def apply (f:Tm) (xs:List Tm):Tm:=xs.foldl Qt f
theorem TC {f:Tm}{xs:List Tm}{i:Nat}{x:Tm}(h:xs[i]?=some x):apply f (xs.take (i+1))=Qt (apply f (xs.take i)) x:=by
 simp[apply,List.take_add_one,h]
def A8:Tm→Tm×List Tm
 | .mk k i n l [f,a]=>if k=4 then ((A8 f).1,(A8 f).2++[a]) else (.mk k i n l [f,a],[])
 | t=>(t,[])
theorem R3 {k i:Int}{n:ByteArray}{l:List CS}{ts:List Tm}(h:k≠4∨((ts.length:Nat):Int)≠2):A8 (.mk k i n l ts)=(.mk k i n l ts,[]):=by
 unfold A8;split
 ·rename_i k' i' n' l' f a e;injection e with e1 e2 e3 e4 e5;subst e1 e2 e3 e4 e5;simp at h;rw[if_neg h]
 rfl
theorem US {k i:Int}{n:ByteArray}{l:List CS}{ts:List Tm}{x y:Tm}(h:k=4∧((ts.length:Nat):Int)=2) (hx:ts[0]?=some x) (hy:ts[1]?=some y):A8 (.mk k i n l ts)=((A8 x).1,(A8 x).2++[y]):=by
 obtain⟨rfl,h2⟩:=h
 match ts,h2,hx,hy with
 | [a,b],_,hx,hy =>
  simp at hx hy;subst hx hy;simp[A8]
theorem gK {ts:List Tm}{x y:Tm}(h:((ts.length:Nat):Int)=2) (hx:ts[0]?=some x) (hy:ts[1]?=some y):ts=[x,y]:=by
 match ts,h,hx,hy with
 | [a,b],_,hx,hy =>
  simp at hx hy;subst hx hy;rfl
theorem It:∀(t:Tm),size (A8 t).1+BX (A8 t).2+(A8 t).2.length=size t
 | .mk k i n l [f,a]=>by
  unfold A8;split
  ·have:=It f;simp[size,BX] at this ⊢;have e:∀(xs:List Tm) (y:Tm),BX (xs++[y])=BX xs+size y:=by
    intro xs y
    induction xs with
    | nil=>simp[BX]
    | cons z zs ih=>simp[BX,ih];omega
   rw[e];omega
  ·simp[BX]
 | .mk k i n l []=>by simp[A8,BX]
 | .mk k i n l [_]=>by simp[A8,BX]
 | .mk k i n l (_::_::_::_)=>by simp[A8,BX]
theorem Po (t:Tm):(A8 t).2.length<size t:=by
 have:=It t;have:=size_pos (A8 t).1;omega
theorem sd:(∀(p:Prop) [Decidable p],(decide p=true)=p)∧(∀{p:Prop} [Decidable p],decide p=false↔¬p)∧(∀{α:Type} [BEq α] [LawfulBEq α] {a b:α},(a==b)=true↔a=b)∧(∀{α:Type} [BEq α] [LawfulBEq α] {a b:α},(a !=b)=true↔a≠b)∧(∀{α:Type} [BEq α] [LawfulBEq α] {a b:α},(a==b)=false↔a≠b)∧(∀{α:Type} [BEq α] [LawfulBEq α] {a b:α},(a !=b)=false↔a=b)∧(∀{α:Type}(a b:α),(a≠b)=¬(a=b))∧(∀{α:Type} [LT α] {x y:α},x > y↔y<x)∧(∀{α:Type} [LE α] {x y:α},x≥y↔y≤x)∧(∀(b:Bool),(¬(b=true))=(b=false))∧(∀(b:Bool),(¬(b=false))=(b=true))∧(∀(b:Bool),((!b)=true)=(b=false))∧(∀(b:Bool),((!b)=false)=(b=true))∧(∀{a b:Int},¬a<b↔b≤a)∧(∀{a b:Int},¬a≤b↔b<a) :=
 ⟨fun _=>decide_eq_true_eq,decide_eq_false_iff_not,beq_iff_eq,bne_iff_ne,beq_eq_false_iff_ne,bne_eq_false_iff_eq,ne_eq,gt_iff_lt,ge_iff_le,Bool.not_eq_true,Bool.not_eq_false,fun b=>by cases b<;>simp,fun b=>by cases b<;>simp,Int.not_lt,Int.not_le⟩
theorem se:(∀(ts:List Tm),(BE ts).length=ts.length)∧(∀{α β:Type}{ays:List α}{f:α→β},(ays.map f).length=ays.length)∧(∀{α:Type}{n:Nat}{a:α},(List.replicate n a).length=n)∧(∀(a b:Bool),((a||b)=true)=(a=true∨b=true))∧(∀(a b:Bool),((a&&b)=true)=(a=true∧b=true))∧(∀{x y:Bool},(x||y)=false↔x=false∧y=false)∧(∀{x y:Bool},(x&&y)=false↔x=true→y=false) :=
 ⟨BQ,List.length_map _,List.length_replicate,Bool.or_eq_true,Bool.and_eq_true,Bool.or_eq_false_iff,Bool.and_eq_false_imp⟩
end Go.Eu
namespace Go.Eu
open Go.Abs
def OH (i:Int):Tm:= .mk 0 i ⟨#[]⟩ [] []
def Bh:Tm:= .mk 0 0 ⟨#[]⟩ [] []
def GB (er e:Int):Int:=if er=0 then e else er
def L6 (er i:Int):Int:=if i > 65535 then GB er 24 else er
mutual
def Ev:Tm→Int
 | .mk _ _ _ _ ks=>LZ 1 ks
def LZ:Int→List Tm→Int
 | n,[]=>n
 | n,t::ts=>LZ (wr (n+Ev t)) ts
end
mutual
def FK:Tm→Int
 | .mk _ _ _ _ ks=>wr (J3 0 ks+1)
def J3:Int→List Tm→Int
 | n,[]=>n
 | n,t::ts=>J3 (max n (FK t)) ts
end
mutual
def CT (b fr:Int):Int→Int→Tm→Tm×Int
 | d,er,.mk k i n l ks =>
  if k=0 then
   (if i<wr (fr+d) then (.mk k i n l ks,er)
    else if wr (i+b)<wr (fr+d) then (.mk k i n l ks,GB er 24)
    else (OH (wr (i+b)),L6 er (wr (i+b))))
  else ((.mk k i n l (Cy b fr k d 0 er ks).1),(Cy b fr k d 0 er ks).2)
def Cy (b fr k:Int):Int→Nat→Int→List Tm→List Tm×Int
 | d,j,er,[]=>([],er)
 | d,j,er,t::ts=>((CT b fr (d+below k j) er t).1::(Cy b fr k d (j+1) (CT b fr (d+below k j) er t).2 ts).1,(Cy b fr k d (j+1) (CT b fr (d+below k j) er t).2 ts).2)
end
mutual
def B0 (vs:List Tm):Int→Int→Int→Tm→Tm×Int×Int
 | d,er,nd,.mk k i n l ks =>
  if nd > 4096 then (.mk k i n l ks,er,nd)
  else if k=0∧i≥d∧i - d<(vs.length:Int) then
   ((CT d 0 0 er (vs.getD (i - d).toNat Bh)).1,(CT d 0 0 er (vs.getD (i - d).toNat Bh)).2,wr (nd+Ev (vs.getD (i - d).toNat Bh)))
  else if k=0 then
   (if i≥d then (OH (wr (i - vs.length)),L6 er (wr (i - vs.length)),wr (nd+1)) else (.mk k i n l ks,er,wr (nd+1)))
  else ((.mk k i n l (CW vs k d 0 er (wr (nd+1)) ks).1),(CW vs k d 0 er (wr (nd+1)) ks).2)
def CW (vs:List Tm) (k:Int):Int→Nat→Int→Int→List Tm→List Tm×Int×Int
 | d,j,er,nd,[]=>([],er,nd)
 | d,j,er,nd,t::ts=>((B0 vs (d+below k j) er nd t).1::(CW vs k d (j+1) (B0 vs (d+below k j) er nd t).2.1 (B0 vs (d+below k j) er nd t).2.2 ts).1,
   (CW vs k d (j+1) (B0 vs (d+below k j) er nd t).2.1 (B0 vs (d+below k j) er nd t).2.2 ts).2)
end
def CD (t:Tm) (vs:List Tm) (d:Int):Tm×Int :=
 if (B0 vs (min d 65536) 0 0 t).2.2 > 4096 then (Bh,5)
 else if (B0 vs (min d 65536) 0 0 t).2.1≠0 then (Bh,(B0 vs (min d 65536) 0 0 t).2.1)
 else if FK (B0 vs (min d 65536) 0 0 t).1 > 200 then (Bh,7)
 else ((B0 vs (min d 65536) 0 0 t).1,0)
structure Et where
 steps:Int
 nodes:Int
 forms:Int
 limit:Int
 over:Bool
 deriving Inhabited
def JA (c:Et):List PV:=[I c.steps,I c.nodes,I c.forms,I c.limit,.bool c.over]
def Et.form (c:Et) (t:Tm) (e:Int):Et :=
 { c with forms:=wr (c.forms+Ev t),over:=c.over||(e !=0||decide (c.steps > c.limit)||decide (c.nodes > wr (2*c.limit))||decide (wr (c.forms+Ev t) > wr (40*c.limit))||decide (Ev t > 2000)||decide (FK t > 95)) }
def Et.sized (c:Et) (t:Tm):Et:={ c with over:=c.over||(decide (Ev t > 2000)||decide (FK t > 95)) }
def Lw:Et:=⟨0,0,0,1000,false⟩
end Go.Eu
namespace Go.Eu
theorem Cg {α:Type}{l:List α}{i:Nat}{x:α}(h:l[i]?=some x):l.drop i=x::l.drop (i+1):=by
 have hlt:=(List.getElem?_eq_some_iff.1 h).1;have e:l[i]=x:=(List.getElem?_eq_some_iff.1 h).2;rw[List.drop_eq_getElem_cons hlt,e]
theorem IP {α:Type}{l:List α}{i:Nat}{x d:α}(h:l[i]?=some x):l.getD i d=x:=by simp[List.getD,h]
end Go.Eu
namespace Go.Eu
open Go.Abs
theorem Z0 (n:Int):JE (wr n):=by
 unfold JE wr IntKind.wrap;have:IntKind.i64.min= -9223372036854775808:=rfl;have:IntKind.i64.max=9223372036854775807:=rfl;simp[IntKind.signed,IntKind.bits];omega
theorem j3 (i:Int):Nd (OH (wr i)):=by
 have:=Z0 i;exact⟨by decide,by decide,by simp,by decide,trivial,⟨by decide,by decide⟩,this⟩
theorem Q8:Nd Bh:=⟨by decide,by decide,by simp,by decide,trivial,⟨by decide,by decide⟩,⟨by decide,by decide⟩⟩
mutual
theorem Uk (b fr:Int):∀(t:Tm) (d er:Int),Nd t→Nd (CT b fr d er t).1
 | .mk k i n l ks,d,er,h=>by
  unfold CT;split
  ·split
   ·exact h
   split
   ·exact h
   exact j3 _
  simp only[Nd] at h ⊢;obtain⟨h1,h2,h3,h4,h5,h6⟩:=h;obtain⟨e1,e2⟩:=R0 b fr k ks d 0 er h5;exact⟨h1,h2,h3,by rw[e1];exact h4,e2,h6⟩
theorem R0 (b fr k:Int):∀(ts:List Tm) (d:Int) (j:Nat) (er:Int),NI ts→(Cy b fr k d j er ts).1.length=ts.length∧NI (Cy b fr k d j er ts).1
 | [],d,j,er,h=>by simp[Cy,NI]
 | t::ts,d,j,er,h=>by
  simp only[Cy,NI,List.length_cons] at *;have:=Uk b fr t (d+below k j) er h.1;obtain⟨e1,e2⟩:=R0 b fr k ts d (j+1) (CT b fr (d+below k j) er t).2 h.2;exact⟨by rw[e1],this,e2⟩
end
theorem gv {vs:List Tm}(h:NI vs) (i:Nat):Nd (vs.getD i Bh):=by
 cases e:vs[i]? with
 | none=>simp[List.getD,e];exact Q8
 | some x=>rw[IP e];exact DX h e
mutual
theorem QA:∀(t:Tm) (vs:List Tm) (d er nd:Int),Nd t→NI vs→Nd (B0 vs d er nd t).1
 | .mk k i n l ks,vs,d,er,nd,h,hv=>by
  unfold B0;split
  ·exact h
  split
  ·exact Uk _ _ _ _ _ (gv hv _)
  split
  ·split
   ·exact j3 _
   exact h
  simp only[Nd] at h ⊢;obtain⟨h1,h2,h3,h4,h5,h6⟩:=h;obtain⟨e1,e2⟩:=SM ks vs k d 0 er (wr (nd+1)) h5 hv;exact⟨h1,h2,h3,by rw[e1];exact h4,e2,h6⟩
theorem SM:∀(ts:List Tm) (vs:List Tm) (k d:Int) (j:Nat) (er nd:Int),NI ts→NI vs→(CW vs k d j er nd ts).1.length=ts.length∧NI (CW vs k d j er nd ts).1
 | [],vs,k,d,j,er,nd,h,hv=>by simp[CW,NI]
 | t::ts,vs,k,d,j,er,nd,h,hv=>by
  simp only[CW,NI,List.length_cons] at *;have:=QA t vs (d+below k j) er nd h.1 hv;obtain⟨e1,e2⟩:=SM ts vs k d (j+1) (B0 vs (d+below k j) er nd t).2.1 (B0 vs (d+below k j) er nd t).2.2 h.2 hv;exact⟨by rw[e1],this,e2⟩
end
theorem dL (t:Tm) (vs:List Tm) (d:Int) (h:Nd t) (hv:NI vs):Nd (CD t vs d).1:=by
 unfold CD;split
 ·exact Q8
 split
 ·exact Q8
 split
 ·exact Q8
 exact QA t vs _ _ _ h hv
theorem Mb {o:Option Nat}{c:Nat}(l:List Tm) {l':List Tm}(h:l=l'):AV.vs o (BE l).length c= .vs o (BE l').length c:=by rw[h]
theorem Gb {α:Type}{f:α→List PV}{o:Option Nat}{c:Nat}(l:List α) {l':List α}(h:l=l'):AV.vs o (l.map f).length c= .vs o (l'.map f).length c:=by rw[h]
theorem KK {o:Option Nat}{sz c:Nat}(l:List Tm) {l':List Tm}(h:l=l'):MG (.vec o sz (BE l) c) (.vec o sz (BE l') c):=oe (by rw[h])
theorem Fl {α:Type}{f:α→List PV}{o:Option Nat}{sz c:Nat}(l:List α) {l':List α}(h:l=l'):MG (.vec o sz (l.map f) c) (.vec o sz (l'.map f) c):=oe (by rw[h])
theorem DI {o:Option Nat}{c:Nat}(l:List Tm) {l':List Tm}(h:l.length=l'.length):AV.vs o (BE l).length c= .vs o (BE l').length c:=by rw[BQ,BQ,h]
theorem Tz {α:Type}{f:α→List PV}{o:Option Nat}{c:Nat}(l:List α) {l':List α}(h:l.length=l'.length):AV.vs o (l.map f).length c= .vs o (l'.map f).length c:=by rw[List.length_map,List.length_map,h]
end Go.Eu
namespace Go.Eu
end Go.Eu
namespace Go.Eu
open Go.Abs
theorem EP {n:Int}(h:JE n):wr n=n:=WV (k:= .i64) h.1 h.2
mutual
theorem U3 (B:Int) (hB:B≤4611686018427387904):∀(t:Tm),(size t:Int)<B→Ev t=size t
 | .mk k i n l ks,h=>by
  have h':(1:Int)+BX ks<B:=by rw[size] at h;omega
  show LZ 1 ks=_;rw[Rn B hB ks 1 An h',size];omega
theorem Rn (B:Int) (hB:B≤4611686018427387904):∀(ts:List Tm) (n:Int),0≤n→n+BX ts<B→LZ n ts=n+BX ts
 | [],n,_,_=>by simp[LZ,BX]
 | t::ts,n,h0,h=>by
  simp only[BX,LZ] at *;rw[U3 B hB t (by have:=size_pos t;omega),EP ⟨by omega,by omega⟩,Rn B hB ts (n+size t) An An];omega
end
theorem ME {t:Tm}(h:(size t:Int)<4611686018427387904):Ev t=size t:=U3 _ (Int.le_refl _) t h
mutual
def Wt:Tm→Prop
 | .mk k i _ _ ks=>(ks.length:Int)=arity k∧(k=12→0≤i)∧OA ks
def OA:List Tm→Prop
 | []=>True
 | t::ts=>Wt t∧OA ts
end
theorem RH:∀{ts:List Tm}{i:Nat}{t:Tm},OA ts→ts[i]?=some t→Wt t
 | [],i,t,_,h=>by simp at h
 | a::ts,0,t,hn,h=>by simp at h;subst h;exact hn.1
 | a::ts,i+1,t,hn,h=>by simp at h;exact RH hn.2 h
theorem Hi (a b:List Tm):BX (a++b)=BX a+BX b:=by
 induction a with
 | nil=>simp[BX]
 | cons x a ih=>simp[BX,ih];omega
mutual
theorem nL {vars metas:Int}:∀(t:Tm) (d:Int),wf vars metas d t→Wt t
 | .mk k i n l ks,d,h=>by
  simp only[wf,Wt] at *;exact⟨h.2.2.1,fun e=>(h.2.2.2.2.1 e).1,jr ks k d 0 h.2.2.2.2.2⟩
theorem jr {vars metas:Int}:∀(ts:List Tm) (k d:Int) (j:Nat),fA vars metas k d j ts→OA ts
 | [],k,d,j,h=>trivial
 | t::ts,k,d,j,h=>by
  simp only[fA,OA] at *;exact⟨nL t _ h.1,jr ts k d (j+1) h.2⟩
end
theorem jU (i:Int):Wt (OH i):=⟨by simp[arity],by simp,trivial⟩
theorem RD:Wt Bh:=⟨by simp[arity],by simp,trivial⟩
mutual
theorem U4 (b fr:Int):∀(t:Tm) (d er:Int),Wt t→Wt (CT b fr d er t).1
 | .mk k i n l ks,d,er,h=>by
  unfold CT;split
  ·split
   ·exact h
   split
   ·exact h
   exact jU _
  simp only[Wt] at h ⊢;obtain⟨e1,e2⟩:=SR b fr k ks d 0 er h.2.2;exact⟨by rw[e1];exact h.1,h.2.1,e2⟩
theorem SR (b fr k:Int):∀(ts:List Tm) (d:Int) (j:Nat) (er:Int),OA ts→(Cy b fr k d j er ts).1.length=ts.length∧OA (Cy b fr k d j er ts).1
 | [],d,j,er,h=>by simp[Cy,OA]
 | t::ts,d,j,er,h=>by
  simp only[Cy,OA,List.length_cons] at *;have:=U4 b fr t (d+below k j) er h.1;obtain⟨e1,e2⟩:=SR b fr k ts d (j+1) (CT b fr (d+below k j) er t).2 h.2;exact⟨by rw[e1],this,e2⟩
end
theorem gr {vs:List Tm}(h:OA vs) (i:Nat):Wt (vs.getD i Bh):=by
 cases e:vs[i]? with
 | none=>simp[List.getD,e];exact RD
 | some x=>rw[IP e];exact RH h e
mutual
theorem UL:∀(t:Tm) (vs:List Tm) (d er nd:Int),Wt t→OA vs→Wt (B0 vs d er nd t).1
 | .mk k i n l ks,vs,d,er,nd,h,hv=>by
  unfold B0;split
  ·exact h
  split
  ·exact U4 _ _ _ _ _ (gr hv _)
  split
  ·split
   ·exact jU _
   exact h
  simp only[Wt] at h ⊢;obtain⟨e1,e2⟩:=S6 ks vs k d 0 er (wr (nd+1)) h.2.2 hv;exact⟨by rw[e1];exact h.1,h.2.1,e2⟩
theorem S6:∀(ts:List Tm) (vs:List Tm) (k d:Int) (j:Nat) (er nd:Int),OA ts→OA vs→(CW vs k d j er nd ts).1.length=ts.length∧OA (CW vs k d j er nd ts).1
 | [],vs,k,d,j,er,nd,h,hv=>by simp[CW,OA]
 | t::ts,vs,k,d,j,er,nd,h,hv=>by
  simp only[CW,OA,List.length_cons] at *;have:=UL t vs (d+below k j) er nd h.1 hv;obtain⟨e1,e2⟩:=S6 ts vs k d (j+1) (B0 vs (d+below k j) er nd t).2.1 (B0 vs (d+below k j) er nd t).2.2 h.2 hv;exact⟨by rw[e1],this,e2⟩
end
theorem e7 (t:Tm) (vs:List Tm) (d:Int) (h:Wt t) (hv:OA vs):Wt (CD t vs d).1:=by
 unfold CD;split
 ·exact RD
 split
 ·exact RD
 split
 ·exact RD
 exact UL t vs _ _ _ h hv
mutual
theorem QR (b fr:Int):∀(t:Tm) (d er:Int),t.kind=0∧t.kids=[]∨Wt t→size (CT b fr d er t).1=size t
 | .mk k i n l ks,d,er,h=>by
  unfold CT;split
  ·rename_i hk;split
   ·rfl
   split
   ·rfl
   have:ks=[]:=by
    rcases h with h | h
    ·exact h.2
    have:=h.1;subst hk;simp[arity] at this;exact this
   subst this;simp[OH,size,BX]
  rename_i hk;have hw:OA ks:=by
   rcases h with h | h
   ·exact absurd h.1 hk
   exact h.2.2
  simp only[size];rw[O7 b fr k ks d 0 er hw]
theorem O7 (b fr k:Int):∀(ts:List Tm) (d:Int) (j:Nat) (er:Int),OA ts→BX (Cy b fr k d j er ts).1=BX ts
 | [],d,j,er,h=>by simp[Cy]
 | t::ts,d,j,er,h=>by
  simp only[Cy,BX];rw[QR b fr t _ _ (.inr h.1),O7 b fr k ts _ _ _ h.2]
end
mutual
theorem KB (V:Int) (hV:1≤V) (hV2:V≤2305843009213693952):∀(t:Tm) (vs:List Tm) (d er nd:Int),Wt t→OA vs→(∀x∈vs,(size x:Int)≤V)→0≤nd→nd≤4096+V →
  nd≤(B0 vs d er nd t).2.2∧(B0 vs d er nd t).2.2≤4096+V∧((B0 vs d er nd t).2.2≤4096→(size (B0 vs d er nd t).1:Int)=(B0 vs d er nd t).2.2 - nd)
 | .mk k i n l ks,vs,d,er,nd,h,hv,hs,h0,h1=>by
  have hk0:k=0→ks=[]:=by
   intro e;have:=h.1;subst e;simp[arity] at this;exact this
  unfold B0;split
  ·exact⟨by simp,h1,by simp;omega⟩
  split
  ·rename_i hc;have hlt:(i - d).toNat<vs.length:=by omega
   obtain⟨x,hx⟩:=A6 hlt;have hxs:=hs x (List.mem_of_getElem? hx);rw[IP hx,QR _ _ _ _ _ (.inr (RH hv hx)),ME An,EP ⟨by omega,by omega⟩];simp only;exact⟨by omega,by omega,by omega⟩
  split
  ·rename_i hk;have hk:=hk0 hk;subst hk;split
   ·simp only[OH,size,BX];rw[EP ⟨by omega,by omega⟩];exact⟨by omega,by omega,by omega⟩
   simp only[size,BX];rw[EP ⟨by omega,by omega⟩];exact⟨by omega,by omega,by omega⟩
  rw[EP (n:=nd+1) ⟨by omega,by omega⟩];obtain⟨e1,e2,e3⟩:=LG V hV hV2 ks vs k d 0 er (nd+1) h.2.2 hv hs An An;simp only[size];exact⟨by omega,e2,fun q=>by have:=e3 q;omega⟩
theorem LG (V:Int) (hV:1≤V) (hV2:V≤2305843009213693952):∀(ts:List Tm) (vs:List Tm) (k d:Int) (j:Nat) (er nd:Int),OA ts→OA vs→(∀x∈vs,(size x:Int)≤V)→0≤nd→nd≤4096+V →
  nd≤(CW vs k d j er nd ts).2.2∧(CW vs k d j er nd ts).2.2≤4096+V∧((CW vs k d j er nd ts).2.2≤4096→(BX (CW vs k d j er nd ts).1:Int)=(CW vs k d j er nd ts).2.2 - nd)
 | [],vs,k,d,j,er,nd,h,hv,hs,h0,h1=>by simp only[CW,BX];exact⟨by omega,h1,by omega⟩
 | t::ts,vs,k,d,j,er,nd,h,hv,hs,h0,h1=>by
  obtain⟨e1,e2,e3⟩:=KB V hV hV2 t vs (d+below k j) er nd h.1 hv hs h0 h1;obtain⟨f1,f2,f3⟩:=LG V hV hV2 ts vs k d (j+1) (B0 vs (d+below k j) er nd t).2.1 (B0 vs (d+below k j) er nd t).2.2 h.2 hv hs An e2;simp only[CW,BX];exact⟨by omega,f2,fun q=>by have:=f3 q;have:=e3 An;omega⟩
end
theorem Wi (t:Tm) (vs:List Tm) (d:Int) (h:Wt t) (hv:OA vs) (hs:∀x∈vs,(size x:Int)≤2305843009213693952):size (CD t vs d).1≤4096:=by
 have hz:size Bh≤4096:=by simp[Bh,size,BX]
 obtain⟨e1,e2,e3⟩:=KB 2305843009213693952 An An t vs (min d 65536) 0 0 h hv hs An An;unfold CD;split
 ·exact hz
 rename_i hn;have:=e3 An;split
 ·exact hz
 split
 ·exact hz
 simp only;omega
def known (ms:List Mv) (t:Tm):Bool :=
 match t with
 | .mk k i _ _ _=>k==12&&(decide (i<ms.length)&&(match ms[i.toNat]? with | some m=>m.known | none=>false))
def valueOf (ms:List Mv) (i:Int):Tm:=match ms[i.toNat]? with | some m=>m.value | none=>Bh
def Qh (F:Et→Tm→Tm×Int×Et):Et→List Tm→List Tm×Int×Et
 | c,[]=>([],0,c)
 | c,t::ts=>if (F c t).2.1≠0 then ([],(F c t).2.1,(F c t).2.2)
  else if (Qh F (F c t).2.2 ts).2.1≠0 then ([],(Qh F (F c t).2.2 ts).2.1,(Qh F (F c t).2.2 ts).2.2)
  else ((F c t).1::(Qh F (F c t).2.2 ts).1,0,(Qh F (F c t).2.2 ts).2.2)
def nM:Et→Tm→List Tm→Et×Tm×List Tm
 | c,v,[]=>(c,v,[])
 | c,v,a::l=>if v.kind=5∧c.over=false then nM (c.form (CD (v.kids.getD 1 Bh) [a] 0).1 (CD (v.kids.getD 1 Bh) [a] 0).2) (CD (v.kids.getD 1 Bh) [a] 0).1 l else (c,v,a::l)
def Oq:Tm→List Tm→Tm
 | .mk k i n l _,ks=> .mk k i n l ks
def Xf (ms:List Mv):Nat→List Int→Et→Tm→Tm×Int×Et
 | 0,ab,c,t=>(Bh,11,c)
 | n+1,ab,c,t =>
  if c.over=true then (Bh,11,c)
  else if known ms (A8 t).1=false then
   (let q:=Qh (Xf ms n ab) c (A8 t).1.kids
    if q.2.1≠0 then (Bh,q.2.1,q.2.2)
    else
     (let r:=Qh (Xf ms n ab) q.2.2 (A8 t).2
      if r.2.1≠0 then (Bh,r.2.1,r.2.2)
      else (apply (Oq (A8 t).1 q.1) r.1,0,r.2.2.sized (apply (Oq (A8 t).1 q.1) r.1))))
  else if (A8 t).1.index∈ab then (Bh,22,c)
  else
   (let v:=Xf ms n (ab++[(A8 t).1.index]) c (valueOf ms (A8 t).1.index)
    if v.2.1≠0 then (Bh,v.2.1,v.2.2)
    else
     (let r:=Qh (Xf ms n ab) (v.2.2.form v.1 0) (A8 t).2
      if r.2.1≠0 then (Bh,r.2.1,r.2.2)
      else
       (let b:=nM r.2.2 v.1 r.1
        (apply b.2.1 b.2.2,0,b.1.form (apply b.2.1 b.2.2) 0))))
def free (ms:List Mv) (ab:List Int):Nat:=((List.range ms.length).filter fun i:Nat=> !decide ((i:Int)∈ab)).length
theorem K2 {α:Type}{l:List α}{x:α}(h:x∈l):∃i:Nat,l[i]?=some x:=by
 obtain⟨i,hi,he⟩:=List.mem_iff_getElem.1 h;exact⟨i,by rw[List.getElem?_eq_getElem hi,he]⟩
section
variable {ms:List Mv}{n:Nat}{ab:List Int}{c:Et}{t:Tm}{zk zi:Int}{zn:ByteArray}{zl:List CS}{zs:List Tm}
end
end Go.Eu
namespace Go.Eu
theorem En {l:List Tm}{x:Tm}(h:x∈l):size x≤BX l:=by
 obtain⟨i,hi⟩:=K2 h;exact Cb hi
end Go.Eu
namespace Go.Abs
section
variable {P:Program}{r:Option Nat}{ops:Array Oper}{Q:Cs→Bq→Prop}{k:Nat}{n:Nat}{τ:Nat→AV}{T:List BK}{D:List EG}{dst:Option Tmp}{op:Op}{ty:TypeId}{pos:String}{aft:Array Edge}{v:AV}{c:Call}{f:Operand}{fid:FuncId}{first caps A:List AV}{R:Ek→List BK→Prop}
theorem Jd {H H':List BK}(hp:H.Perm H') (h:AL P r ops k ⟨n,τ,H',D⟩ Q):AL P r ops k ⟨n,τ,H,D⟩ Q:=B4 (UX (S:=⟨n,τ,H,D⟩) hp) h
theorem JH (fr:List BK) {l:Nat}(ho:ops[k]?=some ⟨dst,.call c,ty,pos,aft,none⟩) (hd:Gm dst n=true)
  (hc:c.callee= .value f) (hf:ev τ f= .fn (.yield l) [] []) (h:MJ P l A T R) (hA:c.args.toList.map (ev τ)=A)
  (next:∀v T',R (.val v) T'→AL P r ops (k+1) ⟨n,put τ dst v,fr++T',D⟩ Q) (pan:∀v T',R (.panic v) T'→Q (.panic v) ⟨n,τ,T'++fr,D⟩):AL P r ops k ⟨n,τ,fr++T,D⟩ Q :=
 GJ (S:=⟨n,τ,fr++T,D⟩) ho Ah (Ir hd) (ek hc hf List.perm_append_comm h hA) (fun v H' ⟨Hs',h1,h2⟩=>by subst h2;exact Jd List.perm_append_comm (next v Hs' h1)) (fun v H' ⟨Hs',h1,h2⟩=>by subst h2;exact pan v Hs' h1)
theorem Ij (fr:List BK) (ho:ops[k]?=some ⟨dst,.call c,ty,pos,aft,none⟩) (hd:Gm dst n=true)
  (hc:c.callee= .value f) (hf:(ev τ f= .p (.fn fid)∧first=[]∧caps=[])∨ev τ f= .fn (.func fid) first caps) (h:Bn P fid A T R) (hA:GV (first++c.args.toList.map (ev τ)++caps) A)
  (next:∀v T',R (.val v) T'→AL P r ops (k+1) ⟨n,put τ dst v,fr++T',D⟩ Q) (pan:∀v T',R (.panic v) T'→Q (.panic v) ⟨n,τ,T'++fr,D⟩):AL P r ops k ⟨n,τ,fr++T,D⟩ Q :=
 I6 ho hd hc hf List.perm_append_comm (h.args hA) (.inl rfl) (fun v H' h1=>Jd List.perm_append_comm (next v H' h1)) pan
end
theorem Ft.append:∀{l l':List BK}{T:List BK},Ft l l'→Ft (l++T) (l'++T)
 | [],l',T,h=>by simp only[Ft] at h;subst h;exact Ft.refl T
 | o::l,l',T,h=>by
  obtain⟨o',r',rfl,h1,h2⟩:=h;exact⟨o',r'++T,O,h1,Ft.append h2⟩
theorem aW (is:List Nat) (l:List BK) {l1 l' T:List BK}(h:Qb is 0 l=l1) (w:Ft l1 l'):nC (l++T) (l'++T):=⟨l1++T,(B8 h).append_right T,w.append⟩
theorem G3 (is:List Nat) (l:List BK) {l1 T:List BK}(h:Qb is 0 l=l1):(l1++T).Sublist (l++T):=(B8 h).append_right T
theorem DA {n:Nat}{τ:Nat→AV}{H:List BK}{D:List EG}{t:Nat}{x:AV}(h:τ t=x):Ik ⟨n,τ,H,D⟩ ⟨n,put τ (some t) x,H,D⟩:=R9 fun _ _ _ hr=>h▸hr
section
variable {P:Program}{dst:Option Tmp}{ty:TypeId}{pos:String}{aft:Array Edge}{g:Option (Nat×Bool)}{ρ:Operand→AV}{H:List BK}{x y:Operand}
theorem Vh {e:TypeId}{bl:Bool}{sz:Nat}(ht:D9 P e=some (bl,sz)):∃inf,P.info? e=some inf∧inf.size=sz:=by
 obtain⟨d,_,_,h⟩:=FM ht;cases hi:P.info? e with
 | none=>simp[hi] at h
 | some inf=>simp[hi] at h;exact⟨inf,rfl,h⟩
theorem Rp {T e:TypeId}{bl:Bool}{len sz b o:Nat}{k:IntKind}{i:Int}(hu:P.underlying T=some (.array len e)) (ht:D9 P e=some (bl,sz)) (hx:ρ x= .ptr b o) (hy:ρ y= .p (.int k i)) (h0:0≤i) (hn:i<len) :
  Dv P ⟨dst,.indexAddr T x y,ty,pos,aft,g⟩ ρ H (.ptr b (o+i.toNat*sz)) H:=by
 obtain⟨inf,h1,h2⟩:=Vh ht;exact Tp hu h1 h2 hx hy h0 hn
theorem EJ {T e:TypeId}{bl:Bool}{len sz:Nat}{parts:Array (Nat×Operand)}{z:Value}{cs:List AV}(hu:P.underlying T=some (.array len e)) (ht:D9 P e=some (bl,sz)) (hz:zeroOf P T=some z)
  (hc:Fb (fun i=>some (i*sz,sz)) (z.cells.toList.map GR) (parts.toList.map fun p=>(p.1,ρ p.2))=some cs):Dv P ⟨dst,.build T parts,ty,pos,aft,g⟩ ρ H (.agg cs) H:=by
 obtain⟨inf,h1,h2⟩:=Vh ht;subst h2;exact Td hu h1 hz hc
end
theorem TB {P:Program}{g:Operand}{ps:Array Tmp}{assign body:Code}{S:Bq}{Q:Cs→Bq→Prop}{fid:FuncId}{first caps:List AV}
  (hg:(ev S.τ g= .p (.fn fid)∧first=[]∧caps=[])∨ev S.τ g= .fn (.func fid) first caps)
  (h:∀d l (L:Ou),L=⟨.ready,none,S.n,S.τ,ps,assign,body⟩→∃Hs Hf,(BK.loop l L:: .dfr d::S.H).Perm (Hs++Hf) ∧
   Bn P fid (first++[.fn (.yield l) [] []]++caps) Hs (fun r H'=>VJ P l d S Q r (H'++Hf))) :
  Ie P none (.rangeFunc g ps assign body) S Q:=du hg fun d l=>h d l _ rfl
def Wh (v:AV) (C:List BK→Prop):Ek→List BK→Prop
 | .val v',H'=>v'=v∧C H'
 | .panic _,_=>False
section
variable {P:Program}{n:Nat}{τ:Nat→AV}{H:List BK}{D:List EG}
theorem Ys {b:Nat}{cs cs':List AV}(h:GV cs cs'):MG (.box b cs) (.box b cs'):=⟨rfl,fun F w hr=>by
 obtain⟨vs,T,h1,h2⟩:=hr;exact⟨vs,T,h1,P6 h h2⟩⟩
theorem IA {i:Nat}{o o':BK}(hi:H[i]?=some o) (hw:MG o o'):Ik ⟨n,τ,H,D⟩ ⟨n,τ,H.set i o',D⟩:=by
 intro F a w hs;refine⟨F,⟨hs.size,hs.tmp,?_,hs.defs⟩,?_⟩
 ·have hk:=F9 (x':=o') hi hw.1;refine⟨fun x hx c hc=>?_,by show List.Nodup _;rw[hk];exact hs.heap.nodup,fun x hx=>?_,hs.heap.bd⟩
  ·rcases Dj hx with rfl | ⟨j,_,hj⟩
   ·exact hs.heap.sub _ (List.mem_of_getElem? hi) c (by rw[←hw.1];exact hc)
   exact hs.heap.sub _ (List.mem_of_getElem? hj) c hc
  rcases Dj hx with rfl | ⟨j,_,hj⟩
  ·exact hw.2 F w (hs.heap.obj _ (List.mem_of_getElem? hi))
  exact hs.heap.obj _ (List.mem_of_getElem? hj)
 refine { Trans.refl (F:=F) (H:=H) (w:=w) with keys:=fun x hx c hc=>?_ };rcases Dj hx with rfl | ⟨j,_,hj⟩
 ·exact .inl ⟨_,List.mem_of_getElem? hi,by rw[←hw.1];exact hc⟩
 exact .inl ⟨_,List.mem_of_getElem? hj,hc⟩
end
section
variable {P:Program}{dst:Option Tmp}{ty:TypeId}{pos:String}{aft:Array Edge}{g:Option (Nat×Bool)}{ρ:Operand→AV}{H:List BK}{x y:Operand}
theorem Wl {T e:TypeId}{b i:Nat}{l:List (Int×AV)}{k:Int}{zv:Value}{za v:AV}(hT:mapOf P T=some e) (hz:zeroOf P e=some zv) (hza:∀F w,CN F w za zv) (hx:ρ x= .map b) (hy:ρ y= .p (.int .i64 k)) (hi:H[i]?=some (.map b (EF l))) (hv:(KO k l).getD za=v) :
  Dv P ⟨dst,.lookup T x y false,ty,pos,aft,g⟩ ρ H v H:=by subst hv;exact Yx hT hz hza hx hy hi
theorem Tc {T e:TypeId}{b i:Nat}{l:List (Int×AV)}{k:Int}{zv:Value}{za v:AV}{ok:Bool}(hT:mapOf P T=some e) (hz:zeroOf P e=some zv) (hza:∀F w,CN F w za zv) (hx:ρ x= .map b) (hy:ρ y= .p (.int .i64 k)) (hi:H[i]?=some (.map b (EF l))) (hv:(KO k l).getD za=v) (hok:(KO k l).isSome=ok) :
  Dv P ⟨dst,.lookup T x y true,ty,pos,aft,g⟩ ρ H (.tup [v,.p (.bool ok)]) H:=by subst hv;subst hok;exact Vs hT hz hza hx hy hi
end
section
variable {P:Program}{dst:Option Tmp}{ty:TypeId}{pos:String}{aft:Array Edge}{g:Option (Nat×Bool)}{ρ:Operand→AV}{H:List BK}{x y:Operand}
theorem Ly {T e:TypeId}{sz bytes:Nat}(hT:F5 P T=some (e,sz,bytes)) :
  DT P ⟨dst,.buildSlice T 0 #[],ty,pos,aft,g⟩ ρ H (N7 sz [] H) :=
 Hj fun F w E hH hE=>by
  obtain⟨hu,i,hi,hs,hby⟩:=FL hT;obtain⟨v,H',F',h1,h2,h3,h4⟩:=Ol (F:=F) (w:=w) (sz:=sz) (c:=0) (rows:=[]) (vs:=[]) (T:=e) (H:=H) hH Ao (by simp[Bz]) Ao Ao;refine⟨_,_,v,H',F',?_,h1,h2,h3,h4⟩;have hszr:(sizeOf e).run P w= .ok sz w:=by simp[sizeOf,typeInfo,hi,hs]
  simp only[execOp,Instr.buildSlice,Sem.run_bind,run_underlying hu,Result.andThen_ok,hszr];rw[if_neg An];simp only[Sem.run_pure,Result.andThen_ok,Sem.run_bind,pure_bind,Nat.zero_mul,if_true];have e0:(Array.map (fun x=>(#[]:Array Value)[x % (#[]:Array Value).size]!) (Array.range 0))=(⟨[]⟩:Array Value):=by simp
  rw[e0];simp only[Array.map_empty,Instr.fill,newRow,newObj,Sem.run_bind,Sem.run,Result.andThen,Sem.run_pure];rfl
end
section
variable {P:Program}{dst:Option Tmp}{ty:TypeId}{pos:String}{aft:Array Edge}{g:Option (Nat×Bool)}{ρ:Operand→AV}{H:List BK}{x y:Operand}
theorem NM {T U e:TypeId}{n1 n2:Nat}{rows:List (List PV)}(hT:F5 P T=some (e,n1,n2)) (hx:ρ x= .p (.lst rows)) (hy:ρ y= .p .nils):DT P ⟨dst,.binOp .eql T x y U,ty,pos,aft,g⟩ ρ H (Qf (fun v=>∃b:Bool,v= .p (.bool b)∧(b=true→rows=[])) H) :=
 (VK (FL hT).1 hx hy).mono fun r H' h=>by cases r<;>exact h
end
section
variable {P:Program}{r:Option Nat}{ops:Array Oper}{Q:Cs→Bq→Prop}{k:Nat}{n:Nat}{τ:Nat→AV}{H:List BK}{D:List EG}{dst:Option Tmp}{ty:TypeId}{pos:String}{aft:Array Edge}{v:AV}{c:Call}{f:Operand}{fid:FuncId}{first caps A:List AV}
theorem PF (ho:ops[k]?=some ⟨dst,.call c,ty,pos,aft,none⟩) (hd:Gm dst n=true) (hc:c.callee= .value f) (hf:(ev τ f= .p (.fn fid)∧first=[]∧caps=[])∨ev τ f= .fn (.func fid) first caps) (h:Bn P fid A [] (Vw v [])) (hA:GV (first++c.args.toList.map (ev τ)++caps) A) (pan:Q (.panic v) ⟨n,τ,H,D⟩):AL P r ops k ⟨n,τ,H,D⟩ Q :=
 I6 ho hd hc hf (Hs:=[]) (Hf:=H) Ao (h.args hA) (.inl rfl) (fun _ _ h=>h.elim) (fun v' H' ⟨h1,h2⟩=>by subst h1;subst h2;exact pan)
end
end Go.Abs
namespace Go.Eu
open Go.Abs
def J1 (k:Int):Int:=if k=5∨k=6∨k=7 then 1 else if k=11 then 2 else -1
theorem Xi {k:Int}{i:Int}(h:i=J1 k) (hi:0≤i):below k i=1:=by
 unfold J1 at h;unfold below;split at h
 ·rename_i hk;subst h;rcases hk with rfl | rfl | rfl<;>simp
 split at h
 ·rename_i hk;subst h;subst hk;simp
 omega
theorem Ua {k:Int}{i:Int}(h:i≠J1 k):below k i=0:=by
 unfold J1 at h;unfold below;rw[if_neg];simp only[Bool.or_eq_true,Bool.and_eq_true,beq_iff_eq];intro hc;apply h;rcases hc with ⟨h1,h2⟩ | ⟨h1,h2⟩
 ·rw[if_pos (by rcases h2 with (h | h) | h<;>simp[h]),h1]
 rw[if_neg An,if_pos h2,h1]
theorem XQ {k:Int}(h:¬(0≤k∧k<13)):J1 k= -1:=by
 unfold J1;rw[if_neg An,if_neg An]
section
variable {σ:Type}
mutual
def Ec (st:σ→Int→Tm→σ×Bool):Tm→Int→σ→σ×Bool
 | .mk k i n l ks,d,s=>if (st s d (.mk k i n l ks)).2=false then ((st s d (.mk k i n l ks)).1,false) else Eh st k d 0 (st s d (.mk k i n l ks)).1 ks
def Eh (st:σ→Int→Tm→σ×Bool) (k d:Int):Nat→σ→List Tm→σ×Bool
 | _,s,[]=>(s,true)
 | j,s,t::ts=>if (Ec st t (d+below k j) s).2=false then ((Ec st t (d+below k j) s).1,false) else Eh st k d (j+1) (Ec st t (d+below k j) s).1 ts
end
end
def Pc (ix nm:Bool) (lv ks bl:Int):List AV:=[.p (.bool ix),.p (.bool nm),.p (I lv),.p (I ks),.p (I bl)]
def P1:List AV:=[Pc true false 0 0 (-1),Pc false false 0 0 (-1),Pc false false 1 0 (-1),Pc false true (-1) 0 (-1),Pc false false 0 2 (-1),Pc false false 0 2 1,Pc false false 0 2 1,Pc false false 0 2 1,Pc false false 0 3 (-1),Pc false false 0 1 (-1),Pc false false 0 1 (-1),Pc false false 0 3 2,Pc true false 0 0 (-1)].flatten
theorem fm {k:Int}(h:0≤k∧k<13):P1[0+k.toNat*5+4]?=some (.p (I (J1 k))):=by
 have:k=0∨k=1∨k=2∨k=3∨k=4∨k=5∨k=6∨k=7∨k=8∨k=9∨k=10∨k=11∨k=12:=by omega
 rcases this with rfl | rfl | rfl | rfl | rfl | rfl | rfl | rfl | rfl | rfl | rfl | rfl | rfl<;>rfl
section
variable {σ:Type}{st:σ→Int→Tm→σ×Bool}{Inv:Nat→σ→Prop}
theorem Yc {t:Tm}{d:Int}{s:σ}(h:(st s d t).2=false):Ec st t d s=((st s d t).1,false):=by
 obtain⟨k,i,n,l,ks⟩:=t;rw[Ec,if_pos h]
theorem IE {k i:Int}{n:ByteArray}{l:List CS}{ks:List Tm}{d:Int}{s:σ}(h:(st s d (.mk k i n l ks)).2=true):Ec st (.mk k i n l ks) d s=Eh st k d 0 (st s d (.mk k i n l ks)).1 ks:=by
 rw[Ec,if_neg (by simp[h])]
theorem JB {k d:Int}{ts:List Tm}{i:Nat}{x:Tm}{s:σ}(hx:ts[i]?=some x) (h:(Ec st x (d+below k i) s).2=false):Eh st k d i s (ts.drop i)=((Ec st x (d+below k i) s).1,false):=by
 rw[Cg hx,Eh,if_pos h]
theorem LS {k d:Int}{ts:List Tm}{i:Nat}{x:Tm}{s:σ}(hx:ts[i]?=some x) (h:(Ec st x (d+below k i) s).2=true):Eh st k d i s (ts.drop i)=Eh st k d (i+1) (Ec st x (d+below k i) s).1 (ts.drop (i+1)):=by
 rw[Cg hx,Eh,if_neg (by simp[h])]
mutual
theorem JX (hI:∀m s d t,Inv (m+1) s→Inv m (st s d t).1):∀(t:Tm) (d:Int) (s:σ) (m:Nat),Inv (m+size t) s→(Ec st t d s).2=true→Inv m (Ec st t d s).1
 | .mk k i n l ks,d,s,m,h,hv=>by
  rw[size,show m+(1+BX ks)=(m+BX ks)+1 by omega] at h;have h1:=hI _ _ d (.mk k i n l ks) h;rw[Ec] at hv ⊢;split at hv
  ·cases hv
  rename_i hc;rw[if_neg hc];exact Ql hI ks k d 0 _ m h1 hv
theorem Ql (hI:∀m s d t,Inv (m+1) s→Inv m (st s d t).1):∀(ts:List Tm) (k d:Int) (j:Nat) (s:σ) (m:Nat),Inv (m+BX ts) s→(Eh st k d j s ts).2=true→Inv m (Eh st k d j s ts).1
 | [],k,d,j,s,m,h,hv=>by simpa [Eh,BX] using h
 | t::ts,k,d,j,s,m,h,hv=>by
  rw[BX,show m+(size t+BX ts)=(m+BX ts)+size t by omega] at h;rw[Eh] at hv ⊢;split at hv
  ·cases hv
  rename_i hc;rw[if_neg hc];have:=JX hI t (d+below k j) s _ h (by simpa using hc);exact Ql hI ts k d (j+1) _ m this hv
end
end
def Zw (s:Int) (d:Int) (t:Tm):Int×Bool:=(wr (s+1),true)
mutual
theorem Yl (B:Int) (hB:B≤4611686018427387904):∀(t:Tm) (d s:Int),0≤s→s+size t<B→Ec Zw t d s=(s+size t,true)
 | .mk k i n l ks,d,s,h0,h=>by
  rw[size] at h ⊢;rw[IE rfl];simp only[Zw];rw[EP ⟨by omega,by omega⟩,Ud B hB ks k d 0 (s+1) An An];congr 1;omega
theorem Ud (B:Int) (hB:B≤4611686018427387904):∀(ts:List Tm) (k d:Int) (j:Nat) (s:Int),0≤s→s+BX ts<B→Eh Zw k d j s ts=(s+BX ts,true)
 | [],k,d,j,s,h0,h=>by simp[Eh,BX]
 | t::ts,k,d,j,s,h0,h=>by
  rw[BX] at h ⊢;rw[Eh,Yl B hB t _ s h0 An];simp only;rw[if_neg Ao,Ud B hB ts k d (j+1) (s+size t) An An];congr 1;omega
end
def Xg (xs ys:List Tm) (i:Nat):Prop:=ys.length=xs.length∧∀k,k<xs.length→ys[k]?=if k<i∨xs.length - 1 - k<i then xs[xs.length - 1 - k]? else xs[k]?
theorem Zi (xs:List Tm):Xg xs xs 0:=⟨rfl,fun k hk=>by rw[if_neg An]⟩
theorem Yy {xs ys:List Tm}{i:Nat}{a b:Tm}(h:Xg xs ys i) (hi:i<xs.length - 1 - i) (ha:ys[i]?=some a) (hb:ys[xs.length - 1 - i]?=some b):Xg xs ((ys.set i b).set (xs.length - 1 - i) a) (i+1):=by
 obtain⟨hl,h⟩:=h;refine⟨by simp[hl],fun k hk=>?_⟩;have e1:=h i An;rw[if_neg An,ha] at e1;have e2:=h (xs.length - 1 - i) An;rw[if_neg An,hb] at e2;by_cases k1:k=xs.length - 1 - i
 ·subst k1;rw[if_pos An,List.getElem?_set_self Ai,e1];congr 1;omega
 rw[List.getElem?_set_ne (fun e=>k1 e.symm)];by_cases k2:k=i
 ·subst k2;rw[if_pos An,List.getElem?_set_self An,e2]
 rw[List.getElem?_set_ne (fun e=>k2 e.symm),h k hk];by_cases k3:k<i∨xs.length - 1 - k<i
 ·rw[if_pos k3,if_pos An]
 rw[if_neg k3,if_neg An]
theorem Zt {xs ys:List Tm}{i:Nat}(h:Xg xs ys i) (hi:xs.length - 1 - i≤i):ys=xs.reverse:=by
 obtain⟨hl,h⟩:=h;apply List.ext_getElem?;intro k;by_cases hk:k<xs.length
 ·rw[h k hk,List.getElem?_reverse hk];by_cases k3:k<i∨xs.length - 1 - k<i
  ·rw[if_pos k3]
  rw[if_neg k3];congr 1;omega
 rw[List.getElem?_eq_none An,List.getElem?_eq_none Ai]
end Go.Eu
namespace Go.Abs
def fp (mkv:Nat→AV) (cs:List AV):Ek→List BK→Prop
 | .val v,H'=>∃b,v=mkv b∧H'=[.box b cs]
 | .panic _,_=>False
section
variable {P:Program}{ops:Array Oper}{n:Nat}{τ₀ τ:Nat→AV}{D:List EG}{Q:Cs→Bq→Prop}{opn:Nat→Bool}{k:Nat}{H:List BK}{dst:Option Tmp}{ty:TypeId}{pos:String}{aft:Array Edge}{c:Call}{f:Operand}{fid:FuncId}{first caps A:List AV}{mkv:Nat→AV}{cs:List AV}
theorem bF {rd ef effs fx}(fx':List (Nat×Sp)) (ho:ops[k]?=some ⟨dst,.call c,ty,pos,aft,none⟩) (hn:opn k=true)
  (hc:c.callee= .value f) (hf:(ev τ f= .p (.fn fid)∧first=[]∧caps=[])∨ev τ f= .fn (.func fid) first caps) (h:Bn P fid A [] (fp mkv cs)) (hA:first++c.args.toList.map (ev τ)++caps=A∨(first++c.args.toList.map (ev τ)++caps).map norm=A) (haft:E8 ops k (fx'.map (·.1))=true)
  (next:∀b,Kn ops k H (.box b cs::H) rd∧Ha k (.eff (mkv b) (.box b cs::H)) fx∧Dr P ops n τ₀ D Q opn (k+1) (put τ dst (mkv b)) (.box b cs::H) rd ((k,H,.box b cs::H)::ef) (true::effs) (fx'++fx)):Dr P ops n τ₀ D Q opn k τ H rd ef effs fx :=
 PD fx' ho hn (GI (H:=H) (Hs:=[]) (Hf:=H) hc hf Ao h hA) haft ⟨_,_,_,⟨0,rfl,rfl⟩,rfl⟩ (fun v H' ⟨_,h,_⟩=>h.elim) (fun v H' ⟨Hs',⟨b,h1,h2⟩,h3⟩=>by subst h1;subst h2;subst h3;exact next b)
theorem aK {r:Option Nat}(ho:ops[k]?=some ⟨dst,.call c,ty,pos,aft,none⟩) (hd:Gm dst n=true)
  (hc:c.callee= .value f) (hf:(ev τ f= .p (.fn fid)∧first=[]∧caps=[])∨ev τ f= .fn (.func fid) first caps) (h:Bn P fid A [] (fp mkv cs)) (hA:GV (first++c.args.toList.map (ev τ)++caps) A)
  (next:∀b,AL P r ops (k+1) ⟨n,put τ dst (mkv b),.box b cs::H,D⟩ Q):AL P r ops k ⟨n,τ,H,D⟩ Q :=
 I6 ho hd hc hf (Hs:=[]) (Hf:=H) Ao (h.args hA) (.inl rfl) (fun v Hs' ⟨b,h1,h2⟩=>by subst h1;subst h2;exact next b) (fun _ _ h=>h.elim)
end
def Lm {α:Type}(mkv:α→AV) (mkp:Int→AV) (C:α→List BK→Prop) (x:Except Int α):Ek→List BK→Prop
 | .val v,H'=>∃a,x= .ok a∧v=mkv a∧C a H'
 | .panic v,_=>∃e,x= .error e∧v=mkp e
theorem DT.permR {P:Program}{ρ:Operand→AV}{o:Oper}{H:List BK}{R R':Ek→List BK→Prop}(h:DT P o ρ H R) (hp:∀r H1,R r H1→∃H2,H1.Perm H2∧R' r H2):DT P o ρ H R':=by
 intro r F S a w hs hH hρ hd;have:=h r F S a w hs hH hρ hd;refine H8 this ?_ ?_
 ·rintro a' w' ⟨v',H1,F',hR,hs',ht⟩;obtain⟨H2,hp,hR'⟩:=hp _ _ hR;exact⟨v',H2,F',hR',⟨hs'.size,hs'.tmp,hs'.heap.perm hp,hs'.defs⟩,{ ht with keys:=fun o ho=>ht.keys o (hp.mem_iff.2 ho) }⟩
 rintro e a' w' ⟨v',H1,F',u,hR,h1,h2,hs',ht⟩;obtain⟨H2,hp,hR'⟩:=hp _ _ hR;exact⟨v',H2,F',u,hR',h1,h2,⟨hs'.size,hs'.tmp,hs'.heap.perm hp,hs'.defs⟩,{ ht with keys:=fun o ho=>ht.keys o (hp.mem_iff.2 ho) }⟩
section
variable {P:Program}{ops:Array Oper}{n:Nat}{τ₀ τ:Nat→AV}{D:List EG}{Q:Cs→Bq→Prop}{opn:Nat→Bool}{k:Nat}{T:List BK}{dst:Option Tmp}{ty:TypeId}{pos:String}{aft:Array Edge}{c:Call}{f:Operand}{fid:FuncId}{first caps A:List AV}
 {α:Type} {mkv:α→AV} {mkp:Int→AV} {C:α→List BK→Prop} {x:Except Int α}
theorem nO {r:Option Nat}(fr:List BK) (ho:ops[k]?=some ⟨dst,.call c,ty,pos,aft,none⟩) (hd:Gm dst n=true)
  (hc:c.callee= .value f) (hf:(ev τ f= .p (.fn fid)∧first=[]∧caps=[])∨ev τ f= .fn (.func fid) first caps) (h:Bn P fid A T (Lm mkv mkp C x)) (hA:GV (first++c.args.toList.map (ev τ)++caps) A)
  (next:∀a T',x= .ok a→C a T'→AL P r ops (k+1) ⟨n,put τ dst (mkv a),fr++T',D⟩ Q) (pan:∀e T',x= .error e→Q (.panic (mkp e)) ⟨n,τ,T'++fr,D⟩):AL P r ops k ⟨n,τ,fr++T,D⟩ Q :=
 Ij fr ho hd hc hf h hA (fun v T' ⟨a,h1,h2,h3⟩=>by subst h2;exact next a T' h1 h3) (fun v T' ⟨e,h1,h2⟩=>by subst h2;exact pan e T' h1)
theorem rS {rd ef effs fx}(fr:List BK) (ho:ops[k]?=some ⟨dst,.call c,ty,pos,aft,none⟩) (hn:opn k=true)
  (hc:c.callee= .value f) (hf:(ev τ f= .p (.fn fid)∧first=[]∧caps=[])∨ev τ f= .fn (.func fid) first caps) (h:Bn P fid A T (Lm mkv mkp C x)) (hA:GV (first++c.args.toList.map (ev τ)++caps) A) (haft:E8 ops k []=true) (chk:MK ops n (true::effs).reverse=true) (hfx:Nw k fx=true) (owe:Kn ops k (fr++T) (fr++T) rd)
  (next:∀a T',x= .ok a→C a T'→Kn ops k (fr++T) (fr++T') rd∧Ha k (.eff (mkv a) (fr++T')) fx∧Dr P ops n τ₀ D Q opn (k+1) (put τ dst (mkv a)) (fr++T') rd ((k,fr++T,fr++T')::ef) (true::effs) fx)
  (pan:∀e,x= .error e→∀τ' T',(∀t,(∀(k:Nat) o,ops[k]?=some o→o.dst≠some t)→τ' t=τ₀ t)→Q (.panic (mkp e)) ⟨n,τ',T'++fr,D⟩):Dr P ops n τ₀ D Q opn k τ (fr++T) rd ef effs fx:=by
 have hop:DT P ⟨dst,.call c,ty,pos,aft,none⟩ (ev τ) (fr++T) (fun r H'=>∃T',Lm mkv mkp C x r T'∧(match r with | .val _=>H'=fr++T' | .panic _=>H'=T'++fr)):=by
  refine DT.permR (GI (H:=fr++T) (Hs:=T) (Hf:=fr) hc hf List.perm_append_comm (h.args hA) (.inl O)) ?_;rintro r H1 ⟨T',hR,rfl⟩;cases r with
  | val v=>exact⟨fr++T',List.perm_append_comm,T',hR,rfl⟩
  | panic v=>exact⟨T'++fr,List.Perm.refl _,T',hR,rfl⟩
 by_cases hx:∃a T',x= .ok a∧C a T'
 ·obtain⟨a,T',hx,hC⟩:=hx;refine Dr.opn _ [] ho hn Ap hop haft ⟨mkv a,_,T',⟨a,hx,O,hC⟩,O⟩ ?_ ?_ ?_ ?_
  ·rintro v H' ⟨T',⟨a',h1,h2,h3⟩,rfl⟩;exact(next a' T' h1 h3).1
  ·rintro v H' ⟨T',⟨a',h1,h2,h3⟩,rfl⟩;subst h2;exact(next a' T' h1 h3).2.1
  ·rintro v H' ⟨T',⟨a',h1,h2,h3⟩,rfl⟩;subst h2;exact(next a' T' h1 h3).2.2
  rintro v H' ⟨T',⟨e,h1,h2⟩,rfl⟩ τ' hτ;subst h2;exact pan e h1 τ' T' hτ
 refine Dr.pan _ ho hn Ap hop haft chk hfx ?_ owe ?_
 ·rintro v H' ⟨T',⟨a',h1,h2,h3⟩,rfl⟩;exact hx ⟨a',T',h1,h3⟩
 rintro v H' ⟨T',⟨e,h1,h2⟩,rfl⟩ τ' hτ;subst h2;exact pan e h1 τ' T' hτ
end
section
variable {P:Program}{ops:Array Oper}{n:Nat}{τ₀ τ:Nat→AV}{D:List EG}{Q:Cs→Bq→Prop}{opn:Nat→Bool}{k:Nat}{H Hs:List BK}{dst:Option Tmp}{ty:TypeId}{pos:String}{aft:Array Edge}{c:Call}{f:Operand}{fid:FuncId}{first caps A:List AV}
 {α:Type} {mkv:α→AV} {mkp:Int→AV} {C:α→List BK→Prop} {x:Except Int α}
theorem Dm {r:Option Nat}(is:List Nat) (ho:ops[k]?=some ⟨dst,.call c,ty,pos,aft,none⟩) (hd:Gm dst n=true)
  (hc:c.callee= .value f) (hf:(ev τ f= .p (.fn fid)∧first=[]∧caps=[])∨ev τ f= .fn (.func fid) first caps) (h:Bn P fid A Hs (Lm mkv mkp C x)) (hg:FR H is Hs) (hn:is.Nodup) (hA:GV (first++c.args.toList.map (ev τ)++caps) A)
  (hl:∀a T',C a T'→T'.length=Hs.length)
  (next:∀a T',x= .ok a→C a T'→AL P r ops (k+1) ⟨n,put τ dst (mkv a),Lz H is T',D⟩ Q) (pan:∀e H',x= .error e→Q (.panic (mkp e)) ⟨n,τ,H'++C9 is 0 H,D⟩):AL P r ops k ⟨n,τ,H,D⟩ Q :=
 iB is ho hd hc hf h hg hn hA (fun v T' ⟨a,h1,h2,h3⟩=>by subst h2;exact⟨hl a T' h3,next a T' h1 h3⟩) (fun v T' ⟨e,h1,h2⟩=>by subst h2;exact pan e T' h1)
theorem PX {rd ef effs fx}(is:List Nat) (ho:ops[k]?=some ⟨dst,.call c,ty,pos,aft,none⟩) (hn:opn k=true)
  (hc:c.callee= .value f) (hf:(ev τ f= .p (.fn fid)∧first=[]∧caps=[])∨ev τ f= .fn (.func fid) first caps) (h:Bn P fid A Hs (Lm mkv mkp C x)) (hg:FR H is Hs) (hnd:is.Nodup) (hA:GV (first++c.args.toList.map (ev τ)++caps) A)
  (hl:∀a T',C a T'→T'.length=Hs.length) (haft:E8 ops k []=true) (chk:MK ops n (true::effs).reverse=true) (hfx:Nw k fx=true) (owe:Kn ops k H H rd)
  (next:∀a T',x= .ok a→C a T'→Kn ops k H (Lz H is T') rd∧Ha k (.eff (mkv a) (Lz H is T')) fx∧Dr P ops n τ₀ D Q opn (k+1) (put τ dst (mkv a)) (Lz H is T') rd ((k,H,Lz H is T')::ef) (true::effs) fx)
  (pan:∀e,x= .error e→∀τ' H',(∀t,(∀(k:Nat) o,ops[k]?=some o→o.dst≠some t)→τ' t=τ₀ t)→Q (.panic (mkp e)) ⟨n,τ',H'++C9 is 0 H,D⟩):Dr P ops n τ₀ D Q opn k τ H rd ef effs fx:=by
 have hop:DT P ⟨dst,.call c,ty,pos,aft,none⟩ (ev τ) H (fun r H'=>∃T',Lm mkv mkp C x r T'∧(match r with | .val _=>H'=Lz H is T' | .panic _=>H'=T'++C9 is 0 H)):=by
  refine DT.permR (GI hc hf (DO hnd hg) (h.args hA) (.inl O)) ?_;rintro r H1 ⟨T',hR,rfl⟩;cases r with
  | val v=>obtain⟨a,h1,h2,h3⟩:=hR;exact⟨_,(Mp hnd hg (hl a T' h3)).symm,T',⟨a,h1,h2,h3⟩,rfl⟩
  | panic v=>exact⟨_,List.Perm.refl _,T',hR,rfl⟩
 by_cases hx:∃a T',x= .ok a∧C a T'
 ·obtain⟨a,T',hx,hC⟩:=hx;refine Dr.opn _ [] ho hn Ap hop haft ⟨mkv a,_,T',⟨a,hx,O,hC⟩,O⟩ ?_ ?_ ?_ ?_
  ·rintro v H' ⟨T',⟨a',h1,h2,h3⟩,rfl⟩;exact(next a' T' h1 h3).1
  ·rintro v H' ⟨T',⟨a',h1,h2,h3⟩,rfl⟩;subst h2;exact(next a' T' h1 h3).2.1
  ·rintro v H' ⟨T',⟨a',h1,h2,h3⟩,rfl⟩;subst h2;exact(next a' T' h1 h3).2.2
  rintro v H' ⟨T',⟨e,h1,h2⟩,rfl⟩ τ' hτ;subst h2;exact pan e h1 τ' T' hτ
 refine Dr.pan _ ho hn Ap hop haft chk hfx ?_ owe ?_
 ·rintro v H' ⟨T',⟨a',h1,h2,h3⟩,rfl⟩;exact hx ⟨a',T',h1,h3⟩
 rintro v H' ⟨T',⟨e,h1,h2⟩,rfl⟩ τ' hτ;subst h2;exact pan e h1 τ' T' hτ
end
theorem DQ:∀xs:List AV,GV xs xs
 | []=>E0
 | x::xs=>aw (we rfl) (DQ xs)
def qJ (ops:Array Oper) (t:Nat):Bool:=ops.toList.all fun o=>match o.dst with | some u=> !(Nat.beq u t) | none=>true
theorem TE {ops:Array Oper}{t:Nat}(h:qJ ops t=true) (k:Nat) (o:Oper) (ho:ops[k]?=some o):o.dst≠some t:=by
 intro e;have hm:o∈ops.toList:=by
  rw[←Array.getElem?_toList] at ho;exact List.mem_of_getElem? ho
 have:=List.all_eq_true.1 h o hm;simp[e] at this
theorem Mx {L Hs:List BK}{is:List Nat}(X:List BK) (hn:is.Nodup) (hg:FR L is Hs):(X++L).Perm (Hs++(X++C9 is 0 L)):=by
 have h:=(DO hn hg).append_left X;refine h.trans ?_;rw[←List.append_assoc,←List.append_assoc];exact List.perm_append_comm.append_right _
theorem Eb.eq {P:Program}{f:FuncId}{caps:List AV}{m:NX}{H X:List BK}{R:List BK→Prop}(h:Eb P f caps m H (fun H'=>H'=X)) (hq:R X):Eb P f caps m H R:=by
 refine⟨h.1,fun F w vs u hH hr hm=>?_⟩;refine(h.2 F w vs u hH hr hm).mono ?_;rintro e u' w' ⟨v,H',F',h1,h2,rfl,h3,h4⟩;exact⟨v,_,F',h1,h2,hq,h3,h4⟩
end Go.Abs
namespace Go.Eu
open Go.Abs
mutual
def Vp:Tm→Prop
 | .mk k i _ _ ks=>(k=0→0≤i∧i<1099511627776)∧Oh ks
def Oh:List Tm→Prop
 | []=>True
 | t::ts=>Vp t∧Oh ts
end
theorem Mj:∀{ts:List Tm}{i:Nat}{t:Tm},Oh ts→ts[i]?=some t→Vp t
 | [],i,t,_,h=>by simp at h
 | a::ts,0,t,hn,h=>by simp at h;subst h;exact hn.1
 | a::ts,i+1,t,hn,h=>by simp at h;exact Mj hn.2 h
def Pt:Tm→Tm
 | .mk k i n l _=> .mk k i n l []
def Iw (i:Int):Except Int Tm:=if i > 65535 then .error 24 else .ok (OH i)
def YN (n m:Int):Except Int Int:=if wr (n+m) > 4096 then .error 5 else .ok (wr (n+m))
def cH (b fr:Int) (t:Tm) (d:Int):Except Int Tm :=
 if t.index - d<fr then .ok (Pt t) else if b<0∧t.index - d<fr - b then .error 24 else Iw (t.index+b)
def QY {α β:Type}(f:α→β):Except Int α→Except Int β
 | .error e=> .error e
 | .ok x=> .ok (f x)
def EB {α β:Type}(x:Except Int α) (f:α→Except Int β):Except Int β :=
 match x with
 | .error e=> .error e
 | .ok x=>f x
def KX (rep:Tm→Int→Except Int Tm) (s:Unit) (t:Tm) (d:Int):Except Int ((Tm×Bool)×Unit) :=
 if t.kind=0 then QY (fun x=>((x,true),())) (rep t d) else .ok ((Pt t,false),())
mutual
def Dy {σ:Type}(vis:σ→Tm→Int→Except Int ((Tm×Bool)×σ)):Tm→Int→σ→Except Int (Tm×σ)
 | .mk k i n l ks,d,s=>EB (vis s (.mk k i n l ks) d) fun r =>
   if r.1.2=true then .ok (r.1.1,r.2) else EB (Ds vis k 0 ks d r.2) fun q=> .ok (Oq r.1.1 q.1,q.2)
def Ds {σ:Type}(vis:σ→Tm→Int→Except Int ((Tm×Bool)×σ)) (k:Int):Nat→List Tm→Int→σ→Except Int (List Tm×σ)
 | _,[],_,s=> .ok ([],s)
 | j,t::ts,d,s=>EB (Dy vis t (d+below k j) s) fun r=>EB (Ds vis k (j+1) ts d r.2) fun q=> .ok (r.1::q.1,q.2)
end
section
variable {σ:Type}{vis:σ→Tm→Int→Except Int ((Tm×Bool)×σ)}
theorem GF {t:Tm}{d:Int}{s q:σ}{o:Tm}(h:vis s t d= .ok ((o,true),q)):Dy vis t d s= .ok (o,q):=by
 obtain⟨k,i,n,l,ks⟩:=t;simp[Dy,h,EB]
theorem Hv {t:Tm}{d e:Int}{s:σ}(h:vis s t d= .error e):Dy vis t d s= .error e:=by
 obtain⟨k,i,n,l,ks⟩:=t;simp[Dy,h,EB]
theorem Iq {k i d:Int}{n:ByteArray}{l:List CS}{ks:List Tm}{s q q':σ}{o:Tm}{ys:List Tm}(h:vis s (.mk k i n l ks) d= .ok ((o,false),q)) (hk:Ds vis k 0 ks d q= .ok (ys,q')):Dy vis (.mk k i n l ks) d s= .ok (Oq o ys,q'):=by
 simp[Dy,h,EB,hk]
theorem Jy {k i d e:Int}{n:ByteArray}{l:List CS}{ks:List Tm}{s q:σ}{o:Tm}(h:vis s (.mk k i n l ks) d= .ok ((o,false),q)) (hk:Ds vis k 0 ks d q= .error e):Dy vis (.mk k i n l ks) d s= .error e:=by
 simp[Dy,h,EB,hk]
def Ra (vis:σ→Tm→Int→Except Int ((Tm×Bool)×σ)) (k:Int) (ts:List Tm) (d:Int) (q0:σ) (i:Nat) (ys:List Tm) (q:σ):Prop :=
 ys.length=i∧Ds vis k 0 ts d q0=EB (Ds vis k i (ts.drop i) d q) fun r=> .ok (ys++r.1,r.2)
theorem Ra.zero (k:Int) (ts:List Tm) (d:Int) (q0:σ):Ra vis k ts d q0 0 [] q0:=by
 refine⟨O,?_⟩;simp only[List.drop_zero,List.nil_append];cases Ds vis k 0 ts d q0<;>rfl
theorem Ra.err {k d e:Int}{ts ys:List Tm}{q0 q:σ}{i:Nat}{x:Tm}(h:Ra vis k ts d q0 i ys q) (hx:ts[i]?=some x) (hb:Dy vis x (d+below k i) q= .error e):Ds vis k 0 ts d q0= .error e:=by
 rw[h.2,Cg hx,Ds,hb];rfl
theorem Ra.succ {k d:Int}{ts ys:List Tm}{q0 q q':σ}{i:Nat}{x y:Tm}(h:Ra vis k ts d q0 i ys q) (hx:ts[i]?=some x) (hb:Dy vis x (d+below k i) q= .ok (y,q')):Ra vis k ts d q0 (i+1) (ys++[y]) q':=by
 refine⟨by simp[h.1],?_⟩;rw[h.2,Cg hx,Ds,hb];simp only[EB];cases Ds vis k (i+1) (ts.drop (i+1)) d q'<;>simp
theorem Ra.fin {k d:Int}{ts ys:List Tm}{q0 q:σ}{i:Nat}(h:Ra vis k ts d q0 i ys q) (hi:ts.length≤i):Ds vis k 0 ts d q0= .ok (ys,q):=by
 rw[h.2,List.drop_eq_nil_of_le hi,Ds];simp[EB]
end
theorem fX {ys:List Tm}{i m:Nat}{x:Tm}(h:ys.length=i) (hm:0<m):(ys++List.replicate m Bh).set i x=(ys++[x])++List.replicate (m - 1) Bh:=by
 subst h;cases m with
 | zero=>omega
 | succ m=>simp[List.replicate_succ]
section
variable {b fr d k i:Int}{n:ByteArray}{l:List CS}{ks:List Tm}
theorem aJ (h:i - d<fr):cH b fr (.mk k i n l ks) d= .ok (.mk k i n l []):=by simp[cH,Tm.index,Pt,h]
theorem lH (h:¬i - d<fr) (h2:b<0) (h3:i - d<fr - b):cH b fr (.mk k i n l ks) d= .error 24:=by unfold cH;exact(if_neg h).trans (if_pos ⟨h2,h3⟩)
theorem aA (h:¬i - d<fr) (h2:¬(b<0∧i - d<fr - b)):cH b fr (.mk k i n l ks) d=Iw (i+b):=by unfold cH;exact(if_neg h).trans (if_neg h2)
variable {rep:Tm→Int→Except Int Tm}{s:Unit}
theorem PC {e:Int}(h:k=0) (hr:rep (.mk k i n l ks) d= .error e):KX rep s (.mk k i n l ks) d= .error e:=by unfold KX;exact(if_pos h).trans (by rw[hr];rfl)
theorem M3 {x:Tm}(h:k=0) (hr:rep (.mk k i n l ks) d= .ok x):KX rep s (.mk k i n l ks) d= .ok ((x,true),()):=by unfold KX;exact(if_pos h).trans (by rw[hr];rfl)
theorem O0 (h:k≠0):KX rep s (.mk k i n l ks) d= .ok ((.mk k i n l [],false),()):=by unfold KX;exact(if_neg h).trans rfl
end
def Lk (b fr:Int) (t:Tm):Except Int Tm:=QY Prod.fst (Dy (KX (cH b fr)) t 0 ())
theorem Sz {α β:Type}{f:α→β}{x:Except Int α}{a:α}(h:x= .ok a):QY f x= .ok (f a):=by rw[h];rfl
theorem Pb {α β:Type}{f:α→β}{x:Except Int α}{e:Int}(h:x= .error e):QY f x= .error e:=by rw[h];rfl
def Jk (vs:List Tm) (dp ti d:Int):Int:=if 0≤wr (wr (ti - d) - dp)∧wr (wr (ti - d) - dp)<(vs.length:Int) then wr (wr (ti - d) - dp) else -1
theorem jP {vs:List Tm}{dp ti d:Int}(h1:0≤wr (wr (ti - d) - dp)) (h2:wr (wr (ti - d) - dp)<(vs.length:Int)):Jk vs dp ti d=wr (wr (ti - d) - dp):=if_pos ⟨h1,h2⟩
theorem lT {vs:List Tm}{dp ti d:Int}(h:¬(0≤wr (wr (ti - d) - dp)∧wr (wr (ti - d) - dp)<(vs.length:Int))):Jk vs dp ti d= -1:=if_neg h
theorem WE {vs:List Tm}{dp ti d:Int}(h:0≤Jk vs dp ti d):Jk vs dp ti d<(vs.length:Int):=by
 unfold Jk at *;split<;>omega
def WZ (vs:List Tm) (sz:List Int) (dp:Int) (t:Tm) (d:Int):Int :=
 if t.kind=0∧0≤Jk vs dp t.index d then sz.getD (Jk vs dp t.index d).toNat 0 else 1
def Ss (vs:List Tm) (sz:List Int) (dp:Int) (n:Int) (t:Tm) (d:Int):Except Int ((Tm×Bool)×Int) :=
 QY (fun m=>((Bh,decide (t.kind=0)),m)) (YN n (WZ vs sz dp t d))
def Ky (vs:List Tm) (dp:Int) (t:Tm) (d:Int):Except Int Tm :=
 if 0≤Jk vs dp t.index d then Lk (wr (dp+d)) 0 (vs.getD (Jk vs dp t.index d).toNat Bh)
 else if wr (t.index - d)<dp then .ok (Pt t) else Iw (wr (t.index - vs.length))
def KI (vs:List Tm) (dp:Int) (t:Tm):Except Int Tm :=
 EB (Dy (Ss vs (vs.map fun v=>(size v:Int)) dp) t 0 0) fun _=>QY Prod.fst (Dy (KX (Ky vs dp)) t 0 ())
def Gj (t:Tm) (vs:List Tm) (dp:Int):Tm×Int :=
 match KI vs dp t with
 | .error e=>(Bh,e)
 | .ok x=>if FK x > 200 then (Bh,7) else (x,0)
section
variable {vs:List Tm}{sz:List Int}{dp n d k i r m e:Int}{nm:ByteArray}{l:List CS}{ks:List Tm}
theorem Q5 (hm:WZ vs sz dp (.mk k i nm l ks) d=m) (hz:YN n m= .ok r):Ss vs sz dp n (.mk k i nm l ks) d= .ok ((Bh,decide (k=0)),r):=by
 subst hm;exact Sz hz
theorem O1 (hm:WZ vs sz dp (.mk k i nm l ks) d=m) (hz:YN n m= .error e):Ss vs sz dp n (.mk k i nm l ks) d= .error e:=by
 subst hm;exact Pb hz
theorem S3 (h:k=0∧0≤Jk vs dp i d) (hx:sz[(Jk vs dp i d).toNat]?=some m):WZ vs sz dp (.mk k i nm l ks) d=m:=by
 unfold WZ;refine(if_pos h).trans ?_;rw[List.getD_eq_getElem?_getD];exact(congrArg (fun o=>Option.getD o 0) hx)
theorem RA (h:¬(k=0∧0≤Jk vs dp i d)):WZ vs sz dp (.mk k i nm l ks) d=1:=by
 unfold WZ;exact if_neg h
theorem S8 {v:Tm}(h:0≤Jk vs dp i d) (hx:vs[(Jk vs dp i d).toNat]?=some v):Ky vs dp (.mk k i nm l ks) d=Lk (wr (dp+d)) 0 v:=by
 unfold Ky;refine(if_pos h).trans ?_;rw[List.getD_eq_getElem?_getD];exact(congrArg (fun o=>Lk (wr (dp+d)) 0 (Option.getD o Bh)) hx)
theorem X6 (h:¬0≤Jk vs dp i d) (h2:wr (i - d)<dp):Ky vs dp (.mk k i nm l ks) d= .ok (.mk k i nm l []):=by
 unfold Ky;exact(if_neg h).trans ((if_pos h2).trans rfl)
theorem Vc (h:¬0≤Jk vs dp i d) (h2:¬wr (i - d)<dp):Ky vs dp (.mk k i nm l ks) d=Iw (wr (i - vs.length)):=by
 unfold Ky;exact(if_neg h).trans (if_neg h2)
end
theorem I8 {t:Tm}{vs:List Tm}{dp e:Int}(h:KI vs dp t= .error e):Gj t vs dp=(Bh,e):=by unfold Gj;rw[h]
theorem QJ {t x:Tm}{vs:List Tm}{dp:Int}(h:KI vs dp t= .ok x) (hd:FK x > 200):Gj t vs dp=(Bh,7):=by unfold Gj;rw[h];exact if_pos hd
theorem U8 {t x:Tm}{vs:List Tm}{dp:Int}(h:KI vs dp t= .ok x) (hd:¬FK x > 200):Gj t vs dp=(x,0):=by unfold Gj;rw[h];exact if_neg hd
theorem M4 {t x:Tm}{vs:List Tm}{dp:Int}{a:Tm×Int}{b:Unit}(h1:Dy (Ss vs (vs.map fun v=>(size v:Int)) dp) t 0 0= .ok a) (h2:Dy (KX (Ky vs dp)) t 0 ()= .ok (x,b)):KI vs dp t= .ok x:=by
 unfold KI;rw[h1];exact Sz h2
theorem QV {t:Tm}{vs:List Tm}{dp e:Int}(h1:Dy (Ss vs (vs.map fun v=>(size v:Int)) dp) t 0 0= .error e):KI vs dp t= .error e:=by
 unfold KI;rw[h1];rfl
theorem QP {t:Tm}{vs:List Tm}{dp e:Int}{a:Tm×Int}(h1:Dy (Ss vs (vs.map fun v=>(size v:Int)) dp) t 0 0= .ok a) (h2:Dy (KX (Ky vs dp)) t 0 ()= .error e):KI vs dp t= .error e:=by
 unfold KI;rw[h1];exact Pb h2
theorem Zm:∀{ts:List Tm},(∀t∈ts,Nd t)→NI ts
 | [],_=>trivial
 | t::ts,h=>⟨h t Ao,Zm fun x hx=>h x (by simp[hx])⟩
section
variable {σ:Type}{vis:σ→Tm→Int→Except Int ((Tm×Bool)×σ)}
mutual
theorem QD (hv:∀s t d r,Nd t→Vp t→vis s t d= .ok r→Nd r.1.1):∀(t:Tm) (d:Int) (s:σ) (r:Tm×σ),Nd t→Vp t→Dy vis t d s= .ok r→Nd r.1
 | .mk k i n l ks,d,s,r,h1,h2,h=>by
  unfold Dy EB at h;split at h
  ·cases h
  rename_i r1 hr;have hn:=hv _ _ _ _ h1 h2 hr;simp only at h;split at h
  ·injection h with h;subst h;exact hn
  split at h
  ·cases h
  rename_i q hq;injection h with h;subst h;obtain⟨g1,g2⟩:=Sk hv ks k 0 d r1.2 q h1.2.2.2.2.1 h2.2 hq;obtain⟨⟨o,dn⟩,q1⟩:=r1;obtain⟨ok,oi,on,ol,os⟩:=o;exact⟨hn.1,hn.2.1,hn.2.2.1,by rw[g2];exact h1.2.2.2.1,g1,hn.2.2.2.2.2⟩
theorem Sk (hv:∀s t d r,Nd t→Vp t→vis s t d= .ok r→Nd r.1.1):∀(ts:List Tm) (k:Int) (j:Nat) (d:Int) (s:σ) (r:List Tm×σ),NI ts→Oh ts→Ds vis k j ts d s= .ok r→NI r.1∧r.1.length=ts.length
 | [],k,j,d,s,r,h1,h2,h=>by
  unfold Ds at h;injection h with h;subst h;exact⟨trivial,rfl⟩
 | t::ts,k,j,d,s,r,h1,h2,h=>by
  unfold Ds EB at h;split at h
  ·cases h
  rename_i r1 hr;simp only at h;split at h
  ·cases h
  rename_i q hq;injection h with h;subst h;obtain⟨g1,g2⟩:=Sk hv ts k (j+1) d r1.2 q h1.2 h2.2 hq;exact⟨⟨QD hv t _ _ _ h1.1 h2.1 hr,g1⟩,by simp[g2]⟩
end
end
theorem RW {t:Tm}(h:Nd t):Nd (Pt t):=by
 obtain⟨k,i,n,l,ks⟩:=t;exact⟨h.1,h.2.1,h.2.2.1,by decide,trivial,h.2.2.2.2.2⟩
theorem Xp {i:Int}{x:Tm}(hi: -9223372036854775808≤i) (h:Iw i= .ok x):Nd x:=by
 unfold Iw at h;split at h
 ·cases h
 injection h with h;subst h;exact⟨by decide,by decide,by simp,by decide,trivial,⟨by decide,by decide⟩,⟨hi,by omega⟩⟩
theorem ad {rep:Tm→Int→Except Int Tm}(hr:∀t d x,Nd t→Vp t→t.kind=0→rep t d= .ok x→Nd x):∀(s:Unit) (t:Tm) (d:Int) (r:(Tm×Bool)×Unit),Nd t→Vp t→KX rep s t d= .ok r→Nd r.1.1:=by
 intro s t d r h1 h2 h;unfold KX at h;split at h
 ·rename_i hk;unfold QY at h;split at h
  ·cases h
  rename_i x hx;injection h with h;subst h;exact hr t d x h1 h2 hk hx
 injection h with h;subst h;exact RW h1
theorem ew {b fr:Int}{t x:Tm}(hb:JE b) (h1:Nd t) (h2:Vp t) (h:Lk b fr t= .ok x):Nd x:=by
 unfold Lk QY at h;split at h
 ·cases h
 rename_i r hr;injection h with h;subst h;refine QD (ad ?_) t 0 () r h1 h2 hr;intro t d x g1 g2 g3 g;obtain⟨k,i,n,l,ks⟩:=t;have hi:=g2.1 g3;unfold cH at g;split at g
 ·injection g with g;subst g;exact RW g1
 split at g
 ·cases g
 exact Xp (by have:=hb.1;simp only[Tm.index];omega) g
theorem kl {vs:List Tm}{dp:Int}{t x:Tm}{u:Unit}(hv:NI vs) (hp:Oh vs) (h1:Nd t) (h2:Vp t) (h:Dy (KX (Ky vs dp)) t 0 ()= .ok (x,u)):Nd x:=by
 refine QD (ad ?_) t 0 () (x,u) h1 h2 h;intro t d x g1 g2 g3 g;unfold Ky at g;split at g
 ·rename_i h0;have hl:=WE h0;obtain⟨v,hx⟩:=A6 (l:=vs) (i:=(Jk vs dp t.index d).toNat) An;rw[List.getD_eq_getElem?_getD,hx] at g;exact ew (Z0 _) (DX hv hx) (Mj hp hx) g
 split at g
 ·injection g with g;subst g;exact RW g1
 exact Xp (Z0 _).1 g
theorem oH {vs:List Tm}{i:Nat}{x:Tm}(hx:vs[i]?=some x):(((vs.take i).map fun v=>(size v:Int))++List.replicate (vs.length - i) 0).set i (size x:Int)=((vs.take (i+1)).map fun v=>(size v:Int))++List.replicate (vs.length - (i+1)) 0:=by
 have hi:i<vs.length:=by
  rcases Nat.lt_or_ge i vs.length with h | h
  ·exact h
  rw[List.getElem?_eq_none h] at hx;cases hx
 obtain⟨m,hm⟩:∃m,vs.length - i=m+1:=⟨vs.length - i - 1,by omega⟩;have hl:((vs.take i).map fun v=>(size v:Int)).length=i:=by simp;omega
 rw[List.take_add_one,hx,hm,show vs.length - (i+1)=m by omega,List.replicate_succ,List.set_append_right _ _ An,hl];simp
theorem qy {vs:List Tm}{i:Nat}(h:vs.length≤i):((vs.take i).map fun v=>(size v:Int))++List.replicate (vs.length - i) 0=vs.map fun v=>(size v:Int):=by
 rw[List.take_of_length_le h,show vs.length - i=0 by omega];simp
theorem bg {k i:Int}{n:ByteArray}{l:List CS}{ks:List Tm}(h:Wt (.mk k i n l ks)) (hk:k=0):ks=[]:=by
 have:=h.1;subst hk;cases ks with
 | nil=>rfl
 | cons a b=>simp[arity] at this;omega
def FT (x:Tm×Int):Except Int (Tm×Unit):=if x.2=0 then .ok (x.1,()) else .error x.2
def G7 (x:List Tm×Int):Except Int (List Tm×Unit):=if x.2=0 then .ok (x.1,()) else .error x.2
theorem Ya {er e:Int}(h:er≠0):GB er e=er:=by unfold GB;rw[if_neg h]
theorem aR {er i:Int}(h:er≠0):L6 er i=er:=by unfold L6;split<;>simp[Ya h]
mutual
theorem Ul (b fr:Int):∀(t:Tm) (d er:Int),er≠0→(CT b fr d er t).2=er
 | .mk k i n l ks,d,er,h=>by
  unfold CT;split
  ·split
   ·rfl
   split
   ·exact Ya h
   exact aR h
  exact K4 b fr k ks d 0 er h
theorem K4 (b fr k:Int):∀(ts:List Tm) (d:Int) (j:Nat) (er:Int),er≠0→(Cy b fr k d j er ts).2=er
 | [],d,j,er,h=>rfl
 | t::ts,d,j,er,h=>by
  unfold Cy;simp only;rw[Ul b fr t _ er h];exact K4 b fr k ts d (j+1) er h
end
mutual
theorem Uf (b:Int) (hb:0≤b) (hb2:b<4398046511104):∀(t:Tm) (d:Int),Wt t→Vp t→0≤d→d+size t<2199023255552→Dy (KX (cH b 0)) t d ()=FT (CT b 0 d 0 t)
 | .mk k i n l ks,d,h1,h2,h3,h4=>by
  by_cases hk:k=0
  ·have hks:=bg h1 hk;have hi:=h2.1 hk;have e1:wr (0+d)=d:=by rw[Int.zero_add];exact EP (by unfold JE;omega)
   have e2:wr (i+b)=i+b:=EP (by unfold JE;omega);by_cases hlo:i - d<0
   ·rw[GF (M3 hk (aJ hlo))];unfold CT;rw[if_pos hk,e1,if_pos An];subst hks;rfl
   have hsh:cH b 0 (.mk k i n l ks) d=Iw (i+b):=aA hlo An;unfold CT;rw[if_pos hk,e1,if_neg An,e2,if_neg An];by_cases hbig:i+b > 65535
   ·rw[Hv (PC hk (hsh.trans (if_pos hbig)))];unfold FT L6 GB;simp[hbig]
   rw[GF (M3 hk (hsh.trans (if_neg hbig)))];unfold FT L6;simp[hbig]
  have hs:d+BX ks<2199023255551:=by simp only[size] at h4;omega
  have hL:=SB b hb hb2 k ks d 0 h1.2.2 h2.2 h3 hs;unfold CT;rw[if_neg hk];unfold G7 at hL;unfold FT;by_cases he:(Cy b 0 k d 0 0 ks).2=0
  ·rw[if_pos he] at hL;rw[if_pos he];exact Iq (O0 hk) hL
  rw[if_neg he] at hL;rw[if_neg he];exact Jy (O0 hk) hL
theorem SB (b:Int) (hb:0≤b) (hb2:b<4398046511104) (k:Int):∀(ts:List Tm) (d:Int) (j:Nat),OA ts→Oh ts→0≤d→d+BX ts<2199023255551→Ds (KX (cH b 0)) k j ts d ()=G7 (Cy b 0 k d j 0 ts)
 | [],d,j,h1,h2,h3,h4=>rfl
 | t::ts,d,j,h1,h2,h3,h4=>by
  have hbl:=Cf k j;simp only[BX] at h4;have hT:=Uf b hb hb2 t (d+below k j) h1.1 h2.1 An An;have hL:=SB b hb hb2 k ts d (j+1) h1.2 h2.2 h3 An;unfold Ds Cy;rw[hT];unfold FT G7 EB;by_cases he:(CT b 0 (d+below k j) 0 t).2=0
  ·rw[if_pos he];simp only;rw[hL,he];unfold G7;by_cases hq:(Cy b 0 k d (j+1) 0 ts).2=0
   ·rw[if_pos hq,if_pos hq]
   rw[if_neg hq,if_neg hq]
  rw[if_neg he];simp only;rw[K4 b 0 k ts d (j+1) _ he,if_neg he]
end
theorem eM {b:Int}{v:Tm}(hb:0≤b) (hb2:b<4398046511104) (h1:Wt v) (h2:Vp v) (h3:size v<1099511627776):Lk b 0 v=if (CT b 0 0 0 v).2=0 then .ok (CT b 0 0 0 v).1 else .error (CT b 0 0 0 v).2:=by
 unfold Lk;rw[Uf b hb hb2 v 0 h1 h2 An An];unfold FT;split<;>rfl
section
variable {vs:List Tm}{d er nd k i:Int}{n:ByteArray}{l:List CS}{ks:List Tm}
theorem Na {t:Tm}(h:nd > 4096):B0 vs d er nd t=(t,er,nd):=by
 obtain⟨k,i,n,l,ks⟩:=t;unfold B0;rw[if_pos h]
theorem KC (h:nd > 4096):∀(ts:List Tm) (d:Int) (j:Nat),CW vs k d j er nd ts=(ts,er,nd)
 | [],d,j=>rfl
 | t::ts,d,j=>by unfold CW;rw[Na h];simp only;rw[KC h ts d (j+1)]
theorem Ng {v:Tm}(h:nd≤4096) (hk:k=0) (h1:i≥d) (h2:i - d<(vs.length:Int)) (hv:vs[(i - d).toNat]?=some v):B0 vs d er nd (.mk k i n l ks)=((CT d 0 0 er v).1,(CT d 0 0 er v).2,wr (nd+Ev v)):=by
 unfold B0;rw[if_neg An,if_pos ⟨hk,h1,h2⟩,List.getD_eq_getElem?_getD,hv];rfl
theorem PR (h:nd≤4096) (hk:k=0) (h1:i≥d) (h2:¬i - d<(vs.length:Int)):B0 vs d er nd (.mk k i n l ks)=(OH (wr (i - vs.length)),L6 er (wr (i - vs.length)),wr (nd+1)):=by
 unfold B0;rw[if_neg An,if_neg An,if_pos hk,if_pos h1]
theorem Np (h:nd≤4096) (hk:k=0) (h1:¬i≥d):B0 vs d er nd (.mk k i n l ks)=(.mk k i n l ks,er,wr (nd+1)):=by
 unfold B0;rw[if_neg An,if_neg An,if_pos hk,if_neg h1]
theorem MY (h:nd≤4096) (hk:k≠0):B0 vs d er nd (.mk k i n l ks)=((.mk k i n l (CW vs k d 0 er (wr (nd+1)) ks).1),(CW vs k d 0 er (wr (nd+1)) ks).2):=by
 unfold B0;rw[if_neg An,if_neg An,if_neg hk]
end
mutual
theorem dg (vs:List Tm):∀(t:Tm) (d er nd:Int),er≠0→(B0 vs d er nd t).2.1=er
 | .mk k i n l ks,d,er,nd,h=>by
  unfold B0;split
  ·rfl
  split
  ·exact Ul _ _ _ _ _ h
  split
  ·split
   ·exact aR h
   rfl
  exact Ll vs k ks d 0 er _ h
theorem Ll (vs:List Tm) (k:Int):∀(ts:List Tm) (d:Int) (j:Nat) (er nd:Int),er≠0→(CW vs k d j er nd ts).2.1=er
 | [],d,j,er,nd,h=>rfl
 | t::ts,d,j,er,nd,h=>by
  unfold CW;simp only;rw[dg vs t _ er nd h];exact Ll vs k ts d (j+1) er _ h
end
structure Qz (vs:List Tm) (dp:Int):Prop where
 wt:OA vs
 vp:Oh vs
 sz:∀x∈vs,size x<1099511627776
 len:vs.length<1099511627776
 lo:0≤dp
 hi:dp≤65536
theorem Qz.size {vs:List Tm}{dp:Int}(V:Qz vs dp):∀x∈vs,(size x:Int)≤1099511627776:=fun x hx=>by have:=V.sz x hx;omega
theorem aV {vs:List Tm}{dp i d:Int}(V:Qz vs dp) (h1:0≤i) (h2:i<1099511627776) (h3:0≤d) (h4:d<2199023255552):Jk vs dp i d=if dp+d≤i∧i - (dp+d)<(vs.length:Int) then i - (dp+d) else -1:=by
 have:=V.lo;have:=V.hi;have e1:wr (i - d)=i - d:=EP (by unfold JE;omega);have e2:wr (i - d - dp)=i - (dp+d):=by rw[EP (by unfold JE;omega)];omega
 unfold Jk;rw[e1,e2];by_cases h:dp+d≤i∧i - (dp+d)<(vs.length:Int)
 ·rw[if_pos h,if_pos An]
 rw[if_neg h,if_neg An]
theorem a8 {n m:Int}(h1:0≤n) (h2:n≤4096) (h3:0≤m) (h4:m≤1099511627776):YN n m=if n+m > 4096 then .error 5 else .ok (n+m):=by
 unfold YN;rw[show wr (n+m)=n+m from EP (by unfold JE;omega)]
def oN {α:Type}(x:Except Int (α×Int)) (m:Int):Prop:=(m > 4096→x= .error 5)∧(m≤4096→∃z,x= .ok (z,m))
def oM (vs:List Tm):List Int:=vs.map fun v=>(size v:Int)
theorem my {vs:List Tm}{i:Nat}{v:Tm}(h:vs[i]?=some v):(oM vs)[i]?=some (size v:Int):=by simp[oM,h]
mutual
theorem ah {vs:List Tm}{dp:Int}(V:Qz vs dp):∀(t:Tm) (d er nd:Int),Wt t→Vp t→0≤d→d+size t<2199023255552→0≤nd→nd≤4096→oN (Dy (Ss vs (oM vs) dp) t d nd) (B0 vs (dp+d) er nd t).2.2
 | .mk k i n l ks,d,er,nd,h1,h2,h3,h4,h5,h6=>by
  have hone:∀m:Int,0≤m→m≤1099511627776→WZ vs (oM vs) dp (.mk k i n l ks) d=m→k=0→oN (Dy (Ss vs (oM vs) dp) (.mk k i n l ks) d nd) (wr (nd+m)):=by
   intro m g1 g2 g3 hk;have ha:=a8 h5 h6 g1 g2;rw[show wr (nd+m)=nd+m from EP (by unfold JE;omega)];refine⟨fun h=>?_,fun h=>?_⟩
   ·rw[if_pos h] at ha;exact Hv (O1 g3 ha)
   rw[if_neg An] at ha;refine⟨Bh,GF ?_⟩;rw[Q5 g3 ha,hk];rfl
  by_cases hk:k=0
  ·have hi:=h2.1 hk;have hd:d<2199023255552:=by have:=size_pos (Tm.mk k i n l ks);omega
   have hv:=aV V hi.1 hi.2 h3 hd;by_cases hin:dp+d≤i∧i - (dp+d)<(vs.length:Int)
   ·rw[if_pos hin] at hv;obtain⟨v,hx⟩:=A6 (l:=vs) (i:=(i - (dp+d)).toNat) An;have hsv:=V.sz v (List.mem_of_getElem? hx);rw[Ng h6 hk hin.1 hin.2 hx,ME An];exact hone _ An An (S3 ⟨hk,by omega⟩ (by rw[hv];exact my hx)) hk
   rw[if_neg hin] at hv;have hc:=hone 1 An An (RA An) hk;by_cases hge:i≥dp+d
   ·rw[PR h6 hk hge An];exact hc
   rw[Np h6 hk hge];exact hc
  rw[MY h6 hk];have hs:d+BX ks<2199023255551:=by simp only[size] at h4;omega
  have e1:wr (nd+1)=nd+1:=EP (by unfold JE;omega);have ha:=a8 (m:=1) h5 h6 An An;have hn:WZ vs (oM vs) dp (.mk k i n l ks) d=1:=RA An;have hdec:decide (k=0)=false:=by simp[hk]
  simp only;rw[e1];by_cases hbig:nd+1 > 4096
  ·rw[KC hbig];rw[if_pos hbig] at ha;exact⟨fun _=>Hv (O1 hn ha),fun h=>by simp only at h;omega⟩
  rw[if_neg hbig] at ha;have hc:=Q5 (l:=l) hn ha;rw[hdec] at hc;obtain⟨g1,g2⟩:=Wn V k ks d 0 er (nd+1) h1.2.2 h2.2 h3 hs An An;refine⟨fun h=>Jy hc (g1 h),fun h=>?_⟩;obtain⟨z,hz⟩:=g2 h;exact⟨_,Iq hc hz⟩
theorem Wn {vs:List Tm}{dp:Int}(V:Qz vs dp) (k:Int):∀(ts:List Tm) (d:Int) (j:Nat) (er nd:Int),OA ts→Oh ts→0≤d→d+BX ts<2199023255551→0≤nd→nd≤4096→oN (Ds (Ss vs (oM vs) dp) k j ts d nd) (CW vs k (dp+d) j er nd ts).2.2
 | [],d,j,er,nd,h1,h2,h3,h4,h5,h6=>⟨fun h=>by simp only[CW] at h;omega,fun _=>⟨_,rfl⟩⟩
 | t::ts,d,j,er,nd,h1,h2,h3,h4,h5,h6=>by
  have hbl:=Cf k j;simp only[BX] at h4;obtain⟨g1,g2⟩:=ah V t (d+below k j) er nd h1.1 h2.1 An An h5 h6;have hm:=(KB 1099511627776 An An t vs (dp+d+below k j) er nd h1.1 V.wt V.size h5 An).1;rw[show dp+(d+below k j)=dp+d+below k j by omega] at g1 g2;unfold Ds CW;simp only;by_cases hbig:(B0 vs (dp+d+below k j) er nd t).2.2 > 4096
  ·rw[g1 hbig,KC hbig];exact⟨fun _=>O,fun h=>by simp only at h;omega⟩
  obtain⟨z,hz⟩:=g2 An;rw[hz];obtain⟨f1,f2⟩:=Wn V k ts d (j+1) (B0 vs (dp+d+below k j) er nd t).2.1 (B0 vs (dp+d+below k j) er nd t).2.2 h1.2 h2.2 h3 An An An;refine⟨fun h=>?_,fun h=>?_⟩
  ·simp only[EB];rw[f1 h]
  obtain⟨y,hy⟩:=f2 h;exact⟨z::y,by simp only[EB];rw[hy]⟩
end
mutual
theorem aZ {vs:List Tm}{dp:Int}(V:Qz vs dp):∀(t:Tm) (d nd:Int),Wt t→Vp t→0≤d→d+size t<2199023255552→0≤nd→(B0 vs (dp+d) 0 nd t).2.2≤4096→Dy (KX (Ky vs dp)) t d ()=FT ((B0 vs (dp+d) 0 nd t).1,(B0 vs (dp+d) 0 nd t).2.1)
 | .mk k i n l ks,d,nd,h1,h2,h3,h4,h5,h6=>by
  have h7:nd≤4096:=by
   rcases Int.lt_or_le 4096 nd with h | h
   ·rw[Na h] at h6;simp only at h6;omega
   exact h
  have:=V.lo;have:=V.hi;have:=V.len;by_cases hk:k=0
  ·have hi:=h2.1 hk;have hks:=bg h1 hk;have hd:d<2199023255552:=by have:=size_pos (Tm.mk k i n l ks);omega
   have hv:=aV V hi.1 hi.2 h3 hd;by_cases hin:dp+d≤i∧i - (dp+d)<(vs.length:Int)
   ·rw[if_pos hin] at hv;obtain⟨v,hx⟩:=A6 (l:=vs) (i:=(i - (dp+d)).toNat) An;have hsv:=V.sz v (List.mem_of_getElem? hx);rw[Ng h7 hk hin.1 hin.2 hx];have hr:Ky vs dp (.mk k i n l ks) d=Lk (wr (dp+d)) 0 v:=S8 An (by rw[hv];exact hx);rw[show wr (dp+d)=dp+d from EP (by unfold JE;omega),eM An An (RH V.wt hx) (Mj V.vp hx) hsv] at hr;unfold FT;by_cases he:(CT (dp+d) 0 0 0 v).2=0
    ·rw[if_pos he] at hr;rw[if_pos he];exact GF (M3 hk hr)
    rw[if_neg he] at hr;rw[if_neg he];exact Hv (PC hk hr)
   rw[if_neg hin] at hv;have e1:wr (i - d)=i - d:=EP (by unfold JE;omega);by_cases hge:i≥dp+d
   ·rw[PR h7 hk hge An];have hr:Ky vs dp (.mk k i n l ks) d=Iw (wr (i - vs.length)):=Vc An (by rw[e1];omega);unfold Iw at hr;unfold FT L6 GB;by_cases hbig:wr (i - vs.length) > 65535
    ·rw[if_pos hbig] at hr;simp only[hbig,if_true];exact Hv (PC hk hr)
    rw[if_neg hbig] at hr;simp only[hbig,if_false,if_true];exact GF (M3 hk hr)
   rw[Np h7 hk hge];have hr:Ky vs dp (.mk k i n l ks) d= .ok (.mk k i n l []):=X6 An (by rw[e1];omega);subst hks;exact GF (M3 hk hr)
  rw[MY h7 hk] at h6 ⊢;have hs:d+BX ks<2199023255551:=by simp only[size] at h4;omega
  have e1:wr (nd+1)=nd+1:=EP (by unfold JE;omega);simp only at h6 ⊢;rw[e1] at h6 ⊢;have hL:=XD V k ks d 0 (nd+1) h1.2.2 h2.2 h3 hs An h6;unfold G7 at hL;unfold FT;by_cases he:(CW vs k (dp+d) 0 0 (nd+1) ks).2.1=0
  ·rw[if_pos he] at hL;rw[if_pos he];exact Iq (O0 hk) hL
  rw[if_neg he] at hL;rw[if_neg he];exact Jy (O0 hk) hL
theorem XD {vs:List Tm}{dp:Int}(V:Qz vs dp) (k:Int):∀(ts:List Tm) (d:Int) (j:Nat) (nd:Int),OA ts→Oh ts→0≤d→d+BX ts<2199023255551→0≤nd→(CW vs k (dp+d) j 0 nd ts).2.2≤4096→Ds (KX (Ky vs dp)) k j ts d ()=G7 ((CW vs k (dp+d) j 0 nd ts).1,(CW vs k (dp+d) j 0 nd ts).2.1)
 | [],d,j,nd,h1,h2,h3,h4,h5,h6=>rfl
 | t::ts,d,j,nd,h1,h2,h3,h4,h5,h6=>by
  have hbl:=Cf k j;simp only[BX] at h4;have h7:nd≤4096:=by
   rcases Int.lt_or_le 4096 nd with h | h
   ·rw[KC h] at h6;simp only at h6;omega
   exact h
  have hm:=(KB 1099511627776 An An t vs (dp+d+below k j) 0 nd h1.1 V.wt V.size h5 An);unfold CW at h6;simp only at h6;have hm2:=(LG 1099511627776 An An ts vs k (dp+d) (j+1) (B0 vs (dp+d+below k j) 0 nd t).2.1 (B0 vs (dp+d+below k j) 0 nd t).2.2 h1.2 V.wt V.size An hm.2.1).1;have hT:=aZ V t (d+below k j) nd h1.1 h2.1 An An h5 (by rw[show dp+(d+below k j)=dp+d+below k j by omega];omega);rw[show dp+(d+below k j)=dp+d+below k j by omega] at hT;unfold Ds CW;rw[hT];simp only;unfold FT G7 EB;by_cases he:(B0 vs (dp+d+below k j) 0 nd t).2.1=0
  ·have hL:=XD V k ts d (j+1) (B0 vs (dp+d+below k j) 0 nd t).2.2 h1.2 h2.2 h3 An An (by rw[he] at h6;exact h6);simp only;rw[if_pos he];simp only;rw[hL,he];unfold G7;by_cases hq:(CW vs k (dp+d) (j+1) 0 (B0 vs (dp+d+below k j) 0 nd t).2.2 ts).2.1=0
   ·simp only[hq,if_true]
   simp only[hq,if_false]
  simp only;rw[if_neg he];simp only;rw[Ll vs k ts (dp+d) (j+1) _ _ he,if_neg he]
end
theorem eI {t:Tm}{vs:List Tm}{dp:Int}(V:Qz vs dp) (h1:Wt t) (h2:Vp t) (h3:size t<1099511627776):Gj t vs dp=CD t vs dp:=by
 have:=V.lo;have:=V.hi;have hmin:min dp 65536=dp:=by omega
 obtain⟨g1,g2⟩:=ah V t 0 0 0 h1 h2 An An An An;rw[Int.add_zero] at g1 g2;unfold CD;rw[hmin];by_cases hbig:(B0 vs dp 0 0 t).2.2 > 4096
 ·rw[if_pos hbig];exact I8 (QV (g1 hbig))
 rw[if_neg hbig];obtain⟨z,hz⟩:=g2 An;have hr:=aZ V t 0 0 h1 h2 An An An (by rw[Int.add_zero];omega);rw[Int.add_zero] at hr;unfold FT at hr;simp only at hr;by_cases he:(B0 vs dp 0 0 t).2.1=0
 ·rw[if_pos he] at hr;rw[if_neg An];by_cases hd:FK (B0 vs dp 0 0 t).1 > 200
  ·rw[if_pos hd];exact QJ (M4 hz hr) hd
  rw[if_neg hd];exact U8 (M4 hz hr) hd
 rw[if_neg he] at hr;rw[if_pos he];exact I8 (QP hz hr)
theorem iw {i:Int}(h0:0≤i) (h1:i≤65535):Vp (OH i):=⟨fun _=>⟨h0,by omega⟩,trivial⟩
theorem VZ:Vp Bh:=⟨fun _=>⟨by omega,by omega⟩,trivial⟩
mutual
theorem UW (b:Int) (hb:0≤b) (hb2:b<4398046511104):∀(t:Tm) (d:Int),Vp t→0≤d→d+size t<4398046511104→(CT b 0 d 0 t).2=0→Vp (CT b 0 d 0 t).1
 | .mk k i n l ks,d,h,hd,hd2,he=>by
  by_cases hk:k=0
  ·have hi:=h.1 hk;have e1:wr (0+d)=d:=by rw[Int.zero_add];exact EP (by unfold JE;omega)
   have e2:wr (i+b)=i+b:=EP (by unfold JE;omega);unfold CT at he ⊢;rw[if_pos hk,e1,e2] at he ⊢;by_cases hlo:i<d
   ·rw[if_pos hlo];exact h
   rw[if_neg hlo,if_neg An] at he ⊢;unfold L6 GB at he;by_cases hbig:i+b > 65535
   ·simp[hbig] at he
   exact iw An An
  unfold CT at he ⊢;rw[if_neg hk] at he ⊢;simp only[size] at hd2;exact⟨fun h=>absurd h hk,TK b hb hb2 k ks d 0 h.2 hd An he⟩
theorem TK (b:Int) (hb:0≤b) (hb2:b<4398046511104) (k:Int):∀(ts:List Tm) (d:Int) (j:Nat),Oh ts→0≤d→d+BX ts<4398046511103→(Cy b 0 k d j 0 ts).2=0→Oh (Cy b 0 k d j 0 ts).1
 | [],d,j,h,hd,hd2,he=>trivial
 | t::ts,d,j,h,hd,hd2,he=>by
  have hbl:=Cf k j;simp only[BX] at hd2;unfold Cy at he ⊢;simp only at he ⊢;have h0:(CT b 0 (d+below k j) 0 t).2=0:=by
   rcases Decidable.em ((CT b 0 (d+below k j) 0 t).2=0) with h | h
   ·exact h
   rw[K4 b 0 k ts d (j+1) _ h] at he;exact he
  rw[h0] at he ⊢;exact⟨UW b hb hb2 t _ h.1 An An h0,TK b hb hb2 k ts d (j+1) h.2 hd An he⟩
end
mutual
theorem T4 {vs:List Tm}{dp:Int}(V:Qz vs dp):∀(t:Tm) (d nd:Int),Vp t→0≤d→d+size t<2199023255552→(B0 vs (dp+d) 0 nd t).2.1=0→Vp (B0 vs (dp+d) 0 nd t).1
 | .mk k i n l ks,d,nd,h,h3,h4,he=>by
  have:=V.lo;have:=V.hi;have:=V.len;rcases Int.lt_or_le 4096 nd with h7 | h7
  ·rw[Na h7];exact h
  by_cases hk:k=0
  ·have hi:=h.1 hk;by_cases hin:dp+d≤i∧i - (dp+d)<(vs.length:Int)
   ·obtain⟨v,hx⟩:=A6 (l:=vs) (i:=(i - (dp+d)).toNat) An;have hsv:=V.sz v (List.mem_of_getElem? hx);rw[Ng h7 hk hin.1 hin.2 hx] at he ⊢;exact UW _ An An v 0 (Mj V.vp hx) An An he
   by_cases hge:i≥dp+d
   ·rw[PR h7 hk hge An] at he ⊢;have e:wr (i - vs.length)=i - vs.length:=EP (by unfold JE;omega);simp only[e] at he ⊢;unfold L6 GB at he;by_cases hbig:i - (vs.length:Int) > 65535
    ·simp[hbig] at he
    exact iw An An
   rw[Np h7 hk hge];exact h
  rw[MY h7 hk] at he ⊢;simp only[size] at h4;exact⟨fun h=>absurd h hk,TL V k ks d 0 _ h.2 h3 An he⟩
theorem TL {vs:List Tm}{dp:Int}(V:Qz vs dp) (k:Int):∀(ts:List Tm) (d:Int) (j:Nat) (nd:Int),Oh ts→0≤d→d+BX ts<2199023255551→(CW vs k (dp+d) j 0 nd ts).2.1=0→Oh (CW vs k (dp+d) j 0 nd ts).1
 | [],d,j,nd,h,h3,h4,he=>trivial
 | t::ts,d,j,nd,h,h3,h4,he=>by
  have hbl:=Cf k j;simp only[BX] at h4;unfold CW at he ⊢;simp only at he ⊢;have h0:(B0 vs (dp+d+below k j) 0 nd t).2.1=0:=by
   rcases Decidable.em ((B0 vs (dp+d+below k j) 0 nd t).2.1=0) with h | h
   ·exact h
   rw[Ll vs k ts _ (j+1) _ _ h] at he;exact he
  rw[h0] at he ⊢;rw[show dp+d+below k j=dp+(d+below k j) by omega] at he h0 ⊢;exact⟨T4 V t _ nd h.1 An An h0,TL V k ts d (j+1) _ h.2 h3 An he⟩
end
theorem dZ {vs:List Tm}{dp:Int}(V:Qz vs dp) {t:Tm}(h:Vp t) (hs:size t<1099511627776):Vp (CD t vs dp).1:=by
 have:=V.lo;have:=V.hi;have hmin:min dp 65536=dp:=by omega
 unfold CD;rw[hmin];split
 ·exact VZ
 split
 ·exact VZ
 rename_i hne;split
 ·exact VZ
 have:=T4 V t 0 0 h An An (by rw[Int.add_zero];exact Decidable.not_not.1 hne);rw[Int.add_zero] at this;exact this
structure RN where
 dn:List (Int×Tm)
 op:List Int
 wk:Int
def KJ (F:RN→Tm→Except Int (Tm×RN)):RN→List Tm→Except Int (List Tm×RN)
 | st,[]=> .ok ([],st)
 | st,t::ts=>EB (F st t) fun r=>EB (KJ F r.2 ts) fun q=> .ok (r.1::q.1,q.2)
structure Ok (S:Nat) (t:Tm):Prop where
 nd:Nd t
 vp:Vp t
 wt:Wt t
 sz:size t≤S
section
variable {F:RN→Tm→Except Int (Tm×RN)}{ms:List Mv}{st st':RN}{i e:Int}{z:Tm}
end
def V6 (F:RN→Tm→Except Int (Tm×RN)) (ts:List Tm) (q0:RN) (i:Nat) (ys:List Tm) (q:RN):Prop :=
 ys.length=i∧KJ F q0 ts=EB (KJ F q (ts.drop i)) fun r=> .ok (ys++r.1,r.2)
section
variable {F:RN→Tm→Except Int (Tm×RN)}{ts ys:List Tm}{q0 q q':RN}{i:Nat}{x y:Tm}{e:Int}
theorem V6.zero (F:RN→Tm→Except Int (Tm×RN)) (ts:List Tm) (q0:RN):V6 F ts q0 0 [] q0:=by
 refine⟨O,?_⟩;simp only[List.drop_zero,EB];cases KJ F q0 ts<;>simp
theorem V6.err (h:V6 F ts q0 i ys q) (hx:ts[i]?=some x) (hb:F q x= .error e):KJ F q0 ts= .error e:=by
 rw[h.2,Cg hx,KJ,hb];rfl
theorem V6.succ (h:V6 F ts q0 i ys q) (hx:ts[i]?=some x) (hb:F q x= .ok (y,q')):V6 F ts q0 (i+1) (ys++[y]) q':=by
 refine⟨by simp[h.1],?_⟩;rw[h.2,Cg hx,KJ,hb];simp only[EB];cases KJ F q' (ts.drop (i+1))<;>simp
theorem V6.fin (h:V6 F ts q0 i ys q) (hi:ts.length≤i):KJ F q0 ts= .ok (ys,q):=by
 rw[h.2,List.drop_eq_nil_of_le hi,KJ];simp[EB]
end
section
variable {ms:List Mv}{n:Nat}{dn:List (Int×Tm)}{op:List Int}{wk e:Int}{t v vv z h:Tm}{us ls ks:List Tm}{uP st2:RN}
end
end Go.Eu
namespace Go.Abs
def mh {β:Type}(mkv:β→AV) (mkH:β→List BK):Ek→List BK→Prop
 | .val v,H'=>∃b,v=mkv b∧H'=mkH b
 | .panic _,_=>False
section
variable {P:Program}{ops:Array Oper}{n:Nat}{τ₀ τ:Nat→AV}{D:List EG}{Q:Cs→Bq→Prop}{opn:Nat→Bool}{k:Nat}{H:List BK}{dst:Option Tmp}{ty:TypeId}{pos:String}{aft:Array Edge}{c:Call}{f:Operand}{fid:FuncId}{first caps A:List AV}{β:Type}{mkv:β→AV}{mkH:β→List BK}
theorem bZ {r:Option Nat}(ho:ops[k]?=some ⟨dst,.call c,ty,pos,aft,none⟩) (hd:Gm dst n=true)
  (hc:c.callee= .value f) (hf:(ev τ f= .p (.fn fid)∧first=[]∧caps=[])∨ev τ f= .fn (.func fid) first caps) (h:Bn P fid A [] (mh mkv mkH)) (hA:GV (first++c.args.toList.map (ev τ)++caps) A)
  (next:∀b,AL P r ops (k+1) ⟨n,put τ dst (mkv b),mkH b++H,D⟩ Q):AL P r ops k ⟨n,τ,H,D⟩ Q :=
 I6 ho hd hc hf (Hs:=[]) (Hf:=H) Ao (h.args hA) (.inl rfl) (fun v Hs' ⟨b,h1,h2⟩=>by subst h1;subst h2;exact next b) (fun _ _ h=>h.elim)
end
end Go.Abs
namespace Go.Eu
open Go.Abs
mutual
def TP (p:Int→Int→ByteArray→List CS→Prop):Tm→Prop
 | .mk k i n l ks=>p k i n l∧ko p ks
def ko (p:Int→Int→ByteArray→List CS→Prop):List Tm→Prop
 | []=>True
 | t::ts=>TP p t∧ko p ts
end
section
variable {p q:Int→Int→ByteArray→List CS→Prop}
mutual
theorem TP.imp (h:∀k i n l,p k i n l→q k i n l):∀(t:Tm),TP p t→TP q t
 | .mk k i n l ks,ht=>⟨h _ _ _ _ ht.1,ko.imp h ks ht.2⟩
theorem ko.imp (h:∀k i n l,p k i n l→q k i n l):∀(ts:List Tm),ko p ts→ko q ts
 | [],_=>trivial
 | t::ts,ht=>⟨TP.imp h t ht.1,ko.imp h ts ht.2⟩
end
end
def wX (ms:List Mv) (D:List Int) (k i:Int) (n:ByteArray) (l:List CS):Prop:=known ms (.mk k i n l [])=true→i∈D
abbrev KM (ms:List Mv) (D:List Int):Tm→Prop:=TP (wX ms D)
abbrev uO (ms:List Mv) (D:List Int):List Tm→Prop:=ko (wX ms D)
theorem KM.mono {ms:List Mv}{D D':List Int}(h:∀i∈D,i∈D') {t:Tm}(ht:KM ms D t):KM ms D' t:=TP.imp (fun k i n l g e=>h _ (g e)) t ht
theorem uO.mono {ms:List Mv}{D D':List Int}(h:∀i∈D,i∈D') {t:List Tm}(ht:uO ms D t):uO ms D' t:=ko.imp (fun k i n l g e=>h _ (g e)) t ht
theorem KM.head {ms:List Mv}{D:List Int}{h:Tm}(hk:known ms h=true) (ht:KM ms D h):h.index∈D:=by
 obtain⟨k,i,n,l,ks⟩:=h;exact ht.1 hk
theorem KM.kids {ms:List Mv}{D:List Int}{h:Tm}(ht:KM ms D h):uO ms D h.kids:=by
 obtain⟨k,i,n,l,ks⟩:=h;exact ht.2
inductive Ord (ms:List Mv):List Int→Prop
 | nil:Ord ms []
 | snoc {D:List Int} {i:Int}:Ord ms D→i ∉ D→KM ms D (valueOf ms i)→Ord ms (D++[i])
theorem Ord.pre {ms:List Mv}{D:List Int}(h:Ord ms D):∀i∈D,∃D',Ord ms D'∧(∀j∈D',j∈D)∧i ∉ D'∧KM ms D' (valueOf ms i):=by
 induction h with
 | nil=>intro i hi;simp at hi
 | @snoc D j h1 h2 h3 ih =>
  intro i hi;rcases List.mem_append.1 hi with hi | hi
  ·obtain⟨D',a,b,c,d⟩:=ih i hi;exact⟨D',a,fun j hj=>List.mem_append_left _ (b j hj),c,d⟩
  simp at hi;subst hi;exact⟨D,h1,fun j hj=>List.mem_append_left _ hj,h2,h3⟩
section
variable {F F':Et→Tm→Tm×Int×Et}
end
def sO (st:RN):List Int:=st.dn.map Prod.fst
def u6 (ms:List Mv) (t v:Tm):Prop:=∃n ab c d,Xf ms n ab c t=(v,0,d)∧d.over=false
structure ud (ms:List Mv) (ab:List Int) (st:RN):Prop where
 op:∀i,i∈st.op↔i∈sO st∨i∈ab
 ord:Ord ms (sO st)
 dis:∀i∈sO st,i ∉ ab
 val:∀p∈st.dn,u6 ms (valueOf ms p.1) p.2
 ok:∀p∈st.dn,Ok 4096 p.2
 w0:0≤st.wk
def pot (ms:List Mv) (B:Nat) (st:RN):Int:=st.wk+(B*free ms st.op:Nat)
structure Step (ms:List Mv) (B:Nat) (ab:List Int) (st st':RN) (s:Nat):Prop where
 inv:ud ms ab st'
 mono:∀i∈sO st,i∈sO st'
 pot:pot ms B st'≤pot ms B st+s
theorem Step.trans {ms:List Mv}{B:Nat}{ab:List Int}{a b c:RN}{s s':Nat}(h:Step ms B ab a b s) (h':Step ms B ab b c s'):Step ms B ab a c (s+s') :=
 ⟨h'.inv,fun i hi=>h'.mono i (h.mono i hi),by have:=h.pot;have:=h'.pot;omega⟩
theorem Step.le {ms:List Mv}{B:Nat}{ab:List Int}{a b:RN}{s s':Nat}(h:Step ms B ab a b s) (hs:s≤s'):Step ms B ab a b s':=⟨h.inv,h.mono,by have:=h.pot;omega⟩
abbrev wide:Nat:=9223372036854775808
structure p7 (l:CS):Prop where
 vars:l.vars.length<wide
 c:JE l.const
 v:∀v∈l.vars,JE v.index∧JE v.plus
mutual
def Wd:Tm→Prop
 | .mk k i n ls ks=>n.size<wide∧ls.length<wide∧(∀l∈ls,p7 l)∧ks.length<wide∧kX ks∧JE k∧JE i
def kX:List Tm→Prop
 | []=>True
 | t::ts=>Wd t∧kX ts
end
theorem Q9:∀{ts:List Tm}{i:Nat}{t:Tm},kX ts→ts[i]?=some t→Wd t
 | [],i,t,_,h=>by simp at h
 | a::ts,0,t,hn,h=>by simp at h;subst h;exact hn.1
 | a::ts,i+1,t,hn,h=>by simp at h;exact Q9 hn.2 h
mutual
def Fw:Tm→Prop
 | .mk k i n ls ks=>n.size≤200∧ls.length≤20∧(∀l∈ls,l.vars.length≤20)∧tv ks
def tv:List Tm→Prop
 | []=>True
 | t::ts=>Fw t∧tv ts
end
theorem gw:∀{ts:List Tm},(∀t∈ts,Fw t)→tv ts
 | [],_=>trivial
 | t::ts,h=>⟨h t Ao,gw fun x hx=>h x (by simp[hx])⟩
def ed:Tm→Prop
 | .mk k i n ls ks=>n.size≤200∧ls.length≤20∧(∀l∈ls,l.vars.length≤20)∧BX ks≤200∧NI ks∧tv ks
theorem pP {t:Tm}(h:Wd t) (hf:ed t):Nd t:=by
 obtain⟨k,i,n,ls,ks⟩:=t;obtain⟨h1,h2,h3,h4,h5⟩:=hf;have:=Dx ks;exact⟨by simp only[DY];omega,by simp only[DY];omega,fun l hl=>⟨by have:=h3 l hl;simp only[DY];omega,(h.2.2.1 l hl).c,(h.2.2.1 l hl).v⟩,by simp only[DY];omega,h5.1,h.2.2.2.2.2⟩
mutual
theorem PN:∀(t:Tm) (most:Int),-1152921504606846976≤most→most≤1152921504606846976→(size t:Int)≤1152921504606846976→0≤Ee t most∧Ee t most<size t∧(Ee t most≤most→Ee t most+1=size t)
 | .mk k i n l ks,most,h1,h2,h3=>by
  simp only[size] at h3 ⊢;unfold Ee;have:=Pl ks most 0 h1 h2 An An;exact⟨this.1,by omega,fun h=>by have:=this.2.2 h;omega⟩
theorem Pl:∀(ts:List Tm) (most n:Int),-1152921504606846976≤most→most≤1152921504606846976→0≤n→n+BX ts≤1152921504606846976→n≤EU ts most n∧EU ts most n≤n+BX ts∧(EU ts most n≤most→EU ts most n=n+BX ts)
 | [],most,n,h1,h2,h3,h4=>by simp[EU,BX]
 | t::ts,most,n,h1,h2,h3,h4=>by
  simp only[BX] at h4 ⊢;have hp:=size_pos t;unfold EU;by_cases hm:n > most
  ·rw[if_pos hm];exact⟨by omega,by omega,by omega⟩
  rw[if_neg hm];have e1:wr (most - n)=most - n:=EP ⟨by omega,by omega⟩;have hT:=PN t (most - n) An An An;rw[e1];have e2:wr (1+Ee t (most - n))=1+Ee t (most - n):=EP ⟨by omega,by omega⟩;rw[e2];have e3:wr (n+(1+Ee t (most - n)))=n+(1+Ee t (most - n)):=EP ⟨by omega,by omega⟩;rw[e3];have hL:=Pl ts most (n+(1+Ee t (most - n))) h1 h2 An An;refine⟨by omega,by omega,fun h=>?_⟩;have:=hL.2.2 h;have:=hT.2.2 An;omega
end
theorem j5 {t:Tm}(h:ed t):size t≤201:=by
 obtain⟨k,i,n,ls,ks⟩:=t;have:=h.2.2.2.1;simp only[size];omega
theorem U5:∀(ts:List Tm) (most n:Int),0≤most→most≤1000→0≤n→n≤3000→(∀t∈ts,size t≤201)→n≤EU ts most n
 | [],most,n,h1,h2,h3,h4,hs=>by simp[EU]
 | t::ts,most,n,h1,h2,h3,h4,hs=>by
  have ht:=hs t Ao;unfold EU;by_cases hm:n > most
  ·rw[if_pos hm];omega
  rw[if_neg hm];have e1:wr (most - n)=most - n:=EP ⟨by omega,by omega⟩;have hT:=PN t (most - n) An An An;rw[e1];have e2:wr (1+Ee t (most - n))=1+Ee t (most - n):=EP ⟨by omega,by omega⟩;rw[e2];have e3:wr (n+(1+Ee t (most - n)))=n+(1+Ee t (most - n)):=EP ⟨by omega,by omega⟩;rw[e3];have hge:=U5 ts most (n+(1+Ee t (most - n))) h1 h2 An An (fun x hx=>hs x (by simp[hx]));omega
theorem VC:∀(ts:List Tm) (most n:Int),0≤most→most≤1000→0≤n→n≤3000→(∀t∈ts,size t≤201)→EU ts most n≤most→EU ts most n=n+BX ts
 | [],most,n,h1,h2,h3,h4,hs,h=>by simp[EU,BX]
 | t::ts,most,n,h1,h2,h3,h4,hs,h=>by
  have ht:=hs t Ao;simp only[BX];unfold EU at h ⊢;by_cases hm:n > most
  ·rw[if_pos hm] at h;omega
  rw[if_neg hm] at h ⊢;have e1:wr (most - n)=most - n:=EP ⟨by omega,by omega⟩;have hT:=PN t (most - n) An An An;rw[e1] at h ⊢;have e2:wr (1+Ee t (most - n))=1+Ee t (most - n):=EP ⟨by omega,by omega⟩;rw[e2] at h ⊢;have e3:wr (n+(1+Ee t (most - n)))=n+(1+Ee t (most - n)):=EP ⟨by omega,by omega⟩;rw[e3] at h ⊢;have hL:=VC ts most (n+(1+Ee t (most - n))) h1 h2 An An (fun x hx=>hs x (by simp[hx])) h;have hge:=U5 ts most (n+(1+Ee t (most - n))) h1 h2 An An (fun x hx=>hs x (by simp[hx]));have:=hT.2.2 An;omega
structure ZK (l:List Tm):Prop where
 sz:BX l≤200
 nd:NI l
 fw:tv l
theorem lx {l:List Tm}{m:Nat}(hm:l.length≤m) (hw:kX l) (hl:l.length<wide) (h:EU l 200 0≤200) (hc:∀j,j<m→∀t,l[j]?=some t→ed t):ZK l:=by
 have hf:∀t∈l,ed t:=fun t ht=>by
  obtain⟨i,hi⟩:=K2 ht;exact hc i (by have:=(List.getElem?_eq_some_iff.1 hi).1;omega) t hi
 have:=VC l 200 0 An An An An (fun t ht=>j5 (hf t ht)) h;exact⟨by omega,Zm fun t ht=>by
  obtain⟨i,hi⟩:=K2 ht;exact pP (Q9 hw hi) (hf t ht),gw fun t ht=>by
  obtain⟨k,i,n,ls,ks⟩:=t;have h5:=hf _ ht;exact⟨h5.1,h5.2.1,h5.2.2.1,h5.2.2.2.2.2⟩⟩
theorem XR {l:List Tm}{m:Int}(hf:ZK l) (hm:0≤m∧m≤1000) (h:EU l m 0≤m):(BX l:Int)≤m:=by
 have:=hf.sz;have:=(Pl l m 0 An An An An).2.2 h;omega
theorem Ok.mono {B B':Nat}{t:Tm}(h:Ok B t) (hb:B≤B'):Ok B' t:=⟨h.nd,h.vp,h.wt,Nat.le_trans h.sz hb⟩
end Go.Eu
